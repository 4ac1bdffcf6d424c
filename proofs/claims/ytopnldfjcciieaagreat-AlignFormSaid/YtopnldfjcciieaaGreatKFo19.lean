/- slices.Replace over nodes, walked. (Printed by wip/c38/rep.py.) -/
import Derived.Test.YtopnldfjcciieaaGreatKFoT
import Derived.Test.YtopnldfjcciieaaGreatKFo18
import Derived.Test.YtopnldfjcciieaaGreatKFo5
import Derived.Test.YtopnldfjcciieaaGreatProg
import Derived.Test.YtopnldfjcciieaaGreatKFo6
import Derived.Test.YtopnldfjcciieaaGreatKFo4
set_option linter.unusedVariables false
set_option linter.unusedSimpArgs false
set_option maxRecDepth 100000
set_option maxHeartbeats 4000000
namespace Go.Proofs.YtopnldfjcciieaaGreat
open Go.RowKit
theorem aI0 {Z:World} {ρ:PH} {L:List bK} {w:World} (s vv:Value) (l vs:List NdH) (i j:Nat) (hi:i≤j) (hj:j≤l.length) (hlim:l.length+vs.length≤4294967296) (hp:Hp Z ρ (aC 24 s l::aC 24 vv vs::L) w):
  Calls Tryz.prog 97 #[s,(Iv (i:Int)),(Iv (j:Int)),vv] w (Ret fun v w'=>Hp Z ρ (aC 24 v (l.take i++vs++l.drop j)::aC 24 vv vs::L) w'):=by
 obtain⟨B,c2,rfl,hsrc⟩:=aC.src (hp.get 1 rfl)
 refine enter (N:=224) Tryz.func97 rfl rfl [(0,s),(1,(Iv (i:Int))),(2,(Iv (j:Int))),(3,.slice B vs.length c2)] rfl (bC ⟨rfl,rfl,rfl,rfl,trivial⟩) fun a hE=>?_
 repeat (refine aG ?_)
 refine aA (S hE 1 rfl fun a hE=>?_)
 refine aB ?_
 repeat (refine aG ?_)
 refine aA (S hE 3 rfl fun a hE=>?_)
 obtain⟨v0,v0r⟩:=aC.view hp 0 rfl jH (some (.i64,(i:Int))) (some (.i64,(j:Int))) (i:=(i:Int)) (j:=(j:Int)) rfl rfl (r:=(l.take j).drop i) (by unfold sub;rw[if_pos (by omega)];simp)
 refine V hE hp rfl (v:=v0) (pM rfl hE rfl (some (.i64,(i:Int))) (some (.i64,(j:Int))) (by exact rfl) (by exact rfl) v0r) fun a hE=>aB ?_
 repeat (refine aG ?_)
 refine aA (S hE 3 rfl fun a hE=>?_)
 refine aB ?_
 repeat (refine aG ?_)
 refine dE hE rfl (fun hc0=>?_) (fun hc0=>?_)
 ·
  have h0:i=j:=by have:=of_decide_eq_true hc0;omega
  subst h0
  repeat (refine aG ?_)
  refine aA (S hE 3 rfl fun a hE=>?_)
  refine s_call (wk0 rfl) rfl rfl hE rfl [s,(Iv (i:Int)),.slice B vs.length c2] ⟨rfl,rfl,rfl,trivial⟩ ndEntI (c_insertN s _ l vs i (by omega) hlim hp) Ret.ret ?_
  intro v1 a w hR hE
  have hp:=Ret.of hR
  refine S hE 1 rfl fun a hE=>aB ?_
  repeat (refine aG ?_)
  refine bZ ?_
  exact gJ hE rfl rfl ⟨_,rfl,hp⟩
 have hij:i<j:=by have:=of_decide_eq_false hc0;omega
 refine aZ ?_
 rcases hp.openB with⟨A,rfl,rfl⟩|⟨g,off,cap,p,r,rfl,hpl,hlc,hcm,hr,hp⟩
 ·simp only[List.length_nil] at hj;omega
 replace hr:r.length=(cap-l.length)*5:=hr
 have hfl:flat l=flat (l.take i)++flat ((l.take j).drop i)++flat (l.drop j):=by
  have e:l.take i=(l.take j).take i:=by rw[List.take_take,Nat.min_eq_left (by omega)]
  rw[←sQ,←sQ,e,List.take_append_drop,List.take_append_drop]
 have hA5:(flat (l.take i)).length=i*5:=by rw[fl5,List.length_take];omega
 have hX5:(flat ((l.take j).drop i)).length=(j-i)*5:=by rw[fl5,List.length_drop,List.length_take];omega
 have hB5:(flat (l.drop j)).length=(l.length-j)*5:=by rw[fl5,List.length_drop]
 have hV5:=fl5 vs
 have hrl:(l.take i++vs++l.drop j).length=i+vs.length+(l.length-j):=by simp only[List.length_append,List.length_take,List.length_drop];omega
 have hrf:flat (l.take i++vs++l.drop j)=flat (l.take i)++flat vs++flat (l.drop j):=by rw[sQ,sQ]
 rw[hfl] at hp
 repeat (refine aG ?_)
 refine aA (S hE 2 rfl fun a hE=>?_)
 refine V hE hp rfl (bT rfl hE rfl (fun w ty=>qM jH _ _ _ w ty)) fun a hE=>S hE 1 rfl fun a hE=>aB ?_
 repeat (refine aG ?_)
 refine dE hE rfl (fun hc1=>?_) (fun hc1=>?_)
 ·
  have h1:j=l.length:=by have:=of_decide_eq_true hc1;omega
  subst h1
  have hd0:l.drop l.length=[]:=List.drop_length
  rw[hd0] at hp hrf hrl⊢
  simp only[flat_nil,List.append_nil] at hp hrf hrl
  rw[Nat.sub_self,Nat.add_zero] at hrl
  repeat (refine aG ?_)
  refine aA (S hE 2 rfl fun a hE=>?_)
  obtain⟨A1,A1r,A1e,A1z⟩:=lL (P:=Tryz.prog) jH g (off) (l.length) (cap) none (some (.i64,(i:Int))) (i:=0) (j:=i) (by first|rfl|(dsimp only;omega)) (by first|rfl|(dsimp only;omega)) (by omega) (by omega)
  refine V hE hp rfl (v:= .slice A1 (i-0) (cap-0)) (pM rfl hE rfl none (some (.i64,(i:Int))) (by exact trivial) (by exact rfl) A1r) fun a hE=>?_
  obtain rfl:=A1z rfl
  refine S hE 1 rfl fun a hE=>?_
  rcases Nat.lt_or_ge cap (i+vs.length) with hroom|hroom
  ·
   obtain⟨b,rfl,_⟩:=hsrc 0 ((flat vs)[0]'(by rw[fl5];omega)) (List.getElem?_eq_getElem _)
   have hil:(l.take i).length=i:=by rw[List.length_take];omega
   have hp1:Hp Z ρ (aC 24 (.slice (some ⟨g,off,none⟩) i cap) (l.take i)::aC 24 (.slice (some b) vs.length c2) vs::L) w:=by
    have e:p++(flat (l.take i)++flat ((l.take l.length).drop i))++r=p++flat (l.take i)++(flat ((l.take l.length).drop i)++r):=by simp only[List.append_assoc]
    rw[e] at hp
    have hk:=Hp.shutB (α:=NdH) (l:=l.take i) (off:=off) (cap:=cap) hp hpl (by omega) hcm (by show _=_*5;rw[hil,List.length_append,hX5,hr];omega)
    rwa [hil] at hk
   have hq1:Hp Z ρ (Row 24 5 (.slice (some ⟨g,off,none⟩) i cap) i (flat (l.take i))::aC 24 (.slice (some b) vs.length c2) vs::L) w:=by
    have:=hp1
    unfold aC at this
    rw[hil] at this;exact this
   obtain⟨v',w',hrun,hp'⟩:=run_app (P:=Tryz.prog) jH (by decide) 22 hq1 b vs.length c2 (flat vs) (fl5 vs) (fun j u hj=>by
    obtain⟨b',e,h⟩:=hsrc j u hj
    rw[Option.some.injEq] at e;rw[e];exact h _ _ _ (hp1.get 1 rfl)) (one5 vs) (by unfold maxLen;omega) (by omega)
   refine yR (wk0 rfl) rfl rfl hE (v:=v') (w':=w') ?_ fun a hE=>?_
   ·simp only[execOp,resolve,invoke,builtin,Sem.run_bind,Sem.run_pure,Result.andThen_ok,List.map_toArray,List.map_cons,List.map_nil]
    rw[hE.eval (x:= .tmp 32) rfl,hE.eval (x:= .tmp 33) rfl]
    simp only[Nat.sub_zero,hrun]
    rfl
   have hp:Hp Z ρ (aC 24 v' (l.take i++vs)::aC 24 (.slice (some b) vs.length c2) vs::L) w':=by
    unfold aC
    rw[hrl,sQ];exact hp'
   refine S hE 1 rfl fun a hE=>aB ?_
   repeat (refine aG ?_)
   refine aA (S hE 1 rfl fun a hE=>?_)
   refine V hE hp rfl (v:=(Iv ((i+vs.length:Nat):Int))) (bT rfl hE rfl (by have:=aC.len hp 0 rfl jH;rw[hrl] at this;exact this)) fun a hE=>S hE 1 rfl fun a hE=>V hE hp rfl (bT rfl hE rfl (fun w ty=>qM jH _ _ _ w ty)) fun a hE=>S hE 1 rfl fun a hE=>aB ?_
   repeat (refine aG ?_)
   refine dE hE rfl (fun hc=>absurd (of_decide_eq_true hc) (by omega)) (fun hc=>?_)
   refine aZ ?_
   repeat (refine aG ?_)
   refine aA (S hE 2 rfl fun a hE=>?_)
   refine aB ?_
   repeat (refine aG ?_)
   refine bZ ?_
   refine gJ hE rfl rfl ⟨_,rfl,?_⟩
   rw[List.append_nil];exact hp
  have hXr:vs.length*5≤(flat ((l.take l.length).drop i)++r).length:=by rw[List.length_append,hX5,hr];omega
  obtain⟨q,r1,eq,hq⟩:=cut2 (flat ((l.take l.length).drop i)++r) hXr
  have eql:=congrArg List.length eq
  simp only[List.length_append,hX5,hr,hq] at eql
  have hp:Hp Z ρ (Pt g (.cells ((p++flat (l.take i))++q++r1).toArray 24 (0,0))::aC 24 (.slice B vs.length c2) vs::L) w:=by
   rw[List.append_assoc _ q r1,←eq];simpa only[List.append_assoc] using hp
  refine s_appRoom (t2:=0) (wk0 rfl) rfl rfl hE rfl jH hp (cs:=flat vs) rfl rfl (by rw[List.length_append,hA5,hpl];omega) (by omega) (by rw[hq,hV5]) hV5 (fun j u hj=>by
   obtain⟨b,e,hh⟩:=hsrc j u hj
   exact⟨b,e,hh _ _ _ (hp.get 1 rfl)⟩) (by decide) (one5 vs) ?_
  intro a w hE hp
  have e1:i-0+vs.length=i+vs.length:=by omega
  have e2:cap-0=cap:=by omega
  rw[e1,e2] at hE
  refine S hE 1 rfl fun a hE=>aB ?_
  repeat (refine aG ?_)
  refine aA (S hE 1 rfl fun a hE=>?_)
  refine V hE hp rfl (bT rfl hE rfl (fun w ty=>qM jH _ _ _ w ty)) fun a hE=>S hE 1 rfl fun a hE=>V hE hp rfl (bT rfl hE rfl (fun w ty=>qM jH _ _ _ w ty)) fun a hE=>S hE 1 rfl fun a hE=>aB ?_
  have fin:∀(w:World) (r':List Value),r'.length=r1.length→Hp Z ρ (Pt g (.cells ((p++flat (l.take i))++flat vs++r').toArray 24 (0,0))::aC 24 (.slice B vs.length c2) vs::L) w→Hp Z ρ (aC 24 (.slice (some ⟨g,off,none⟩) (i+vs.length) cap) (l.take i++vs++[])::aC 24 (.slice B vs.length c2) vs::L) w:=fun w r' hr' hp=>by
   rw[List.append_nil]
   have e:p++flat (l.take i)++flat vs++r'=p++flat (l.take i++vs)++r':=by rw[hrf];simp only[List.append_assoc]
   rw[e] at hp
   have hp:=Hp.shutB (α:=NdH) (l:=l.take i++vs) (off:=off) (cap:=cap) hp hpl (by omega) hcm (by show _=_*5;rw[hrl,hr'];omega)
   rwa [hrl] at hp
  repeat (refine aG ?_)
  refine dE hE rfl (fun hc=>?_) (fun hc=>?_)
  ·
   have hlt:i+vs.length<l.length:=by have:=of_decide_eq_true hc;omega
   obtain⟨q1,r2,rfl,hq1⟩:=cut2 r1 (n:=(l.length-(i+vs.length))*5) (by omega)
   repeat (refine aG ?_)
   refine aA (S hE 2 rfl fun a hE=>?_)
   refine V hE hp rfl (bT rfl hE rfl (fun w ty=>qM jH _ _ _ w ty)) fun a hE=>?_
   obtain⟨A2,A2r,A2e,A2z⟩:=lL (P:=Tryz.prog) jH g (off) (l.length) (cap) (some (.i64,((i+vs.length:Nat):Int))) none (i:=i+vs.length) (j:=l.length) (by first|rfl|(dsimp only;omega)) (by first|rfl|(dsimp only;omega)) (by omega) (by omega)
   refine V hE hp rfl (v:= .slice A2 ((l.length)-(i+vs.length)) (cap-(i+vs.length))) (pM rfl hE rfl (some (.i64,((i+vs.length:Nat):Int))) none (by exact rfl) (by exact trivial) A2r) fun a hE=>?_
   rw[←List.append_assoc] at hp
   refine s_clearB (wk0 rfl) rfl hE rfl jH ndZero hp rfl (by rw[List.length_append,List.length_append,hA5,hV5,hpl,Nat.add_assoc,←Nat.add_mul];exact A2e) hq1 (by decide) (by kernel_rfl) ?_
   intro w q' hq' hp
   rw[List.append_assoc _ q' r2] at hp
   refine aB ?_
   repeat (refine aG ?_)
   refine aA (S hE 2 rfl fun a hE=>?_)
   refine aB ?_
   repeat (refine aG ?_)
   refine bZ ?_
   exact gJ hE rfl rfl ⟨_,rfl,fin _ _ (by simp only[List.length_append,hq']) hp⟩
  refine aZ ?_
  repeat (refine aG ?_)
  refine aA (S hE 2 rfl fun a hE=>?_)
  refine aB ?_
  repeat (refine aG ?_)
  refine bZ ?_
  exact gJ hE rfl rfl ⟨_,rfl,fin _ _ rfl hp⟩
 have hjn:j<l.length:=by
  have:=of_decide_eq_false hc1;omega
 refine aZ ?_
 obtain⟨tot,htot⟩:∃tot,tot=i+vs.length+(l.length-j):=⟨_,rfl⟩
 repeat (refine aG ?_)
 refine jR (by kernel_rfl) (by kernel_rfl) hp ?_
 refine Sq hE 2 rfl fun a hE=>?_
 obtain⟨A1,A1r,A1e,A1z⟩:=lL (P:=Tryz.prog) jH g (off) (l.length) (cap) none (some (.i64,(i:Int))) (i:=0) (j:=i) (by first|rfl|(dsimp only;omega)) (by first|rfl|(dsimp only;omega)) (by omega) (by omega)
 refine Vq hE rfl (v:= .slice A1 (i-0) (cap-0)) (pM rfl hE rfl none (some (.i64,(i:Int))) (by exact trivial) (by exact rfl) A1r) fun a hE=>Vq hE rfl (bT rfl hE rfl (fun w ty=>qM jH _ _ _ w ty)) fun a hE=>Sq hE 1 rfl fun a hE=>Vq hE rfl (bT rfl hE rfl (fun w ty=>qM jH _ _ _ w ty)) fun a hE=>Vq hE rfl (v:=(Iv ((i+vs.length:Nat):Int))) (bF rfl hE rfl rfl (by rw[IntKind.wrap_i64];omega)) fun a hE=>Sq hE 2 rfl fun a hE=>?_
 obtain⟨A2,A2r,A2e,A2z⟩:=lL (P:=Tryz.prog) jH g (off) (l.length) (cap) (some (.i64,(j:Int))) none (i:=j) (j:=l.length) (by first|rfl|(dsimp only;omega)) (by first|rfl|(dsimp only;omega)) (by omega) (by omega)
 refine Vq hE rfl (v:= .slice A2 ((l.length)-j) (cap-j)) (pM rfl hE rfl (some (.i64,(j:Int))) none (by exact rfl) (by exact trivial) A2r) fun a hE=>Vq hE rfl (bT rfl hE rfl (fun w ty=>qM jH _ _ _ w ty)) fun a hE=>Vq hE rfl (v:=(Iv (tot:Int))) (bF rfl hE rfl rfl (by rw[IntKind.wrap_i64];omega)) fun a hE=>Sq hE 1 rfl fun a hE=>?_
 refine iM fun w hp=>?_
 repeat (refine aG ?_)
 refine aA (S hE 2 rfl fun a hE=>?_)
 refine V hE hp rfl (v:=(Iv (cap:Int))) (ex_capN rfl hE rfl (fun w ty=>by simp[Builtin.cap_,run_underlying jH.und,goInt])) fun a hE=>S hE 1 rfl fun a hE=>aB ?_
 repeat (refine aG ?_)
 refine dE hE rfl (fun hc2=>?_) (fun hc2=>?_)
 ·
  have hg:cap<tot:=by have:=of_decide_eq_true hc2;omega
  repeat (refine aG ?_)
  refine aA (S hE 2 rfl fun a hE=>?_)
  obtain⟨A3,A3r,A3e,A3z⟩:=lL (P:=Tryz.prog) jH g (off) (l.length) (cap) none (some (.i64,(i:Int))) (i:=0) (j:=i) (by first|rfl|(dsimp only;omega)) (by first|rfl|(dsimp only;omega)) (by omega) (by omega)
  refine V hE hp rfl (v:= .slice A3 (i-0) (cap-0)) (pM rfl hE rfl none (some (.i64,(i:Int))) (by exact trivial) (by exact rfl) A3r) fun a hE=>?_
  obtain rfl:=A3z rfl
  refine S hE 2 rfl fun a hE=>V hE hp rfl (v:=(Iv ((tot-i:Nat):Int))) (dQ rfl hE rfl rfl (by rw[IntKind.wrap_i64];omega)) fun a hE=>?_
  have hp:Hp Z ρ (Pt g (.cells (p++flat (l.take i)++(flat ((l.take j).drop i)++flat (l.drop j)++r)).toArray 24 (0,0))::aC 24 (.slice B vs.length c2) vs::L) w:=by simpa only[List.append_assoc] using hp
  refine s_appZeros (wk0 rfl) rfl rfl hE rfl jH Tryz.underlying3 hp (by rw[hpl];rfl) rfl (by rw[hA5];rfl) (by omega) (by omega) (by decide) (by omega) (by decide) ?_
  intro a w h G zs hG1 hG2 hzl hE hp
  have e1:i-0+(tot-i)=tot:=by omega
  rw[e1] at hE hG1
  replace hzl:zs.length=(G-i)*5:=hzl
  obtain⟨z1,z23,rfl,hz1⟩:=cut2 zs (n:=vs.length*5) (by omega)
  obtain⟨z2,z3,rfl,hz2⟩:=cut2 z23 (n:=(l.length-j)*5) (by simp only[List.length_append] at hzl;omega)
  simp only[List.length_append] at hzl
  refine S hE 1 rfl fun a hE=>aB ?_
  repeat (refine aG ?_)
  refine aA (S hE 2 rfl fun a hE=>?_)
  obtain⟨A4,A4r,A4e,A4z⟩:=lL (P:=Tryz.prog) jH h (0) (tot) (G) (some (.i64,(i:Int))) none (i:=i) (j:=tot) (by first|rfl|(dsimp only;omega)) (by first|rfl|(dsimp only;omega)) (by omega) (by omega)
  refine V hE hp rfl (v:= .slice A4 (tot-i) (G-i)) (pM rfl hE rfl (some (.i64,(i:Int))) none (by exact rfl) (by exact trivial) A4r) fun a hE=>S hE 1 rfl fun a hE=>?_
  rw[←List.append_assoc] at hp
  refine C9 (wk0 rfl) rfl rfl hE rfl jH hp (cs:=flat vs) rfl rfl (by rw[hA5];simpa using A4e) (by omega) (by rw[hV5,Nat.min_eq_left (by omega)]) (fun j u hj=>by
   obtain⟨b,e,hh⟩:=hsrc j u hj
   exact⟨b,e,hh _ _ _ (hp.get 2 rfl)⟩) (by decide) (one5 vs) ?_
  intro a w hE hp
  refine aB ?_
  have hp:Hp Z ρ (Pt h (.cells ((flat (l.take i)++flat vs)++z2++z3).toArray 24 (0,0))::Pt g (.cells (p++flat (l.take i)++(flat ((l.take j).drop i)++flat (l.drop j)++r)).toArray 24 (0,0))::aC 24 (.slice B vs.length c2) vs::L) w:=by
   simpa only[List.append_assoc] using hp
  repeat (refine aG ?_)
  have hp:=hp.drew
  refine fG ([([],At0 Z ρ)]:Facts) (fun a w=>Env 224 [(11,.slice (some ⟨h,0,none⟩) tot G)] a∧Hp Z ρ (Pt h (.cells ((flat (l.take i)++flat vs)++flat (l.drop j)++z3).toArray 24 (0,0))::Pt g (.cells (p++flat (l.take i)++(flat ((l.take j).drop i)++flat (l.drop j)++r)).toArray 24 (0,0))::aC 24 (.slice B vs.length c2) vs::L) w) (by kernel_rfl) ⟨fun _=>⟨_,hp⟩,trivial⟩ (fun hS=>?_) ?_
  ·
   generalize w.drew=w at hS hp⊢
   refine Ts [0,1,2] hE hS rfl rfl (by kernel_rfl) fun a hE hS=>T0 3 hE hS rfl rfl rfl (by kernel_rfl) (fun _=>bT rfl hE rfl (fun w ty=>qM jH _ _ _ w ty)) fun a hE hS=>T0 4 hE hS rfl rfl rfl (by kernel_rfl) (v:=(Iv ((i+vs.length:Nat):Int))) (fun _=>bF rfl hE rfl rfl (by rw[IntKind.wrap_i64];omega)) fun a hE hS=>?_
   obtain⟨A5,A5r,A5e,A5z⟩:=lL (P:=Tryz.prog) jH h (0) (tot) (G) (some (.i64,((i+vs.length:Nat):Int))) none (i:=i+vs.length) (j:=tot) (by first|rfl|(dsimp only;omega)) (by first|rfl|(dsimp only;omega)) (by omega) (by omega)
   refine T0 5 hE hS rfl rfl rfl (by kernel_rfl) (v:= .slice A5 (tot-(i+vs.length)) (G-(i+vs.length))) (fun _=>pM rfl hE rfl (some (.i64,((i+vs.length:Nat):Int))) none (by exact rfl) (by exact trivial) A5r) fun a hE hS=>Ts [6,7] hE hS rfl rfl (by kernel_rfl) fun a hE hS=>?_
   obtain⟨A6,A6r,A6e,A6z⟩:=lL (P:=Tryz.prog) jH g (off) (l.length) (cap) (some (.i64,(j:Int))) none (i:=j) (j:=l.length) (by first|rfl|(dsimp only;omega)) (by first|rfl|(dsimp only;omega)) (by omega) (by omega)
   refine T0 8 hE hS rfl rfl rfl (by kernel_rfl) (v:= .slice A6 ((l.length)-j) (cap-j)) (fun _=>pM rfl hE rfl (some (.i64,(j:Int))) none (by exact rfl) (by exact trivial) A6r) fun a hE hS=>?_
   refine W1 9 (by kernel_rfl) rfl ?_
   refine C9 (wk0 rfl) rfl rfl hE rfl jH hp (cs:=flat (l.drop j)) rfl rfl (by rw[List.length_append,hA5,hV5,←Nat.add_mul];simpa using A5e) (by omega) (by rw[hB5];congr 1;show _=min _ _;omega) (fun k u hk=>by
    refine⟨_,A6e.resolve_left (by omega),?_⟩
    have hkl:=(List.getElem?_eq_some_iff.1 hk).1
    rw[Addr.add_lit,cell_of_row w g _ _ _ (0,0) (hp.look 1 rfl),List.getElem?_toArray,List.getElem?_append_right (by simp only[List.length_append];omega),List.append_assoc,List.getElem?_append_right (by simp only[List.length_append];omega),List.getElem?_append_left (by simp only[List.length_append];omega),←hk]
    congr 1;simp only[List.length_append];omega) (by decide) (one5 _) ?_
   intro a w hE hp
   refine aB (aF ⟨gp0 hp,trivial⟩ fun hS=>?_)
   exact bP (by kernel_rfl) ⟨hE.cut ⟨rfl,trivial⟩,hp⟩
  rintro a w ⟨hE,hp⟩
  repeat (refine aG ?_)
  refine aA (S hE 2 rfl fun a hE=>?_)
  refine aB ?_
  repeat (refine aG ?_)
  refine bZ ?_
  refine gJ hE rfl rfl ⟨_,rfl,?_⟩
  rw[←hrf,←List.nil_append (flat _)] at hp
  have hp:=(Hp.shutB (α:=NdH) (l:=l.take i++vs++l.drop j) (off:=0) (cap:=G) hp rfl (by omega) hG2 (by show _=_*5;rw[hrl];omega)).get 1 rfl |>.drop
  rw[hrl,←htot] at hp
  exact hp
 have hg:tot≤cap:=by have:=of_decide_eq_false hc2;omega
 refine aZ ?_
 repeat (refine aG ?_)
 refine aA (S hE 2 rfl fun a hE=>?_)
 obtain⟨A3,A3r,A3e,A3z⟩:=lL (P:=Tryz.prog) jH g (off) (l.length) (cap) none (some (.i64,(tot:Int))) (i:=0) (j:=tot) (by first|rfl|(dsimp only;omega)) (by first|rfl|(dsimp only;omega)) (by omega) (by omega)
 refine V hE hp rfl (v:= .slice A3 (tot-0) (cap-0)) (pM rfl hE rfl none (some (.i64,(tot:Int))) (by exact trivial) (by exact rfl) A3r) fun a hE=>?_
 obtain rfl:=A3z rfl
 refine S hE 1 rfl fun a hE=>aB ?_
 rw[Nat.sub_zero,Nat.sub_zero] at hE
 have shut:∀(w:World) (r':List Value),r'.length=(cap-tot)*5→Hp Z ρ (Pt g (.cells (p++flat (l.take i)++flat vs++flat (l.drop j)++r').toArray 24 (0,0))::aC 24 (.slice B vs.length c2) vs::L) w→Hp Z ρ (aC 24 (.slice (some ⟨g,off,none⟩) tot cap) (l.take i++vs++l.drop j)::aC 24 (.slice B vs.length c2) vs::L) w:=fun w r' hr' hp=>by
  have e:p++flat (l.take i)++flat vs++flat (l.drop j)++r'=p++flat (l.take i++vs++l.drop j)++r':=by rw[hrf];simp only[List.append_assoc]
  rw[e] at hp
  have hp:=Hp.shutB (α:=NdH) (l:=l.take i++vs++l.drop j) (off:=off) (cap:=cap) hp hpl (by omega) hcm (by show _=_*5;rw[hrl];omega)
  rwa [hrl,←htot] at hp
 repeat (refine aG ?_)
 refine aA (S hE 2 rfl fun a hE=>?_)
 refine V hE hp rfl (bT rfl hE rfl (fun w ty=>qM jH _ _ _ w ty)) fun a hE=>V hE hp rfl (v:=(Iv ((i+vs.length:Nat):Int))) (bF rfl hE rfl rfl (by rw[IntKind.wrap_i64];omega)) fun a hE=>S hE 2 rfl fun a hE=>aB ?_
 repeat (refine aG ?_)
 refine dE hE rfl (fun hc3=>?_) (fun hc3=>?_)
 ·
  have hle:i+vs.length≤j:=by have:=of_decide_eq_true hc3;omega
  obtain⟨X1,X2,eX,hX1⟩:=cut2 (flat ((l.take j).drop i)) (n:=vs.length*5) (by omega)
  have hX2:X2.length=(j-i)*5-vs.length*5:=by have:=congrArg List.length eX;simp only[List.length_append] at this;omega
  have hp:Hp Z ρ (Pt g (.cells ((p++flat (l.take i))++X1++(X2++flat (l.drop j)++r)).toArray 24 (0,0))::aC 24 (.slice B vs.length c2) vs::L) w:=by
   rw[eX] at hp;simpa only[List.append_assoc] using hp
  repeat (refine aG ?_)
  refine aA (S hE 2 rfl fun a hE=>?_)
  obtain⟨A4,A4r,A4e,A4z⟩:=lL (P:=Tryz.prog) jH g (off) (tot) (cap) (some (.i64,(i:Int))) none (i:=i) (j:=tot) (by first|rfl|(dsimp only;omega)) (by first|rfl|(dsimp only;omega)) (by omega) (by omega)
  refine V hE hp rfl (v:= .slice A4 (tot-i) (cap-i)) (pM rfl hE rfl (some (.i64,(i:Int))) none (by exact rfl) (by exact trivial) A4r) fun a hE=>S hE 1 rfl fun a hE=>?_
  refine C9 (wk0 rfl) rfl rfl hE rfl jH hp (cs:=flat vs) rfl rfl (by rw[List.length_append,hA5,hpl];exact A4e) (by omega) (by rw[hV5,Nat.min_eq_left (by omega)]) (fun j u hj=>by
   obtain⟨b,e,hh⟩:=hsrc j u hj
   exact⟨b,e,hh _ _ _ (hp.get 1 rfl)⟩) (by decide) (one5 vs) ?_
  intro a w hE hp
  refine aB ?_
  have hcells:∀(k:Nat) (u:Value),(flat (l.drop j))[k]?=some u→(p++flat (l.take i)++flat vs++(X2++flat (l.drop j)++r))[off+j*5+k]?=some u:=fun k u hk=>by
   have hkl:=(List.getElem?_eq_some_iff.1 hk).1
   rw[List.getElem?_append_right (by simp only[List.length_append];omega),List.append_assoc,List.getElem?_append_right (by simp only[List.length_append];omega),List.getElem?_append_left (by simp only[List.length_append];omega),←hk]
   congr 1;simp only[List.length_append];omega
  obtain⟨q,r1,eq,hq⟩:=cut2 (X2++flat (l.drop j)++r) (n:=(l.length-j)*5) (by simp only[List.length_append];omega)
  have eql:=congrArg List.length eq
  simp only[List.length_append] at eql
  rw[eq] at hp hcells
  rw[←List.append_assoc] at hp hcells
  repeat (refine aG ?_)
  have hp:=hp.drew
  refine fG ([([],At0 Z ρ)]:Facts) (fun a w=>Env 224 [(0,.slice (some ⟨g,off,none⟩) l.length cap),(10,(Iv (tot:Int))),(12,.slice (some ⟨g,off,none⟩) tot cap)] a∧Hp Z ρ (Pt g (.cells ((p++flat (l.take i)++flat vs)++flat (l.drop j)++r1).toArray 24 (0,0))::aC 24 (.slice B vs.length c2) vs::L) w) (by kernel_rfl) ⟨fun _=>⟨_,hp⟩,trivial⟩ (fun hS=>?_) ?_
  ·
   generalize w.drew=w at hS hp⊢
   refine Ts [0,1,2] hE hS rfl rfl (by kernel_rfl) fun a hE hS=>T0 3 hE hS rfl rfl rfl (by kernel_rfl) (fun _=>bT rfl hE rfl (fun w ty=>qM jH _ _ _ w ty)) fun a hE hS=>T0 4 hE hS rfl rfl rfl (by kernel_rfl) (v:=(Iv ((i+vs.length:Nat):Int))) (fun _=>bF rfl hE rfl rfl (by rw[IntKind.wrap_i64];omega)) fun a hE hS=>?_
   obtain⟨A5,A5r,A5e,A5z⟩:=lL (P:=Tryz.prog) jH g (off) (tot) (cap) (some (.i64,((i+vs.length:Nat):Int))) none (i:=i+vs.length) (j:=tot) (by first|rfl|(dsimp only;omega)) (by first|rfl|(dsimp only;omega)) (by omega) (by omega)
   refine T0 5 hE hS rfl rfl rfl (by kernel_rfl) (v:= .slice A5 (tot-(i+vs.length)) (cap-(i+vs.length))) (fun _=>pM rfl hE rfl (some (.i64,((i+vs.length:Nat):Int))) none (by exact rfl) (by exact trivial) A5r) fun a hE hS=>Ts [6,7] hE hS rfl rfl (by kernel_rfl) fun a hE hS=>?_
   obtain⟨A6,A6r,A6e,A6z⟩:=lL (P:=Tryz.prog) jH g (off) (l.length) (cap) (some (.i64,(j:Int))) none (i:=j) (j:=l.length) (by first|rfl|(dsimp only;omega)) (by first|rfl|(dsimp only;omega)) (by omega) (by omega)
   refine T0 8 hE hS rfl rfl rfl (by kernel_rfl) (v:= .slice A6 ((l.length)-j) (cap-j)) (fun _=>pM rfl hE rfl (some (.i64,(j:Int))) none (by exact rfl) (by exact trivial) A6r) fun a hE hS=>?_
   refine W1 9 (by kernel_rfl) rfl ?_
   refine C9 (wk0 rfl) rfl rfl hE rfl jH hp (cs:=flat (l.drop j)) rfl rfl (by rw[List.length_append,List.length_append,hA5,hV5,hpl,Nat.add_assoc,←Nat.add_mul];exact A5e) (by omega) (by rw[hB5];congr 1;show _=min _ _;omega) (fun k u hk=>by
    refine⟨_,A6e.resolve_left (by omega),?_⟩
    rw[Addr.add_lit,cell_of_row w g _ _ _ (0,0) (hp.look 0 rfl),List.getElem?_toArray]
    exact hcells k u hk) (by decide) (one5 _) ?_
   intro a w hE hp
   refine aB (aF ⟨gp0 hp,trivial⟩ fun hS=>?_)
   exact bP (by kernel_rfl) ⟨hE.cut ⟨rfl,rfl,rfl,trivial⟩,hp⟩
  rintro a w ⟨hE,hp⟩
  obtain⟨q1,r2,rfl,hq1⟩:=cut2 r1 (n:=(l.length-tot)*5) (by omega)
  simp only[List.length_append] at eql
  rw[←List.append_assoc] at hp
  repeat (refine aG ?_)
  refine aA (S hE 2 rfl fun a hE=>?_)
  obtain⟨A7,A7r,A7e,A7z⟩:=lL (P:=Tryz.prog) jH g (off) (l.length) (cap) (some (.i64,(tot:Int))) none (i:=tot) (j:=l.length) (by first|rfl|(dsimp only;omega)) (by first|rfl|(dsimp only;omega)) (by omega) (by omega)
  refine V hE hp rfl (v:= .slice A7 ((l.length)-tot) (cap-tot)) (pM rfl hE rfl (some (.i64,(tot:Int))) none (by exact rfl) (by exact trivial) A7r) fun a hE=>?_
  refine s_clearB (wk0 rfl) rfl hE rfl jH ndZero hp rfl (by
   have e:(p++flat (l.take i)++flat vs++flat (l.drop j)).length=off+tot*5:=by simp only[List.length_append];omega
   rw[e];exact A7e) hq1 (by decide) (by kernel_rfl) ?_
  intro w q' hq' hp
  rw[List.append_assoc _ q' r2] at hp
  refine aB ?_
  repeat (refine aG ?_)
  refine aA (S hE 2 rfl fun a hE=>?_)
  refine aB ?_
  repeat (refine aG ?_)
  refine bZ ?_
  exact gJ hE rfl rfl ⟨_,rfl,shut _ _ (by simp only[List.length_append];omega) hp⟩
 have hlt:j<i+vs.length:=by have:=of_decide_eq_false hc3;omega
 refine aZ ?_
 obtain⟨M,qr,eM,hM⟩:=cut2 (flat ((l.take j).drop i)++flat (l.drop j)++r) (n:=vs.length*5) (by simp only[List.length_append];omega)
 obtain⟨q,r2,rfl,hq⟩:=cut2 qr (n:=(l.length-j)*5) (by have:=congrArg List.length eM;simp only[List.length_append] at this;omega)
 have eMl:=congrArg List.length eM
 simp only[List.length_append] at eMl
 have hcells:∀(k:Nat) (u:Value),(flat (l.drop j))[k]?=some u→(p++flat (l.take i)++M++q++r2)[off+j*5+k]?=some u:=fun k u hk=>by
  have hkl:=(List.getElem?_eq_some_iff.1 hk).1
  rw[List.append_assoc,List.append_assoc,←eM,List.getElem?_append_right (by simp only[List.length_append];omega),List.append_assoc,List.getElem?_append_right (by simp only[List.length_append];omega),List.getElem?_append_left (by simp only[List.length_append];omega),←hk]
  congr 1;simp only[List.length_append];omega
 have hp:Hp Z ρ (Pt g (.cells (p++flat (l.take i)++M++q++r2).toArray 24 (0,0))::aC 24 (.slice B vs.length c2) vs::L) w:=by
  have e:p++(flat (l.take i)++flat ((l.take j).drop i)++flat (l.drop j))++r=p++flat (l.take i)++M++q++r2:=by rw[List.append_assoc _ M q,List.append_assoc _ (M++q) r2,List.append_assoc M q r2,←eM];simp only[List.append_assoc]
  rw[←e];exact hp
 repeat (refine aG ?_)
 refine aA (S hE 3 rfl fun a hE=>?_)
 refine V hE hp rfl (bT rfl hE rfl (fun w ty=>qM jH _ _ _ w ty)) fun a hE=>V hE hp rfl (v:=(Iv ((i+vs.length:Nat):Int))) (bF rfl hE rfl rfl (by rw[IntKind.wrap_i64];omega)) fun a hE=>?_
 obtain⟨A4,A4r,A4e,A4z⟩:=lL (P:=Tryz.prog) jH g (off) (tot) (cap) (some (.i64,((i+vs.length:Nat):Int))) none (i:=i+vs.length) (j:=tot) (by first|rfl|(dsimp only;omega)) (by first|rfl|(dsimp only;omega)) (by omega) (by omega)
 refine V hE hp rfl (v:= .slice A4 (tot-(i+vs.length)) (cap-(i+vs.length))) (pM rfl hE rfl (some (.i64,((i+vs.length:Nat):Int))) none (by exact rfl) (by exact trivial) A4r) fun a hE=>S hE 1 rfl fun a hE=>V hE hp rfl (v:= .bool false) (ex_ext rfl hE [.slice A4 (tot-(i+vs.length)) (cap-(i+vs.length)),.slice B vs.length c2] (by exact⟨rfl,rfl,trivial⟩) (fun w hw=>by rw[run_callFunc_extern Tryz.func109 (by kernel_rfl) (by kernel_rfl) (by kernel_rfl) (e:=Extern.SlicesOverlaps.overlaps #[22,22] #[4]) (by kernel_rfl),(run_ovl (α:=NdH) jH hw A4e (by omega) (by intro h;have:=congrArg List.length h;simp only[List.length_append,List.length_nil] at this;omega) (by omega)).1];rfl)) fun a hE=>S hE 1 rfl fun a hE=>aB ?_
 repeat (refine aG ?_)
 refine dE hE rfl (fun _=>?_) (fun hc=>by cases hc)
 repeat (refine aG ?_)
 have hp:=hp.drew
 refine fG ([([],At0 Z ρ)]:Facts) (fun a w=>Env 224 [(1,(Iv (i:Int))),(3,.slice B vs.length c2),(12,.slice (some ⟨g,off,none⟩) tot cap)] a∧Hp Z ρ (Pt g (.cells (p++flat (l.take i)++M++flat (l.drop j)++r2).toArray 24 (0,0))::aC 24 (.slice B vs.length c2) vs::L) w) (by kernel_rfl) ⟨fun _=>⟨_,hp⟩,trivial⟩ (fun hS=>?_) ?_
 ·
  generalize w.drew=w at hS hp⊢
  refine Ts [0,1,2] hE hS rfl rfl (by kernel_rfl) fun a hE hS=>T0 3 hE hS rfl rfl rfl (by kernel_rfl) (fun _=>bT rfl hE rfl (fun w ty=>qM jH _ _ _ w ty)) fun a hE hS=>T0 4 hE hS rfl rfl rfl (by kernel_rfl) (v:=(Iv ((i+vs.length:Nat):Int))) (fun _=>bF rfl hE rfl rfl (by rw[IntKind.wrap_i64];omega)) fun a hE hS=>?_
  obtain⟨A5,A5r,A5e,A5z⟩:=lL (P:=Tryz.prog) jH g (off) (tot) (cap) (some (.i64,((i+vs.length:Nat):Int))) none (i:=i+vs.length) (j:=tot) (by first|rfl|(dsimp only;omega)) (by first|rfl|(dsimp only;omega)) (by omega) (by omega)
  refine T0 5 hE hS rfl rfl rfl (by kernel_rfl) (v:= .slice A5 (tot-(i+vs.length)) (cap-(i+vs.length))) (fun _=>pM rfl hE rfl (some (.i64,((i+vs.length:Nat):Int))) none (by exact rfl) (by exact trivial) A5r) fun a hE hS=>Ts [6,7] hE hS rfl rfl (by kernel_rfl) fun a hE hS=>?_
  obtain⟨A6,A6r,A6e,A6z⟩:=lL (P:=Tryz.prog) jH g (off) (l.length) (cap) (some (.i64,(j:Int))) none (i:=j) (j:=l.length) (by first|rfl|(dsimp only;omega)) (by first|rfl|(dsimp only;omega)) (by omega) (by omega)
  refine T0 8 hE hS rfl rfl rfl (by kernel_rfl) (v:= .slice A6 ((l.length)-j) (cap-j)) (fun _=>pM rfl hE rfl (some (.i64,(j:Int))) none (by exact rfl) (by exact trivial) A6r) fun a hE hS=>?_
  refine W1 9 (by kernel_rfl) rfl ?_
  refine C9 (wk0 rfl) rfl rfl hE rfl jH hp (cs:=flat (l.drop j)) rfl rfl (by rw[List.length_append,List.length_append,hA5,hM,hpl,Nat.add_assoc,←Nat.add_mul];exact A5e) (by omega) (by rw[hB5];congr 1;show _=min _ _;omega) (fun k u hk=>by
   refine⟨_,A6e.resolve_left (by omega),?_⟩
   rw[Addr.add_lit,cell_of_row w g _ _ _ (0,0) (hp.look 0 rfl),List.getElem?_toArray]
   exact hcells k u hk) (by decide) (one5 _) ?_
  intro a w hE hp
  refine aB (aF ⟨gp0 hp,trivial⟩ fun hS=>?_)
  exact bP (by kernel_rfl) ⟨hE.cut ⟨rfl,rfl,rfl,trivial⟩,hp⟩
 rintro a w ⟨hE,hp⟩
 rw[List.append_assoc _ (flat (l.drop j)) r2] at hp
 repeat (refine aG ?_)
 refine aA (S hE 2 rfl fun a hE=>?_)
 obtain⟨A7,A7r,A7e,A7z⟩:=lL (P:=Tryz.prog) jH g (off) (tot) (cap) (some (.i64,(i:Int))) none (i:=i) (j:=tot) (by first|rfl|(dsimp only;omega)) (by first|rfl|(dsimp only;omega)) (by omega) (by omega)
 refine V hE hp rfl (v:= .slice A7 (tot-i) (cap-i)) (pM rfl hE rfl (some (.i64,(i:Int))) none (by exact rfl) (by exact trivial) A7r) fun a hE=>S hE 1 rfl fun a hE=>?_
 refine C9 (wk0 rfl) rfl rfl hE rfl jH hp (cs:=flat vs) rfl rfl (by rw[List.length_append,hA5,hpl];exact A7e) (by omega) (by rw[hV5,Nat.min_eq_left (by omega)]) (fun j u hj=>by
  obtain⟨b,e,hh⟩:=hsrc j u hj
  exact⟨b,e,hh _ _ _ (hp.get 1 rfl)⟩) (by decide) (one5 vs) ?_
 intro a w hE hp
 rw[←List.append_assoc] at hp
 refine aB ?_
 repeat (refine aG ?_)
 refine aA (S hE 2 rfl fun a hE=>?_)
 refine aB ?_
 repeat (refine aG ?_)
 refine bZ ?_
 exact gJ hE rfl rfl ⟨_,rfl,shut _ _ (by omega) hp⟩
theorem c_cloneN {Z:World} {ρ:PH} {L:List bK} {w:World} (p0:List NdH) (vp0:Value) (hp0:aH ρ vp0 p0) (hlim:p0.length≤4294967296) (hp:Hp Z ρ L w):
  Calls Tryz.prog 98 #[vp0] w (Ret fun v w'=>Hp Z ρ (aC 24 v p0::L) w'):=by
 have hm:app [] p0=some p0:=by unfold app;rw[if_pos (by simpa using hlim)];rfl
 refine enter (N:=8) Tryz.func98 rfl rfl [(0,vp0)] rfl (bC ⟨rfl,trivial⟩) fun a hE=>?_
 obtain⟨b,hb1,hb2⟩:=aH.nilq (P:=Tryz.prog) hp0 jH
 refine aG (aA ?_)
 refine S hE 1 rfl fun a hE=>aB (aG ?_)
 refine aG (aA ?_)
 refine S hE 1 rfl fun a hE=>V hE hp rfl (v:= .bool b) (uM rfl hE rfl rfl fun w _=>hb1 w _ _) fun a hE=>aB ?_
 refine dE hE rfl (fun hb=>?_) (fun hb=>?_)
 ·obtain rfl:=hb2 hb
  refine aG (aA ?_)
  refine S hE 1 rfl fun a hE=>aB (bZ ?_)
  exact gJ hE rfl rfl ⟨_,rfl,hp.emp (aC.nil (α:=NdH) 24)⟩
 refine aZ (aG ?_)
 refine aA ?_
 refine fP (wk0 rfl) rfl rfl hE hp rfl [] trivial [] 24 (fun w=>by simp[Instr.buildSlice,Instr.fill,Value.cells,go_sem]) ?_
 intro a w b1 hE hp
 have hp:=(hp.get 0 rfl).imp (qQ (l:=([]:List NdH)) (n:=0) rfl (by decide) rfl)
 have hp:Hp Z ρ (aC 24 (.slice (some ⟨b1,0,none⟩) 0 0) ([]:List NdH)::L) w:=id hp
 refine S hE 1 rfl fun a hE=>?_
 refine s_apps (wk0 rfl) rfl rfl hE hp rfl jH rfl rfl 0 rfl rfl hp0 hm ?_
 intro v1 a w hE hp
 have hp:Hp Z ρ (aC 24 v1 p0::L) w:=id hp
 refine S hE 1 rfl fun a hE=>aB (bZ ?_)
 exact gJ hE rfl rfl ⟨_,rfl,hp⟩
theorem ndEntC:∀args w,(callFunc 98 args).run Tryz.prog w= .ok (.enter 98 args) w:=enters Tryz.func98 (by kernel_rfl) rfl
theorem ndEntR:∀args w,(callFunc 97 args).run Tryz.prog w= .ok (.enter 97 args) w:=enters Tryz.func97 (by kernel_rfl) rfl
theorem c_cloneO {Z:World} {ρ:PH} {L:List bK} {w:World} (p0:List NdH) (vp0:Value) (hlim:p0.length≤4294967296) (hp:Hp Z ρ (aC 24 vp0 p0::L) w):
  Calls Tryz.prog 98 #[vp0] w (Ret fun v w'=>Hp Z ρ (aC 24 v p0::aC 24 vp0 p0::L) w'):=by
 obtain⟨k,ka,kd,h⟩:=hp.lend
 refine Calls.mono (c_cloneN p0 vp0 (aC.ro kd ka) hlim h) fun e w' he=>?_
 obtain⟨v,rfl,hh⟩:=he
 exact⟨_,rfl,(Hp.back ka kd hh).get 1 rfl⟩
theorem ndEntP:∀args w,(callFunc 53 args).run Tryz.prog w= .ok (.enter 53 args) w:=enters Tryz.func53 (by kernel_rfl) rfl
theorem copied_c {Z:World} {ρ:PH}:∀(m:Nat) (p0:Node),SizeOf.sizeOf p0≤m→∀(v:Value) (hv:aH ρ v p0.kids),bW p0≤4294967296→∀(L:List bK) (w:World),Hp Z ρ L w→
  Calls Tryz.prog 53 #[rW p0 v] w (Ret fun r w'=>∃v1,r=rW p0 v1∧Hp Z ρ (jX 24 v1 p0.kids::L) w'):=by
 intro m
 induction m with
 |zero=>intro p0 h;obtain⟨a,b,c,d,k⟩:=p0;simp only[Node.mk.sizeOf_spec] at h;omega
 |succ m ih=>
  intro p0 hsz v hv hcN L w hp
  have hcnt:=yY p0
  have hkl:=D9 p0.kids
  refine enter (N:=22) Tryz.func53 rfl rfl [(0,rW p0 v)] rfl (bC ⟨rfl,trivial⟩) fun a hE=>?_
  repeat (refine aG ?_)
  refine aA ?_
  refine iI (wk0 rfl) rfl rfl hE hp rfl (v:=rW p0 v) rfl ?_
  intro a w b1 hE hp
  have hp:Hp Z ρ (Pt b1 (.cells #[(Iv p0.kind),(.string p0.text),(Iv p0.at_),(Iv p0.fin),v] 24 (0,0))::L) w:=id hp
  refine dL (wk0 rfl) rfl rfl hE hp rfl [(Iv 0),(.string ByteArray.empty),(Iv 0),(Iv 0),N0] (fun w=>by simp[Instr.alloc,go_sem]<;>rfl) ?_
  intro a w b2 hE hp
  have hp:Hp Z ρ (Pt b2 (.cells #[(Iv 0),(.string ByteArray.empty),(Iv 0),(Iv 0),N0] 24 (0,0))::Pt b1 (.cells #[(Iv p0.kind),(.string p0.text),(Iv p0.at_),(Iv p0.fin),v] 24 (0,0))::L) w:=id hp
  refine aB ?_
  repeat (refine aG ?_)
  refine aA (S hE 1 rfl fun a hE=>?_)
  refine aB ?_
  repeat (refine aG ?_)
  refine aA (V hE hp rfl (dF rfl hE rfl (tcF4 _ _)) fun a hE=>?_)
  refine V hE hp rfl (xl hE tcVS 1 rfl rfl rfl rfl) fun a hE=>V hE hp rfl (bT rfl hE rfl (aH.len hv tcSl)) fun a hE=>S hE 1 rfl fun a hE=>aB ?_
  have hp:=hp.emp (aC.nil (α:=NdH) 24)
  have hp:=(hp.emp (KdA_emp (T:=24))).get 1 rfl
  repeat (refine aG ?_)
  refine dH (fun a w=>∃kv hs,Env 22 [(1,.pointer (some ⟨b1,0,none⟩)),(2,.pointer (some ⟨b2,0,none⟩)),(3,kv)] a∧Hp Z ρ (aC 24 kv hs::KdA 24 p0.kids hs::Pt b2 (.cells #[(Iv 0),(.string ByteArray.empty),(Iv 0),(Iv 0),N0] 24 (0,0))::Pt b1 (.cells #[(Iv p0.kind),(.string p0.text),(Iv p0.at_),(Iv p0.fin),v] 24 (0,0))::L) w) ?_ ?_
  ·refine dZ (kidsLoop p0.kids.length p0.kids.length 0 (by omega)) (fun i a w=>∃kv hs,i≤p0.kids.length∧Env 22 [(1,.pointer (some ⟨b1,0,none⟩)),(2,.pointer (some ⟨b2,0,none⟩)),(3,kv),(7,v),(8,(Iv (p0.kids.length:Int))),(9,(Iv (i:Int)))] a∧Hp Z ρ (aC 24 kv hs::KdA 24 (p0.kids.take i) hs::Pt b2 (.cells #[(Iv 0),(.string ByteArray.empty),(Iv 0),(Iv 0),N0] 24 (0,0))::Pt b1 (.cells #[(Iv p0.kind),(.string p0.text),(Iv p0.at_),(Iv p0.fin),v] 24 (0,0))::L) w) ?_ ?_
   ·exact⟨_,_,Nat.zero_le _,hE.cut ⟨rfl,rfl,rfl,rfl,rfl,rfl,trivial⟩,hp⟩
   rintro i st a w ⟨kv,hs,hi,hE,hp⟩ hst
   repeat (refine aG ?_)
   refine aA (S hE 1 rfl fun a hE=>?_)
   refine aB ?_
   repeat (refine aG ?_)
   refine dE hE rfl (fun hb=>?_) (fun hb=>?_)
   ·
    have hlt:i<p0.kids.length:=by simpa using hb
    obtain⟨x,hx⟩:∃x,p0.kids[i]?=some x:=⟨_,List.getElem?_eq_getElem hlt⟩
    have h1:=aA0 hx
    have h2:=cntL_le p0.kids (i+1)
    have hhl:hs.length=i:=by rw[hp.kdLen 1 rfl,List.length_take];omega
    have ex:idx p0.kids (i:Int)=some x:=by unfold idx;rw[if_pos (by omega)];simpa using hx
    obtain⟨b3,b3o,b3c,b3r,b3k,b3f⟩:=aH.at hv tcSl ex
    obtain⟨vk,rfl,hk⟩:=NodeAt.opens b3k
    refine aZ ?_
    repeat (refine aG ?_)
    refine dM ?_
    repeat (refine aG ?_)
    refine aA (V hE hp rfl (aN rfl hE rfl rfl b3r) fun a hE=>?_)
    refine V hE hp rfl (aK rfl hE rfl (fun w hw=>aW (cs:=[(Iv x.kind),(.string x.text),(Iv x.at_),(Iv x.fin),vk]) tcVN (fun j u hj=>cell_of hw.le (b3f j u hj)))) fun a hE=>?_
    refine dL (wk0 rfl) rfl rfl hE hp rfl [(Iv 0),(.string ByteArray.empty),(Iv 0),(Iv 0),N0] (fun w=>by simp[Instr.alloc,go_sem]<;>rfl) ?_
    intro a w b4 hE hp
    refine aX (wk0 rfl) rfl hE hp rfl rfl (v:=rW x vk) rfl 0 rfl (by exact tcVN.size_) rfl (by
     have h1:=aH.one hk
     intro u hu
     simp[Value.cells] at hu
     rcases hu with rfl|rfl|rfl|rfl|rfl<;>first|rfl|exact h1) [(Iv x.kind),(.string x.text),(Iv x.at_),(Iv x.fin),vk] (by simp[Value.cells]) ?_
    intro w hp
    refine aB ?_
    repeat (refine aG ?_)
    refine aA (S hE 1 rfl fun a hE=>?_)
    refine V hE hp rfl (aK rfl hE rfl (fun w hw=>aW (cs:=[(Iv x.kind),(.string x.text),(Iv x.at_),(Iv x.fin),vk]) tcVN (Hp.cN 0 rfl 0 _ (aS rfl) w hw))) fun a hE=>?_
    have hp:=hp.drop
    refine s_call (wk0 rfl) rfl rfl hE rfl [rW x vk] ⟨rfl,trivial⟩ ndEntP (ih x (by have:=node_sz hx;omega) vk hk (by omega) _ _ hp) Ret.ret ?_
    intro v2 a w hR hE
    obtain⟨v1,rfl,hp⟩:=Ret.of hR
    obtain⟨s1,rfl⟩:=jX.sl hp
    have hs1c:=Sl.cells s1
    refine fP (wk0 rfl) rfl rfl hE hp rfl [(0,rW x s1.v)] ⟨⟨rfl,rfl⟩,trivial⟩ (Enc.enc (⟨x.kind,x.text,x.at_,x.fin,s1⟩:NdH)) 24 (fun w=>by simp only[Value.cells] at hs1c;simp[Instr.buildSlice,Instr.fill,Value.cells,hs1c,Enc.enc,go_sem]) ?_
    intro a w b5 hE hp
    refine fU (α:=NdH) (wk0 rfl) rfl rfl hE hp rfl jH rfl rfl 2 rfl rfl (l2:=[⟨x.kind,x.text,x.at_,x.fin,s1⟩]) rfl (fun j u hj=>by have:=Hp.cN 0 rfl 0 _ (aS rfl) w hp j u hj;simpa using this) (r:=hs++[⟨x.kind,x.text,x.at_,x.fin,s1⟩]) (by unfold app;rw[if_pos (by simp;omega)]) ?_
    intro v' a w hE hp
    have hp:Hp Z ρ (_::jX 24 s1.v x.kids::aC 24 v' (hs++[⟨x.kind,x.text,x.at_,x.fin,s1⟩])::KdA 24 (p0.kids.take i) hs::Pt b2 (.cells #[(Iv 0),(.string ByteArray.empty),(Iv 0),(Iv 0),N0] 24 (0,0))::Pt b1 (.cells #[(Iv p0.kind),(.string p0.text),(Iv p0.at_),(Iv p0.fin),v] 24 (0,0))::L) w:=id hp
    have hp:=hp.drop
    have hp:Hp Z ρ (jX 24 (⟨x.kind,x.text,x.at_,x.fin,s1⟩:NdH).kids.v x.kids::aC 24 v' (hs++[⟨x.kind,x.text,x.at_,x.fin,s1⟩])::KdA 24 (p0.kids.take i) hs::Pt b2 (.cells #[(Iv 0),(.string ByteArray.empty),(Iv 0),(Iv 0),N0] 24 (0,0))::Pt b1 (.cells #[(Iv p0.kind),(.string p0.text),(Iv p0.at_),(Iv p0.fin),v] 24 (0,0))::L) w:=id hp
    have hp:=(Hp.kd1 (Hp.ndI ⟨rfl,rfl,rfl,rfl⟩ hp)).get 2 rfl
    have hp:=(Hp.kdApp hp).get 1 rfl
    refine S hE 1 rfl fun a hE=>aB ?_
    repeat (refine aG ?_)
    refine aA (V hE hp rfl (v:=(Iv ((i+1:Nat):Int))) (bF rfl hE rfl rfl (by rw[IntKind.wrap_i64];omega)) fun a hE=>?_)
    refine S hE 1 rfl fun a hE=>aB ?_
    refine⟨i+1,?_,v',hs++[⟨x.kind,x.text,x.at_,x.fin,s1⟩],by omega,hE.cut ⟨rfl,rfl,rfl,rfl,rfl,rfl,trivial⟩,?_⟩
    ·unfold F5 at hst;rw[if_pos hlt] at hst;exact(oj hst).symm
    have e:p0.kids.take (i+1)=p0.kids.take i++[x]:=by
     obtain⟨h3,h4⟩:=List.getElem?_eq_some_iff.1 hx
     rw[List.take_succ_eq_append_getElem h3,h4]
    rw[e];exact hp
   have hge:¬i<p0.kids.length:=by simpa using hb
   refine dS ?_
   refine⟨(),?_,fun _=>⟨kv,hs,hE.cut ⟨rfl,rfl,rfl,trivial⟩,?_⟩⟩
   ·unfold F5 at hst;rw[if_neg hge] at hst;exact(oj hst).symm
   rw[List.take_of_length_le (by omega)] at hp;exact hp
  rintro a w ⟨kv,hs,hE,hp⟩
  obtain⟨s1,rfl⟩:=aC.toSl hp 0 rfl
  have hs1c:=Sl.cells s1
  repeat (refine aG ?_)
  refine aA (S hE 1 rfl fun a hE=>?_)
  refine V hE hp rfl (dF rfl hE rfl (tcF4 _ _)) fun a hE=>?_
  refine bQ (wk0 rfl) rfl hE hp rfl rfl rfl 3 rfl tcVS.size_ (Sl.cells s1) (Sl.one s1) rfl [(Iv p0.kind),(.string p0.text),(Iv p0.at_),(Iv p0.fin),s1.v] rfl ?_
  intro w hp
  have hp:Hp Z ρ (aC 24 s1.v hs::KdA 24 p0.kids hs::Pt b2 (.cells #[(Iv 0),(.string ByteArray.empty),(Iv 0),(Iv 0),N0] 24 (0,0))::Pt b1 (.cells [(Iv p0.kind),(.string p0.text),(Iv p0.at_),(Iv p0.fin),s1.v].toArray 24 (0,0))::L) w:=id hp
  refine aB ?_
  repeat (refine aG ?_)
  refine aA (V hE hp rfl (aK rfl hE rfl (fun w hw=>aW (cs:=[(Iv p0.kind),(.string p0.text),(Iv p0.at_),(Iv p0.fin),s1.v]) tcVN (Hp.cN 3 rfl 0 _ (aS rfl) w hw))) fun a hE=>?_)
  refine aX (wk0 rfl) rfl hE hp rfl rfl (v:=rW p0 s1.v) rfl 2 rfl (by exact tcVN.size_) rfl (by
   have h1:=Sl.one s1
   intro u hu
   simp[Value.cells] at hu
   rcases hu with rfl|rfl|rfl|rfl|rfl<;>first|rfl|exact h1) [(Iv p0.kind),(.string p0.text),(Iv p0.at_),(Iv p0.fin),s1.v] (by simp[Value.cells]) ?_
  intro w hp
  have hp:Hp Z ρ (aC 24 s1.v hs::KdA 24 p0.kids hs::Pt b2 (.cells [(Iv p0.kind),(.string p0.text),(Iv p0.at_),(Iv p0.fin),s1.v].toArray 24 (0,0))::Pt b1 (.cells [(Iv p0.kind),(.string p0.text),(Iv p0.at_),(Iv p0.fin),s1.v].toArray 24 (0,0))::L) w:=id hp
  refine aB ?_
  repeat (refine aG ?_)
  refine bZ ?_
  exact retc1 hE rfl rfl (aG6 (cs:=[(Iv p0.kind),(.string p0.text),(Iv p0.at_),(Iv p0.fin),s1.v]) tcVN (Hp.cN 2 rfl 0 _ (aS rfl) _ hp)) ⟨_,rfl,_,rfl,((((hp.get 3 rfl).drop).get 2 rfl).drop).forI⟩
def zG (g o:Nat) (F:Value→Obj):Prop:=∀s:Sl,∃(cs:Array Value) (T:TypeId),F s.v= .cells cs T (0,0)∧cs[o]?=some s.v∧∀s':Sl,F s'.v= .cells (cs.setIfInBounds o s'.v) T (0,0)
theorem zG.ld {g o:Nat} {F:Value→Obj} (hF:zG g o F) {Z:World} {ρ:PH} {L:List bK} {w:World} {s:Sl} (hp:Hp Z ρ L w) (i:Nat) (e:L[i]?=some (Pt g (F s.v))):(Instr.loadAt 22 (Pv g o)).run Tryz.prog w= .ok s.v w:=by
 obtain⟨cs,T,h1,h2,h3⟩:=hF s
 rw[h1] at e
 exact aV tcVS (Hp.c i e o h2 w hp)
theorem zG.one (b:Nat) (T:TypeId):zG b 0 (fun v=> .cells #[v] T (0,0)):=fun s=>⟨#[s.v],T,rfl,rfl,fun s'=>by simp⟩
theorem zG.arr {g o:Nat} {c:Array Value} {T:TypeId} (h:o<c.size):zG g o (fun v=> .cells (c.setIfInBounds o v) T (0,0)):=fun s=>⟨c.setIfInBounds o s.v,T,rfl,by simp[h],fun s'=>by simp⟩
theorem KdA_el {T:TypeId} {ρ k:PH} {ts:List Node} {l:List NdH} (d:ρ.dj k) (hk:KdA T ts l k) {i:Nat} {x:Node} (hi:ts[i]?=some x):∃h,l[i]?=some h∧NdW x h∧aH (ρ.un k) h.kids.v x.kids:=by
 obtain⟨h,e,hn⟩:=KdA_ro ts l d hk i x hi
 obtain⟨v,e2,hv⟩:=NodeAt.opens hn
 simp only[Enc.enc,List.cons.injEq,Value.int.injEq,Value.string.injEq,true_and,and_true] at e2
 obtain⟨h1,h2,h3,h4,h5⟩:=e2
 exact⟨h,e,⟨h1,h2,h3,h4⟩,h5▸hv⟩
theorem ndV_eq {n:Node} {h:NdH} (hw:NdW n h):ndV h=rW n h.kids.v:=by
 obtain⟨h1,h2,h3,h4⟩:=hw
 unfold ndV rW
 rw[h1,h2,h3,h4]
theorem cntL_take_drop {l:List Node} {i:Nat} {n:Node} (h:l[i]?=some n):qI (l.drop i)=bW n+qI (l.drop (i+1)):=by
 obtain⟨h1,h2⟩:=List.getElem?_eq_some_iff.1 h
 rw[List.drop_eq_getElem_cons h1,h2,yC]
def Y1 (ts:List Node) (p:Nat×Nat):Option (Step (Nat×Nat) Unit):=match ts[p.1]? with|none=>some (.done ())|some x=>if p.2<bW x then some (.done ()) else some (.next (p.1+1,p.2-bW x))
theorem atLoop (ts:List Node):∀(j i k:Nat),ts.length≤i+j→∃r,dV (Y1 ts) (i,k)=some r
 |0,i,k,h=>⟨(),kC (by unfold Y1;simp only;rw[List.getElem?_eq_none (by omega)])⟩
 |j+1,i,k,h=>by
  cases hx:ts[i]? with
  |none=>exact⟨(),kC (by unfold Y1;simp only;rw[hx])⟩
  |some x=>
   by_cases hk:k<bW x
   ·exact⟨(),kC (by unfold Y1;simp only;rw[hx];simp only;rw[if_pos hk])⟩
   obtain⟨r,hr⟩:=atLoop ts j (i+1) (k-bW x) (by omega)
   exact⟨r,by rw[wL (show Y1 ts (i,k)=some (.next (i+1,k-bW x)) by unfold Y1;simp only;rw[hx];simp only;rw[if_neg hk])];exact hr⟩
def AtPost (Z:World) (ρ:PH) (L:List bK) (g o:Nat) (F:Value→Obj) (s:Sl) (ts:List Node) (q:Option (List Node×Nat×(List Node→List Node))) (r:Value) (w:World):Prop:=
 match q with
 |none=>r= .tuple #[.pointer none,.pointer none,.int .i64 0]∧Hp Z ρ (Pt g (F s.v)::jX 24 s.v ts::L) w
 |some (ts1,i,p)=>∃(g1 o1:Nat) (F1:Value→Obj) (s1:Sl) (l1:List NdH) (nb no:Nat) (C:List bK),zG g1 o1 F1∧(∃of0 cap,s1.v= .slice (some ⟨nb,of0,none⟩) l1.length cap∧no=of0+i*5)∧i<ts1.length∧
   r= .tuple #[.pointer (some ⟨nb,no,none⟩),.pointer (some ⟨g1,o1,none⟩),.int .i64 (i:Int)]∧
   (∀(s2:Sl) (ts2:List Node) (w2:World) (L2:List bK),Hp Z ρ (Pt g1 (F1 s2.v)::jX 24 s2.v ts2::(C++L2)) w2→∃s3:Sl,Hp Z ρ (Pt g (F s3.v)::jX 24 s3.v (p ts2)::L2) w2)∧
   Hp Z ρ (Pt g1 (F1 s1.v)::aC 24 s1.v l1::KdA 24 ts1 l1::(C++L)) w
theorem ndEntA:∀args w,(callFunc 96 args).run Tryz.prog w= .ok (.enter 96 args) w:=enters Tryz.func96 (by kernel_rfl) rfl
theorem ndEntK:∀args w,(callFunc 64 args).run Tryz.prog w= .ok (.enter 64 args) w:=enters Tryz.func64 (by kernel_rfl) rfl
theorem at_c {Z:World} {ρ:PH}:∀(m:Nat) (ts:List Node),SizeOf.sizeOf ts≤m→∀(n g o:Nat) (F:Value→Obj) (hF:zG g o F) (s:Sl) (L:List bK) (w:World),n<9223372036854775808→qI ts≤4294967296→Hp Z ρ (Pt g (F s.v)::jX 24 s.v ts::L) w→
  Calls Tryz.prog 96 #[.pointer (some ⟨g,o,none⟩),(Iv (n:Int))] w (Ret (AtPost Z ρ L g o F s ts (atL [] ts n))):=by
 intro m
 induction m with
 |zero=>intro ts h;cases ts<;>simp at h
 |succ m ih=>
  intro ts hsz n g o F hF s L w hn hcN hp
  obtain⟨l,hp⟩:=(hp.get 1 rfl).forO
  have hp:Hp Z ρ (Pt g (F s.v)::aC 24 s.v l::KdA 24 ts l::L) w:=hp.get 2 rfl
  have hll:=hp.kdLen 2 rfl
  have htl:=D9 ts
  refine enter (N:=49) Tryz.func96 rfl rfl [(0,.pointer (some ⟨g,o,none⟩)),(1,(Iv (n:Int)))] rfl (bC ⟨rfl,rfl,trivial⟩) fun a hE=>?_
  repeat (refine aG ?_)
  refine aA (S hE 3 rfl fun a hE=>?_)
  refine aB ?_
  repeat (refine aG ?_)
  refine aA (S hE 2 rfl fun a hE=>?_)
  refine V hE hp rfl (aK rfl hE rfl (fun w hw=>hF.ld hw 0 rfl)) fun a hE=>V hE hp rfl (v:=(Iv (ts.length:Int))) (bT rfl hE rfl (by have:=aC.len hp 1 rfl jH;rw[hll] at this;exact this)) fun a hE=>S hE 1 rfl fun a hE=>aB ?_
  obtain⟨r0,hr0⟩:=atLoop ts ts.length 0 n (by omega)
  repeat (refine aG ?_)
  refine dH (fun a w=>atL [] ts n=none∧Env 49 [] a∧Hp Z ρ (Pt g (F s.v)::aC 24 s.v l::KdA 24 ts l::L) w) ?_ ?_
  ·refine dZ hr0 (fun p a w=>p.1≤ts.length∧atL (ts.take p.1) (ts.drop p.1) p.2=atL [] ts n∧p.2≤n∧Env 49 [(0,.pointer (some ⟨g,o,none⟩)),(1,(Iv (p.2:Int))),(13,(Iv (ts.length:Int))),(14,(Iv (p.1:Int)))] a∧Hp Z ρ (Pt g (F s.v)::aC 24 s.v l::KdA 24 ts l::L) w) ?_ ?_
   ·exact⟨Nat.zero_le _,by simp,Nat.le_refl _,hE.cut ⟨rfl,rfl,rfl,rfl,trivial⟩,hp⟩
   rintro⟨i,k⟩ st a w ⟨hi,hat,hkn,hE,hp⟩ hst
   simp only at hi hat hkn hE
   repeat (refine aG ?_)
   refine aA (S hE 1 rfl fun a hE=>?_)
   refine aB ?_
   repeat (refine aG ?_)
   refine dE hE rfl (fun hb=>?_) (fun hb=>?_)
   ·
    have hlt:i<ts.length:=by simpa using hb
    obtain⟨x,hx⟩:∃x,ts[i]?=some x:=⟨_,List.getElem?_eq_getElem hlt⟩
    have hdx:ts.drop i=x::ts.drop (i+1):=by
     obtain⟨h3,h4⟩:=List.getElem?_eq_some_iff.1 hx
     rw[List.drop_eq_getElem_cons h3,h4]
    have hcx:=cntL_take_drop hx
    have hcd:qI (ts.take i)+qI (ts.drop i)=qI ts:=by rw[←aJ3,List.take_append_drop]
    obtain⟨kk,kka,kkd,hpk⟩:=(hp.get 2 rfl).lend
    obtain⟨y,hy,hyw,hyr⟩:=KdA_el kkd kka hx
    have hiy:idx l (i:Int)=some y:=by unfold idx;rw[if_pos (by omega)];simpa using hy
    obtain⟨nb,no,br,⟨of0,cap,bv,bo⟩,bf⟩:=aC.at hp 1 rfl jH hiy
    simp only[Int.toNat_natCast] at bo
    have bo:no=of0+i*5:=bo
    refine aZ ?_
    repeat (refine aG ?_)
    refine dM ?_
    repeat (refine aG ?_)
    refine aA (S hE 2 rfl fun a hE=>?_)
    refine aB ?_
    repeat (refine aG ?_)
    refine aA (S hE 2 rfl fun a hE=>?_)
    refine V hE hp rfl (aK rfl hE rfl (fun w hw=>hF.ld hw 0 rfl)) fun a hE=>S hE 1 rfl fun a hE=>V hE hp rfl (aN rfl hE rfl rfl br) fun a hE=>S hE 1 rfl fun a hE=>aB ?_
    repeat (refine aG ?_)
    refine aA (S hE 2 rfl fun a hE=>?_)
    refine V hE hp rfl (v:=rW x y.kids.v) (aK rfl hE rfl (fun w hw=>by rw[←ndV_eq hyw];exact aW (cs:=Enc.enc y) tcVN (fun j u hj=>bf j u hj _ _ w (hw.get 1 rfl)))) fun a hE=>?_
    refine s_call (wk0 rfl) rfl rfl hE rfl [rW x y.kids.v] ⟨rfl,trivial⟩ ndEntK (aF9 x y.kids.v hyr hpk (bW x:Int) (by unfold aC7;rw[if_pos (by omega)])) Ret.ret ?_
    intro v2 a w hR hE
    obtain⟨rfl,hpk⟩:=Ret.of hR
    have hp:Hp Z ρ (Pt g (F s.v)::aC 24 s.v l::KdA 24 ts l::L) w:=(Hp.back kka kkd hpk).get 2 rfl |>.get 2 rfl
    refine S hE 1 rfl fun a hE=>aB ?_
    repeat (refine aG ?_)
    refine dH (fun a w=>bW x≤k∧Env 49 [(0,.pointer (some ⟨g,o,none⟩)),(1,(Iv (k:Int))),(9,(Iv (bW x:Int))),(13,(Iv (ts.length:Int))),(14,(Iv (i:Int)))] a∧Hp Z ρ (Pt g (F s.v)::aC 24 s.v l::KdA 24 ts l::L) w) ?_ ?_
    ·
     repeat (refine aG ?_)
     refine aA (S hE 3 rfl fun a hE=>?_)
     refine aB ?_
     repeat (refine aG ?_)
     refine dE hE rfl (fun hk0=>?_) (fun hk0=>?_)
     ·
      have hk0:k=0:=by have:=of_decide_eq_true hk0;omega
      subst hk0
      repeat (refine aG ?_)
      refine aA (S hE 6 rfl fun a hE=>?_)
      refine aB ?_
      repeat (refine aG ?_)
      refine bZ ?_
      have hcp:=(yY x)
      refine⟨(),?_,fun _=>?_⟩
      ·unfold Y1 at hst;simp only[hx] at hst;rw[if_pos (by omega)] at hst;exact(oj hst).symm
      refine ret3 hE rfl rfl rfl rfl ⟨_,rfl,?_⟩
      rw[hdx,aD8,if_pos rfl] at hat
      rw[←hat]
      have e1:ts.take i++x::ts.drop (i+1)=ts:=by rw[←hdx,List.take_append_drop]
      have e2:(ts.take i).length=i:=by rw[List.length_take];omega
      show AtPost _ _ _ _ _ _ _ _ (some (_,_,_)) _ _
      rw[e1,e2]
      exact⟨g,o,F,s,l,nb,no,[],hF,⟨of0,cap,bv,bo⟩,hlt,rfl,fun s2 ts2 w2 L2 h=>⟨s2,h⟩,hp⟩
     have hkp:0<k:=by have:=of_decide_eq_false hk0;omega
     repeat (refine aG ?_)
     refine aA (S hE 4 rfl fun a hE=>?_)
     refine aB ?_
     repeat (refine aG ?_)
     refine dE hE rfl (fun hk1=>?_) (fun hk1=>?_)
     ·
      have hk1:k<bW x:=by have:=of_decide_eq_true hk1;omega
      have hcx2:=yY x
      obtain⟨q,hq⟩:=atL_ok _ x.kids [] (k-1) (Nat.le_refl _) (by omega)
      obtain⟨t1,i1,p1⟩:=q
      repeat (refine aG ?_)
      refine aA (S hE 2 rfl fun a hE=>?_)
      refine V hE hp rfl (dF rfl hE rfl (tcF4 _ _)) fun a hE=>S hE 1 rfl fun a hE=>V hE hp rfl (v:=(Iv ((k-1:Nat):Int))) (dQ rfl hE rfl rfl (by rw[IntKind.wrap_i64];omega)) fun a hE=>?_
      rcases(hp.get 1 rfl).openB with⟨A,e1,e2⟩|⟨gb,off,cap2,pr,rr,e1,hpl,hlc,hcm,hrr,hpb⟩
      ·rw[e2] at hll;simp at hll;omega
      replace hrr:rr.length=(cap2-l.length)*5:=hrr
      rw[bv] at e1
      simp only[Value.slice.injEq,Option.some.injEq,Addr.mk.injEq,and_true,true_and] at e1
      obtain⟨⟨rfl,rfl⟩,rfl⟩:=e1
      obtain⟨hyl,hyg⟩:=List.getElem?_eq_some_iff.1 hy
      have hfl:=fl5 l
      obtain⟨c0,hc0⟩:∃c0,c0=(pr++flat l++rr).toArray:=⟨_,rfl⟩
      have hc0s:c0.size=of0+cap*5:=by rw[hc0,List.size_toArray,List.length_append,List.length_append,hfl,hrr,hpl];omega
      have hset:∀s2:Sl,c0.setIfInBounds (no+4) s2.v=(pr++flat (l.set i ⟨y.kind,y.text,y.at_,y.fin,s2⟩)++rr).toArray:=fun s2=>by
       rw[hc0,List.setIfInBounds_toArray]
       congr 1
       have e3:no+4=pr.length+(i*5+4):=by omega
       rw[e3,List.append_assoc,List.set_append,if_neg (by omega),Nat.add_sub_cancel_left,List.set_append,if_pos (by rw[hfl];omega),←List.append_assoc]
       congr 2
       exact aJ5 l i y ⟨y.kind,y.text,y.at_,y.fin,s2⟩ 4 s2.v hy rfl (by decide)
      have hself:c0.setIfInBounds (no+4) y.kids.v=c0:=by
       rw[hset,hc0]
       have e4:l.set i ⟨y.kind,y.text,y.at_,y.fin,y.kids⟩=l:=by
        have:(⟨y.kind,y.text,y.at_,y.fin,y.kids⟩:NdH)=y:=rfl
        rw[this,←hyg];exact List.set_getElem_self hyl
       rw[e4]
      have hF2:zG nb (no+4) (fun v=> .cells (c0.setIfInBounds (no+4) v) 24 (0,0)):=zG.arr (by rw[hc0s];omega)
      have hts:ts=ts.take i++([x]++ts.drop (i+1)):=by rw[List.singleton_append,←hdx,List.take_append_drop]
      have etl:(ts.take i).length=i:=by rw[List.length_take];omega
      have hp1:Hp Z ρ (Pt nb (.cells (c0.setIfInBounds (no+4) y.kids.v) 24 (0,0))::jX 24 y.kids.v x.kids::([Pt g (F s.v),KdA 24 (ts.take i) (l.take i),KdA 24 (ts.drop (i+1)) (l.drop (i+1))]++L)) w:=by
       have h1:Hp Z ρ (KdA 24 (ts.take i++([x]++ts.drop (i+1))) l::Pt nb (.cells (pr++flat l++rr).toArray 24 (0,0))::Pt g (F s.v)::L) w:=by rw[←hts];exact(hpb.get 2 rfl)
       have h2:=h1.kdSplit
       rw[etl] at h2
       have h3:=(h2.get 1 rfl).kdSplit
       obtain⟨y',ey,h4⟩:=h3.kd1O
       have ey2:y'=y:=by
        have:=congrArg (fun z=>z[0]?) ey
        simp only[List.length_singleton,List.getElem?_take,List.getElem?_drop,Nat.add_zero,hy] at this
        simpa using this.symm
       subst ey2
       have h5:=h4.ndO.2
       rw[hself,hc0]
       have e6:(l.drop i).drop [x].length=l.drop (i+1):=by rw[List.drop_drop];rfl
       rw[e6] at h5
       exact((((h5.get 1 rfl).get 2 rfl).get 4 rfl).get 3 rfl).get 4 rfl
      refine s_call (wk0 rfl) rfl rfl hE rfl [.pointer (some ⟨nb,no+4,none⟩),(Iv ((k-1:Nat):Int))] ⟨rfl,rfl,trivial⟩ ndEntA (ih x.kids (by have:=List.sizeOf_lt_of_mem (List.mem_of_getElem? hx);obtain⟨a,b,c,d,kk⟩:=x;simp only[Node.mk.sizeOf_spec] at this;show SizeOf.sizeOf kk≤m;omega) (k-1) nb (no+4) _ hF2 y.kids _ w (by omega) (by omega) hp1) Ret.ret ?_
      intro v3 a w hR hE
      have hP:=Ret.of hR
      rw[hq] at hP
      obtain⟨g1,o1,F1,s1,l1,nb1,no1,C,hF1,hsl,hi1,rfl,hcl,hp⟩:=hP
      refine S hE 6 rfl fun a hE=>aB ?_
      repeat (refine aG ?_)
      refine bZ ?_
      refine⟨(),?_,fun _=>?_⟩
      ·unfold Y1 at hst;simp only[hx] at hst;rw[if_pos hk1] at hst;exact(oj hst).symm
      refine ret3 hE rfl rfl rfl rfl ⟨_,rfl,?_⟩
      rw[hdx,aD8,if_neg (by omega),if_pos hk1,atN_eq,hq] at hat
      rw[←hat]
      refine⟨g1,o1,F1,s1,l1,nb1,no1,C++[Pt g (F s.v),KdA 24 (ts.take i) (l.take i),KdA 24 (ts.drop (i+1)) (l.drop (i+1))],hF1,hsl,hi1,rfl,?_,?_⟩
      ·intro s2 ts2 w2 L2 h2
       rw[List.append_assoc] at h2
       obtain⟨s3,h3⟩:=hcl s2 ts2 w2 _ h2
       have h3:Hp Z ρ (Pt nb (.cells (c0.setIfInBounds (no+4) s3.v) 24 (0,0))::jX 24 s3.v (p1 ts2)::Pt g (F s.v)::KdA 24 (ts.take i) (l.take i)::KdA 24 (ts.drop (i+1)) (l.drop (i+1))::L2) w2:=h3
       rw[hset] at h3
       have h4:=Hp.shutB (α:=NdH) (l:=l.set i ⟨y.kind,y.text,y.at_,y.fin,s3⟩) (off:=of0) (cap:=cap) h3 hpl (by rw[List.length_set];omega) hcm (by rw[List.length_set];exact hrr)
       rw[List.length_set,←bv] at h4
       have h5:Hp Z ρ (jX 24 (⟨y.kind,y.text,y.at_,y.fin,s3⟩:NdH).kids.v (x.re (p1 ts2)).kids::_) w2:=h4.get 1 rfl
       have h6:=(Hp.ndI (n:=x.re (p1 ts2)) (x:=⟨y.kind,y.text,y.at_,y.fin,s3⟩) hyw h5).kd1
       have h7:=(h6.get 4 rfl).get 1 rfl
       have h8:=(Hp.kdApp h7).get 3 rfl
       have h9:=Hp.kdApp h8
       have e7:l.take i++([⟨y.kind,y.text,y.at_,y.fin,s3⟩]++l.drop (i+1))=l.set i ⟨y.kind,y.text,y.at_,y.fin,s3⟩:=by
        rw[List.set_eq_take_append_cons_drop,if_pos hyl];rfl
       rw[e7] at h9
       refine⟨s,?_⟩
       exact(Hp.forI (h9.get 1 rfl)).get 1 rfl
      rw[List.append_assoc];exact hp
     have hk1:bW x≤k:=by have:=of_decide_eq_false hk1;omega
     refine aZ ?_
     exact⟨hk1,hE.cut ⟨rfl,rfl,rfl,rfl,rfl,trivial⟩,hp⟩
    rintro a w ⟨hkx,hE,hp⟩
    repeat (refine aG ?_)
    refine aA (S hE 2 rfl fun a hE=>?_)
    refine V hE hp rfl (v:=(Iv ((k-bW x:Nat):Int))) (dQ rfl hE rfl rfl (by rw[IntKind.wrap_i64];omega)) fun a hE=>S hE 1 rfl fun a hE=>aB ?_
    repeat (refine aG ?_)
    refine aA (V hE hp rfl (v:=(Iv ((i+1:Nat):Int))) (bF rfl hE rfl rfl (by rw[IntKind.wrap_i64];omega)) fun a hE=>?_)
    refine S hE 1 rfl fun a hE=>aB ?_
    have hcp:=yY x
    refine⟨(i+1,k-bW x),?_,?_⟩
    ·unfold Y1 at hst;simp only[hx] at hst;rw[if_neg (by omega)] at hst;exact(oj hst).symm
    refine⟨by show i+1≤_;omega,?_,by show k-bW x≤n;omega,hE.cut ⟨rfl,rfl,rfl,rfl,trivial⟩,hp⟩
    show atL (ts.take (i+1)) (ts.drop (i+1)) (k-bW x)=_
    rw[←hat,hdx,aD8,if_neg (by omega),if_neg (by omega)]
    obtain⟨h3,h4⟩:=List.getElem?_eq_some_iff.1 hx
    rw[List.take_succ_eq_append_getElem h3,h4]
   have hge:¬i<ts.length:=by simpa using hb
   refine dS ?_
   refine⟨(),?_,fun _=>⟨?_,hE.cut trivial,hp⟩⟩
   ·unfold Y1 at hst;simp only at hst;rw[List.getElem?_eq_none (by omega)] at hst;exact(oj hst).symm
   rw[←hat,List.drop_of_length_le (by omega),atL_nil]
  rintro a w ⟨hat,hE,hp⟩
  repeat (refine aG ?_)
  refine aA (S hE 3 rfl fun a hE=>?_)
  refine aB ?_
  repeat (refine aG ?_)
  refine bZ ?_
  refine ret3 hE rfl rfl rfl rfl ⟨_,rfl,?_⟩
  rw[hat]
  exact⟨rfl,(Hp.forI (hp.get 1 rfl |>.get 2 rfl |>.get 1 rfl)).get 1 rfl⟩
end Go.Proofs.YtopnldfjcciieaaGreat

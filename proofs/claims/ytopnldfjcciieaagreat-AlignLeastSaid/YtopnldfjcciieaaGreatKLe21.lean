/- align.insert, walked. (Printed by wip/c38/ins2.py.) -/
import Derived.Test.YtopnldfjcciieaaGreatKLeT
import Derived.Test.YtopnldfjcciieaaGreatKLe20
import Derived.Test.YtopnldfjcciieaaGreatKLe3
import Derived.Test.YtopnldfjcciieaaGreatKLe5
set_option linter.unusedVariables false
set_option linter.unusedSimpArgs false
set_option maxRecDepth 100000
set_option maxHeartbeats 4000000
namespace Go.Proofs.YtopnldfjcciieaaGreat
open Go.RowKit
theorem Sep.mid {X:bQ}:∀{P Q:List bQ} {ρ h:PH},Sep ρ (X::(P++Q)) h↔Sep ρ (P++(X::Q)) h
 | [],Q,ρ,h=>Iff.rfl
 |Y::P,Q,ρ,h=>⟨fun s=>Sep.cons_mono (fun ρ h=>Sep.mid.1) s.swap,fun s=>(Sep.cons_mono (fun ρ h=>Sep.mid.2) s).swap⟩
theorem Hp.mid {Z:World} {ρ:PH} {X:bQ} {P Q:List bQ} {w:World}:Hp Z ρ (X::(P++Q)) w↔Hp Z ρ (P++(X::Q)) w:=⟨fun h=>h.to Sep.mid.1,fun h=>h.to Sep.mid.2⟩
theorem c_insert {Z:World} {ρ:PH} {L:List bQ} {w:World} (bp0:Nat) (U:List Node) (s:Sl) (E:Chg) (D:Hp Z ρ (Pt bp0 (.cells #[s.v] 22 (0,0))::lH 24 s.v U::L) w) (r:Int×List Node) (K:aL9 U E=some r):
  Calls Tryz.prog 81 #[.pointer (some ⟨bp0,0,none⟩),chV E] w (Ret fun v w'=>∃s':Sl,v= .int .i64 r.1∧Hp Z ρ (Pt bp0 (.cells #[s'.v] 22 (0,0))::lH 24 s'.v r.2::L) w'):=by
 have main:(∃q,(if E.node= -1 then some (some (U,id)) else(m_at U E.node).bind fun q=>match q with
   |none=>some none
   |some (t,i,p)=>(t[i]?).map fun x=>some (x.kids,fun ks=>p (t.set i (x.re ks))):Option (Option (List Node×(List Node→List Node))))=some q∧(match q with
   |none=>some (2,U)
   |some (l,P)=>if l.length+1≤4294967296 then(match insK l E with
    |none=>some (2,U)
    |some ks=>some (0,P ks)) else none:Option (Int×List Node))=some r):=by
  unfold aL9 at K
  exact Option.bind_eq_some_iff.1 K
 clear K
 obtain⟨q0,hq0,K⟩:=main
 refine enter (N:=89) Tryz.func81 O O [(0,.pointer (some ⟨bp0,0,none⟩)),(1,chV E)] O (bH ⟨O,O,tv⟩) fun a B=>?_
 repeat (refine aG ?_)
 refine aA ?_
 refine iH (wk0 O) O O B D O (v:=chV E) O ?_
 intro a w b3 B D
 have D:Hp Z ρ (Pt b3 (.cells (chC E).toArray 58 (0,0))::Pt bp0 (.cells #[s.v] 22 (0,0))::lH 24 s.v U::L) w:=id D
 refine S B 1 O fun a B=>aB ?_
 repeat (refine aG ?_)
 refine aA (S B 2 O fun a B=>?_)
 refine aB ?_
 repeat (refine aG ?_)
 refine aA (V B D O (dJ O B O (cgF1 _ _)) fun a B=>?_)
 refine V B D O (xl B rD 0 O O O O) fun a B=>S B 1 O fun a B=>aB ?_
 repeat (refine aG ?_)
 refine aJ9 (fun a w=>∃(g o:Nat) (F:Value→Obj) (s1:Sl) (l:List Node) (P:List Node→List Node) (C:List bQ),H9 g o F∧P l=U∧l.length≤4294967296∧(if l.length+1≤4294967296 then(match insK l E with|none=>some (2,U)|some ks=>some (0,P ks)) else none:Option (Int×List Node))=some r∧(∀(s2:Sl) (ts2:List Node) (w2:World),Hp Z ρ (Pt g (F s2.v)::lH 24 s2.v ts2::(C++L)) w2→∃s3:Sl,Hp Z ρ (Pt bp0 (.cells #[s3.v] 22 (0,0))::lH 24 s3.v (P ts2)::L) w2)∧Env 89 [(3,.pointer (some ⟨b3,0,none⟩)),(5,.pointer (some ⟨g,o,none⟩))] a∧Hp Z ρ (Pt b3 (.cells (chC E).toArray 58 (0,0))::Pt g (F s1.v)::lH 24 s1.v l::(C++L)) w) ?_ ?_
 ·
  refine dK B O (fun R=>?_) (fun R=>?_)
  ·
   have hne:¬E.node= -1:=by simpa using R
   rw[if_neg hne] at hq0
   obtain⟨q,hq,hq0⟩:=bnd hq0
   obtain⟨hn0,hnode,hcl,hat⟩:=m_at_some hq
   repeat (refine aG ?_)
   refine aA (S B 1 O fun a B=>?_)
   refine V B D O (dJ O B O (cgF1 _ _)) fun a B=>V B D O (xl B rD 0 O O O O) fun a B=>?_
   have D:Hp Z ρ (Pt bp0 ((fun v=>Obj.cells #[v] 22 (0,0)) s.v)::lH 24 s.v U::Pt b3 (.cells (chC E).toArray 58 (0,0))::L) w:=D.get 1 O |>.get 2 O |>.get 1 O
   have hnn:((E.node.toNat:Nat):Int)=E.node:=by omega
   refine s_call (wk0 O) O O B O [.pointer (some ⟨bp0,0,none⟩),.int .i64 E.node] ⟨O,O,tv⟩ ndEntA (by have:=at_c (Z:=Z) (ρ:=ρ) _ U (zP _) E.node.toNat bp0 0 _ (H9.one bp0 22) s (Pt b3 (.cells (chC E).toArray 58 (0,0))::L) w (by omega) hcl D;rw[hnn] at this;exact this) Ret.ret ?_
   intro v2 a w W B
   have hP:=Ret.of W
   rw[hat] at hP
   rcases q with _|⟨t1,i1,pp⟩
   ·
    obtain rfl:=oj hq0
    obtain⟨rfl,D⟩:=hP
    refine S B 7 O fun a B=>aB ?_
    repeat (refine aG ?_)
    refine aA (S B 1 O fun a B=>?_)
    refine V B D O (v:= .bool true) (aN6 (A:=none) kr O B O O) fun a B=>aB ?_
    repeat (refine aG ?_)
    refine dK B O (fun _=>?_) (fun R=>by cases R)
    repeat (refine aG ?_)
    refine aA (S B 1 O fun a B=>?_)
    refine aB ?_
    repeat (refine aG ?_)
    refine cZ ?_
    obtain rfl:=oj K
    exact gY B O O ⟨_,O,s,O,(D.get 2 O).drop⟩
   obtain⟨g1,o1,F1,s1,l1,nb,no,C,hF1,⟨of0,cap,bv,bo⟩,hi1,rfl,hcl1,D⟩:=hP
   obtain⟨x,Y⟩:∃x,t1[i1]?=some x:=⟨_,vB hi1⟩
   have hll:=D.kdLen 2 O
   obtain⟨y,hy⟩:∃y,l1[i1]?=some y:=⟨_,vB (by omega)⟩
   have D:=D.boxOut
   simp only[Y,Option.map_some] at hq0
   obtain rfl:=oj hq0
   refine S B 7 O fun a B=>aB ?_
   repeat (refine aG ?_)
   refine aA (S B 1 O fun a B=>?_)
   refine V B D O (v:= .bool false) (aN6 (A:=some ⟨nb,no,none⟩) kr O B O O) fun a B=>aB ?_
   repeat (refine aG ?_)
   refine dK B O (fun R=>by cases R) (fun _=>?_)
   refine bI ?_
   repeat (refine aG ?_)
   refine aA (S B 2 O fun a B=>?_)
   refine V B D O (dJ O B O (tcF4 _ _)) fun a B=>S B 1 O fun a B=>aB ?_
   have hp3:Hp Z ρ (Pt g1 (F1 s1.v)::aC 24 s1.v l1::KdA 24 t1 l1::(C++(Pt b3 (.cells (chC E).toArray 58 (0,0))::L))) w:=(Hp.mid (P:=Pt g1 (F1 s1.v)::aC 24 s1.v l1::KdA 24 t1 l1::C)).1 D
   obtain⟨F2,hF2,h2,hcl2⟩:=kidFocus Y hy bv bo hp3
   obtain⟨hplug,htl⟩:=atL_plug _ U [] _ (zP _) hat
   have hset:t1.set i1 (x.re x.kids)=t1:=by
    obtain⟨h3,h4⟩:=uR.1 Y
    rw[re_kids,←h4];exact List.set_getElem_self h3
   refine⟨nb,no+4,F2,y.kids,x.kids,fun ks=>pp (t1.set i1 (x.re ks)),[Pt g1 (F1 s1.v),KdA 24 (t1.take i1) (l1.take i1),KdA 24 (t1.drop (i1+1)) (l1.drop (i1+1))]++C,hF2,?_,?_,K,?_,B.cut ⟨O,O,tv⟩,?_⟩
   ·show pp (t1.set i1 (x.re x.kids))=U
    rw[hset,hplug];rfl
   ·by_cases b:x.kids.length+1≤4294967296
    ·omega
    simp only at K
    rw[if_neg b] at K;cases K
   ·intro s2 ts2 w2 h3
    rw[vD] at h3
    exact hcl1 s1 _ w2 L (hcl2 s2 ts2 w2 _ h3)
   exact(Hp.mid (P:=Pt nb (F2 y.kids.v)::lH 24 y.kids.v x.kids::Pt g1 (F1 s1.v)::KdA 24 (t1.take i1) (l1.take i1)::KdA 24 (t1.drop (i1+1)) (l1.drop (i1+1))::C)).2 h2
  have heq:E.node= -1:=by simpa using R
  rw[if_pos heq] at hq0
  obtain rfl:=oj hq0
  refine bI ?_
  refine⟨bp0,0,(fun v=>Obj.cells #[v] 22 (0,0)),s,U,id,[],H9.one bp0 _,O,?_,K,fun s2 ts2 w2 h3=>⟨s2,h3⟩,B.cut ⟨O,O,tv⟩,D⟩
  by_cases b:U.length+1≤4294967296
  ·omega
  simp only at K
  rw[if_neg b] at K;cases K
 rintro a w ⟨g,o,F,s1,l,P,C,hF,hPl,d,K,hclose,B,D⟩
 obtain⟨hs,D⟩:=(D.get 2 O).forO
 have D:Hp Z ρ (Pt b3 (.cells (chC E).toArray 58 (0,0))::Pt g (F s1.v)::aC 24 s1.v hs::KdA 24 l hs::(C++L)) w:=((((D.get 1 O).get 1 O).get 3 O).get 3 O)
 have hhl:=D.kdLen 3 O
 cases J:decide (E.index<0) with
 |true=>
  repeat (refine aG ?_)
  refine jU kr kr D ?_
  refine Vq B O (dJ O B O (cgF2 _ _)) fun a B=>Vq B O (xl B rD 0 O O O O) fun a B=>Sq B 2 O fun a B=>Gkq B J O fun a B=>Gkq B J O fun a B=>Gkq B J O fun a B=>?_
  refine Vq B O (v:= .bool true) (jM O B O J O) fun a B=>Sq B 1 O fun a B=>Gkq B (by rfl) O fun a B=>Gkq B (by rfl) O fun a B=>Gkq B (by rfl) O fun a B=>Gkq B (by rfl) O fun a B=>Gkq B (by rfl) O fun a B=>Gkq B (by rfl) O fun a B=>Gkq B (by rfl) O fun a B=>?_
  refine Vq B O (v:= .bool true) (jM O B O O O) fun a B=>Sq B 1 O fun a B=>Gkq B (by rfl) O fun a B=>Gkq B (by rfl) O fun a B=>Gkq B (by rfl) O fun a B=>Gkq B (by rfl) O fun a B=>Gkq B (by rfl) O fun a B=>Gkq B (by rfl) O fun a B=>Gkq B (by rfl) O fun a B=>Gkq B (by rfl) O fun a B=>Gkq B (by rfl) O fun a B=>Gkq B (by rfl) O fun a B=>?_
  refine Vq B O (v:= .bool true) (jM O B O O O) fun a B=>?_
  refine jQ fun w D=>?_
  repeat (refine aG ?_)
  refine dK B O (fun _=>?_) (fun R=>by cases R)
  repeat (refine aG ?_)
  refine aA (S B 1 O fun a B=>?_)
  refine aB ?_
  repeat (refine aG ?_)
  refine cZ ?_
  have hk:insK l E=none:=by unfold insK;rw[if_pos (by simp only[decide_eq_true_eq] at*;omega)]
  rw[hk] at K
  split at K
  case isFalse=>cases K
  obtain rfl:=oj K
  obtain⟨s3,h3⟩:=hclose s1 l w ((Hp.forI (((D.drop.get 2 O).get 2 O))).get 1 O)
  rw[hPl] at h3
  exact gY B O O ⟨_,O,s3,O,h3⟩
 |false=>
  cases I:decide (E.count<0) with
  |true=>
   repeat (refine aG ?_)
   refine jU kr kr D ?_
   refine Vq B O (dJ O B O (cgF2 _ _)) fun a B=>Vq B O (xl B rD 0 O O O O) fun a B=>Sq B 2 O fun a B=>Gq B J O (dJ O B O (cgF3 _ _)) fun a B=>Gq B J O (xl B rD 0 O O O O) fun a B=>Gq B J O (aE5 O B O O) fun a B=>Vq B O (v:= .bool (decide (E.count<0))) (iV O B O J O) fun a B=>Sq B 1 O fun a B=>Gkq B I O fun a B=>Gkq B I O fun a B=>Gkq B I O fun a B=>Gkq B I O fun a B=>Gkq B I O fun a B=>Gkq B I O fun a B=>Gkq B I O fun a B=>?_
   refine Vq B O (v:= .bool true) (jM O B O I O) fun a B=>Sq B 1 O fun a B=>Gkq B (by rfl) O fun a B=>Gkq B (by rfl) O fun a B=>Gkq B (by rfl) O fun a B=>Gkq B (by rfl) O fun a B=>Gkq B (by rfl) O fun a B=>Gkq B (by rfl) O fun a B=>Gkq B (by rfl) O fun a B=>Gkq B (by rfl) O fun a B=>Gkq B (by rfl) O fun a B=>Gkq B (by rfl) O fun a B=>?_
   refine Vq B O (v:= .bool true) (jM O B O O O) fun a B=>?_
   refine jQ fun w D=>?_
   repeat (refine aG ?_)
   refine dK B O (fun _=>?_) (fun R=>by cases R)
   repeat (refine aG ?_)
   refine aA (S B 1 O fun a B=>?_)
   refine aB ?_
   repeat (refine aG ?_)
   refine cZ ?_
   have hk:insK l E=none:=by unfold insK;rw[if_pos (by simp only[decide_eq_true_eq] at*;omega)]
   rw[hk] at K
   split at K
   case isFalse=>cases K
   obtain rfl:=oj K
   obtain⟨s3,h3⟩:=hclose s1 l w ((Hp.forI (((D.drop.get 2 O).get 2 O))).get 1 O)
   rw[hPl] at h3
   exact gY B O O ⟨_,O,s3,O,h3⟩
  |false=>
   cases G:decide ((l.length:Int)<E.index) with
   |true=>
    repeat (refine aG ?_)
    refine jU kr kr D ?_
    refine Vq B O (dJ O B O (cgF2 _ _)) fun a B=>Vq B O (xl B rD 0 O O O O) fun a B=>Sq B 2 O fun a B=>Gq B J O (dJ O B O (cgF3 _ _)) fun a B=>Gq B J O (xl B rD 0 O O O O) fun a B=>Gq B J O (aE5 O B O O) fun a B=>Vq B O (v:= .bool (decide (E.count<0))) (iV O B O J O) fun a B=>Sq B 1 O fun a B=>Gq B I O (dJ O B O (cgF2 _ _)) fun a B=>Gq B I O (xl B rD 0 O O O O) fun a B=>Gq B I O (iR O B O) fun a B=>Gq B I O (ex_nil O B O) fun a B=>Gq B I O (aK O B O (fun w M=>hF.ld M 1 O)) fun a B=>Gq B I O (v:= .int .i64 (l.length:Int)) (bW O B O (by have:=aC.len D 2 O kG;rw[hhl] at this;exact this)) fun a B=>Gq B I O (ex_gtr O B O O) fun a B=>Vq B O (v:= .bool (decide ((l.length:Int)<E.index))) (iV O B O I O) fun a B=>Sq B 1 O fun a B=>Gkq B G O fun a B=>Gkq B G O fun a B=>Gkq B G O fun a B=>Gkq B G O fun a B=>Gkq B G O fun a B=>Gkq B G O fun a B=>Gkq B G O fun a B=>Gkq B G O fun a B=>Gkq B G O fun a B=>Gkq B G O fun a B=>?_
    refine Vq B O (v:= .bool true) (jM O B O G O) fun a B=>?_
    refine jQ fun w D=>?_
    repeat (refine aG ?_)
    refine dK B O (fun _=>?_) (fun R=>by cases R)
    repeat (refine aG ?_)
    refine aA (S B 1 O fun a B=>?_)
    refine aB ?_
    repeat (refine aG ?_)
    refine cZ ?_
    have hk:insK l E=none:=by unfold insK;rw[if_pos (by simp only[decide_eq_true_eq] at*;omega)]
    rw[hk] at K
    split at K
    case isFalse=>cases K
    obtain rfl:=oj K
    obtain⟨s3,h3⟩:=hclose s1 l w ((Hp.forI (((D.drop.get 2 O).get 2 O))).get 1 O)
    rw[hPl] at h3
    exact gY B O O ⟨_,O,s3,O,h3⟩
   |false=>
    cases X:decide ((l.length:Int)-E.index<E.count) with
    |true=>
     repeat (refine aG ?_)
     refine jU kr kr D ?_
     refine Vq B O (dJ O B O (cgF2 _ _)) fun a B=>Vq B O (xl B rD 0 O O O O) fun a B=>Sq B 2 O fun a B=>Gq B J O (dJ O B O (cgF3 _ _)) fun a B=>Gq B J O (xl B rD 0 O O O O) fun a B=>Gq B J O (aE5 O B O O) fun a B=>Vq B O (v:= .bool (decide (E.count<0))) (iV O B O J O) fun a B=>Sq B 1 O fun a B=>Gq B I O (dJ O B O (cgF2 _ _)) fun a B=>Gq B I O (xl B rD 0 O O O O) fun a B=>Gq B I O (iR O B O) fun a B=>Gq B I O (ex_nil O B O) fun a B=>Gq B I O (aK O B O (fun w M=>hF.ld M 1 O)) fun a B=>Gq B I O (v:= .int .i64 (l.length:Int)) (bW O B O (by have:=aC.len D 2 O kG;rw[hhl] at this;exact this)) fun a B=>Gq B I O (ex_gtr O B O O) fun a B=>Vq B O (v:= .bool (decide ((l.length:Int)<E.index))) (iV O B O I O) fun a B=>Sq B 1 O fun a B=>Gq B G O (dJ O B O (cgF3 _ _)) fun a B=>Gq B G O (xl B rD 0 O O O O) fun a B=>Gq B G O (iR O B O) fun a B=>Gq B G O (ex_nil O B O) fun a B=>Gq B G O (aK O B O (fun w M=>hF.ld M 1 O)) fun a B=>Gq B G O (v:= .int .i64 (l.length:Int)) (bW O B O (by have:=aC.len D 2 O kG;rw[hhl] at this;exact this)) fun a B=>Gq B G O (dJ O B O (cgF2 _ _)) fun a B=>Gq B G O (xl B rD 0 O O O O) fun a B=>Gq B G O (v:= .int .i64 ((l.length:Int)-E.index)) (dQ O B O O (by rw[IntKind.wrap_i64];have:=of_decide_eq_false J;have:=of_decide_eq_false G;omega)) fun a B=>Gq B G O (ex_gtr O B O O) fun a B=>Vq B O (v:= .bool (decide ((l.length:Int)-E.index<E.count))) (iV O B O G O) fun a B=>?_
     refine jQ fun w D=>?_
     repeat (refine aG ?_)
     refine dK B O (fun _=>?_) (fun R=>by rw[X] at R;cases R)
     repeat (refine aG ?_)
     refine aA (S B 1 O fun a B=>?_)
     refine aB ?_
     repeat (refine aG ?_)
     refine cZ ?_
     have hk:insK l E=none:=by unfold insK;rw[if_pos (by simp only[decide_eq_true_eq] at*;omega)]
     rw[hk] at K
     split at K
     case isFalse=>cases K
     obtain rfl:=oj K
     obtain⟨s3,h3⟩:=hclose s1 l w ((Hp.forI (((D.drop.get 2 O).get 2 O))).get 1 O)
     rw[hPl] at h3
     exact gY B O O ⟨_,O,s3,O,h3⟩
    |false=>
     repeat (refine aG ?_)
     refine jU kr kr D ?_
     refine Vq B O (dJ O B O (cgF2 _ _)) fun a B=>Vq B O (xl B rD 0 O O O O) fun a B=>Sq B 2 O fun a B=>Gq B J O (dJ O B O (cgF3 _ _)) fun a B=>Gq B J O (xl B rD 0 O O O O) fun a B=>Gq B J O (aE5 O B O O) fun a B=>Vq B O (v:= .bool (decide (E.count<0))) (iV O B O J O) fun a B=>Sq B 1 O fun a B=>Gq B I O (dJ O B O (cgF2 _ _)) fun a B=>Gq B I O (xl B rD 0 O O O O) fun a B=>Gq B I O (iR O B O) fun a B=>Gq B I O (ex_nil O B O) fun a B=>Gq B I O (aK O B O (fun w M=>hF.ld M 1 O)) fun a B=>Gq B I O (v:= .int .i64 (l.length:Int)) (bW O B O (by have:=aC.len D 2 O kG;rw[hhl] at this;exact this)) fun a B=>Gq B I O (ex_gtr O B O O) fun a B=>Vq B O (v:= .bool (decide ((l.length:Int)<E.index))) (iV O B O I O) fun a B=>Sq B 1 O fun a B=>Gq B G O (dJ O B O (cgF3 _ _)) fun a B=>Gq B G O (xl B rD 0 O O O O) fun a B=>Gq B G O (iR O B O) fun a B=>Gq B G O (ex_nil O B O) fun a B=>Gq B G O (aK O B O (fun w M=>hF.ld M 1 O)) fun a B=>Gq B G O (v:= .int .i64 (l.length:Int)) (bW O B O (by have:=aC.len D 2 O kG;rw[hhl] at this;exact this)) fun a B=>Gq B G O (dJ O B O (cgF2 _ _)) fun a B=>Gq B G O (xl B rD 0 O O O O) fun a B=>Gq B G O (v:= .int .i64 ((l.length:Int)-E.index)) (dQ O B O O (by rw[IntKind.wrap_i64];have:=of_decide_eq_false J;have:=of_decide_eq_false G;omega)) fun a B=>Gq B G O (ex_gtr O B O O) fun a B=>Vq B O (v:= .bool (decide ((l.length:Int)-E.index<E.count))) (iV O B O G O) fun a B=>?_
     refine jQ fun w D=>?_
     repeat (refine aG ?_)
     refine dK B O (fun R=>by rw[X] at R;cases R) (fun _=>?_)
     refine bI ?_
     have h0:=of_decide_eq_false J
     have h1:=of_decide_eq_false I
     have h2:=of_decide_eq_false G
     have h3:=of_decide_eq_false X
     obtain⟨ii,hii⟩:∃ii:Nat,E.index=(ii:Int):=⟨E.index.toNat,by omega⟩
     obtain⟨cc,hcc⟩:∃cc:Nat,E.count=(cc:Int):=⟨E.count.toNat,by omega⟩
     have hk:insK l E=some (l.take ii++⟨E.kind,E.text,0,0,(l.drop ii).take cc⟩::l.drop (ii+cc)):=by
      unfold insK
      rw[if_neg (by omega),hii,hcc];rfl
     rw[hk] at K
     split at K
     case isFalse=>cases K
     rename_i hlim
     obtain rfl:=oj K
     clear K
     obtain⟨xq,hxl⟩:∃xq,xq=(hs.take (ii+cc)).drop ii:=⟨_,O⟩
     have hxll:xq.length=cc:=by rw[hxl,List.length_drop,vQ];omega
     repeat (refine aG ?_)
     have D:=D.drew
     refine gK ([([],At0 Z ρ),([],At1 Z ρ (Pt b3 (.cells (chC E).toArray 58 (0,0)))),([],At1 Z ρ (Pt g (F s1.v)))]:Facts) (fun a w=>∃(b9:Nat) (s3:Sl),Env 89 [(3,.pointer (some ⟨b3,0,none⟩)),(5,.pointer (some ⟨g,o,none⟩)),(9,.pointer (some ⟨b9,0,none⟩))] a∧Hp Z ρ (Pt b3 (.cells (chC E).toArray 58 (0,0))::Pt b9 (.cells #[.int .i64 E.kind,.string E.text,.int .i64 0,.int .i64 0,s3.v] 24 (0,0))::aC 24 s3.v xq::Pt g (F s1.v)::aC 24 s1.v hs::KdA 24 l hs::(C++L)) w) kr ⟨fun _=>⟨_,D⟩,fun _=>⟨_,D⟩,fun _=>⟨_,D.get 1 O⟩,tv⟩ (fun H=>?_) ?_
     ·
      generalize w.drew=w at H D⊢
      refine T0 0 B H O O O kr (fun _=>dJ O B O (cgF4 _ _)) fun a B H=>T 1 1 B H O O O kr (fun _=>xl B rD 0 O O O O) fun a B H=>T0 2 B H O O O kr (fun _=>dJ O B O (cgF5 _ _)) fun a B H=>T 3 1 B H O O O kr (fun _=>xl B cgVS 0 O O O O) fun a B H=>Ts [4,5] B H O O kr fun a B H=>T 6 2 B H O O O kr (fun _=>aK O B O (fun w M=>hF.ld M 0 O)) fun a B H=>T0 7 B H O O O kr (fun _=>dJ O B O (cgF2 _ _)) fun a B H=>T 8 1 B H O O O kr (v:= .int .i64 (ii:Int)) (fun _=>by rw[←hii];exact aK O B O (fun w M=>aZ rD (Hp.c 0 O 2 O w M))) fun a B H=>T0 9 B H O O O kr (fun _=>dJ O B O (cgF2 _ _)) fun a B H=>T 10 1 B H O O O kr (v:= .int .i64 (ii:Int)) (fun _=>by rw[←hii];exact aK O B O (fun w M=>aZ rD (Hp.c 0 O 2 O w M))) fun a B H=>T0 11 B H O O O kr (fun _=>dJ O B O (cgF3 _ _)) fun a B H=>T 12 1 B H O O O kr (v:= .int .i64 (cc:Int)) (fun _=>by rw[←hcc];exact aK O B O (fun w M=>aZ rD (Hp.c 0 O 3 O w M))) fun a B H=>T0 13 B H O O O kr (v:=(Iv ((ii+cc:Nat):Int))) (fun _=>bF O B O O (by rw[IntKind.wrap_i64];omega)) fun a B H=>?_
      obtain⟨nv,nvr,nvf⟩:=aC.viewF D 2 O kG (some (.i64,(ii:Int))) (some (.i64,((ii+cc:Nat):Int))) (i:=(ii:Int)) (j:=((ii+cc:Nat):Int)) O O (r:=xq) (by unfold sub;rw[if_pos (by omega),hxl,xL,xL])
      refine T0 14 B H O O O kr (v:=nv) (fun _=>rX O B O (some (.i64,(ii:Int))) (some (.i64,((ii+cc:Nat):Int))) (by exact O) (by exact O) nvr) fun a B H=>?_
      refine fQ [15,17] kr O ?_
      refine uE.2 ⟨?_,uE.2 ⟨?_,fun _ h=>absurd h (by simp)⟩⟩
      ·refine dV O ?_
       obtain⟨kk,kka,kkd,hpk⟩:=(D.get 2 O).lend
       refine s_call (wk0 O) O O B O [nv] ⟨O,tv⟩ ndEntC (c_cloneN xq nv (nvf _ _ kkd kka) (by omega) hpk) Ret.ret ?_
       intro v15 a w W B
       have D:=Hp.back kka kkd (Ret.of W)
       obtain⟨s3,rfl⟩:=aC.toSl D 1 O
       have D:Hp Z ρ (Pt b3 (.cells (chC E).toArray 58 (0,0))::Pt g (F s1.v)::aC 24 s1.v hs::aC 24 s3.v xq::KdA 24 l hs::(C++L)) w:=((((D.get 1 O).get 1 O).get 3 O).get 3 O)
       refine aB (aF ⟨gp0 D,fun _=>⟨_,D⟩,fun _=>⟨_,D.get 1 O⟩,tv⟩ fun H=>?_)
       refine T0 16 B H O O O kr (v:= .agg #[.int .i64 E.kind,.string E.text,.int .i64 0,.int .i64 0,s3.v]) (fun _=>oD O B [(0,.int .i64 E.kind),(1,.string E.text),(4,s3.v)] (by exact⟨⟨O,O⟩,⟨O,O⟩,⟨O,O⟩,tv⟩) (fun w=>by have Q:=Sl.cells s3;simp only[Value.cells] at Q;simp[Instr.build,Instr.fill,Value.cells,Q,go_sem]<;>rfl)) fun a B H=>?_
       refine W1 17 kr O ?_
       refine dF (wk0 O) O O B D O [(Iv 0),(.string ByteArray.empty),(Iv 0),(Iv 0),N0] (fun w=>by simp[Instr.alloc,go_sem]<;>rfl) ?_
       intro a w b9 B D
       have D:Hp Z ρ (Pt b3 (.cells (chC E).toArray 58 (0,0))::Pt b9 (.cells #[.int .i64 0,.string ByteArray.empty,.int .i64 0,.int .i64 0,.slice none 0 0] 24 (0,0))::aC 24 s3.v xq::Pt g (F s1.v)::aC 24 s1.v hs::KdA 24 l hs::(C++L)) w:=(((((D.get 3 O).get 3 O).get 4 O).get 3 O).get 4 O)
       refine aB (aF ⟨gp0 D,fun _=>⟨_,D⟩,fun _=>⟨_,D.get 3 O⟩,tv⟩ fun H=>?_)
       refine W1 18 kr O ?_
       refine aV (wk0 O) O B D O O (v:= .agg #[.int .i64 E.kind,.string E.text,.int .i64 0,.int .i64 0,s3.v]) O 1 O (by exact tcVN.size_) O (by
        have h1:=Sl.one s3
        intro u hu
        simp[Value.cells] at hu
        rcases hu with rfl|rfl|rfl|rfl|rfl<;>first|rfl|exact h1) [.int .i64 E.kind,.string E.text,.int .i64 0,.int .i64 0,s3.v] (by simp[Value.cells]) ?_
       intro w D
       have D:Hp Z ρ (Pt b3 (.cells (chC E).toArray 58 (0,0))::Pt b9 (.cells #[.int .i64 E.kind,.string E.text,.int .i64 0,.int .i64 0,s3.v] 24 (0,0))::aC 24 s3.v xq::Pt g (F s1.v)::aC 24 s1.v hs::KdA 24 l hs::(C++L)) w:=id D
       refine aB (aF ⟨gp0 D,fun _=>⟨_,D⟩,fun _=>⟨_,D.get 3 O⟩,tv⟩ fun H=>?_)
       exact bT kr ⟨b9,s3,B.cut ⟨O,O,O,tv⟩,D⟩
      refine dV O ?_
      refine dF (wk0 O) O O B D O [(Iv 0),(.string ByteArray.empty),(Iv 0),(Iv 0),N0] (fun w=>by simp[Instr.alloc,go_sem]<;>rfl) ?_
      intro a w b9 B D
      have D:Hp Z ρ (Pt b3 (.cells (chC E).toArray 58 (0,0))::Pt b9 (.cells #[.int .i64 0,.string ByteArray.empty,.int .i64 0,.int .i64 0,.slice none 0 0] 24 (0,0))::Pt g (F s1.v)::aC 24 s1.v hs::KdA 24 l hs::(C++L)) w:=((((D.get 3 O).get 3 O).get 2 O).get 3 O)
      refine aB (aF ⟨gp0 D,fun _=>⟨_,D⟩,fun _=>⟨_,D.get 2 O⟩,tv⟩ fun H=>?_)
      refine W1 15 kr O ?_
      obtain⟨kk,kka,kkd,hpk⟩:=(D.get 3 O).lend
      refine s_call (wk0 O) O O B O [nv] ⟨O,tv⟩ ndEntC (c_cloneN xq nv (nvf _ _ kkd kka) (by omega) hpk) Ret.ret ?_
      intro v15 a w W B
      have D:=Hp.back kka kkd (Ret.of W)
      obtain⟨s3,rfl⟩:=aC.toSl D 1 O
      have D:Hp Z ρ (Pt b3 (.cells (chC E).toArray 58 (0,0))::Pt b9 (.cells #[.int .i64 0,.string ByteArray.empty,.int .i64 0,.int .i64 0,.slice none 0 0] 24 (0,0))::aC 24 s3.v xq::Pt g (F s1.v)::aC 24 s1.v hs::KdA 24 l hs::(C++L)) w:=((((D.get 4 O).get 2 O).get 4 O).get 4 O)
      refine aB (aF ⟨gp0 D,fun _=>⟨_,D⟩,fun _=>⟨_,D.get 3 O⟩,tv⟩ fun H=>?_)
      refine T0 16 B H O O O kr (v:= .agg #[.int .i64 E.kind,.string E.text,.int .i64 0,.int .i64 0,s3.v]) (fun _=>oD O B [(0,.int .i64 E.kind),(1,.string E.text),(4,s3.v)] (by exact⟨⟨O,O⟩,⟨O,O⟩,⟨O,O⟩,tv⟩) (fun w=>by have Q:=Sl.cells s3;simp only[Value.cells] at Q;simp[Instr.build,Instr.fill,Value.cells,Q,go_sem]<;>rfl)) fun a B H=>?_
      refine W1 18 kr O ?_
      refine aV (wk0 O) O B D O O (v:= .agg #[.int .i64 E.kind,.string E.text,.int .i64 0,.int .i64 0,s3.v]) O 1 O (by exact tcVN.size_) O (by
       have h1:=Sl.one s3
       intro u hu
       simp[Value.cells] at hu
       rcases hu with rfl|rfl|rfl|rfl|rfl<;>first|rfl|exact h1) [.int .i64 E.kind,.string E.text,.int .i64 0,.int .i64 0,s3.v] (by simp[Value.cells]) ?_
      intro w D
      have D:Hp Z ρ (Pt b3 (.cells (chC E).toArray 58 (0,0))::Pt b9 (.cells #[.int .i64 E.kind,.string E.text,.int .i64 0,.int .i64 0,s3.v] 24 (0,0))::aC 24 s3.v xq::Pt g (F s1.v)::aC 24 s1.v hs::KdA 24 l hs::(C++L)) w:=id D
      refine aB (aF ⟨gp0 D,fun _=>⟨_,D⟩,fun _=>⟨_,D.get 3 O⟩,tv⟩ fun H=>?_)
      exact bT kr ⟨b9,s3,B.cut ⟨O,O,O,tv⟩,D⟩
     rintro a w ⟨b9,s3,B,D⟩
     repeat (refine aG ?_)
     have D:=D.drew
     refine gK ([([],At0 Z ρ),([],At1 Z ρ (Pt b3 (.cells (chC E).toArray 58 (0,0)))),([16],At1 Z ρ (Pt g (F s1.v))),([],At1 Z ρ (Pt b9 (.cells #[.int .i64 E.kind,.string E.text,.int .i64 0,.int .i64 0,s3.v] 24 (0,0))))]:Facts) (fun a w=>∃s4:Sl,Env 89 [] a∧Hp Z ρ (Pt g (F s4.v)::aC 24 s4.v (hs.take ii++[(⟨E.kind,E.text,0,0,s3⟩:NdH)]++hs.drop (ii+cc))::aC 24 s3.v xq::KdA 24 l hs::(C++L)) w) kr ⟨fun _=>⟨_,D⟩,fun _=>⟨_,D⟩,fun _=>⟨_,D.get 3 O⟩,fun _=>⟨_,D.get 1 O⟩,tv⟩ (fun H=>?_) ?_
     ·
      generalize w.drew=w at H D⊢
      refine Ts [0,1,2] B H O O kr fun a B H=>T 3 2 B H O O O kr (fun _=>aK O B O (fun w M=>hF.ld M 0 O)) fun a B H=>T0 5 B H O O O kr (fun _=>dJ O B O (cgF2 _ _)) fun a B H=>T 6 1 B H O O O kr (v:= .int .i64 (ii:Int)) (fun _=>by rw[←hii];exact aK O B O (fun w M=>aZ rD (Hp.c 0 O 2 O w M))) fun a B H=>T0 7 B H O O O kr (fun _=>dJ O B O (cgF2 _ _)) fun a B H=>T 8 1 B H O O O kr (v:= .int .i64 (ii:Int)) (fun _=>by rw[←hii];exact aK O B O (fun w M=>aZ rD (Hp.c 0 O 2 O w M))) fun a B H=>T0 9 B H O O O kr (fun _=>dJ O B O (cgF3 _ _)) fun a B H=>T 10 1 B H O O O kr (v:= .int .i64 (cc:Int)) (fun _=>by rw[←hcc];exact aK O B O (fun w M=>aZ rD (Hp.c 0 O 3 O w M))) fun a B H=>T0 11 B H O O O kr (v:=(Iv ((ii+cc:Nat):Int))) (fun _=>bF O B O O (by rw[IntKind.wrap_i64];omega)) fun a B H=>T 12 3 B H O O O kr (fun _=>aK O B O (fun w M=>aX (cs:=Enc.enc (⟨E.kind,E.text,0,0,s3⟩:NdH)) tcVN (Hp.cN 0 O 0 _ (aS O) w M))) fun a B H=>?_
      refine fQ [4,13] kr O ?_
      refine uE.2 ⟨?_,uE.2 ⟨?_,fun _ h=>absurd h (by simp)⟩⟩
      ·refine dV O ?_
       have D:Hp Z ρ (aC 24 s1.v hs::_) w:=D.get 4 O
       refine s_call (wk0 O) O O B O [s1.v] ⟨O,tv⟩ ndEntC (c_cloneO hs s1.v (by omega) D) Ret.ret ?_
       intro v4 a w W B
       have D:=Ret.of W
       have D:Hp Z ρ (aC 24 v4 hs::Pt b3 (.cells (chC E).toArray 58 (0,0))::Pt b9 (.cells #[.int .i64 E.kind,.string E.text,.int .i64 0,.int .i64 0,s3.v] 24 (0,0))::aC 24 s3.v xq::Pt g (F s1.v)::aC 24 s1.v hs::KdA 24 l hs::(C++L)) w:=((((((D.get 1 O).get 5 O).get 5 O).get 5 O).get 5 O).get 5 O)
       refine aB (aF ⟨gp0 D,fun _=>⟨_,D.get 1 O⟩,fun _=>⟨_,D.get 4 O⟩,fun _=>⟨_,D.get 2 O⟩,tv⟩ fun H=>?_)
       refine W1 13 kr O ?_
       refine fU (wk0 O) O O B D O [(0,ndV (⟨E.kind,E.text,0,0,s3⟩:NdH))] ⟨⟨O,O⟩,tv⟩ (Enc.enc (⟨E.kind,E.text,0,0,s3⟩:NdH)) 24 (fun w=>by have Q:=Sl.cells s3;simp only[Value.cells] at Q;simp[Instr.buildSlice,Instr.fill,Value.cells,Q,Enc.enc,go_sem]) ?_
       intro a w b13 B D
       have D:=D.imp (uJ (l:=[(⟨E.kind,E.text,0,0,s3⟩:NdH)]) (n:=1) O (by decide) (by simp[flat]))
       have D:Hp Z ρ (aC 24 v4 hs::aC 24 (.slice (some ⟨b13,0,none⟩) 1 1) [(⟨E.kind,E.text,0,0,s3⟩:NdH)]::Pt b3 (.cells (chC E).toArray 58 (0,0))::Pt b9 (.cells #[.int .i64 E.kind,.string E.text,.int .i64 0,.int .i64 0,s3.v] 24 (0,0))::aC 24 s3.v xq::Pt g (F s1.v)::aC 24 s1.v hs::KdA 24 l hs::(C++L)) w:=(((((((D.get 6 O).get 6 O).get 6 O).get 6 O).get 6 O).get 5 O).get 6 O)
       refine aB (aF ⟨gp0 D,fun _=>⟨_,D.get 2 O⟩,fun _=>⟨_,D.get 5 O⟩,fun _=>⟨_,D.get 3 O⟩,tv⟩ fun H=>?_)
       refine W1 14 kr O ?_
       refine s_call (wk0 O) O O B O [v4,(Iv (ii:Int)),(Iv ((ii+cc:Nat):Int)),.slice (some ⟨b13,0,none⟩) 1 1] ⟨O,O,O,O,tv⟩ ndEntR (aQ0 v4 _ hs [(⟨E.kind,E.text,0,0,s3⟩:NdH)] ii (ii+cc) (by omega) (by omega) (by simp only[List.length_singleton];omega) D) Ret.ret ?_
       intro v5 a w W B
       have D:=Ret.of W
       obtain⟨s4,rfl⟩:=aC.toSl D 0 O
       have D:Hp Z ρ (Pt g (F s1.v)::aC 24 s4.v (hs.take ii++[(⟨E.kind,E.text,0,0,s3⟩:NdH)]++hs.drop (ii+cc))::aC 24 (.slice (some ⟨b13,0,none⟩) 1 1) [(⟨E.kind,E.text,0,0,s3⟩:NdH)]::Pt b3 (.cells (chC E).toArray 58 (0,0))::Pt b9 (.cells #[.int .i64 E.kind,.string E.text,.int .i64 0,.int .i64 0,s3.v] 24 (0,0))::aC 24 s3.v xq::aC 24 s1.v hs::KdA 24 l hs::(C++L)) w:=(((((((D.get 6 O).get 5 O).get 5 O).get 5 O).get 5 O).get 5 O).get 6 O)
       refine aB (aF ⟨gp0 D,fun _=>⟨_,D.get 3 O⟩,fun _=>⟨_,D⟩,fun _=>⟨_,D.get 4 O⟩,tv⟩ fun H=>?_)
       refine Ts [15] B H O O kr fun a B H=>?_
       refine W1 16 kr O ?_
       refine s_stF (wk0 O) O B D O O O hF 0 O tcVS.size_ ?_
       intro w D
       have D:Hp Z ρ (Pt g (F s4.v)::aC 24 s4.v (hs.take ii++[(⟨E.kind,E.text,0,0,s3⟩:NdH)]++hs.drop (ii+cc))::aC 24 (.slice (some ⟨b13,0,none⟩) 1 1) [(⟨E.kind,E.text,0,0,s3⟩:NdH)]::Pt b3 (.cells (chC E).toArray 58 (0,0))::Pt b9 (.cells #[.int .i64 E.kind,.string E.text,.int .i64 0,.int .i64 0,s3.v] 24 (0,0))::aC 24 s3.v xq::aC 24 s1.v hs::KdA 24 l hs::(C++L)) w:=id D
       refine aB (aF ⟨gp0 D,fun _=>⟨_,D.get 3 O⟩,dead kr,fun _=>⟨_,D.get 4 O⟩,tv⟩ fun H=>?_)
       have D:=(((((D.get 2 O).drop).get 2 O).drop).get 2 O).drop
       exact bT kr ⟨s4,B.cut trivial,((((D.get 3 O).drop.get 2 O).get 2 O).get 2 O)⟩
      refine dV O ?_
      refine fU (wk0 O) O O B D O [(0,ndV (⟨E.kind,E.text,0,0,s3⟩:NdH))] ⟨⟨O,O⟩,tv⟩ (Enc.enc (⟨E.kind,E.text,0,0,s3⟩:NdH)) 24 (fun w=>by have Q:=Sl.cells s3;simp only[Value.cells] at Q;simp[Instr.buildSlice,Instr.fill,Value.cells,Q,Enc.enc,go_sem]) ?_
      intro a w b13 B D
      have D:=D.imp (uJ (l:=[(⟨E.kind,E.text,0,0,s3⟩:NdH)]) (n:=1) O (by decide) (by simp[flat]))
      refine aB (aF ⟨gp0 D,fun _=>⟨_,D.get 1 O⟩,fun _=>⟨_,D.get 4 O⟩,fun _=>⟨_,D.get 2 O⟩,tv⟩ fun H=>?_)
      refine W1 4 kr O ?_
      have D:Hp Z ρ (aC 24 s1.v hs::_) w:=D.get 5 O
      refine s_call (wk0 O) O O B O [s1.v] ⟨O,tv⟩ ndEntC (c_cloneO hs s1.v (by omega) D) Ret.ret ?_
      intro v4 a w W B
      have D:=Ret.of W
      have D:Hp Z ρ (aC 24 v4 hs::aC 24 (.slice (some ⟨b13,0,none⟩) 1 1) [(⟨E.kind,E.text,0,0,s3⟩:NdH)]::Pt b3 (.cells (chC E).toArray 58 (0,0))::Pt b9 (.cells #[.int .i64 E.kind,.string E.text,.int .i64 0,.int .i64 0,s3.v] 24 (0,0))::aC 24 s3.v xq::Pt g (F s1.v)::aC 24 s1.v hs::KdA 24 l hs::(C++L)) w:=(((((((D.get 1 O).get 6 O).get 6 O).get 6 O).get 6 O).get 6 O).get 6 O)
      refine aB (aF ⟨gp0 D,fun _=>⟨_,D.get 2 O⟩,fun _=>⟨_,D.get 5 O⟩,fun _=>⟨_,D.get 3 O⟩,tv⟩ fun H=>?_)
      refine W1 14 kr O ?_
      refine s_call (wk0 O) O O B O [v4,(Iv (ii:Int)),(Iv ((ii+cc:Nat):Int)),.slice (some ⟨b13,0,none⟩) 1 1] ⟨O,O,O,O,tv⟩ ndEntR (aQ0 v4 _ hs [(⟨E.kind,E.text,0,0,s3⟩:NdH)] ii (ii+cc) (by omega) (by omega) (by simp only[List.length_singleton];omega) D) Ret.ret ?_
      intro v5 a w W B
      have D:=Ret.of W
      obtain⟨s4,rfl⟩:=aC.toSl D 0 O
      have D:Hp Z ρ (Pt g (F s1.v)::aC 24 s4.v (hs.take ii++[(⟨E.kind,E.text,0,0,s3⟩:NdH)]++hs.drop (ii+cc))::aC 24 (.slice (some ⟨b13,0,none⟩) 1 1) [(⟨E.kind,E.text,0,0,s3⟩:NdH)]::Pt b3 (.cells (chC E).toArray 58 (0,0))::Pt b9 (.cells #[.int .i64 E.kind,.string E.text,.int .i64 0,.int .i64 0,s3.v] 24 (0,0))::aC 24 s3.v xq::aC 24 s1.v hs::KdA 24 l hs::(C++L)) w:=(((((((D.get 6 O).get 5 O).get 5 O).get 5 O).get 5 O).get 5 O).get 6 O)
      refine aB (aF ⟨gp0 D,fun _=>⟨_,D.get 3 O⟩,fun _=>⟨_,D⟩,fun _=>⟨_,D.get 4 O⟩,tv⟩ fun H=>?_)
      refine Ts [15] B H O O kr fun a B H=>?_
      refine W1 16 kr O ?_
      refine s_stF (wk0 O) O B D O O O hF 0 O tcVS.size_ ?_
      intro w D
      have D:Hp Z ρ (Pt g (F s4.v)::aC 24 s4.v (hs.take ii++[(⟨E.kind,E.text,0,0,s3⟩:NdH)]++hs.drop (ii+cc))::aC 24 (.slice (some ⟨b13,0,none⟩) 1 1) [(⟨E.kind,E.text,0,0,s3⟩:NdH)]::Pt b3 (.cells (chC E).toArray 58 (0,0))::Pt b9 (.cells #[.int .i64 E.kind,.string E.text,.int .i64 0,.int .i64 0,s3.v] 24 (0,0))::aC 24 s3.v xq::aC 24 s1.v hs::KdA 24 l hs::(C++L)) w:=id D
      refine aB (aF ⟨gp0 D,fun _=>⟨_,D.get 3 O⟩,dead kr,fun _=>⟨_,D.get 4 O⟩,tv⟩ fun H=>?_)
      have D:=(((((D.get 2 O).drop).get 2 O).drop).get 2 O).drop
      exact bT kr ⟨s4,B.cut trivial,((((D.get 3 O).drop.get 2 O).get 2 O).get 2 O)⟩
     rintro a w ⟨s4,B,D⟩
     repeat (refine aG ?_)
     refine aA (S B 1 O fun a B=>?_)
     refine aB ?_
     repeat (refine aG ?_)
     refine cZ ?_
     have e0:l=l.take ii++((l.drop ii).take cc++l.drop (ii+cc)):=by
      rw[←List.drop_drop,zR,zR]
     have t1l:(l.take ii).length=ii:=by rw[vQ];omega
     have t2l:((l.drop ii).take cc).length=cc:=by rw[vQ,List.length_drop];omega
     have k0:Hp Z ρ (KdA 24 (l.take ii++((l.drop ii).take cc++l.drop (ii+cc))) hs::Pt g (F s4.v)::aC 24 s4.v (hs.take ii++[(⟨E.kind,E.text,0,0,s3⟩:NdH)]++hs.drop (ii+cc))::aC 24 s3.v xq::(C++L)) w:=by rw[←e0];exact D.get 3 O
     have k1:=k0.kdSplit
     rw[t1l] at k1
     have k2:=(k1.get 1 O).kdSplit
     rw[t2l] at k2
     have e1:(hs.drop ii).take cc=xq:=by rw[hxl,List.drop_take];congr 1;omega
     rw[e1,List.drop_drop] at k2
     have k3:Hp Z ρ (aC 24 (⟨E.kind,E.text,0,0,s3⟩:NdH).kids.v xq::KdA 24 ((l.drop ii).take cc) xq::KdA 24 (l.drop (ii+cc)) (hs.drop (ii+cc))::KdA 24 (l.take ii) (hs.take ii)::Pt g (F s4.v)::aC 24 s4.v (hs.take ii++[(⟨E.kind,E.text,0,0,s3⟩:NdH)]++hs.drop (ii+cc))::(C++L)) w:=k2.get 5 O
     have k4:=(Hp.ndI (n:=⟨E.kind,E.text,0,0,(l.drop ii).take cc⟩) (x:=(⟨E.kind,E.text,0,0,s3⟩:NdH)) ⟨O,O,O,O⟩ k3.forI).kd1
     have k5:=Hp.kdApp (k4.get 2 O)
     have k6:=Hp.kdApp k5
     obtain⟨s5,k7⟩:=hclose s4 _ w ((Hp.forI (k6.get 2 O)).get 1 O)
     exact gY B O O ⟨_,O,s5,O,by simpa using k7⟩
noncomputable def xW (A:Chg):Option Bool:=
 some ((decide (A.index=0))&&(decide (A.count=0)))
noncomputable def xX (A:Chg):Option Bool:=
 some ((decide (A.op=A.op))&&(decide (A.node=A.node))&&(decide (A.index=0))&&(decide (A.count=0))&&(decide (A.kind=0))&&(decide (A.text=ByteArray.empty)))
noncomputable def xY (p0:Chg):Option Bool:=
 some true
theorem aQ8 {Z:World} {ρ:PH} {L:List bQ} {w:World} (B:Chg) (D:Hp Z ρ (L) w) (r:Bool) (E:xW B=some r):
  Calls Tryz.prog 76 #[(.agg #[(Iv B.op),(Iv B.node),(Iv B.index),(Iv B.count),(Iv B.kind),(.string B.text)])] w (Ret fun v w'=>v=(.bool r)∧Hp Z ρ (L) w'):=by
 refine enter (N:=11) Tryz.func76 O O [(0,(.agg #[(Iv B.op),(Iv B.node),(Iv B.index),(Iv B.count),(Iv B.kind),(.string B.text)]))] O (bH ⟨O,tv⟩) fun a A=>?_
 unfold xW at E
 refine aG (aA ?_)
 refine iH (wk0 O) O O A D O (v:=(.agg #[(Iv B.op),(Iv B.node),(Iv B.index),(Iv B.count),(Iv B.kind),(.string B.text)])) O ?_
 intro a w b1 A D
 have D:=r1 D
 refine S A 1 O fun a A=>aB (aG ?_)
 refine aA (V A D O (xf A fldty58_2 O O) fun a A=>?_)
 refine V A D O (xl A aW 0 O O O O) fun a A=>S A 2 O fun a A=>?_
 refine jI [_,_,_,_] (fun a w=>Env 11 [(10,(.bool ((decide (B.index=0))&&(decide (B.count=0)))))] a∧Hp Z ρ (Pt b1 (.cells #[(Iv B.op),(Iv B.node),(Iv B.index),(Iv B.count),(Iv B.kind),(.string B.text)] 58 (0,0))::L) w) ?_ ?_
 ·rcases vA (decide (B.index=0)) with C|C
  ·
   refine G A D C O (xf A fldty58_3 O O) fun a A=>G A D C O (xl A aW 0 O O O O) fun a A=>Gs A C O O fun a A=>pk1 A C O O O O fun a A=>?_
   have A:=A.eqv (v':=(.bool ((decide (B.index=0))&&(decide (B.count=0))))) (by rw[C];rfl)
   exact aB ⟨A.cut ⟨O,tv⟩,D⟩
  refine Gk A C O fun a A=>Gk A C O fun a A=>Gk A C O fun a A=>pk0 A C O O O O fun a A=>?_
  have A:=A.eqv (v':=(.bool ((decide (B.index=0))&&(decide (B.count=0))))) (by rw[C];rfl)
  exact aB ⟨A.cut ⟨O,tv⟩,D⟩
 rintro a w ⟨A,D⟩
 refine S A 1 O fun a A=>aB (cZ ?_)
 obtain rfl:=oj E
 exact gY A O O ⟨_,O,O,(D.drop)⟩
theorem aQ9 {Z:World} {ρ:PH} {L:List bQ} {w:World} (A:Chg) (C:Hp Z ρ (L) w) (r:Bool) (D:xX A=some r):
  Calls Tryz.prog 78 #[(.agg #[(Iv A.op),(Iv A.node),(Iv A.index),(Iv A.count),(Iv A.kind),(.string A.text)])] w (Ret fun v w'=>v=(.bool r)∧Hp Z ρ (L) w'):=by
 refine enter (N:=10) Tryz.func78 O O [(0,(.agg #[(Iv A.op),(Iv A.node),(Iv A.index),(Iv A.count),(Iv A.kind),(.string A.text)]))] O (bH ⟨O,tv⟩) fun a B=>?_
 unfold xX at D
 refine aG (aA ?_)
 refine iH (wk0 O) O O B C O (v:=(.agg #[(Iv A.op),(Iv A.node),(Iv A.index),(Iv A.count),(Iv A.kind),(.string A.text)])) O ?_
 intro a w b1 B C
 have C:=r1 C
 refine S B 1 O fun a B=>aB (aG ?_)
 refine aA (V B C O (aK O B O (fun w E=>aX (cs:=[(Iv A.op),(Iv A.node),(Iv A.index),(Iv A.count),(Iv A.kind),(.string A.text)]) H7 (Hp.cN 0 O 0 _ (aS O) w E))) fun a B=>?_)
 refine V B C O (xf B fldty58_0 O O) fun a B=>V B C O (xl B aW 0 O O O O) fun a B=>V B C O (xf B aF7 O O) fun a B=>V B C O (xl B aW 0 O O O O) fun a B=>V B C O (v:=(.agg #[(Iv A.op),(Iv A.node),(Iv 0),(Iv 0),(Iv 0),(.string ByteArray.empty)])) (oD O B [(0,(Iv A.op)),(1,(Iv A.node))] (by exact⟨⟨O,O⟩,⟨O,O⟩,tv⟩) (fun w=>by simp[Instr.build,Instr.fill,Value.cells,go_sem]<;>rfl)) fun a B=>V B C O (v:=(.bool ((decide (A.op=A.op))&&(decide (A.node=A.node))&&(decide (A.index=0))&&(decide (A.count=0))&&(decide (A.kind=0))&&(decide (A.text=ByteArray.empty))))) (ex_steql (eqst58 A.op A.node A.index A.count A.kind A.text A.op A.node 0 0 0 ByteArray.empty) O B O O) fun a B=>S B 1 O fun a B=>aB (cZ ?_)
 obtain rfl:=oj D
 exact gY B O O ⟨_,O,O,(C.drop)⟩
theorem aR0 {Z:World} {ρ:PH} {L:List bQ} {w:World} (A:Chg) (C:Hp Z ρ (L) w) (r:Bool) (D:xY A=some r):
  Calls Tryz.prog 80 #[(.agg #[(Iv A.op),(Iv A.node),(Iv A.index),(Iv A.count),(Iv A.kind),(.string A.text)])] w (Ret fun v w'=>v=(.bool r)∧Hp Z ρ (L) w'):=by
 refine enter (N:=3) Tryz.func80 O O [(0,(.agg #[(Iv A.op),(Iv A.node),(Iv A.index),(Iv A.count),(Iv A.kind),(.string A.text)]))] O (bH ⟨O,tv⟩) fun a B=>?_
 unfold xY at D
 refine aG (aA ?_)
 refine iH (wk0 O) O O B C O (v:=(.agg #[(Iv A.op),(Iv A.node),(Iv A.index),(Iv A.count),(Iv A.kind),(.string A.text)])) O ?_
 intro a w b1 B C
 have C:=r1 C
 refine S B 1 O fun a B=>aB (aG ?_)
 refine aA (S B 1 O fun a B=>?_)
 refine aB (cZ ?_)
 obtain rfl:=oj D
 exact gY B O O ⟨_,O,O,(C.drop)⟩
end Go.Proofs.YtopnldfjcciieaaGreat

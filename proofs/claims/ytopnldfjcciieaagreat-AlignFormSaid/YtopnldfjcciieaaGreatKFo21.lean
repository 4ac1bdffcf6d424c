/- align.insert, walked. (Printed by wip/c38/ins2.py.) -/
import Derived.Test.YtopnldfjcciieaaGreatKFoT
import Derived.Test.YtopnldfjcciieaaGreatKFo20
import Derived.Test.YtopnldfjcciieaaGreatKFo3
import Derived.Test.YtopnldfjcciieaaGreatKFo5
set_option linter.unusedVariables false
set_option linter.unusedSimpArgs false
set_option maxRecDepth 100000
set_option maxHeartbeats 4000000
namespace Go.Proofs.YtopnldfjcciieaaGreat
open Go.RowKit
theorem Sep.mid {X:bK}:∀{P Q:List bK} {ρ h:PH},Sep ρ (X::(P++Q)) h↔Sep ρ (P++(X::Q)) h
 | [],Q,ρ,h=>Iff.rfl
 |Y::P,Q,ρ,h=>⟨fun s=>Sep.cons_mono (fun ρ h=>Sep.mid.1) s.swap,fun s=>(Sep.cons_mono (fun ρ h=>Sep.mid.2) s).swap⟩
theorem Hp.mid {Z:World} {ρ:PH} {X:bK} {P Q:List bK} {w:World}:Hp Z ρ (X::(P++Q)) w↔Hp Z ρ (P++(X::Q)) w:=⟨fun h=>h.to Sep.mid.1,fun h=>h.to Sep.mid.2⟩
theorem c_insert {Z:World} {ρ:PH} {L:List bK} {w:World} (bp0:Nat) (p0:List Node) (s:Sl) (p1:Chg) (hp:Hp Z ρ (Pt bp0 (.cells #[s.v] 22 (0,0))::jX 24 s.v p0::L) w) (r:Int×List Node) (hm:aF0 p0 p1=some r):
  Calls Tryz.prog 81 #[.pointer (some ⟨bp0,0,none⟩),chV p1] w (Ret fun v w'=>∃s':Sl,v= .int .i64 r.1∧Hp Z ρ (Pt bp0 (.cells #[s'.v] 22 (0,0))::jX 24 s'.v r.2::L) w'):=by
 have main:(∃q,(if p1.node= -1 then some (some (p0,id)) else(m_at p0 p1.node).bind fun q=>match q with
   |none=>some none
   |some (t,i,p)=>(t[i]?).map fun x=>some (x.kids,fun ks=>p (t.set i (x.re ks))):Option (Option (List Node×(List Node→List Node))))=some q∧(match q with
   |none=>some (2,p0)
   |some (l,P)=>if l.length+1≤4294967296 then(match insK l p1 with
    |none=>some (2,p0)
    |some ks=>some (0,P ks)) else none:Option (Int×List Node))=some r):=by
  unfold aF0 at hm
  exact Option.bind_eq_some_iff.1 hm
 clear hm
 obtain⟨q0,hq0,hm⟩:=main
 refine enter (N:=89) Tryz.func81 rfl rfl [(0,.pointer (some ⟨bp0,0,none⟩)),(1,chV p1)] rfl (bC ⟨rfl,rfl,trivial⟩) fun a hE=>?_
 repeat (refine aG ?_)
 refine aA ?_
 refine iI (wk0 rfl) rfl rfl hE hp rfl (v:=chV p1) rfl ?_
 intro a w b3 hE hp
 have hp:Hp Z ρ (Pt b3 (.cells (chC p1).toArray 58 (0,0))::Pt bp0 (.cells #[s.v] 22 (0,0))::jX 24 s.v p0::L) w:=id hp
 refine S hE 1 rfl fun a hE=>aB ?_
 repeat (refine aG ?_)
 refine aA (S hE 2 rfl fun a hE=>?_)
 refine aB ?_
 repeat (refine aG ?_)
 refine aA (V hE hp rfl (dF rfl hE rfl (cgF1 _ _)) fun a hE=>?_)
 refine V hE hp rfl (xl hE oP 0 rfl rfl rfl rfl) fun a hE=>S hE 1 rfl fun a hE=>aB ?_
 repeat (refine aG ?_)
 refine k_cut (fun a w=>∃(g o:Nat) (F:Value→Obj) (s1:Sl) (l:List Node) (P:List Node→List Node) (C:List bK),zG g o F∧P l=p0∧l.length≤4294967296∧(if l.length+1≤4294967296 then(match insK l p1 with|none=>some (2,p0)|some ks=>some (0,P ks)) else none:Option (Int×List Node))=some r∧(∀(s2:Sl) (ts2:List Node) (w2:World),Hp Z ρ (Pt g (F s2.v)::jX 24 s2.v ts2::(C++L)) w2→∃s3:Sl,Hp Z ρ (Pt bp0 (.cells #[s3.v] 22 (0,0))::jX 24 s3.v (P ts2)::L) w2)∧Env 89 [(3,.pointer (some ⟨b3,0,none⟩)),(5,.pointer (some ⟨g,o,none⟩))] a∧Hp Z ρ (Pt b3 (.cells (chC p1).toArray 58 (0,0))::Pt g (F s1.v)::jX 24 s1.v l::(C++L)) w) ?_ ?_
 ·
  refine dE hE rfl (fun hc=>?_) (fun hc=>?_)
  ·
   have hne:¬p1.node= -1:=by simpa using hc
   rw[if_neg hne] at hq0
   obtain⟨q,hq,hq0⟩:=bnd hq0
   obtain⟨hn0,hnode,hcl,hat⟩:=m_at_some hq
   repeat (refine aG ?_)
   refine aA (S hE 1 rfl fun a hE=>?_)
   refine V hE hp rfl (dF rfl hE rfl (cgF1 _ _)) fun a hE=>V hE hp rfl (xl hE oP 0 rfl rfl rfl rfl) fun a hE=>?_
   have hp:Hp Z ρ (Pt bp0 ((fun v=>Obj.cells #[v] 22 (0,0)) s.v)::jX 24 s.v p0::Pt b3 (.cells (chC p1).toArray 58 (0,0))::L) w:=hp.get 1 rfl |>.get 2 rfl |>.get 1 rfl
   have hnn:((p1.node.toNat:Nat):Int)=p1.node:=by omega
   refine s_call (wk0 rfl) rfl rfl hE rfl [.pointer (some ⟨bp0,0,none⟩),.int .i64 p1.node] ⟨rfl,rfl,trivial⟩ ndEntA (by have:=at_c (Z:=Z) (ρ:=ρ) _ p0 (Nat.le_refl _) p1.node.toNat bp0 0 _ (zG.one bp0 22) s (Pt b3 (.cells (chC p1).toArray 58 (0,0))::L) w (by omega) hcl hp;rw[hnn] at this;exact this) Ret.ret ?_
   intro v2 a w hR hE
   have hP:=Ret.of hR
   rw[hat] at hP
   rcases q with _|⟨t1,i1,pp⟩
   ·
    obtain rfl:=oj hq0
    obtain⟨rfl,hp⟩:=hP
    refine S hE 7 rfl fun a hE=>aB ?_
    repeat (refine aG ?_)
    refine aA (S hE 1 rfl fun a hE=>?_)
    refine V hE hp rfl (v:= .bool true) (aG0 (A:=none) (by kernel_rfl) rfl hE rfl rfl) fun a hE=>aB ?_
    repeat (refine aG ?_)
    refine dE hE rfl (fun _=>?_) (fun hc=>by cases hc)
    repeat (refine aG ?_)
    refine aA (S hE 1 rfl fun a hE=>?_)
    refine aB ?_
    repeat (refine aG ?_)
    refine bZ ?_
    obtain rfl:=oj hm
    exact gJ hE rfl rfl ⟨_,rfl,s,rfl,(hp.get 2 rfl).drop⟩
   obtain⟨g1,o1,F1,s1,l1,nb,no,C,hF1,⟨of0,cap,bv,bo⟩,hi1,rfl,hcl1,hp⟩:=hP
   obtain⟨x,hx⟩:∃x,t1[i1]?=some x:=⟨_,List.getElem?_eq_getElem hi1⟩
   have hll:=hp.kdLen 2 rfl
   obtain⟨y,hy⟩:∃y,l1[i1]?=some y:=⟨_,List.getElem?_eq_getElem (by omega)⟩
   have hp:=hp.boxOut
   simp only[hx,Option.map_some] at hq0
   obtain rfl:=oj hq0
   refine S hE 7 rfl fun a hE=>aB ?_
   repeat (refine aG ?_)
   refine aA (S hE 1 rfl fun a hE=>?_)
   refine V hE hp rfl (v:= .bool false) (aG0 (A:=some ⟨nb,no,none⟩) (by kernel_rfl) rfl hE rfl rfl) fun a hE=>aB ?_
   repeat (refine aG ?_)
   refine dE hE rfl (fun hc=>by cases hc) (fun _=>?_)
   refine aZ ?_
   repeat (refine aG ?_)
   refine aA (S hE 2 rfl fun a hE=>?_)
   refine V hE hp rfl (dF rfl hE rfl (tcF4 _ _)) fun a hE=>S hE 1 rfl fun a hE=>aB ?_
   have hp3:Hp Z ρ (Pt g1 (F1 s1.v)::aC 24 s1.v l1::KdA 24 t1 l1::(C++(Pt b3 (.cells (chC p1).toArray 58 (0,0))::L))) w:=(Hp.mid (P:=Pt g1 (F1 s1.v)::aC 24 s1.v l1::KdA 24 t1 l1::C)).1 hp
   obtain⟨F2,hF2,h2,hcl2⟩:=kidFocus hx hy bv bo hp3
   obtain⟨hplug,htl⟩:=atL_plug _ p0 [] _ (Nat.le_refl _) hat
   have hset:t1.set i1 (x.re x.kids)=t1:=by
    obtain⟨h3,h4⟩:=List.getElem?_eq_some_iff.1 hx
    rw[re_kids,←h4];exact List.set_getElem_self h3
   refine⟨nb,no+4,F2,y.kids,x.kids,fun ks=>pp (t1.set i1 (x.re ks)),[Pt g1 (F1 s1.v),KdA 24 (t1.take i1) (l1.take i1),KdA 24 (t1.drop (i1+1)) (l1.drop (i1+1))]++C,hF2,?_,?_,hm,?_,hE.cut ⟨rfl,rfl,trivial⟩,?_⟩
   ·show pp (t1.set i1 (x.re x.kids))=p0
    rw[hset,hplug];rfl
   ·by_cases hl:x.kids.length+1≤4294967296
    ·omega
    simp only at hm
    rw[if_neg hl] at hm;cases hm
   ·intro s2 ts2 w2 h3
    rw[List.append_assoc] at h3
    exact hcl1 s1 _ w2 L (hcl2 s2 ts2 w2 _ h3)
   exact(Hp.mid (P:=Pt nb (F2 y.kids.v)::jX 24 y.kids.v x.kids::Pt g1 (F1 s1.v)::KdA 24 (t1.take i1) (l1.take i1)::KdA 24 (t1.drop (i1+1)) (l1.drop (i1+1))::C)).2 h2
  have heq:p1.node= -1:=by simpa using hc
  rw[if_pos heq] at hq0
  obtain rfl:=oj hq0
  refine aZ ?_
  refine⟨bp0,0,(fun v=>Obj.cells #[v] 22 (0,0)),s,p0,id,[],zG.one bp0 _,rfl,?_,hm,fun s2 ts2 w2 h3=>⟨s2,h3⟩,hE.cut ⟨rfl,rfl,trivial⟩,hp⟩
  by_cases hl:p0.length+1≤4294967296
  ·omega
  simp only at hm
  rw[if_neg hl] at hm;cases hm
 rintro a w ⟨g,o,F,s1,l,P,C,hF,hPl,hl32,hm,hclose,hE,hp⟩
 obtain⟨hs,hp⟩:=(hp.get 2 rfl).forO
 have hp:Hp Z ρ (Pt b3 (.cells (chC p1).toArray 58 (0,0))::Pt g (F s1.v)::aC 24 s1.v hs::KdA 24 l hs::(C++L)) w:=((((hp.get 1 rfl).get 1 rfl).get 3 rfl).get 3 rfl)
 have hhl:=hp.kdLen 3 rfl
 cases hb0:decide (p1.index<0) with
 |true=>
  repeat (refine aG ?_)
  refine jR (by kernel_rfl) (by kernel_rfl) hp ?_
  refine Vq hE rfl (dF rfl hE rfl (cgF2 _ _)) fun a hE=>Vq hE rfl (xl hE oP 0 rfl rfl rfl rfl) fun a hE=>Sq hE 2 rfl fun a hE=>Gkq hE hb0 rfl fun a hE=>Gkq hE hb0 rfl fun a hE=>Gkq hE hb0 rfl fun a hE=>?_
  refine Vq hE rfl (v:= .bool true) (iD rfl hE rfl hb0 rfl) fun a hE=>Sq hE 1 rfl fun a hE=>Gkq hE (by rfl) rfl fun a hE=>Gkq hE (by rfl) rfl fun a hE=>Gkq hE (by rfl) rfl fun a hE=>Gkq hE (by rfl) rfl fun a hE=>Gkq hE (by rfl) rfl fun a hE=>Gkq hE (by rfl) rfl fun a hE=>Gkq hE (by rfl) rfl fun a hE=>?_
  refine Vq hE rfl (v:= .bool true) (iD rfl hE rfl rfl rfl) fun a hE=>Sq hE 1 rfl fun a hE=>Gkq hE (by rfl) rfl fun a hE=>Gkq hE (by rfl) rfl fun a hE=>Gkq hE (by rfl) rfl fun a hE=>Gkq hE (by rfl) rfl fun a hE=>Gkq hE (by rfl) rfl fun a hE=>Gkq hE (by rfl) rfl fun a hE=>Gkq hE (by rfl) rfl fun a hE=>Gkq hE (by rfl) rfl fun a hE=>Gkq hE (by rfl) rfl fun a hE=>Gkq hE (by rfl) rfl fun a hE=>?_
  refine Vq hE rfl (v:= .bool true) (iD rfl hE rfl rfl rfl) fun a hE=>?_
  refine iM fun w hp=>?_
  repeat (refine aG ?_)
  refine dE hE rfl (fun _=>?_) (fun hc=>by cases hc)
  repeat (refine aG ?_)
  refine aA (S hE 1 rfl fun a hE=>?_)
  refine aB ?_
  repeat (refine aG ?_)
  refine bZ ?_
  have hk:insK l p1=none:=by unfold insK;rw[if_pos (by simp only[decide_eq_true_eq] at*;omega)]
  rw[hk] at hm
  split at hm
  case isFalse=>cases hm
  obtain rfl:=oj hm
  obtain⟨s3,h3⟩:=hclose s1 l w ((Hp.forI (((hp.drop.get 2 rfl).get 2 rfl))).get 1 rfl)
  rw[hPl] at h3
  exact gJ hE rfl rfl ⟨_,rfl,s3,rfl,h3⟩
 |false=>
  cases hb1:decide (p1.count<0) with
  |true=>
   repeat (refine aG ?_)
   refine jR (by kernel_rfl) (by kernel_rfl) hp ?_
   refine Vq hE rfl (dF rfl hE rfl (cgF2 _ _)) fun a hE=>Vq hE rfl (xl hE oP 0 rfl rfl rfl rfl) fun a hE=>Sq hE 2 rfl fun a hE=>Gq hE hb0 rfl (dF rfl hE rfl (cgF3 _ _)) fun a hE=>Gq hE hb0 rfl (xl hE oP 0 rfl rfl rfl rfl) fun a hE=>Gq hE hb0 rfl (P7 rfl hE rfl rfl) fun a hE=>Vq hE rfl (v:= .bool (decide (p1.count<0))) (gQ rfl hE rfl hb0 rfl) fun a hE=>Sq hE 1 rfl fun a hE=>Gkq hE hb1 rfl fun a hE=>Gkq hE hb1 rfl fun a hE=>Gkq hE hb1 rfl fun a hE=>Gkq hE hb1 rfl fun a hE=>Gkq hE hb1 rfl fun a hE=>Gkq hE hb1 rfl fun a hE=>Gkq hE hb1 rfl fun a hE=>?_
   refine Vq hE rfl (v:= .bool true) (iD rfl hE rfl hb1 rfl) fun a hE=>Sq hE 1 rfl fun a hE=>Gkq hE (by rfl) rfl fun a hE=>Gkq hE (by rfl) rfl fun a hE=>Gkq hE (by rfl) rfl fun a hE=>Gkq hE (by rfl) rfl fun a hE=>Gkq hE (by rfl) rfl fun a hE=>Gkq hE (by rfl) rfl fun a hE=>Gkq hE (by rfl) rfl fun a hE=>Gkq hE (by rfl) rfl fun a hE=>Gkq hE (by rfl) rfl fun a hE=>Gkq hE (by rfl) rfl fun a hE=>?_
   refine Vq hE rfl (v:= .bool true) (iD rfl hE rfl rfl rfl) fun a hE=>?_
   refine iM fun w hp=>?_
   repeat (refine aG ?_)
   refine dE hE rfl (fun _=>?_) (fun hc=>by cases hc)
   repeat (refine aG ?_)
   refine aA (S hE 1 rfl fun a hE=>?_)
   refine aB ?_
   repeat (refine aG ?_)
   refine bZ ?_
   have hk:insK l p1=none:=by unfold insK;rw[if_pos (by simp only[decide_eq_true_eq] at*;omega)]
   rw[hk] at hm
   split at hm
   case isFalse=>cases hm
   obtain rfl:=oj hm
   obtain⟨s3,h3⟩:=hclose s1 l w ((Hp.forI (((hp.drop.get 2 rfl).get 2 rfl))).get 1 rfl)
   rw[hPl] at h3
   exact gJ hE rfl rfl ⟨_,rfl,s3,rfl,h3⟩
  |false=>
   cases hb2:decide ((l.length:Int)<p1.index) with
   |true=>
    repeat (refine aG ?_)
    refine jR (by kernel_rfl) (by kernel_rfl) hp ?_
    refine Vq hE rfl (dF rfl hE rfl (cgF2 _ _)) fun a hE=>Vq hE rfl (xl hE oP 0 rfl rfl rfl rfl) fun a hE=>Sq hE 2 rfl fun a hE=>Gq hE hb0 rfl (dF rfl hE rfl (cgF3 _ _)) fun a hE=>Gq hE hb0 rfl (xl hE oP 0 rfl rfl rfl rfl) fun a hE=>Gq hE hb0 rfl (P7 rfl hE rfl rfl) fun a hE=>Vq hE rfl (v:= .bool (decide (p1.count<0))) (gQ rfl hE rfl hb0 rfl) fun a hE=>Sq hE 1 rfl fun a hE=>Gq hE hb1 rfl (dF rfl hE rfl (cgF2 _ _)) fun a hE=>Gq hE hb1 rfl (xl hE oP 0 rfl rfl rfl rfl) fun a hE=>Gq hE hb1 rfl (eH rfl hE rfl) fun a hE=>Gq hE hb1 rfl (ex_nil rfl hE rfl) fun a hE=>Gq hE hb1 rfl (aK rfl hE rfl (fun w hw=>hF.ld hw 1 rfl)) fun a hE=>Gq hE hb1 rfl (v:= .int .i64 (l.length:Int)) (bT rfl hE rfl (by have:=aC.len hp 2 rfl jH;rw[hhl] at this;exact this)) fun a hE=>Gq hE hb1 rfl (ex_gtr rfl hE rfl rfl) fun a hE=>Vq hE rfl (v:= .bool (decide ((l.length:Int)<p1.index))) (gQ rfl hE rfl hb1 rfl) fun a hE=>Sq hE 1 rfl fun a hE=>Gkq hE hb2 rfl fun a hE=>Gkq hE hb2 rfl fun a hE=>Gkq hE hb2 rfl fun a hE=>Gkq hE hb2 rfl fun a hE=>Gkq hE hb2 rfl fun a hE=>Gkq hE hb2 rfl fun a hE=>Gkq hE hb2 rfl fun a hE=>Gkq hE hb2 rfl fun a hE=>Gkq hE hb2 rfl fun a hE=>Gkq hE hb2 rfl fun a hE=>?_
    refine Vq hE rfl (v:= .bool true) (iD rfl hE rfl hb2 rfl) fun a hE=>?_
    refine iM fun w hp=>?_
    repeat (refine aG ?_)
    refine dE hE rfl (fun _=>?_) (fun hc=>by cases hc)
    repeat (refine aG ?_)
    refine aA (S hE 1 rfl fun a hE=>?_)
    refine aB ?_
    repeat (refine aG ?_)
    refine bZ ?_
    have hk:insK l p1=none:=by unfold insK;rw[if_pos (by simp only[decide_eq_true_eq] at*;omega)]
    rw[hk] at hm
    split at hm
    case isFalse=>cases hm
    obtain rfl:=oj hm
    obtain⟨s3,h3⟩:=hclose s1 l w ((Hp.forI (((hp.drop.get 2 rfl).get 2 rfl))).get 1 rfl)
    rw[hPl] at h3
    exact gJ hE rfl rfl ⟨_,rfl,s3,rfl,h3⟩
   |false=>
    cases hb3:decide ((l.length:Int)-p1.index<p1.count) with
    |true=>
     repeat (refine aG ?_)
     refine jR (by kernel_rfl) (by kernel_rfl) hp ?_
     refine Vq hE rfl (dF rfl hE rfl (cgF2 _ _)) fun a hE=>Vq hE rfl (xl hE oP 0 rfl rfl rfl rfl) fun a hE=>Sq hE 2 rfl fun a hE=>Gq hE hb0 rfl (dF rfl hE rfl (cgF3 _ _)) fun a hE=>Gq hE hb0 rfl (xl hE oP 0 rfl rfl rfl rfl) fun a hE=>Gq hE hb0 rfl (P7 rfl hE rfl rfl) fun a hE=>Vq hE rfl (v:= .bool (decide (p1.count<0))) (gQ rfl hE rfl hb0 rfl) fun a hE=>Sq hE 1 rfl fun a hE=>Gq hE hb1 rfl (dF rfl hE rfl (cgF2 _ _)) fun a hE=>Gq hE hb1 rfl (xl hE oP 0 rfl rfl rfl rfl) fun a hE=>Gq hE hb1 rfl (eH rfl hE rfl) fun a hE=>Gq hE hb1 rfl (ex_nil rfl hE rfl) fun a hE=>Gq hE hb1 rfl (aK rfl hE rfl (fun w hw=>hF.ld hw 1 rfl)) fun a hE=>Gq hE hb1 rfl (v:= .int .i64 (l.length:Int)) (bT rfl hE rfl (by have:=aC.len hp 2 rfl jH;rw[hhl] at this;exact this)) fun a hE=>Gq hE hb1 rfl (ex_gtr rfl hE rfl rfl) fun a hE=>Vq hE rfl (v:= .bool (decide ((l.length:Int)<p1.index))) (gQ rfl hE rfl hb1 rfl) fun a hE=>Sq hE 1 rfl fun a hE=>Gq hE hb2 rfl (dF rfl hE rfl (cgF3 _ _)) fun a hE=>Gq hE hb2 rfl (xl hE oP 0 rfl rfl rfl rfl) fun a hE=>Gq hE hb2 rfl (eH rfl hE rfl) fun a hE=>Gq hE hb2 rfl (ex_nil rfl hE rfl) fun a hE=>Gq hE hb2 rfl (aK rfl hE rfl (fun w hw=>hF.ld hw 1 rfl)) fun a hE=>Gq hE hb2 rfl (v:= .int .i64 (l.length:Int)) (bT rfl hE rfl (by have:=aC.len hp 2 rfl jH;rw[hhl] at this;exact this)) fun a hE=>Gq hE hb2 rfl (dF rfl hE rfl (cgF2 _ _)) fun a hE=>Gq hE hb2 rfl (xl hE oP 0 rfl rfl rfl rfl) fun a hE=>Gq hE hb2 rfl (v:= .int .i64 ((l.length:Int)-p1.index)) (dQ rfl hE rfl rfl (by rw[IntKind.wrap_i64];have:=of_decide_eq_false hb0;have:=of_decide_eq_false hb2;omega)) fun a hE=>Gq hE hb2 rfl (ex_gtr rfl hE rfl rfl) fun a hE=>Vq hE rfl (v:= .bool (decide ((l.length:Int)-p1.index<p1.count))) (gQ rfl hE rfl hb2 rfl) fun a hE=>?_
     refine iM fun w hp=>?_
     repeat (refine aG ?_)
     refine dE hE rfl (fun _=>?_) (fun hc=>by rw[hb3] at hc;cases hc)
     repeat (refine aG ?_)
     refine aA (S hE 1 rfl fun a hE=>?_)
     refine aB ?_
     repeat (refine aG ?_)
     refine bZ ?_
     have hk:insK l p1=none:=by unfold insK;rw[if_pos (by simp only[decide_eq_true_eq] at*;omega)]
     rw[hk] at hm
     split at hm
     case isFalse=>cases hm
     obtain rfl:=oj hm
     obtain⟨s3,h3⟩:=hclose s1 l w ((Hp.forI (((hp.drop.get 2 rfl).get 2 rfl))).get 1 rfl)
     rw[hPl] at h3
     exact gJ hE rfl rfl ⟨_,rfl,s3,rfl,h3⟩
    |false=>
     repeat (refine aG ?_)
     refine jR (by kernel_rfl) (by kernel_rfl) hp ?_
     refine Vq hE rfl (dF rfl hE rfl (cgF2 _ _)) fun a hE=>Vq hE rfl (xl hE oP 0 rfl rfl rfl rfl) fun a hE=>Sq hE 2 rfl fun a hE=>Gq hE hb0 rfl (dF rfl hE rfl (cgF3 _ _)) fun a hE=>Gq hE hb0 rfl (xl hE oP 0 rfl rfl rfl rfl) fun a hE=>Gq hE hb0 rfl (P7 rfl hE rfl rfl) fun a hE=>Vq hE rfl (v:= .bool (decide (p1.count<0))) (gQ rfl hE rfl hb0 rfl) fun a hE=>Sq hE 1 rfl fun a hE=>Gq hE hb1 rfl (dF rfl hE rfl (cgF2 _ _)) fun a hE=>Gq hE hb1 rfl (xl hE oP 0 rfl rfl rfl rfl) fun a hE=>Gq hE hb1 rfl (eH rfl hE rfl) fun a hE=>Gq hE hb1 rfl (ex_nil rfl hE rfl) fun a hE=>Gq hE hb1 rfl (aK rfl hE rfl (fun w hw=>hF.ld hw 1 rfl)) fun a hE=>Gq hE hb1 rfl (v:= .int .i64 (l.length:Int)) (bT rfl hE rfl (by have:=aC.len hp 2 rfl jH;rw[hhl] at this;exact this)) fun a hE=>Gq hE hb1 rfl (ex_gtr rfl hE rfl rfl) fun a hE=>Vq hE rfl (v:= .bool (decide ((l.length:Int)<p1.index))) (gQ rfl hE rfl hb1 rfl) fun a hE=>Sq hE 1 rfl fun a hE=>Gq hE hb2 rfl (dF rfl hE rfl (cgF3 _ _)) fun a hE=>Gq hE hb2 rfl (xl hE oP 0 rfl rfl rfl rfl) fun a hE=>Gq hE hb2 rfl (eH rfl hE rfl) fun a hE=>Gq hE hb2 rfl (ex_nil rfl hE rfl) fun a hE=>Gq hE hb2 rfl (aK rfl hE rfl (fun w hw=>hF.ld hw 1 rfl)) fun a hE=>Gq hE hb2 rfl (v:= .int .i64 (l.length:Int)) (bT rfl hE rfl (by have:=aC.len hp 2 rfl jH;rw[hhl] at this;exact this)) fun a hE=>Gq hE hb2 rfl (dF rfl hE rfl (cgF2 _ _)) fun a hE=>Gq hE hb2 rfl (xl hE oP 0 rfl rfl rfl rfl) fun a hE=>Gq hE hb2 rfl (v:= .int .i64 ((l.length:Int)-p1.index)) (dQ rfl hE rfl rfl (by rw[IntKind.wrap_i64];have:=of_decide_eq_false hb0;have:=of_decide_eq_false hb2;omega)) fun a hE=>Gq hE hb2 rfl (ex_gtr rfl hE rfl rfl) fun a hE=>Vq hE rfl (v:= .bool (decide ((l.length:Int)-p1.index<p1.count))) (gQ rfl hE rfl hb2 rfl) fun a hE=>?_
     refine iM fun w hp=>?_
     repeat (refine aG ?_)
     refine dE hE rfl (fun hc=>by rw[hb3] at hc;cases hc) (fun _=>?_)
     refine aZ ?_
     have h0:=of_decide_eq_false hb0
     have h1:=of_decide_eq_false hb1
     have h2:=of_decide_eq_false hb2
     have h3:=of_decide_eq_false hb3
     obtain⟨ii,hii⟩:∃ii:Nat,p1.index=(ii:Int):=⟨p1.index.toNat,by omega⟩
     obtain⟨cc,hcc⟩:∃cc:Nat,p1.count=(cc:Int):=⟨p1.count.toNat,by omega⟩
     have hk:insK l p1=some (l.take ii++⟨p1.kind,p1.text,0,0,(l.drop ii).take cc⟩::l.drop (ii+cc)):=by
      unfold insK
      rw[if_neg (by omega),hii,hcc];rfl
     rw[hk] at hm
     split at hm
     case isFalse=>cases hm
     rename_i hlim
     obtain rfl:=oj hm
     clear hm
     obtain⟨xq,hxl⟩:∃xq,xq=(hs.take (ii+cc)).drop ii:=⟨_,rfl⟩
     have hxll:xq.length=cc:=by rw[hxl,List.length_drop,List.length_take];omega
     repeat (refine aG ?_)
     have hp:=hp.drew
     refine fG ([([],At0 Z ρ),([],At1 Z ρ (Pt b3 (.cells (chC p1).toArray 58 (0,0)))),([],At1 Z ρ (Pt g (F s1.v)))]:Facts) (fun a w=>∃(b9:Nat) (s3:Sl),Env 89 [(3,.pointer (some ⟨b3,0,none⟩)),(5,.pointer (some ⟨g,o,none⟩)),(9,.pointer (some ⟨b9,0,none⟩))] a∧Hp Z ρ (Pt b3 (.cells (chC p1).toArray 58 (0,0))::Pt b9 (.cells #[.int .i64 p1.kind,.string p1.text,.int .i64 0,.int .i64 0,s3.v] 24 (0,0))::aC 24 s3.v xq::Pt g (F s1.v)::aC 24 s1.v hs::KdA 24 l hs::(C++L)) w) (by kernel_rfl) ⟨fun _=>⟨_,hp⟩,fun _=>⟨_,hp⟩,fun _=>⟨_,hp.get 1 rfl⟩,trivial⟩ (fun hS=>?_) ?_
     ·
      generalize w.drew=w at hS hp⊢
      refine T0 0 hE hS rfl rfl rfl (by kernel_rfl) (fun _=>dF rfl hE rfl (cgF4 _ _)) fun a hE hS=>T 1 1 hE hS rfl rfl rfl (by kernel_rfl) (fun _=>xl hE oP 0 rfl rfl rfl rfl) fun a hE hS=>T0 2 hE hS rfl rfl rfl (by kernel_rfl) (fun _=>dF rfl hE rfl (cgF5 _ _)) fun a hE hS=>T 3 1 hE hS rfl rfl rfl (by kernel_rfl) (fun _=>xl hE cgVS 0 rfl rfl rfl rfl) fun a hE hS=>Ts [4,5] hE hS rfl rfl (by kernel_rfl) fun a hE hS=>T 6 2 hE hS rfl rfl rfl (by kernel_rfl) (fun _=>aK rfl hE rfl (fun w hw=>hF.ld hw 0 rfl)) fun a hE hS=>T0 7 hE hS rfl rfl rfl (by kernel_rfl) (fun _=>dF rfl hE rfl (cgF2 _ _)) fun a hE hS=>T 8 1 hE hS rfl rfl rfl (by kernel_rfl) (v:= .int .i64 (ii:Int)) (fun _=>by rw[←hii];exact aK rfl hE rfl (fun w hw=>aV oP (Hp.c 0 rfl 2 rfl w hw))) fun a hE hS=>T0 9 hE hS rfl rfl rfl (by kernel_rfl) (fun _=>dF rfl hE rfl (cgF2 _ _)) fun a hE hS=>T 10 1 hE hS rfl rfl rfl (by kernel_rfl) (v:= .int .i64 (ii:Int)) (fun _=>by rw[←hii];exact aK rfl hE rfl (fun w hw=>aV oP (Hp.c 0 rfl 2 rfl w hw))) fun a hE hS=>T0 11 hE hS rfl rfl rfl (by kernel_rfl) (fun _=>dF rfl hE rfl (cgF3 _ _)) fun a hE hS=>T 12 1 hE hS rfl rfl rfl (by kernel_rfl) (v:= .int .i64 (cc:Int)) (fun _=>by rw[←hcc];exact aK rfl hE rfl (fun w hw=>aV oP (Hp.c 0 rfl 3 rfl w hw))) fun a hE hS=>T0 13 hE hS rfl rfl rfl (by kernel_rfl) (v:=(Iv ((ii+cc:Nat):Int))) (fun _=>bF rfl hE rfl rfl (by rw[IntKind.wrap_i64];omega)) fun a hE hS=>?_
      obtain⟨nv,nvr,nvf⟩:=aC.viewF hp 2 rfl jH (some (.i64,(ii:Int))) (some (.i64,((ii+cc:Nat):Int))) (i:=(ii:Int)) (j:=((ii+cc:Nat):Int)) rfl rfl (r:=xq) (by unfold sub;rw[if_pos (by omega),hxl,Int.toNat_natCast,Int.toNat_natCast])
      refine T0 14 hE hS rfl rfl rfl (by kernel_rfl) (v:=nv) (fun _=>pM rfl hE rfl (some (.i64,(ii:Int))) (some (.i64,((ii+cc:Nat):Int))) (by exact rfl) (by exact rfl) nvr) fun a hE hS=>?_
      refine gW [15,17] (by kernel_rfl) rfl ?_
      refine List.forall_mem_cons.2 ⟨?_,List.forall_mem_cons.2 ⟨?_,fun _ h=>absurd h (by simp)⟩⟩
      ·refine dX rfl ?_
       obtain⟨kk,kka,kkd,hpk⟩:=(hp.get 2 rfl).lend
       refine s_call (wk0 rfl) rfl rfl hE rfl [nv] ⟨rfl,trivial⟩ ndEntC (c_cloneN xq nv (nvf _ _ kkd kka) (by omega) hpk) Ret.ret ?_
       intro v15 a w hR hE
       have hp:=Hp.back kka kkd (Ret.of hR)
       obtain⟨s3,rfl⟩:=aC.toSl hp 1 rfl
       have hp:Hp Z ρ (Pt b3 (.cells (chC p1).toArray 58 (0,0))::Pt g (F s1.v)::aC 24 s1.v hs::aC 24 s3.v xq::KdA 24 l hs::(C++L)) w:=((((hp.get 1 rfl).get 1 rfl).get 3 rfl).get 3 rfl)
       refine aB (aF ⟨gp0 hp,fun _=>⟨_,hp⟩,fun _=>⟨_,hp.get 1 rfl⟩,trivial⟩ fun hS=>?_)
       refine T0 16 hE hS rfl rfl rfl (by kernel_rfl) (v:= .agg #[.int .i64 p1.kind,.string p1.text,.int .i64 0,.int .i64 0,s3.v]) (fun _=>lW rfl hE [(0,.int .i64 p1.kind),(1,.string p1.text),(4,s3.v)] (by exact⟨⟨rfl,rfl⟩,⟨rfl,rfl⟩,⟨rfl,rfl⟩,trivial⟩) (fun w=>by have hc0:=Sl.cells s3;simp only[Value.cells] at hc0;simp[Instr.build,Instr.fill,Value.cells,hc0,go_sem]<;>rfl)) fun a hE hS=>?_
       refine W1 17 (by kernel_rfl) rfl ?_
       refine dL (wk0 rfl) rfl rfl hE hp rfl [(Iv 0),(.string ByteArray.empty),(Iv 0),(Iv 0),N0] (fun w=>by simp[Instr.alloc,go_sem]<;>rfl) ?_
       intro a w b9 hE hp
       have hp:Hp Z ρ (Pt b3 (.cells (chC p1).toArray 58 (0,0))::Pt b9 (.cells #[.int .i64 0,.string ByteArray.empty,.int .i64 0,.int .i64 0,.slice none 0 0] 24 (0,0))::aC 24 s3.v xq::Pt g (F s1.v)::aC 24 s1.v hs::KdA 24 l hs::(C++L)) w:=(((((hp.get 3 rfl).get 3 rfl).get 4 rfl).get 3 rfl).get 4 rfl)
       refine aB (aF ⟨gp0 hp,fun _=>⟨_,hp⟩,fun _=>⟨_,hp.get 3 rfl⟩,trivial⟩ fun hS=>?_)
       refine W1 18 (by kernel_rfl) rfl ?_
       refine aX (wk0 rfl) rfl hE hp rfl rfl (v:= .agg #[.int .i64 p1.kind,.string p1.text,.int .i64 0,.int .i64 0,s3.v]) rfl 1 rfl (by exact tcVN.size_) rfl (by
        have h1:=Sl.one s3
        intro u hu
        simp[Value.cells] at hu
        rcases hu with rfl|rfl|rfl|rfl|rfl<;>first|rfl|exact h1) [.int .i64 p1.kind,.string p1.text,.int .i64 0,.int .i64 0,s3.v] (by simp[Value.cells]) ?_
       intro w hp
       have hp:Hp Z ρ (Pt b3 (.cells (chC p1).toArray 58 (0,0))::Pt b9 (.cells #[.int .i64 p1.kind,.string p1.text,.int .i64 0,.int .i64 0,s3.v] 24 (0,0))::aC 24 s3.v xq::Pt g (F s1.v)::aC 24 s1.v hs::KdA 24 l hs::(C++L)) w:=id hp
       refine aB (aF ⟨gp0 hp,fun _=>⟨_,hp⟩,fun _=>⟨_,hp.get 3 rfl⟩,trivial⟩ fun hS=>?_)
       exact bP (by kernel_rfl) ⟨b9,s3,hE.cut ⟨rfl,rfl,rfl,trivial⟩,hp⟩
      refine dX rfl ?_
      refine dL (wk0 rfl) rfl rfl hE hp rfl [(Iv 0),(.string ByteArray.empty),(Iv 0),(Iv 0),N0] (fun w=>by simp[Instr.alloc,go_sem]<;>rfl) ?_
      intro a w b9 hE hp
      have hp:Hp Z ρ (Pt b3 (.cells (chC p1).toArray 58 (0,0))::Pt b9 (.cells #[.int .i64 0,.string ByteArray.empty,.int .i64 0,.int .i64 0,.slice none 0 0] 24 (0,0))::Pt g (F s1.v)::aC 24 s1.v hs::KdA 24 l hs::(C++L)) w:=((((hp.get 3 rfl).get 3 rfl).get 2 rfl).get 3 rfl)
      refine aB (aF ⟨gp0 hp,fun _=>⟨_,hp⟩,fun _=>⟨_,hp.get 2 rfl⟩,trivial⟩ fun hS=>?_)
      refine W1 15 (by kernel_rfl) rfl ?_
      obtain⟨kk,kka,kkd,hpk⟩:=(hp.get 3 rfl).lend
      refine s_call (wk0 rfl) rfl rfl hE rfl [nv] ⟨rfl,trivial⟩ ndEntC (c_cloneN xq nv (nvf _ _ kkd kka) (by omega) hpk) Ret.ret ?_
      intro v15 a w hR hE
      have hp:=Hp.back kka kkd (Ret.of hR)
      obtain⟨s3,rfl⟩:=aC.toSl hp 1 rfl
      have hp:Hp Z ρ (Pt b3 (.cells (chC p1).toArray 58 (0,0))::Pt b9 (.cells #[.int .i64 0,.string ByteArray.empty,.int .i64 0,.int .i64 0,.slice none 0 0] 24 (0,0))::aC 24 s3.v xq::Pt g (F s1.v)::aC 24 s1.v hs::KdA 24 l hs::(C++L)) w:=((((hp.get 4 rfl).get 2 rfl).get 4 rfl).get 4 rfl)
      refine aB (aF ⟨gp0 hp,fun _=>⟨_,hp⟩,fun _=>⟨_,hp.get 3 rfl⟩,trivial⟩ fun hS=>?_)
      refine T0 16 hE hS rfl rfl rfl (by kernel_rfl) (v:= .agg #[.int .i64 p1.kind,.string p1.text,.int .i64 0,.int .i64 0,s3.v]) (fun _=>lW rfl hE [(0,.int .i64 p1.kind),(1,.string p1.text),(4,s3.v)] (by exact⟨⟨rfl,rfl⟩,⟨rfl,rfl⟩,⟨rfl,rfl⟩,trivial⟩) (fun w=>by have hc0:=Sl.cells s3;simp only[Value.cells] at hc0;simp[Instr.build,Instr.fill,Value.cells,hc0,go_sem]<;>rfl)) fun a hE hS=>?_
      refine W1 18 (by kernel_rfl) rfl ?_
      refine aX (wk0 rfl) rfl hE hp rfl rfl (v:= .agg #[.int .i64 p1.kind,.string p1.text,.int .i64 0,.int .i64 0,s3.v]) rfl 1 rfl (by exact tcVN.size_) rfl (by
       have h1:=Sl.one s3
       intro u hu
       simp[Value.cells] at hu
       rcases hu with rfl|rfl|rfl|rfl|rfl<;>first|rfl|exact h1) [.int .i64 p1.kind,.string p1.text,.int .i64 0,.int .i64 0,s3.v] (by simp[Value.cells]) ?_
      intro w hp
      have hp:Hp Z ρ (Pt b3 (.cells (chC p1).toArray 58 (0,0))::Pt b9 (.cells #[.int .i64 p1.kind,.string p1.text,.int .i64 0,.int .i64 0,s3.v] 24 (0,0))::aC 24 s3.v xq::Pt g (F s1.v)::aC 24 s1.v hs::KdA 24 l hs::(C++L)) w:=id hp
      refine aB (aF ⟨gp0 hp,fun _=>⟨_,hp⟩,fun _=>⟨_,hp.get 3 rfl⟩,trivial⟩ fun hS=>?_)
      exact bP (by kernel_rfl) ⟨b9,s3,hE.cut ⟨rfl,rfl,rfl,trivial⟩,hp⟩
     rintro a w ⟨b9,s3,hE,hp⟩
     repeat (refine aG ?_)
     have hp:=hp.drew
     refine fG ([([],At0 Z ρ),([],At1 Z ρ (Pt b3 (.cells (chC p1).toArray 58 (0,0)))),([16],At1 Z ρ (Pt g (F s1.v))),([],At1 Z ρ (Pt b9 (.cells #[.int .i64 p1.kind,.string p1.text,.int .i64 0,.int .i64 0,s3.v] 24 (0,0))))]:Facts) (fun a w=>∃s4:Sl,Env 89 [] a∧Hp Z ρ (Pt g (F s4.v)::aC 24 s4.v (hs.take ii++[(⟨p1.kind,p1.text,0,0,s3⟩:NdH)]++hs.drop (ii+cc))::aC 24 s3.v xq::KdA 24 l hs::(C++L)) w) (by kernel_rfl) ⟨fun _=>⟨_,hp⟩,fun _=>⟨_,hp⟩,fun _=>⟨_,hp.get 3 rfl⟩,fun _=>⟨_,hp.get 1 rfl⟩,trivial⟩ (fun hS=>?_) ?_
     ·
      generalize w.drew=w at hS hp⊢
      refine Ts [0,1,2] hE hS rfl rfl (by kernel_rfl) fun a hE hS=>T 3 2 hE hS rfl rfl rfl (by kernel_rfl) (fun _=>aK rfl hE rfl (fun w hw=>hF.ld hw 0 rfl)) fun a hE hS=>T0 5 hE hS rfl rfl rfl (by kernel_rfl) (fun _=>dF rfl hE rfl (cgF2 _ _)) fun a hE hS=>T 6 1 hE hS rfl rfl rfl (by kernel_rfl) (v:= .int .i64 (ii:Int)) (fun _=>by rw[←hii];exact aK rfl hE rfl (fun w hw=>aV oP (Hp.c 0 rfl 2 rfl w hw))) fun a hE hS=>T0 7 hE hS rfl rfl rfl (by kernel_rfl) (fun _=>dF rfl hE rfl (cgF2 _ _)) fun a hE hS=>T 8 1 hE hS rfl rfl rfl (by kernel_rfl) (v:= .int .i64 (ii:Int)) (fun _=>by rw[←hii];exact aK rfl hE rfl (fun w hw=>aV oP (Hp.c 0 rfl 2 rfl w hw))) fun a hE hS=>T0 9 hE hS rfl rfl rfl (by kernel_rfl) (fun _=>dF rfl hE rfl (cgF3 _ _)) fun a hE hS=>T 10 1 hE hS rfl rfl rfl (by kernel_rfl) (v:= .int .i64 (cc:Int)) (fun _=>by rw[←hcc];exact aK rfl hE rfl (fun w hw=>aV oP (Hp.c 0 rfl 3 rfl w hw))) fun a hE hS=>T0 11 hE hS rfl rfl rfl (by kernel_rfl) (v:=(Iv ((ii+cc:Nat):Int))) (fun _=>bF rfl hE rfl rfl (by rw[IntKind.wrap_i64];omega)) fun a hE hS=>T 12 3 hE hS rfl rfl rfl (by kernel_rfl) (fun _=>aK rfl hE rfl (fun w hw=>aW (cs:=Enc.enc (⟨p1.kind,p1.text,0,0,s3⟩:NdH)) tcVN (Hp.cN 0 rfl 0 _ (aS rfl) w hw))) fun a hE hS=>?_
      refine gW [4,13] (by kernel_rfl) rfl ?_
      refine List.forall_mem_cons.2 ⟨?_,List.forall_mem_cons.2 ⟨?_,fun _ h=>absurd h (by simp)⟩⟩
      ·refine dX rfl ?_
       have hp:Hp Z ρ (aC 24 s1.v hs::_) w:=hp.get 4 rfl
       refine s_call (wk0 rfl) rfl rfl hE rfl [s1.v] ⟨rfl,trivial⟩ ndEntC (c_cloneO hs s1.v (by omega) hp) Ret.ret ?_
       intro v4 a w hR hE
       have hp:=Ret.of hR
       have hp:Hp Z ρ (aC 24 v4 hs::Pt b3 (.cells (chC p1).toArray 58 (0,0))::Pt b9 (.cells #[.int .i64 p1.kind,.string p1.text,.int .i64 0,.int .i64 0,s3.v] 24 (0,0))::aC 24 s3.v xq::Pt g (F s1.v)::aC 24 s1.v hs::KdA 24 l hs::(C++L)) w:=((((((hp.get 1 rfl).get 5 rfl).get 5 rfl).get 5 rfl).get 5 rfl).get 5 rfl)
       refine aB (aF ⟨gp0 hp,fun _=>⟨_,hp.get 1 rfl⟩,fun _=>⟨_,hp.get 4 rfl⟩,fun _=>⟨_,hp.get 2 rfl⟩,trivial⟩ fun hS=>?_)
       refine W1 13 (by kernel_rfl) rfl ?_
       refine fP (wk0 rfl) rfl rfl hE hp rfl [(0,ndV (⟨p1.kind,p1.text,0,0,s3⟩:NdH))] ⟨⟨rfl,rfl⟩,trivial⟩ (Enc.enc (⟨p1.kind,p1.text,0,0,s3⟩:NdH)) 24 (fun w=>by have hc0:=Sl.cells s3;simp only[Value.cells] at hc0;simp[Instr.buildSlice,Instr.fill,Value.cells,hc0,Enc.enc,go_sem]) ?_
       intro a w b13 hE hp
       have hp:=hp.imp (qQ (l:=[(⟨p1.kind,p1.text,0,0,s3⟩:NdH)]) (n:=1) rfl (by decide) (by simp[flat]))
       have hp:Hp Z ρ (aC 24 v4 hs::aC 24 (.slice (some ⟨b13,0,none⟩) 1 1) [(⟨p1.kind,p1.text,0,0,s3⟩:NdH)]::Pt b3 (.cells (chC p1).toArray 58 (0,0))::Pt b9 (.cells #[.int .i64 p1.kind,.string p1.text,.int .i64 0,.int .i64 0,s3.v] 24 (0,0))::aC 24 s3.v xq::Pt g (F s1.v)::aC 24 s1.v hs::KdA 24 l hs::(C++L)) w:=(((((((hp.get 6 rfl).get 6 rfl).get 6 rfl).get 6 rfl).get 6 rfl).get 5 rfl).get 6 rfl)
       refine aB (aF ⟨gp0 hp,fun _=>⟨_,hp.get 2 rfl⟩,fun _=>⟨_,hp.get 5 rfl⟩,fun _=>⟨_,hp.get 3 rfl⟩,trivial⟩ fun hS=>?_)
       refine W1 14 (by kernel_rfl) rfl ?_
       refine s_call (wk0 rfl) rfl rfl hE rfl [v4,(Iv (ii:Int)),(Iv ((ii+cc:Nat):Int)),.slice (some ⟨b13,0,none⟩) 1 1] ⟨rfl,rfl,rfl,rfl,trivial⟩ ndEntR (aI0 v4 _ hs [(⟨p1.kind,p1.text,0,0,s3⟩:NdH)] ii (ii+cc) (by omega) (by omega) (by simp only[List.length_singleton];omega) hp) Ret.ret ?_
       intro v5 a w hR hE
       have hp:=Ret.of hR
       obtain⟨s4,rfl⟩:=aC.toSl hp 0 rfl
       have hp:Hp Z ρ (Pt g (F s1.v)::aC 24 s4.v (hs.take ii++[(⟨p1.kind,p1.text,0,0,s3⟩:NdH)]++hs.drop (ii+cc))::aC 24 (.slice (some ⟨b13,0,none⟩) 1 1) [(⟨p1.kind,p1.text,0,0,s3⟩:NdH)]::Pt b3 (.cells (chC p1).toArray 58 (0,0))::Pt b9 (.cells #[.int .i64 p1.kind,.string p1.text,.int .i64 0,.int .i64 0,s3.v] 24 (0,0))::aC 24 s3.v xq::aC 24 s1.v hs::KdA 24 l hs::(C++L)) w:=(((((((hp.get 6 rfl).get 5 rfl).get 5 rfl).get 5 rfl).get 5 rfl).get 5 rfl).get 6 rfl)
       refine aB (aF ⟨gp0 hp,fun _=>⟨_,hp.get 3 rfl⟩,fun _=>⟨_,hp⟩,fun _=>⟨_,hp.get 4 rfl⟩,trivial⟩ fun hS=>?_)
       refine Ts [15] hE hS rfl rfl (by kernel_rfl) fun a hE hS=>?_
       refine W1 16 (by kernel_rfl) rfl ?_
       refine s_stF (wk0 rfl) rfl hE hp rfl rfl rfl hF 0 rfl tcVS.size_ ?_
       intro w hp
       have hp:Hp Z ρ (Pt g (F s4.v)::aC 24 s4.v (hs.take ii++[(⟨p1.kind,p1.text,0,0,s3⟩:NdH)]++hs.drop (ii+cc))::aC 24 (.slice (some ⟨b13,0,none⟩) 1 1) [(⟨p1.kind,p1.text,0,0,s3⟩:NdH)]::Pt b3 (.cells (chC p1).toArray 58 (0,0))::Pt b9 (.cells #[.int .i64 p1.kind,.string p1.text,.int .i64 0,.int .i64 0,s3.v] 24 (0,0))::aC 24 s3.v xq::aC 24 s1.v hs::KdA 24 l hs::(C++L)) w:=id hp
       refine aB (aF ⟨gp0 hp,fun _=>⟨_,hp.get 3 rfl⟩,dead (by kernel_rfl),fun _=>⟨_,hp.get 4 rfl⟩,trivial⟩ fun hS=>?_)
       have hp:=(((((hp.get 2 rfl).drop).get 2 rfl).drop).get 2 rfl).drop
       exact bP (by kernel_rfl) ⟨s4,hE.cut trivial,((((hp.get 3 rfl).drop.get 2 rfl).get 2 rfl).get 2 rfl)⟩
      refine dX rfl ?_
      refine fP (wk0 rfl) rfl rfl hE hp rfl [(0,ndV (⟨p1.kind,p1.text,0,0,s3⟩:NdH))] ⟨⟨rfl,rfl⟩,trivial⟩ (Enc.enc (⟨p1.kind,p1.text,0,0,s3⟩:NdH)) 24 (fun w=>by have hc0:=Sl.cells s3;simp only[Value.cells] at hc0;simp[Instr.buildSlice,Instr.fill,Value.cells,hc0,Enc.enc,go_sem]) ?_
      intro a w b13 hE hp
      have hp:=hp.imp (qQ (l:=[(⟨p1.kind,p1.text,0,0,s3⟩:NdH)]) (n:=1) rfl (by decide) (by simp[flat]))
      refine aB (aF ⟨gp0 hp,fun _=>⟨_,hp.get 1 rfl⟩,fun _=>⟨_,hp.get 4 rfl⟩,fun _=>⟨_,hp.get 2 rfl⟩,trivial⟩ fun hS=>?_)
      refine W1 4 (by kernel_rfl) rfl ?_
      have hp:Hp Z ρ (aC 24 s1.v hs::_) w:=hp.get 5 rfl
      refine s_call (wk0 rfl) rfl rfl hE rfl [s1.v] ⟨rfl,trivial⟩ ndEntC (c_cloneO hs s1.v (by omega) hp) Ret.ret ?_
      intro v4 a w hR hE
      have hp:=Ret.of hR
      have hp:Hp Z ρ (aC 24 v4 hs::aC 24 (.slice (some ⟨b13,0,none⟩) 1 1) [(⟨p1.kind,p1.text,0,0,s3⟩:NdH)]::Pt b3 (.cells (chC p1).toArray 58 (0,0))::Pt b9 (.cells #[.int .i64 p1.kind,.string p1.text,.int .i64 0,.int .i64 0,s3.v] 24 (0,0))::aC 24 s3.v xq::Pt g (F s1.v)::aC 24 s1.v hs::KdA 24 l hs::(C++L)) w:=(((((((hp.get 1 rfl).get 6 rfl).get 6 rfl).get 6 rfl).get 6 rfl).get 6 rfl).get 6 rfl)
      refine aB (aF ⟨gp0 hp,fun _=>⟨_,hp.get 2 rfl⟩,fun _=>⟨_,hp.get 5 rfl⟩,fun _=>⟨_,hp.get 3 rfl⟩,trivial⟩ fun hS=>?_)
      refine W1 14 (by kernel_rfl) rfl ?_
      refine s_call (wk0 rfl) rfl rfl hE rfl [v4,(Iv (ii:Int)),(Iv ((ii+cc:Nat):Int)),.slice (some ⟨b13,0,none⟩) 1 1] ⟨rfl,rfl,rfl,rfl,trivial⟩ ndEntR (aI0 v4 _ hs [(⟨p1.kind,p1.text,0,0,s3⟩:NdH)] ii (ii+cc) (by omega) (by omega) (by simp only[List.length_singleton];omega) hp) Ret.ret ?_
      intro v5 a w hR hE
      have hp:=Ret.of hR
      obtain⟨s4,rfl⟩:=aC.toSl hp 0 rfl
      have hp:Hp Z ρ (Pt g (F s1.v)::aC 24 s4.v (hs.take ii++[(⟨p1.kind,p1.text,0,0,s3⟩:NdH)]++hs.drop (ii+cc))::aC 24 (.slice (some ⟨b13,0,none⟩) 1 1) [(⟨p1.kind,p1.text,0,0,s3⟩:NdH)]::Pt b3 (.cells (chC p1).toArray 58 (0,0))::Pt b9 (.cells #[.int .i64 p1.kind,.string p1.text,.int .i64 0,.int .i64 0,s3.v] 24 (0,0))::aC 24 s3.v xq::aC 24 s1.v hs::KdA 24 l hs::(C++L)) w:=(((((((hp.get 6 rfl).get 5 rfl).get 5 rfl).get 5 rfl).get 5 rfl).get 5 rfl).get 6 rfl)
      refine aB (aF ⟨gp0 hp,fun _=>⟨_,hp.get 3 rfl⟩,fun _=>⟨_,hp⟩,fun _=>⟨_,hp.get 4 rfl⟩,trivial⟩ fun hS=>?_)
      refine Ts [15] hE hS rfl rfl (by kernel_rfl) fun a hE hS=>?_
      refine W1 16 (by kernel_rfl) rfl ?_
      refine s_stF (wk0 rfl) rfl hE hp rfl rfl rfl hF 0 rfl tcVS.size_ ?_
      intro w hp
      have hp:Hp Z ρ (Pt g (F s4.v)::aC 24 s4.v (hs.take ii++[(⟨p1.kind,p1.text,0,0,s3⟩:NdH)]++hs.drop (ii+cc))::aC 24 (.slice (some ⟨b13,0,none⟩) 1 1) [(⟨p1.kind,p1.text,0,0,s3⟩:NdH)]::Pt b3 (.cells (chC p1).toArray 58 (0,0))::Pt b9 (.cells #[.int .i64 p1.kind,.string p1.text,.int .i64 0,.int .i64 0,s3.v] 24 (0,0))::aC 24 s3.v xq::aC 24 s1.v hs::KdA 24 l hs::(C++L)) w:=id hp
      refine aB (aF ⟨gp0 hp,fun _=>⟨_,hp.get 3 rfl⟩,dead (by kernel_rfl),fun _=>⟨_,hp.get 4 rfl⟩,trivial⟩ fun hS=>?_)
      have hp:=(((((hp.get 2 rfl).drop).get 2 rfl).drop).get 2 rfl).drop
      exact bP (by kernel_rfl) ⟨s4,hE.cut trivial,((((hp.get 3 rfl).drop.get 2 rfl).get 2 rfl).get 2 rfl)⟩
     rintro a w ⟨s4,hE,hp⟩
     repeat (refine aG ?_)
     refine aA (S hE 1 rfl fun a hE=>?_)
     refine aB ?_
     repeat (refine aG ?_)
     refine bZ ?_
     have e0:l=l.take ii++((l.drop ii).take cc++l.drop (ii+cc)):=by
      rw[←List.drop_drop,List.take_append_drop,List.take_append_drop]
     have t1l:(l.take ii).length=ii:=by rw[List.length_take];omega
     have t2l:((l.drop ii).take cc).length=cc:=by rw[List.length_take,List.length_drop];omega
     have k0:Hp Z ρ (KdA 24 (l.take ii++((l.drop ii).take cc++l.drop (ii+cc))) hs::Pt g (F s4.v)::aC 24 s4.v (hs.take ii++[(⟨p1.kind,p1.text,0,0,s3⟩:NdH)]++hs.drop (ii+cc))::aC 24 s3.v xq::(C++L)) w:=by rw[←e0];exact hp.get 3 rfl
     have k1:=k0.kdSplit
     rw[t1l] at k1
     have k2:=(k1.get 1 rfl).kdSplit
     rw[t2l] at k2
     have e1:(hs.drop ii).take cc=xq:=by rw[hxl,List.drop_take];congr 1;omega
     rw[e1,List.drop_drop] at k2
     have k3:Hp Z ρ (aC 24 (⟨p1.kind,p1.text,0,0,s3⟩:NdH).kids.v xq::KdA 24 ((l.drop ii).take cc) xq::KdA 24 (l.drop (ii+cc)) (hs.drop (ii+cc))::KdA 24 (l.take ii) (hs.take ii)::Pt g (F s4.v)::aC 24 s4.v (hs.take ii++[(⟨p1.kind,p1.text,0,0,s3⟩:NdH)]++hs.drop (ii+cc))::(C++L)) w:=k2.get 5 rfl
     have k4:=(Hp.ndI (n:=⟨p1.kind,p1.text,0,0,(l.drop ii).take cc⟩) (x:=(⟨p1.kind,p1.text,0,0,s3⟩:NdH)) ⟨rfl,rfl,rfl,rfl⟩ k3.forI).kd1
     have k5:=Hp.kdApp (k4.get 2 rfl)
     have k6:=Hp.kdApp k5
     obtain⟨s5,k7⟩:=hclose s4 _ w ((Hp.forI (k6.get 2 rfl)).get 1 rfl)
     exact gJ hE rfl rfl ⟨_,rfl,s5,rfl,by simpa using k7⟩
noncomputable def vJ (p0:Chg):Option Bool:=
 some ((decide (p0.index=0))&&(decide (p0.count=0)))
noncomputable def vK (p0:Chg):Option Bool:=
 some ((decide (p0.op=p0.op))&&(decide (p0.node=p0.node))&&(decide (p0.index=0))&&(decide (p0.count=0))&&(decide (p0.kind=0))&&(decide (p0.text=ByteArray.empty)))
noncomputable def vM (p0:Chg):Option Bool:=
 some true
theorem aI8 {Z:World} {ρ:PH} {L:List bK} {w:World} (p0:Chg) (hp:Hp Z ρ (L) w) (r:Bool) (hm:vJ p0=some r):
  Calls Tryz.prog 76 #[(.agg #[(Iv p0.op),(Iv p0.node),(Iv p0.index),(Iv p0.count),(Iv p0.kind),(.string p0.text)])] w (Ret fun v w'=>v=(.bool r)∧Hp Z ρ (L) w'):=by
 refine enter (N:=11) Tryz.func76 rfl rfl [(0,(.agg #[(Iv p0.op),(Iv p0.node),(Iv p0.index),(Iv p0.count),(Iv p0.kind),(.string p0.text)]))] rfl (bC ⟨rfl,trivial⟩) fun a hE=>?_
 unfold vJ at hm
 refine aG (aA ?_)
 refine iI (wk0 rfl) rfl rfl hE hp rfl (v:=(.agg #[(Iv p0.op),(Iv p0.node),(Iv p0.index),(Iv p0.count),(Iv p0.kind),(.string p0.text)])) rfl ?_
 intro a w b1 hE hp
 have hp:=r1 hp
 refine S hE 1 rfl fun a hE=>aB (aG ?_)
 refine aA (V hE hp rfl (xf hE aA4 rfl rfl) fun a hE=>?_)
 refine V hE hp rfl (xl hE aT 0 rfl rfl rfl rfl) fun a hE=>S hE 2 rfl fun a hE=>?_
 refine iL [_,_,_,_] (fun a w=>Env 11 [(10,(.bool ((decide (p0.index=0))&&(decide (p0.count=0)))))] a∧Hp Z ρ (Pt b1 (.cells #[(Iv p0.op),(Iv p0.node),(Iv p0.index),(Iv p0.count),(Iv p0.kind),(.string p0.text)] 58 (0,0))::L) w) ?_ ?_
 ·rcases Bool.eq_false_or_eq_true (decide (p0.index=0)) with hc1|hc1
  ·
   refine G hE hp hc1 rfl (xf hE aA5 rfl rfl) fun a hE=>G hE hp hc1 rfl (xl hE aT 0 rfl rfl rfl rfl) fun a hE=>Gs hE hc1 rfl rfl fun a hE=>pk1 hE hc1 rfl rfl rfl rfl fun a hE=>?_
   have hE:=hE.eqv (v':=(.bool ((decide (p0.index=0))&&(decide (p0.count=0))))) (by rw[hc1];rfl)
   exact aB ⟨hE.cut ⟨rfl,trivial⟩,hp⟩
  refine Gk hE hc1 rfl fun a hE=>Gk hE hc1 rfl fun a hE=>Gk hE hc1 rfl fun a hE=>pk0 hE hc1 rfl rfl rfl rfl fun a hE=>?_
  have hE:=hE.eqv (v':=(.bool ((decide (p0.index=0))&&(decide (p0.count=0))))) (by rw[hc1];rfl)
  exact aB ⟨hE.cut ⟨rfl,trivial⟩,hp⟩
 rintro a w ⟨hE,hp⟩
 refine S hE 1 rfl fun a hE=>aB (bZ ?_)
 obtain rfl:=oj hm
 exact gJ hE rfl rfl ⟨_,rfl,rfl,(hp.drop)⟩
theorem aI9 {Z:World} {ρ:PH} {L:List bK} {w:World} (p0:Chg) (hp:Hp Z ρ (L) w) (r:Bool) (hm:vK p0=some r):
  Calls Tryz.prog 78 #[(.agg #[(Iv p0.op),(Iv p0.node),(Iv p0.index),(Iv p0.count),(Iv p0.kind),(.string p0.text)])] w (Ret fun v w'=>v=(.bool r)∧Hp Z ρ (L) w'):=by
 refine enter (N:=10) Tryz.func78 rfl rfl [(0,(.agg #[(Iv p0.op),(Iv p0.node),(Iv p0.index),(Iv p0.count),(Iv p0.kind),(.string p0.text)]))] rfl (bC ⟨rfl,trivial⟩) fun a hE=>?_
 unfold vK at hm
 refine aG (aA ?_)
 refine iI (wk0 rfl) rfl rfl hE hp rfl (v:=(.agg #[(Iv p0.op),(Iv p0.node),(Iv p0.index),(Iv p0.count),(Iv p0.kind),(.string p0.text)])) rfl ?_
 intro a w b1 hE hp
 have hp:=r1 hp
 refine S hE 1 rfl fun a hE=>aB (aG ?_)
 refine aA (V hE hp rfl (aK rfl hE rfl (fun w hw=>aW (cs:=[(Iv p0.op),(Iv p0.node),(Iv p0.index),(Iv p0.count),(Iv p0.kind),(.string p0.text)]) xA (Hp.cN 0 rfl 0 _ (aS rfl) w hw))) fun a hE=>?_)
 refine V hE hp rfl (xf hE fldty58_0 rfl rfl) fun a hE=>V hE hp rfl (xl hE aT 0 rfl rfl rfl rfl) fun a hE=>V hE hp rfl (xf hE aA3 rfl rfl) fun a hE=>V hE hp rfl (xl hE aT 0 rfl rfl rfl rfl) fun a hE=>V hE hp rfl (v:=(.agg #[(Iv p0.op),(Iv p0.node),(Iv 0),(Iv 0),(Iv 0),(.string ByteArray.empty)])) (lW rfl hE [(0,(Iv p0.op)),(1,(Iv p0.node))] (by exact⟨⟨rfl,rfl⟩,⟨rfl,rfl⟩,trivial⟩) (fun w=>by simp[Instr.build,Instr.fill,Value.cells,go_sem]<;>rfl)) fun a hE=>V hE hp rfl (v:=(.bool ((decide (p0.op=p0.op))&&(decide (p0.node=p0.node))&&(decide (p0.index=0))&&(decide (p0.count=0))&&(decide (p0.kind=0))&&(decide (p0.text=ByteArray.empty))))) (ex_steql (eqst58 p0.op p0.node p0.index p0.count p0.kind p0.text p0.op p0.node 0 0 0 ByteArray.empty) rfl hE rfl rfl) fun a hE=>S hE 1 rfl fun a hE=>aB (bZ ?_)
 obtain rfl:=oj hm
 exact gJ hE rfl rfl ⟨_,rfl,rfl,(hp.drop)⟩
theorem aJ0 {Z:World} {ρ:PH} {L:List bK} {w:World} (p0:Chg) (hp:Hp Z ρ (L) w) (r:Bool) (hm:vM p0=some r):
  Calls Tryz.prog 80 #[(.agg #[(Iv p0.op),(Iv p0.node),(Iv p0.index),(Iv p0.count),(Iv p0.kind),(.string p0.text)])] w (Ret fun v w'=>v=(.bool r)∧Hp Z ρ (L) w'):=by
 refine enter (N:=3) Tryz.func80 rfl rfl [(0,(.agg #[(Iv p0.op),(Iv p0.node),(Iv p0.index),(Iv p0.count),(Iv p0.kind),(.string p0.text)]))] rfl (bC ⟨rfl,trivial⟩) fun a hE=>?_
 unfold vM at hm
 refine aG (aA ?_)
 refine iI (wk0 rfl) rfl rfl hE hp rfl (v:=(.agg #[(Iv p0.op),(Iv p0.node),(Iv p0.index),(Iv p0.count),(Iv p0.kind),(.string p0.text)])) rfl ?_
 intro a w b1 hE hp
 have hp:=r1 hp
 refine S hE 1 rfl fun a hE=>aB (aG ?_)
 refine aA (S hE 1 rfl fun a hE=>?_)
 refine aB (bZ ?_)
 obtain rfl:=oj hm
 exact gJ hE rfl rfl ⟨_,rfl,rfl,(hp.drop)⟩
end Go.Proofs.YtopnldfjcciieaaGreat

/- A node of a list of trees, brought into focus; slots that are written; kids that are turned. -/
import Derived.Test.YtopnldfjcciieaaGreatKFoT
import Derived.Test.YtopnldfjcciieaaGreatKFo19
import Derived.Test.YtopnldfjcciieaaGreatKFo4
set_option linter.unusedVariables false
set_option linter.unusedSimpArgs false
set_option maxRecDepth 100000
set_option maxHeartbeats 4000000
namespace Go.Proofs.YtopnldfjcciieaaGreat
open Go.RowKit
section
variable {T:TypeId} {Z:World} {ρ:PH} {L:List bK} {w:World}
theorem take_drop1 {α:Type} {l:List α} {i:Nat} {x:α} (h:l[i]?=some x):l=l.take i++([x]++l.drop (i+1)):=by
 obtain⟨h3,h4⟩:=List.getElem?_eq_some_iff.1 h
 rw[List.singleton_append,←h4,←List.drop_eq_getElem_cons h3,List.take_append_drop]
theorem set_td {α:Type} {l:List α} {i:Nat} (h:i<l.length) (x:α):l.set i x=l.take i++([x]++l.drop (i+1)):=by
 rw[List.set_eq_take_append_cons_drop,if_pos h];rfl
theorem Hp.kdAt {ts:List Node} {l:List NdH} {i:Nat} {x:Node} {y:NdH} (hx:ts[i]?=some x) (hy:l[i]?=some y) (h:Hp Z ρ (KdA T ts l::L) w):NdW x y∧Hp Z ρ (jX T y.kids.v x.kids::KdA T (ts.take i) (l.take i)::KdA T (ts.drop (i+1)) (l.drop (i+1))::L) w:=by
 have hlt:=(List.getElem?_eq_some_iff.1 hx).1
 have etl:(ts.take i).length=i:=by rw[List.length_take];omega
 rw[take_drop1 hx] at h
 have h2:=h.kdSplit
 rw[etl] at h2
 have h3:=(h2.get 1 rfl).kdSplit
 obtain⟨y',ey,h4⟩:=h3.kd1O
 have ey2:y'=y:=by
  have:=congrArg (fun z=>z[0]?) ey
  simp only[List.length_singleton,List.getElem?_take,List.getElem?_drop,Nat.add_zero,hy] at this
  simpa using this.symm
 subst ey2
 obtain⟨hw,h5⟩:=h4.ndO
 have e6:(l.drop i).drop [x].length=l.drop (i+1):=by rw[List.drop_drop];rfl
 rw[e6] at h5
 have e7:(ts.take i++([x]++ts.drop (i+1))).take i=ts.take i:=by rw[List.take_append_of_le_length (by omega),List.take_of_length_le (by omega)]
 have e8:(ts.take i++([x]++ts.drop (i+1))).drop (i+1)=ts.drop (i+1):=by rw[←take_drop1 hx]
 exact⟨hw,((h5.get 1 rfl).get 2 rfl).get 2 rfl⟩
theorem Hp.kdPut {ts:List Node} {l:List NdH} {i:Nat} {x:Node} {y:NdH} (hi:i<ts.length) (hl:i<l.length) (hw:NdW x y) (h:Hp Z ρ (jX T y.kids.v x.kids::KdA T (ts.take i) (l.take i)::KdA T (ts.drop (i+1)) (l.drop (i+1))::L) w):Hp Z ρ (KdA T (ts.set i x) (l.set i y)::L) w:=by
 rw[set_td hi,set_td hl]
 have h6:=(Hp.ndI hw h).kd1
 have h7:=Hp.kdApp ((h6.get 2 rfl).get 1 rfl)
 exact Hp.kdApp (h7.get 1 rfl)
end
theorem kidFocus {Z:World} {ρ:PH} {L:List bK} {w:World} {X:bK} {s:Sl} {l:List NdH} {ts:List Node} {i nb no of0 cap:Nat} {x:Node} {y:NdH} (hx:ts[i]?=some x) (hy:l[i]?=some y) (bv:s.v= .slice (some ⟨nb,of0,none⟩) l.length cap) (bo:no=of0+i*5) (hp:Hp Z ρ (X::aC 24 s.v l::KdA 24 ts l::L) w):
  ∃F2:Value→Obj,zG nb (no+4) F2∧Hp Z ρ (Pt nb (F2 y.kids.v)::jX 24 y.kids.v x.kids::([X,KdA 24 (ts.take i) (l.take i),KdA 24 (ts.drop (i+1)) (l.drop (i+1))]++L)) w∧
   ∀(s2:Sl) (ts2:List Node) (w2:World) (L2:List bK),Hp Z ρ (Pt nb (F2 s2.v)::jX 24 s2.v ts2::([X,KdA 24 (ts.take i) (l.take i),KdA 24 (ts.drop (i+1)) (l.drop (i+1))]++L2)) w2→Hp Z ρ (X::jX 24 s.v (ts.set i (x.re ts2))::L2) w2:=by
 have hll:=hp.kdLen 2 rfl
 obtain⟨hyl,hyg⟩:=List.getElem?_eq_some_iff.1 hy
 rcases(hp.get 1 rfl).openB with⟨A,e1,e2⟩|⟨gb,off,cap2,pr,rr,e1,hpl,hlc,hcm,hrr,hpb⟩
 ·rw[e2] at hyl;simp at hyl
 replace hrr:rr.length=(cap2-l.length)*5:=hrr
 rw[bv] at e1
 simp only[Value.slice.injEq,Option.some.injEq,Addr.mk.injEq,and_true,true_and] at e1
 obtain⟨⟨rfl,rfl⟩,rfl⟩:=e1
 have hfl:=fl5 l
 obtain⟨c0,hc0⟩:∃c0,c0=(pr++flat l++rr).toArray:=⟨_,rfl⟩
 have hc0s:c0.size=of0+cap*5:=by rw[hc0,List.size_toArray,List.length_append,List.length_append,hfl,hrr,hpl];omega
 have hset:∀s2:Sl,c0.setIfInBounds (no+4) s2.v=(pr++flat (l.set i ⟨y.kind,y.text,y.at_,y.fin,s2⟩)++rr).toArray:=fun s2=>by
  rw[hc0,List.setIfInBounds_toArray]
  congr 1
  have e3:no+4=pr.length+(i*5+4):=by omega
  rw[e3,List.append_assoc,List.set_append,if_neg (by omega),Nat.add_sub_cancel_left,List.set_append,if_pos (by rw[hfl];omega),←List.append_assoc]
  congr 2
  exact aJ5 l i y ⟨y.kind,y.text,y.at_,y.fin,s2⟩ 4 s2.v hy rfl (by decide)
 have hself:c0.setIfInBounds (no+4) y.kids.v=c0:=by
  rw[hset,hc0]
  have e4:l.set i ⟨y.kind,y.text,y.at_,y.fin,y.kids⟩=l:=by
   have:(⟨y.kind,y.text,y.at_,y.fin,y.kids⟩:NdH)=y:=rfl
   rw[this,←hyg];exact List.set_getElem_self hyl
  rw[e4]
 have h1:Hp Z ρ (KdA 24 ts l::Pt nb (.cells (pr++flat l++rr).toArray 24 (0,0))::X::L) w:=hpb.get 2 rfl
 obtain⟨hyw,h5⟩:=Hp.kdAt hx hy h1
 refine⟨fun v=> .cells (c0.setIfInBounds (no+4) v) 24 (0,0),zG.arr (by rw[hc0s];omega),?_,?_⟩
 ·show Hp Z ρ (Pt nb (.cells (c0.setIfInBounds (no+4) y.kids.v) 24 (0,0))::_) w
  rw[hself,hc0]
  exact(((h5.get 2 rfl).get 2 rfl).get 4 rfl).get 3 rfl |>.get 4 rfl
 intro s2 ts2 w2 L2 h3
 have h3:Hp Z ρ (Pt nb (.cells (c0.setIfInBounds (no+4) s2.v) 24 (0,0))::jX 24 s2.v ts2::X::KdA 24 (ts.take i) (l.take i)::KdA 24 (ts.drop (i+1)) (l.drop (i+1))::L2) w2:=h3
 rw[hset] at h3
 have h4:=Hp.shutB (α:=NdH) (l:=l.set i ⟨y.kind,y.text,y.at_,y.fin,s2⟩) (off:=of0) (cap:=cap) h3 hpl (by rw[List.length_set];omega) hcm (by rw[List.length_set];exact hrr)
 rw[List.length_set,←bv] at h4
 have h6:Hp Z ρ (jX 24 (⟨y.kind,y.text,y.at_,y.fin,s2⟩:NdH).kids.v (x.re ts2).kids::KdA 24 (ts.take i) (l.take i)::KdA 24 (ts.drop (i+1)) (l.drop (i+1))::X::aC 24 s.v (l.set i ⟨y.kind,y.text,y.at_,y.fin,s2⟩)::L2) w2:=(((h4.get 2 rfl).get 4 rfl).get 4 rfl).get 4 rfl
 have h7:=Hp.kdPut (T:=24) (x:=x.re ts2) (y:=⟨y.kind,y.text,y.at_,y.fin,s2⟩) (by have:=(List.getElem?_eq_some_iff.1 hx).1;exact this) hyl hyw h6
 exact(Hp.forI (h7.get 2 rfl)).get 1 rfl
theorem s_stF {Rn:Option Nat} {P:Program} {ops:Array Oper} {Q:Exit→Act→World→Prop} {rest:List Oper} {o:Oper} {a:Act} {w:World} {Df:List Deferred} {N:Nat} {E:Ent} {Z:World} {ρ:PH} {L:List bK} (wk:Region.wanted o (yielded ops a.tmps)=true) (hd:o.dst=none) (hE:EnvD Df N E a) (hp:Hp Z ρ L w) {T:TypeId} {x y:Operand} (ho:o.op= .store T x y) {g off:Nat} (hx:evo E x=some (Pv g off)) {s s2:Sl} (hy:evo E y=some s2.v) {F:Value→Obj} (hF:zG g off F) (i:Nat) (hi:L[i]?=some (Pt g (F s.v)))
  (ht:∀w,(sizeOf T).run P w= .ok 1 w) (K:∀w,Hp Z ρ (L.set i (Pt g (F s2.v))) w→wpL Rn P ops Q rest a w):wpL Rn P ops Q (o::rest) a w:=by
 obtain⟨cs,El,h1,h2,h3⟩:=hF s
 obtain⟨cl⟩:=cs
 rw[h1] at hi
 have hlt:off<cl.length:=by
  have:=(Array.getElem?_eq_some_iff.1 h2).1
  simpa using this
 refine bQ wk hd hE hp ho hx hy i hi ht (Sl.cells s2) (Sl.one s2) (by rw[Nat.ble_eq];omega) (cl.set off s2.v) rfl fun w hp=>K w ?_
 rw[h3 s2,List.setIfInBounds_toArray]
 exact hp
abbrev chV (c:Chg):Value:= .agg #[.int .i64 c.op,.int .i64 c.node,.int .i64 c.index,.int .i64 c.count,.int .i64 c.kind,.string c.text]
abbrev chC (c:Chg):List Value:=[.int .i64 c.op,.int .i64 c.node,.int .i64 c.index,.int .i64 c.count,.int .i64 c.kind,.string c.text]
theorem cgF0:mY Tryz.prog 58 0 0:=fun b o w=>by simp[Instr.fieldAt,go_sem]
theorem cgF1:mY Tryz.prog 58 1 1:=fun b o w=>by simp[Instr.fieldAt,go_sem]
theorem cgF2:mY Tryz.prog 58 2 2:=fun b o w=>by simp[Instr.fieldAt,go_sem]
theorem cgF3:mY Tryz.prog 58 3 3:=fun b o w=>by simp[Instr.fieldAt,go_sem]
theorem cgF4:mY Tryz.prog 58 4 4:=fun b o w=>by simp[Instr.fieldAt,go_sem]
theorem cgF5:mY Tryz.prog 58 5 5:=fun b o w=>by simp[Instr.fieldAt,go_sem]
theorem ndF0:mY Tryz.prog 24 0 0:=fun b o w=>by simp[Instr.fieldAt,go_sem]
theorem ndF1:mY Tryz.prog 24 1 1:=fun b o w=>by simp[Instr.fieldAt,go_sem]
theorem cgVS:VarTy Tryz.prog 9 false 1:=⟨fun w=>by simp[isAgg,go_sem],fun w=>by simp[sizeOf,go_sem]<;>rfl⟩
theorem aG0 {P:Program} {C:World→Prop} {a:Act} {o:Oper} {Df:List Deferred} {N:Nat} {E:Ent} {t t':TypeId} {x y:Operand} (ht:P.underlying t=some (.pointer (P.pointee t))) (ho:o.op= .binOp .eql t x y t') (hE:EnvD Df N E a) {A:Option Addr} (hx:evo E x=some (.pointer A)) (hy:evo E y=some (.pointer none)):Ex P C a o (.bool A.isNone):=uM ho hE hx hy fun w _=>by
 have:=run_eql_pointer_nil (P:=P) (w:=w) t A ht
 simp[eqGuard,this]
theorem idx_at {α:Type} {l:List α} {i:Nat} {x:α} (h:l[i]?=some x):idx l (i:Int)=some x:=by unfold idx;rw[if_pos (by omega)];simpa using h
theorem m_at_some {ts:List Node} {n:Int} {q:Option (List Node×Nat×(List Node→List Node))} (h:m_at ts n=some q):0≤n∧n<9223372036854775808∧qI ts≤4294967296∧atL [] ts n.toNat=q:=by
 unfold m_at at h
 split at h
 ·rename_i hc;exact⟨hc.1,hc.2.1,hc.2.2,oj h⟩
 cases h
theorem Hp.boxOut {Z:World} {ρ:PH} {L C:List bK} {w:World} {X A B D:bK} (hp:Hp Z ρ (A::B::D::(C++(X::L))) w):Hp Z ρ (X::A::B::D::(C++L)) w:=by
 have h2:=hp.get (L:=(A::B::D::C)++(X::L)) (3+C.length) (A:=X) (by
  rw[List.getElem?_append_right (by simp only[List.length_cons];omega)]
  simp only[List.length_cons]
  rw[show 3+C.length-(C.length+1+1+1)=0 by omega];rfl)
 rw[List.eraseIdx_append_of_length_le (by simp only[List.length_cons];omega)] at h2
 simp only[List.length_cons] at h2
 rw[show 3+C.length-(C.length+1+1+1)=0 by omega] at h2
 exact h2
theorem c_relabel {Z:World} {ρ:PH} {L:List bK} {w:World} (bp0:Nat) (p0:List Node) (s:Sl) (p1:Chg) (hp:Hp Z ρ (Pt bp0 (.cells #[s.v] 22 (0,0))::jX 24 s.v p0::L) w) (r:Int×List Node) (hm:aG3 p0 p1=some r):
  Calls Tryz.prog 77 #[.pointer (some ⟨bp0,0,none⟩),chV p1] w (Ret fun v w'=>∃s':Sl,v= .int .i64 r.1∧Hp Z ρ (Pt bp0 (.cells #[s'.v] 22 (0,0))::jX 24 s'.v r.2::L) w'):=by
 unfold aG3 at hm
 obtain⟨q,hq,hm⟩:=bnd hm
 obtain⟨hn0,hnode,hcl,hat⟩:=m_at_some hq
 refine enter (N:=28) Tryz.func77 rfl rfl [(0,.pointer (some ⟨bp0,0,none⟩)),(1,chV p1)] rfl (bC ⟨rfl,rfl,trivial⟩) fun a hE=>?_
 repeat (refine aG ?_)
 refine aA ?_
 refine iI (wk0 rfl) rfl rfl hE hp rfl (v:=chV p1) rfl ?_
 intro a w b3 hE hp
 have hp:Hp Z ρ (Pt b3 (.cells (chC p1).toArray 58 (0,0))::Pt bp0 (.cells #[s.v] 22 (0,0))::jX 24 s.v p0::L) w:=id hp
 refine S hE 1 rfl fun a hE=>aB ?_
 repeat (refine aG ?_)
 refine aA (S hE 1 rfl fun a hE=>?_)
 refine V hE hp rfl (dF rfl hE rfl (cgF1 _ _)) fun a hE=>V hE hp rfl (xl hE oP 0 rfl rfl rfl rfl) fun a hE=>?_
 have hp:Hp Z ρ (Pt bp0 ((fun v=>Obj.cells #[v] 22 (0,0)) s.v)::jX 24 s.v p0::Pt b3 (.cells (chC p1).toArray 58 (0,0))::L) w:=hp.get 1 rfl |>.get 2 rfl |>.get 1 rfl
 have hnn:((p1.node.toNat:Nat):Int)=p1.node:=by omega
 refine s_call (wk0 rfl) rfl rfl hE rfl [.pointer (some ⟨bp0,0,none⟩),.int .i64 p1.node] ⟨rfl,rfl,trivial⟩ ndEntA (by have:=at_c (Z:=Z) (ρ:=ρ) _ p0 (Nat.le_refl _) p1.node.toNat bp0 0 _ (zG.one bp0 22) s (Pt b3 (.cells (chC p1).toArray 58 (0,0))::L) w (by omega) hcl hp;rw[hnn] at this;exact this) Ret.ret ?_
 intro v2 a w hR hE
 have hP:=Ret.of hR
 rw[hat] at hP
 rcases q with _|⟨t1,i1,pp⟩
 ·
  obtain⟨rfl,hp⟩:=hP
  refine S hE 7 rfl fun a hE=>aB ?_
  repeat (refine aG ?_)
  refine aA (S hE 1 rfl fun a hE=>?_)
  refine V hE hp rfl (v:= .bool true) (aG0 (A:=none) (by kernel_rfl) rfl hE rfl rfl) fun a hE=>aB ?_
  repeat (refine aG ?_)
  refine dE hE rfl (fun _=>?_) (fun hc=>by cases hc)
  repeat (refine aG ?_)
  refine aA (S hE 1 rfl fun a hE=>?_)
  refine aB ?_
  repeat (refine aG ?_)
  refine bZ ?_
  obtain rfl:=oj hm
  exact gJ hE rfl rfl ⟨_,rfl,s,rfl,(hp.get 2 rfl).drop⟩
 obtain⟨g1,o1,F1,s1,l1,nb,no,C,hF1,⟨of0,cap,bv,bo⟩,hi1,rfl,hcl1,hp⟩:=hP
 obtain⟨x,hx⟩:∃x,t1[i1]?=some x:=⟨_,List.getElem?_eq_getElem hi1⟩
 simp only[hx,Option.map_some] at hm
 obtain rfl:=oj hm
 have hll:=hp.kdLen 2 rfl
 obtain⟨y,hy⟩:∃y,l1[i1]?=some y:=⟨_,List.getElem?_eq_getElem (by omega)⟩
 have hp:=hp.boxOut
 refine S hE 7 rfl fun a hE=>aB ?_
 repeat (refine aG ?_)
 refine aA (S hE 1 rfl fun a hE=>?_)
 refine V hE hp rfl (v:= .bool false) (aG0 (A:=some ⟨nb,no,none⟩) (by kernel_rfl) rfl hE rfl rfl) fun a hE=>aB ?_
 repeat (refine aG ?_)
 refine dE hE rfl (fun hc=>by cases hc) (fun _=>?_)
 refine aZ ?_
 repeat (refine aG ?_)
 have hp:=hp.drew
 refine fG ([([],At0 Z ρ),([],At1 Z ρ (Pt b3 (.cells (chC p1).toArray 58 (0,0))))]:Facts) (fun a w=>Env 28 [] a∧Hp Z ρ (Pt b3 (.cells (chC p1).toArray 58 (0,0))::Pt g1 (F1 s1.v)::aC 24 s1.v (l1.set i1 ⟨p1.kind,p1.text,y.at_,y.fin,y.kids⟩)::KdA 24 t1 l1::(C++L)) w) (by kernel_rfl) ⟨fun _=>⟨_,hp⟩,fun _=>⟨_,hp⟩,trivial⟩ (fun hS=>?_) ?_
 ·
  generalize w.drew=w at hS hp⊢
  refine Ts [0,1] hE hS rfl rfl (by kernel_rfl) fun a hE hS=>T0 2 hE hS rfl rfl rfl (by kernel_rfl) (fun _=>dF rfl hE rfl (cgF4 _ _)) fun a hE hS=>T 3 1 hE hS rfl rfl rfl (by kernel_rfl) (fun _=>xl hE oP 0 rfl rfl rfl rfl) fun a hE hS=>T0 4 hE hS rfl rfl rfl (by kernel_rfl) (fun _=>dF rfl hE rfl (cgF5 _ _)) fun a hE hS=>T 5 1 hE hS rfl rfl rfl (by kernel_rfl) (fun _=>xl hE cgVS 0 rfl rfl rfl rfl) fun a hE hS=>Ts [6] hE hS rfl rfl (by kernel_rfl) fun a hE hS=>T0 7 hE hS rfl rfl rfl (by kernel_rfl) (fun _=>dF rfl hE rfl (ndF0 _ _)) fun a hE hS=>?_
  refine W1 8 (by kernel_rfl) rfl ?_
  refine zF (α:=NdH) (wk0 rfl) rfl hE hp rfl rfl rfl 2 rfl (idx_at hy) ⟨of0,cap,bv,bo⟩ 0 (e':=⟨p1.kind,y.text,y.at_,y.fin,y.kids⟩) oP.size_ rfl rfl rfl ⟨rfl,rfl⟩ ?_
  intro w hp
  have hp:Hp Z ρ (Pt b3 (.cells (chC p1).toArray 58 (0,0))::Pt g1 (F1 s1.v)::aC 24 s1.v (l1.set i1 ⟨p1.kind,y.text,y.at_,y.fin,y.kids⟩)::KdA 24 t1 l1::(C++L)) w:=id hp
  refine aB (aF ⟨gp0 hp,fun _=>⟨_,hp⟩,trivial⟩ fun hS=>?_)
  refine Ts [9] hE hS rfl rfl (by kernel_rfl) fun a hE hS=>T0 10 hE hS rfl rfl rfl (by kernel_rfl) (fun _=>dF rfl hE rfl (ndF1 _ _)) fun a hE hS=>?_
  refine W1 11 (by kernel_rfl) rfl ?_
  refine zF (α:=NdH) (wk0 rfl) rfl hE hp rfl rfl rfl 2 rfl (i:=(i1:Int)) (e:=⟨p1.kind,y.text,y.at_,y.fin,y.kids⟩) (idx_at (by rw[List.getElem?_set_self (by omega)])) ⟨of0,cap,by rw[List.length_set];exact bv,bo⟩ 1 (e':=⟨p1.kind,p1.text,y.at_,y.fin,y.kids⟩) cgVS.size_ rfl rfl rfl ⟨rfl,rfl⟩ ?_
  intro w hp
  have hp:Hp Z ρ (Pt b3 (.cells (chC p1).toArray 58 (0,0))::Pt g1 (F1 s1.v)::aC 24 s1.v (l1.set i1 ⟨p1.kind,p1.text,y.at_,y.fin,y.kids⟩)::KdA 24 t1 l1::(C++L)) w:=by
   have h1:=hp
   simp only[Int.toNat_natCast,List.set_cons_succ,List.set_cons_zero,List.set_set] at h1
   exact h1
  refine aB (aF ⟨gp0 hp,fun _=>⟨_,hp⟩,trivial⟩ fun hS=>?_)
  exact bP (by kernel_rfl) ⟨hE.cut trivial,hp⟩
 rintro a w ⟨hE,hp⟩
 repeat (refine aG ?_)
 refine aA (S hE 1 rfl fun a hE=>?_)
 refine aB ?_
 repeat (refine aG ?_)
 refine bZ ?_
 have hp:=hp.drop
 obtain⟨hyw,h5⟩:=Hp.kdAt hx hy ((((hp.get 1 rfl).get 1 rfl).get 2 rfl))
 have h6:=Hp.kdPut (T:=24) (ts:=t1) (l:=l1) (i:=i1) (x:=⟨p1.kind,p1.text,x.at_,x.fin,x.kids⟩) (y:=⟨p1.kind,p1.text,y.at_,y.fin,y.kids⟩) hi1 (by omega) ⟨rfl,rfl,hyw.2.2.1,hyw.2.2.2⟩ h5
 obtain⟨s3,h7⟩:=hcl1 s1 _ w L ((Hp.forI (h6.get 2 rfl)).get 1 rfl)
 exact gJ hE rfl rfl ⟨_,rfl,s3,rfl,h7⟩
theorem c_remove {Z:World} {ρ:PH} {L:List bK} {w:World} (bp0:Nat) (p0:List Node) (s:Sl) (p1:Chg) (hp:Hp Z ρ (Pt bp0 (.cells #[s.v] 22 (0,0))::jX 24 s.v p0::L) w) (r:Int×List Node) (hm:aJ6 p0 p1=some r):
  Calls Tryz.prog 79 #[.pointer (some ⟨bp0,0,none⟩),chV p1] w (Ret fun v w'=>∃s':Sl,v= .int .i64 r.1∧Hp Z ρ (Pt bp0 (.cells #[s'.v] 22 (0,0))::jX 24 s'.v r.2::L) w'):=by
 unfold aJ6 at hm
 obtain⟨q,hq,hm⟩:=bnd hm
 obtain⟨hn0,hnode,hcl,hat⟩:=m_at_some hq
 refine enter (N:=32) Tryz.func79 rfl rfl [(0,.pointer (some ⟨bp0,0,none⟩)),(1,chV p1)] rfl (bC ⟨rfl,rfl,trivial⟩) fun a hE=>?_
 repeat (refine aG ?_)
 refine aA ?_
 refine iI (wk0 rfl) rfl rfl hE hp rfl (v:=chV p1) rfl ?_
 intro a w b3 hE hp
 have hp:Hp Z ρ (Pt b3 (.cells (chC p1).toArray 58 (0,0))::Pt bp0 (.cells #[s.v] 22 (0,0))::jX 24 s.v p0::L) w:=id hp
 refine S hE 1 rfl fun a hE=>aB ?_
 repeat (refine aG ?_)
 refine aA (S hE 1 rfl fun a hE=>?_)
 refine V hE hp rfl (dF rfl hE rfl (cgF1 _ _)) fun a hE=>V hE hp rfl (xl hE oP 0 rfl rfl rfl rfl) fun a hE=>?_
 have hp:Hp Z ρ (Pt bp0 ((fun v=>Obj.cells #[v] 22 (0,0)) s.v)::jX 24 s.v p0::Pt b3 (.cells (chC p1).toArray 58 (0,0))::L) w:=hp.get 1 rfl |>.get 2 rfl |>.get 1 rfl
 have hnn:((p1.node.toNat:Nat):Int)=p1.node:=by omega
 refine s_call (wk0 rfl) rfl rfl hE rfl [.pointer (some ⟨bp0,0,none⟩),.int .i64 p1.node] ⟨rfl,rfl,trivial⟩ ndEntA (by have:=at_c (Z:=Z) (ρ:=ρ) _ p0 (Nat.le_refl _) p1.node.toNat bp0 0 _ (zG.one bp0 22) s (Pt b3 (.cells (chC p1).toArray 58 (0,0))::L) w (by omega) hcl hp;rw[hnn] at this;exact this) Ret.ret ?_
 intro v2 a w hR hE
 have hP:=Ret.of hR
 rw[hat] at hP
 rcases q with _|⟨t1,i1,pp⟩
 ·
  obtain⟨rfl,hp⟩:=hP
  refine S hE 7 rfl fun a hE=>aB ?_
  repeat (refine aG ?_)
  refine aA (S hE 1 rfl fun a hE=>?_)
  refine V hE hp rfl (v:= .bool true) (aG0 (A:=none) (by kernel_rfl) rfl hE rfl rfl) fun a hE=>aB ?_
  repeat (refine aG ?_)
  refine dE hE rfl (fun _=>?_) (fun hc=>by cases hc)
  repeat (refine aG ?_)
  refine aA (S hE 1 rfl fun a hE=>?_)
  refine aB ?_
  repeat (refine aG ?_)
  refine bZ ?_
  obtain rfl:=oj hm
  exact gJ hE rfl rfl ⟨_,rfl,s,rfl,(hp.get 2 rfl).drop⟩
 obtain⟨g1,o1,F1,s1,l1,nb,no,C,hF1,⟨of0,cap,bv,bo⟩,hi1,rfl,hcl1,hp⟩:=hP
 obtain⟨x,hx⟩:∃x,t1[i1]?=some x:=⟨_,List.getElem?_eq_getElem hi1⟩
 have hll:=hp.kdLen 2 rfl
 obtain⟨y,hy⟩:∃y,l1[i1]?=some y:=⟨_,List.getElem?_eq_getElem (by omega)⟩
 have hp:=hp.boxOut
 simp only[hx,Option.bind_some] at hm
 split at hm
 case isFalse=>cases hm
 rename_i hlim
 obtain rfl:=oj hm
 refine S hE 7 rfl fun a hE=>aB ?_
 repeat (refine aG ?_)
 refine aA (S hE 1 rfl fun a hE=>?_)
 refine V hE hp rfl (v:= .bool false) (aG0 (A:=some ⟨nb,no,none⟩) (by kernel_rfl) rfl hE rfl rfl) fun a hE=>aB ?_
 repeat (refine aG ?_)
 refine dE hE rfl (fun hc=>by cases hc) (fun _=>?_)
 refine aZ ?_
 have hp:=hp.drop
 obtain⟨hyw,h5⟩:=Hp.kdAt hx hy ((((hp.get 1 rfl).get 1 rfl).get 2 rfl))
 obtain⟨l2,h6⟩:=h5.forO
 have hl2:=h6.kdLen 1 rfl
 have hp:Hp Z ρ (Pt g1 (F1 s1.v)::aC 24 s1.v l1::aC 24 y.kids.v l2::KdA 24 x.kids l2::KdA 24 (t1.take i1) (l1.take i1)::KdA 24 (t1.drop (i1+1)) (l1.drop (i1+1))::(C++L)) w:=((((((h6.get 3 rfl).get 3 rfl).get 3 rfl).get 3 rfl).get 5 rfl).get 5 rfl)
 repeat (refine aG ?_)
 have hp:=hp.drew
 refine fG ([([],At0 Z ρ),([14],At1 Z ρ (Pt g1 (F1 s1.v))),([],At1 Z ρ (aC 24 s1.v l1))]:Facts) (fun a w=>Env 32 [] a∧∃s3:Sl,Hp Z ρ (Pt g1 (F1 s3.v)::aC 24 s3.v (l1.take i1++l2++l1.drop (i1+1))::KdA 24 x.kids l2::KdA 24 (t1.take i1) (l1.take i1)::KdA 24 (t1.drop (i1+1)) (l1.drop (i1+1))::(C++L)) w) (by kernel_rfl) ⟨fun _=>⟨_,hp⟩,fun _=>⟨_,hp⟩,fun _=>⟨_,hp.get 1 rfl⟩,trivial⟩ (fun hS=>?_) ?_
 ·
  generalize w.drew=w at hS hp⊢
  refine Ts [0,1,2,5,6] hE hS rfl rfl (by kernel_rfl) fun a hE hS=>T0 7 hE hS rfl rfl rfl (by kernel_rfl) (v:=(Iv ((i1+1:Nat):Int))) (fun _=>bF rfl hE rfl rfl (by have:=D9 p0;rw[IntKind.wrap_i64];omega)) fun a hE hS=>Ts [8,9] hE hS rfl rfl (by kernel_rfl) fun a hE hS=>T0 10 hE hS rfl rfl rfl (by kernel_rfl) (fun _=>dF rfl hE rfl (tcF4 _ _)) fun a hE hS=>?_
  obtain⟨gb,off,br,⟨of1,cap1,bv1,bo1⟩,bf⟩:=aC.at hp 1 rfl jH (idx_at hy)
  rw[bv] at bv1
  simp only[Value.slice.injEq,Option.some.injEq,Addr.mk.injEq,and_true,true_and] at bv1
  obtain⟨⟨rfl,rfl⟩,rfl⟩:=bv1
  have bo1:off=of0+i1*5:=by rw[bo1,Int.toNat_natCast];rfl
  obtain rfl:off=no:=by rw[bo1,bo]
  refine T 3 1 hE hS rfl rfl rfl (by kernel_rfl) (fun _=>aK rfl hE rfl (fun w hw=>hF1.ld hw 0 rfl)) fun a hE hS=>T 11 2 hE hS rfl rfl rfl (by kernel_rfl) (fun _=>aK rfl hE rfl (fun w hw=>aV tcVS (bf 4 _ rfl _ _ w hw))) fun a hE hS=>?_
  refine W1 4 (by kernel_rfl) rfl ?_
  have hp:Hp Z ρ (aC 24 s1.v l1::Pt g1 (F1 s1.v)::aC 24 y.kids.v l2::KdA 24 x.kids l2::KdA 24 (t1.take i1) (l1.take i1)::KdA 24 (t1.drop (i1+1)) (l1.drop (i1+1))::(C++L)) w:=(((hp.get 2 rfl).get 1 rfl).get 2 rfl)
  refine s_call (wk0 rfl) rfl rfl hE rfl [s1.v] ⟨rfl,trivial⟩ ndEntC (c_cloneO l1 s1.v (by omega) hp) Ret.ret ?_
  intro v4 a w hR hE
  have hp:=Ret.of hR
  have hp:Hp Z ρ (aC 24 v4 l1::aC 24 y.kids.v l2::Pt g1 (F1 s1.v)::aC 24 s1.v l1::KdA 24 x.kids l2::KdA 24 (t1.take i1) (l1.take i1)::KdA 24 (t1.drop (i1+1)) (l1.drop (i1+1))::(C++L)) w:=((((hp.get 1 rfl).get 2 rfl).get 3 rfl).get 3 rfl)
  refine aB (aF ⟨gp0 hp,fun _=>⟨_,hp.get 2 rfl⟩,fun _=>⟨_,hp.get 3 rfl⟩,trivial⟩ fun hS=>?_)
  refine W1 12 (by kernel_rfl) rfl ?_
  refine s_call (wk0 rfl) rfl rfl hE rfl [v4,(Iv (i1:Int)),(Iv ((i1+1:Nat):Int)),y.kids.v] ⟨rfl,rfl,rfl,rfl,trivial⟩ ndEntR (aI0 v4 y.kids.v l1 l2 i1 (i1+1) (by omega) (by omega) (by omega) hp) Ret.ret ?_
  intro v5 a w hR hE
  have hp:=Ret.of hR
  obtain⟨s3,rfl⟩:=aC.toSl hp 0 rfl
  have hp:Hp Z ρ (Pt g1 (F1 s1.v)::aC 24 s3.v (l1.take i1++l2++l1.drop (i1+1))::aC 24 y.kids.v l2::aC 24 s1.v l1::KdA 24 x.kids l2::KdA 24 (t1.take i1) (l1.take i1)::KdA 24 (t1.drop (i1+1)) (l1.drop (i1+1))::(C++L)) w:=((((hp.get 3 rfl).get 2 rfl).get 2 rfl).get 3 rfl)
  refine aB (aF ⟨gp0 hp,fun _=>⟨_,hp⟩,fun _=>⟨_,hp.get 3 rfl⟩,trivial⟩ fun hS=>?_)
  refine Ts [13] hE hS rfl rfl (by kernel_rfl) fun a hE hS=>?_
  refine W1 14 (by kernel_rfl) rfl ?_
  refine s_stF (wk0 rfl) rfl hE hp rfl rfl rfl hF1 0 rfl tcVS.size_ ?_
  intro w hp
  have hp:Hp Z ρ (Pt g1 (F1 s3.v)::aC 24 s3.v (l1.take i1++l2++l1.drop (i1+1))::aC 24 y.kids.v l2::aC 24 s1.v l1::KdA 24 x.kids l2::KdA 24 (t1.take i1) (l1.take i1)::KdA 24 (t1.drop (i1+1)) (l1.drop (i1+1))::(C++L)) w:=id hp
  refine aB (aF ⟨gp0 hp,dead (by kernel_rfl),fun _=>⟨_,hp.get 3 rfl⟩,trivial⟩ fun hS=>?_)
  exact bP (by kernel_rfl) ⟨hE.cut trivial,s3,(((hp.get 2 rfl).drop).get 2 rfl).drop⟩
 rintro a w ⟨hE,s3,hp⟩
 repeat (refine aG ?_)
 refine aA (S hE 1 rfl fun a hE=>?_)
 refine aB ?_
 repeat (refine aG ?_)
 refine bZ ?_
 have h1:Hp Z ρ (KdA 24 (t1.take i1) (l1.take i1)::KdA 24 x.kids l2::KdA 24 (t1.drop (i1+1)) (l1.drop (i1+1))::Pt g1 (F1 s3.v)::aC 24 s3.v (l1.take i1++l2++l1.drop (i1+1))::(C++L)) w:=(((((hp.get 1 rfl).get 1 rfl).get 4 rfl).get 3 rfl).get 4 rfl)
 have h2:=Hp.kdApp (Hp.kdApp h1)
 obtain⟨s4,h3⟩:=hcl1 s3 _ w L ((Hp.forI (h2.get 2 rfl)).get 1 rfl)
 exact gJ hE rfl rfl ⟨_,rfl,s4,rfl,h3⟩
end Go.Proofs.YtopnldfjcciieaaGreat

/- A node of a list of trees, brought into focus; slots that are written; kids that are turned. -/
import Derived.Test.YtopnldfjcciieaaGreatKLeT
import Derived.Test.YtopnldfjcciieaaGreatKLe19
import Derived.Test.YtopnldfjcciieaaGreatKLe4
set_option linter.unusedVariables false
set_option linter.unusedSimpArgs false
set_option maxRecDepth 100000
set_option maxHeartbeats 4000000
namespace Go.Proofs.YtopnldfjcciieaaGreat
open Go.RowKit
section
variable {T:TypeId} {Z:World} {ρ:PH} {L:List bQ} {w:World}
theorem take_drop1 {α:Type} {l:List α} {i:Nat} {x:α} (h:l[i]?=some x):l=l.take i++([x]++l.drop (i+1)):=by
 obtain⟨h3,h4⟩:=uR.1 h
 rw[List.singleton_append,←h4,←List.drop_eq_getElem_cons h3,zR]
theorem set_td {α:Type} {l:List α} {i:Nat} (h:i<l.length) (x:α):l.set i x=l.take i++([x]++l.drop (i+1)):=by
 rw[List.set_eq_take_append_cons_drop,if_pos h];rfl
theorem Hp.kdAt {ts:List Node} {l:List NdH} {i:Nat} {x:Node} {y:NdH} (A:ts[i]?=some x) (hy:l[i]?=some y) (h:Hp Z ρ (KdA T ts l::L) w):NdW x y∧Hp Z ρ (lH T y.kids.v x.kids::KdA T (ts.take i) (l.take i)::KdA T (ts.drop (i+1)) (l.drop (i+1))::L) w:=by
 have hlt:=(uR.1 A).1
 have etl:(ts.take i).length=i:=by rw[vQ];omega
 rw[take_drop1 A] at h
 have h2:=h.kdSplit
 rw[etl] at h2
 have h3:=(h2.get 1 O).kdSplit
 obtain⟨y',ey,h4⟩:=h3.kd1O
 have ey2:y'=y:=by
  have:=congrArg (fun z=>z[0]?) ey
  simp only[List.length_singleton,xD,yW,Nat.add_zero,hy] at this
  simpa using this.symm
 subst ey2
 obtain⟨B,h5⟩:=h4.ndO
 have e6:(l.drop i).drop [x].length=l.drop (i+1):=by rw[List.drop_drop];rfl
 rw[e6] at h5
 have e7:(ts.take i++([x]++ts.drop (i+1))).take i=ts.take i:=by rw[List.take_append_of_le_length (by omega),wN (by omega)]
 have e8:(ts.take i++([x]++ts.drop (i+1))).drop (i+1)=ts.drop (i+1):=by rw[←take_drop1 A]
 exact⟨B,((h5.get 1 O).get 2 O).get 2 O⟩
theorem Hp.kdPut {ts:List Node} {l:List NdH} {i:Nat} {x:Node} {y:NdH} (hi:i<ts.length) (B:i<l.length) (A:NdW x y) (h:Hp Z ρ (lH T y.kids.v x.kids::KdA T (ts.take i) (l.take i)::KdA T (ts.drop (i+1)) (l.drop (i+1))::L) w):Hp Z ρ (KdA T (ts.set i x) (l.set i y)::L) w:=by
 rw[set_td hi,set_td B]
 have h6:=(Hp.ndI A h).kd1
 have h7:=Hp.kdApp ((h6.get 2 O).get 1 O)
 exact Hp.kdApp (h7.get 1 O)
end
theorem kidFocus {Z:World} {ρ:PH} {L:List bQ} {w:World} {X:bQ} {s:Sl} {l:List NdH} {ts:List Node} {i nb no of0 cap:Nat} {x:Node} {y:NdH} (C:ts[i]?=some x) (hy:l[i]?=some y) (bv:s.v= .slice (some ⟨nb,of0,none⟩) l.length cap) (bo:no=of0+i*5) (D:Hp Z ρ (X::aC 24 s.v l::KdA 24 ts l::L) w):
  ∃F2:Value→Obj,H9 nb (no+4) F2∧Hp Z ρ (Pt nb (F2 y.kids.v)::lH 24 y.kids.v x.kids::([X,KdA 24 (ts.take i) (l.take i),KdA 24 (ts.drop (i+1)) (l.drop (i+1))]++L)) w∧
   ∀(s2:Sl) (ts2:List Node) (w2:World) (L2:List bQ),Hp Z ρ (Pt nb (F2 s2.v)::lH 24 s2.v ts2::([X,KdA 24 (ts.take i) (l.take i),KdA 24 (ts.drop (i+1)) (l.drop (i+1))]++L2)) w2→Hp Z ρ (X::lH 24 s.v (ts.set i (x.re ts2))::L2) w2:=by
 have hll:=D.kdLen 2 O
 obtain⟨hyl,hyg⟩:=uR.1 hy
 rcases(D.get 1 rfl).openB with⟨A,e1,e2⟩|⟨gb,off,cap2,pr,rr,e1,hpl,hlc,hcm,hrr,hpb⟩
 ·rw[e2] at hyl;simp at hyl
 replace hrr:rr.length=(cap2-l.length)*5:=hrr
 rw[bv] at e1
 simp only[Value.slice.injEq,wA,Addr.mk.injEq,and_true,true_and] at e1
 obtain⟨⟨rfl,rfl⟩,rfl⟩:=e1
 have hfl:=fl5 l
 obtain⟨c0,B⟩:∃c0,c0=(pr++flat l++rr).toArray:=⟨_,O⟩
 have hc0s:c0.size=of0+cap*5:=by rw[B,List.size_toArray,uW,uW,hfl,hrr,hpl];omega
 have hset:∀s2:Sl,c0.setIfInBounds (no+4) s2.v=(pr++flat (l.set i ⟨y.kind,y.text,y.at_,y.fin,s2⟩)++rr).toArray:=fun s2=>by
  rw[B,List.setIfInBounds_toArray]
  congr 1
  have e3:no+4=pr.length+(i*5+4):=by omega
  rw[e3,vD,List.set_append,if_neg (by omega),Nat.add_sub_cancel_left,List.set_append,if_pos (by rw[hfl];omega),←vD]
  congr 2
  exact aR5 l i y ⟨y.kind,y.text,y.at_,y.fin,s2⟩ 4 s2.v hy O (by decide)
 have hself:c0.setIfInBounds (no+4) y.kids.v=c0:=by
  rw[hset,B]
  have e4:l.set i ⟨y.kind,y.text,y.at_,y.fin,y.kids⟩=l:=by
   have:(⟨y.kind,y.text,y.at_,y.fin,y.kids⟩:NdH)=y:=rfl
   rw[this,←hyg];exact List.set_getElem_self hyl
  rw[e4]
 have h1:Hp Z ρ (KdA 24 ts l::Pt nb (.cells (pr++flat l++rr).toArray 24 (0,0))::X::L) w:=hpb.get 2 O
 obtain⟨hyw,h5⟩:=Hp.kdAt C hy h1
 refine⟨fun v=> .cells (c0.setIfInBounds (no+4) v) 24 (0,0),H9.arr (by rw[hc0s];omega),?_,?_⟩
 ·show Hp Z ρ (Pt nb (.cells (c0.setIfInBounds (no+4) y.kids.v) 24 (0,0))::_) w
  rw[hself,B]
  exact(((h5.get 2 O).get 2 O).get 4 O).get 3 O |>.get 4 O
 intro s2 ts2 w2 L2 h3
 have h3:Hp Z ρ (Pt nb (.cells (c0.setIfInBounds (no+4) s2.v) 24 (0,0))::lH 24 s2.v ts2::X::KdA 24 (ts.take i) (l.take i)::KdA 24 (ts.drop (i+1)) (l.drop (i+1))::L2) w2:=h3
 rw[hset] at h3
 have h4:=Hp.shutB (α:=NdH) (l:=l.set i ⟨y.kind,y.text,y.at_,y.fin,s2⟩) (off:=of0) (cap:=cap) h3 hpl (by rw[List.length_set];omega) hcm (by rw[List.length_set];exact hrr)
 rw[List.length_set,←bv] at h4
 have h6:Hp Z ρ (lH 24 (⟨y.kind,y.text,y.at_,y.fin,s2⟩:NdH).kids.v (x.re ts2).kids::KdA 24 (ts.take i) (l.take i)::KdA 24 (ts.drop (i+1)) (l.drop (i+1))::X::aC 24 s.v (l.set i ⟨y.kind,y.text,y.at_,y.fin,s2⟩)::L2) w2:=(((h4.get 2 O).get 4 O).get 4 O).get 4 O
 have h7:=Hp.kdPut (T:=24) (x:=x.re ts2) (y:=⟨y.kind,y.text,y.at_,y.fin,s2⟩) (by have:=(uR.1 C).1;exact this) hyl hyw h6
 exact(Hp.forI (h7.get 2 O)).get 1 O
theorem s_stF {Rn:Option Nat} {P:Program} {ops:Array Oper} {Q:Exit→Act→World→Prop} {rest:List Oper} {o:Oper} {a:Act} {w:World} {Df:List Deferred} {N:Nat} {E:Ent} {Z:World} {ρ:PH} {L:List bQ} (wk:Region.wanted o (yielded ops a.tmps)=true) (hd:o.dst=none) (D:EnvD Df N E a) (A:Hp Z ρ L w) {T:TypeId} {x y:Operand} (C:o.op= .store T x y) {g off:Nat} (B:evo E x=some (Pv g off)) {s s2:Sl} (hy:evo E y=some s2.v) {F:Value→Obj} (hF:H9 g off F) (i:Nat) (hi:L[i]?=some (Pt g (F s.v)))
  (ht:∀w,(sizeOf T).run P w= .ok 1 w) (K:∀w,Hp Z ρ (L.set i (Pt g (F s2.v))) w→wpL Rn P ops Q rest a w):wpL Rn P ops Q (o::rest) a w:=by
 obtain⟨cs,El,h1,h2,h3⟩:=hF s
 obtain⟨cl⟩:=cs
 rw[h1] at hi
 have hlt:off<cl.length:=by
  have:=(Array.getElem?_eq_some_iff.1 h2).1
  simpa using this
 refine bV wk hd D A C B hy i hi ht (Sl.cells s2) (Sl.one s2) (by rw[Nat.ble_eq];omega) (cl.set off s2.v) O fun w A=>K w ?_
 rw[h3 s2,List.setIfInBounds_toArray]
 exact A
abbrev chV (c:Chg):Value:= .agg #[.int .i64 c.op,.int .i64 c.node,.int .i64 c.index,.int .i64 c.count,.int .i64 c.kind,.string c.text]
abbrev chC (c:Chg):List Value:=[.int .i64 c.op,.int .i64 c.node,.int .i64 c.index,.int .i64 c.count,.int .i64 c.kind,.string c.text]
theorem cgF0:oI Tryz.prog 58 0 0:=fun b o w=>by simp[Instr.fieldAt,go_sem]
theorem cgF1:oI Tryz.prog 58 1 1:=fun b o w=>by simp[Instr.fieldAt,go_sem]
theorem cgF2:oI Tryz.prog 58 2 2:=fun b o w=>by simp[Instr.fieldAt,go_sem]
theorem cgF3:oI Tryz.prog 58 3 3:=fun b o w=>by simp[Instr.fieldAt,go_sem]
theorem cgF4:oI Tryz.prog 58 4 4:=fun b o w=>by simp[Instr.fieldAt,go_sem]
theorem cgF5:oI Tryz.prog 58 5 5:=fun b o w=>by simp[Instr.fieldAt,go_sem]
theorem ndF0:oI Tryz.prog 24 0 0:=fun b o w=>by simp[Instr.fieldAt,go_sem]
theorem ndF1:oI Tryz.prog 24 1 1:=fun b o w=>by simp[Instr.fieldAt,go_sem]
theorem cgVS:VarTy Tryz.prog 9 false 1:=⟨fun w=>by simp[isAgg,go_sem],fun w=>by simp[sizeOf,go_sem]<;>rfl⟩
theorem aN6 {P:Program} {C:World→Prop} {a:Act} {o:Oper} {Df:List Deferred} {N:Nat} {E:Ent} {t t':TypeId} {x y:Operand} (ht:P.underlying t=some (.pointer (P.pointee t))) (D:o.op= .binOp .eql t x y t') (F:EnvD Df N E a) {A:Option Addr} (B:evo E x=some (.pointer A)) (hy:evo E y=some (.pointer none)):Ex P C a o (.bool A.isNone):=wU D F B hy fun w _=>by
 have:=run_eql_pointer_nil (P:=P) (w:=w) t A ht
 simp[eqGuard,this]
theorem idx_at {α:Type} {l:List α} {i:Nat} {x:α} (h:l[i]?=some x):idx l (i:Int)=some x:=by unfold idx;rw[if_pos (by omega)];simpa using h
theorem m_at_some {ts:List Node} {n:Int} {q:Option (List Node×Nat×(List Node→List Node))} (h:m_at ts n=some q):0≤n∧n<9223372036854775808∧gW ts≤4294967296∧atL [] ts n.toNat=q:=by
 unfold m_at at h
 split at h
 ·rename_i A;exact⟨A.1,A.2.1,A.2.2,oj h⟩
 cases h
theorem Hp.boxOut {Z:World} {ρ:PH} {L C:List bQ} {w:World} {X A B D:bQ} (E:Hp Z ρ (A::B::D::(C++(X::L))) w):Hp Z ρ (X::A::B::D::(C++L)) w:=by
 have h2:=E.get (L:=(A::B::D::C)++(X::L)) (3+C.length) (A:=X) (by
  rw[vE (by simp only[uA0];omega)]
  simp only[uA0]
  rw[show 3+C.length-(C.length+1+1+1)=0 by omega];rfl)
 rw[List.eraseIdx_append_of_length_le (by simp only[uA0];omega)] at h2
 simp only[uA0] at h2
 rw[show 3+C.length-(C.length+1+1+1)=0 by omega] at h2
 exact h2
theorem c_relabel {Z:World} {ρ:PH} {L:List bQ} {w:World} (bp0:Nat) (H:List Node) (s:Sl) (E:Chg) (D:Hp Z ρ (Pt bp0 (.cells #[s.v] 22 (0,0))::lH 24 s.v H::L) w) (r:Int×List Node) (G:aO1 H E=some r):
  Calls Tryz.prog 77 #[.pointer (some ⟨bp0,0,none⟩),chV E] w (Ret fun v w'=>∃s':Sl,v= .int .i64 r.1∧Hp Z ρ (Pt bp0 (.cells #[s'.v] 22 (0,0))::lH 24 s'.v r.2::L) w'):=by
 unfold aO1 at G
 obtain⟨q,hq,G⟩:=bnd G
 obtain⟨hn0,hnode,hcl,hat⟩:=m_at_some hq
 refine enter (N:=28) Tryz.func77 O O [(0,.pointer (some ⟨bp0,0,none⟩)),(1,chV E)] O (bH ⟨O,O,tv⟩) fun a B=>?_
 repeat (refine aG ?_)
 refine aA ?_
 refine iH (wk0 O) O O B D O (v:=chV E) O ?_
 intro a w b3 B D
 have D:Hp Z ρ (Pt b3 (.cells (chC E).toArray 58 (0,0))::Pt bp0 (.cells #[s.v] 22 (0,0))::lH 24 s.v H::L) w:=id D
 refine S B 1 O fun a B=>aB ?_
 repeat (refine aG ?_)
 refine aA (S B 1 O fun a B=>?_)
 refine V B D O (dJ O B O (cgF1 _ _)) fun a B=>V B D O (xl B rD 0 O O O O) fun a B=>?_
 have D:Hp Z ρ (Pt bp0 ((fun v=>Obj.cells #[v] 22 (0,0)) s.v)::lH 24 s.v H::Pt b3 (.cells (chC E).toArray 58 (0,0))::L) w:=D.get 1 O |>.get 2 O |>.get 1 O
 have hnn:((E.node.toNat:Nat):Int)=E.node:=by omega
 refine s_call (wk0 O) O O B O [.pointer (some ⟨bp0,0,none⟩),.int .i64 E.node] ⟨O,O,tv⟩ ndEntA (by have:=at_c (Z:=Z) (ρ:=ρ) _ H (zP _) E.node.toNat bp0 0 _ (H9.one bp0 22) s (Pt b3 (.cells (chC E).toArray 58 (0,0))::L) w (by omega) hcl D;rw[hnn] at this;exact this) Ret.ret ?_
 intro v2 a w K B
 have hP:=Ret.of K
 rw[hat] at hP
 rcases q with _|⟨t1,i1,pp⟩
 ·
  obtain⟨rfl,D⟩:=hP
  refine S B 7 O fun a B=>aB ?_
  repeat (refine aG ?_)
  refine aA (S B 1 O fun a B=>?_)
  refine V B D O (v:= .bool true) (aN6 (A:=none) kr O B O O) fun a B=>aB ?_
  repeat (refine aG ?_)
  refine dK B O (fun _=>?_) (fun I=>by cases I)
  repeat (refine aG ?_)
  refine aA (S B 1 O fun a B=>?_)
  refine aB ?_
  repeat (refine aG ?_)
  refine cZ ?_
  obtain rfl:=oj G
  exact gY B O O ⟨_,O,s,O,(D.get 2 O).drop⟩
 obtain⟨g1,o1,F1,s1,l1,nb,no,C,hF1,⟨of0,cap,bv,bo⟩,hi1,rfl,hcl1,D⟩:=hP
 obtain⟨x,J⟩:∃x,t1[i1]?=some x:=⟨_,vB hi1⟩
 simp only[J,Option.map_some] at G
 obtain rfl:=oj G
 have hll:=D.kdLen 2 O
 obtain⟨y,hy⟩:∃y,l1[i1]?=some y:=⟨_,vB (by omega)⟩
 have D:=D.boxOut
 refine S B 7 O fun a B=>aB ?_
 repeat (refine aG ?_)
 refine aA (S B 1 O fun a B=>?_)
 refine V B D O (v:= .bool false) (aN6 (A:=some ⟨nb,no,none⟩) kr O B O O) fun a B=>aB ?_
 repeat (refine aG ?_)
 refine dK B O (fun I=>by cases I) (fun _=>?_)
 refine bI ?_
 repeat (refine aG ?_)
 have D:=D.drew
 refine gK ([([],At0 Z ρ),([],At1 Z ρ (Pt b3 (.cells (chC E).toArray 58 (0,0))))]:Facts) (fun a w=>Env 28 [] a∧Hp Z ρ (Pt b3 (.cells (chC E).toArray 58 (0,0))::Pt g1 (F1 s1.v)::aC 24 s1.v (l1.set i1 ⟨E.kind,E.text,y.at_,y.fin,y.kids⟩)::KdA 24 t1 l1::(C++L)) w) kr ⟨fun _=>⟨_,D⟩,fun _=>⟨_,D⟩,tv⟩ (fun F=>?_) ?_
 ·
  generalize w.drew=w at F D⊢
  refine Ts [0,1] B F O O kr fun a B F=>T0 2 B F O O O kr (fun _=>dJ O B O (cgF4 _ _)) fun a B F=>T 3 1 B F O O O kr (fun _=>xl B rD 0 O O O O) fun a B F=>T0 4 B F O O O kr (fun _=>dJ O B O (cgF5 _ _)) fun a B F=>T 5 1 B F O O O kr (fun _=>xl B cgVS 0 O O O O) fun a B F=>Ts [6] B F O O kr fun a B F=>T0 7 B F O O O kr (fun _=>dJ O B O (ndF0 _ _)) fun a B F=>?_
  refine W1 8 kr O ?_
  refine V7 (α:=NdH) (wk0 O) O B D O O O 2 O (idx_at hy) ⟨of0,cap,bv,bo⟩ 0 (e':=⟨E.kind,y.text,y.at_,y.fin,y.kids⟩) rD.size_ O O O ⟨O,O⟩ ?_
  intro w D
  have D:Hp Z ρ (Pt b3 (.cells (chC E).toArray 58 (0,0))::Pt g1 (F1 s1.v)::aC 24 s1.v (l1.set i1 ⟨E.kind,y.text,y.at_,y.fin,y.kids⟩)::KdA 24 t1 l1::(C++L)) w:=id D
  refine aB (aF ⟨gp0 D,fun _=>⟨_,D⟩,tv⟩ fun F=>?_)
  refine Ts [9] B F O O kr fun a B F=>T0 10 B F O O O kr (fun _=>dJ O B O (ndF1 _ _)) fun a B F=>?_
  refine W1 11 kr O ?_
  refine V7 (α:=NdH) (wk0 O) O B D O O O 2 O (i:=(i1:Int)) (e:=⟨E.kind,y.text,y.at_,y.fin,y.kids⟩) (idx_at (by rw[xT (by omega)])) ⟨of0,cap,by rw[List.length_set];exact bv,bo⟩ 1 (e':=⟨E.kind,E.text,y.at_,y.fin,y.kids⟩) cgVS.size_ O O O ⟨O,O⟩ ?_
  intro w D
  have D:Hp Z ρ (Pt b3 (.cells (chC E).toArray 58 (0,0))::Pt g1 (F1 s1.v)::aC 24 s1.v (l1.set i1 ⟨E.kind,E.text,y.at_,y.fin,y.kids⟩)::KdA 24 t1 l1::(C++L)) w:=by
   have h1:=D
   simp only[xL,List.set_cons_succ,List.set_cons_zero,List.set_set] at h1
   exact h1
  refine aB (aF ⟨gp0 D,fun _=>⟨_,D⟩,tv⟩ fun F=>?_)
  exact bT kr ⟨B.cut trivial,D⟩
 rintro a w ⟨B,D⟩
 repeat (refine aG ?_)
 refine aA (S B 1 O fun a B=>?_)
 refine aB ?_
 repeat (refine aG ?_)
 refine cZ ?_
 have D:=D.drop
 obtain⟨hyw,h5⟩:=Hp.kdAt J hy ((((D.get 1 O).get 1 O).get 2 O))
 have h6:=Hp.kdPut (T:=24) (ts:=t1) (l:=l1) (i:=i1) (x:=⟨E.kind,E.text,x.at_,x.fin,x.kids⟩) (y:=⟨E.kind,E.text,y.at_,y.fin,y.kids⟩) hi1 (by omega) ⟨O,O,hyw.2.2.1,hyw.2.2.2⟩ h5
 obtain⟨s3,h7⟩:=hcl1 s1 _ w L ((Hp.forI (h6.get 2 O)).get 1 O)
 exact gY B O O ⟨_,O,s3,O,h7⟩
theorem c_remove {Z:World} {ρ:PH} {L:List bQ} {w:World} (bp0:Nat) (H:List Node) (s:Sl) (F:Chg) (D:Hp Z ρ (Pt bp0 (.cells #[s.v] 22 (0,0))::lH 24 s.v H::L) w) (r:Int×List Node) (G:aR7 H F=some r):
  Calls Tryz.prog 79 #[.pointer (some ⟨bp0,0,none⟩),chV F] w (Ret fun v w'=>∃s':Sl,v= .int .i64 r.1∧Hp Z ρ (Pt bp0 (.cells #[s'.v] 22 (0,0))::lH 24 s'.v r.2::L) w'):=by
 unfold aR7 at G
 obtain⟨q,hq,G⟩:=bnd G
 obtain⟨hn0,hnode,hcl,hat⟩:=m_at_some hq
 refine enter (N:=32) Tryz.func79 O O [(0,.pointer (some ⟨bp0,0,none⟩)),(1,chV F)] O (bH ⟨O,O,tv⟩) fun a B=>?_
 repeat (refine aG ?_)
 refine aA ?_
 refine iH (wk0 O) O O B D O (v:=chV F) O ?_
 intro a w b3 B D
 have D:Hp Z ρ (Pt b3 (.cells (chC F).toArray 58 (0,0))::Pt bp0 (.cells #[s.v] 22 (0,0))::lH 24 s.v H::L) w:=id D
 refine S B 1 O fun a B=>aB ?_
 repeat (refine aG ?_)
 refine aA (S B 1 O fun a B=>?_)
 refine V B D O (dJ O B O (cgF1 _ _)) fun a B=>V B D O (xl B rD 0 O O O O) fun a B=>?_
 have D:Hp Z ρ (Pt bp0 ((fun v=>Obj.cells #[v] 22 (0,0)) s.v)::lH 24 s.v H::Pt b3 (.cells (chC F).toArray 58 (0,0))::L) w:=D.get 1 O |>.get 2 O |>.get 1 O
 have hnn:((F.node.toNat:Nat):Int)=F.node:=by omega
 refine s_call (wk0 O) O O B O [.pointer (some ⟨bp0,0,none⟩),.int .i64 F.node] ⟨O,O,tv⟩ ndEntA (by have:=at_c (Z:=Z) (ρ:=ρ) _ H (zP _) F.node.toNat bp0 0 _ (H9.one bp0 22) s (Pt b3 (.cells (chC F).toArray 58 (0,0))::L) w (by omega) hcl D;rw[hnn] at this;exact this) Ret.ret ?_
 intro v2 a w I B
 have hP:=Ret.of I
 rw[hat] at hP
 rcases q with _|⟨t1,i1,pp⟩
 ·
  obtain⟨rfl,D⟩:=hP
  refine S B 7 O fun a B=>aB ?_
  repeat (refine aG ?_)
  refine aA (S B 1 O fun a B=>?_)
  refine V B D O (v:= .bool true) (aN6 (A:=none) kr O B O O) fun a B=>aB ?_
  repeat (refine aG ?_)
  refine dK B O (fun _=>?_) (fun K=>by cases K)
  repeat (refine aG ?_)
  refine aA (S B 1 O fun a B=>?_)
  refine aB ?_
  repeat (refine aG ?_)
  refine cZ ?_
  obtain rfl:=oj G
  exact gY B O O ⟨_,O,s,O,(D.get 2 O).drop⟩
 obtain⟨g1,o1,F1,s1,l1,nb,no,C,hF1,⟨of0,cap,bv,bo⟩,hi1,rfl,hcl1,D⟩:=hP
 obtain⟨x,M⟩:∃x,t1[i1]?=some x:=⟨_,vB hi1⟩
 have hll:=D.kdLen 2 O
 obtain⟨y,hy⟩:∃y,l1[i1]?=some y:=⟨_,vB (by omega)⟩
 have D:=D.boxOut
 simp only[M,uL] at G
 split at G
 case isFalse=>cases G
 rename_i hlim
 obtain rfl:=oj G
 refine S B 7 O fun a B=>aB ?_
 repeat (refine aG ?_)
 refine aA (S B 1 O fun a B=>?_)
 refine V B D O (v:= .bool false) (aN6 (A:=some ⟨nb,no,none⟩) kr O B O O) fun a B=>aB ?_
 repeat (refine aG ?_)
 refine dK B O (fun K=>by cases K) (fun _=>?_)
 refine bI ?_
 have D:=D.drop
 obtain⟨hyw,h5⟩:=Hp.kdAt M hy ((((D.get 1 O).get 1 O).get 2 O))
 obtain⟨l2,h6⟩:=h5.forO
 have Q:=h6.kdLen 1 O
 have D:Hp Z ρ (Pt g1 (F1 s1.v)::aC 24 s1.v l1::aC 24 y.kids.v l2::KdA 24 x.kids l2::KdA 24 (t1.take i1) (l1.take i1)::KdA 24 (t1.drop (i1+1)) (l1.drop (i1+1))::(C++L)) w:=((((((h6.get 3 O).get 3 O).get 3 O).get 3 O).get 5 O).get 5 O)
 repeat (refine aG ?_)
 have D:=D.drew
 refine gK ([([],At0 Z ρ),([14],At1 Z ρ (Pt g1 (F1 s1.v))),([],At1 Z ρ (aC 24 s1.v l1))]:Facts) (fun a w=>Env 32 [] a∧∃s3:Sl,Hp Z ρ (Pt g1 (F1 s3.v)::aC 24 s3.v (l1.take i1++l2++l1.drop (i1+1))::KdA 24 x.kids l2::KdA 24 (t1.take i1) (l1.take i1)::KdA 24 (t1.drop (i1+1)) (l1.drop (i1+1))::(C++L)) w) kr ⟨fun _=>⟨_,D⟩,fun _=>⟨_,D⟩,fun _=>⟨_,D.get 1 O⟩,tv⟩ (fun E=>?_) ?_
 ·
  generalize w.drew=w at E D⊢
  refine Ts [0,1,2,5,6] B E O O kr fun a B E=>T0 7 B E O O O kr (v:=(Iv ((i1+1:Nat):Int))) (fun _=>bF O B O O (by have:=wY H;rw[IntKind.wrap_i64];omega)) fun a B E=>Ts [8,9] B E O O kr fun a B E=>T0 10 B E O O O kr (fun _=>dJ O B O (tcF4 _ _)) fun a B E=>?_
  obtain⟨gb,off,br,⟨of1,cap1,bv1,bo1⟩,bf⟩:=aC.at D 1 O kG (idx_at hy)
  rw[bv] at bv1
  simp only[Value.slice.injEq,wA,Addr.mk.injEq,and_true,true_and] at bv1
  obtain⟨⟨rfl,rfl⟩,rfl⟩:=bv1
  have bo1:off=of0+i1*5:=by rw[bo1,xL];rfl
  obtain rfl:off=no:=by rw[bo1,bo]
  refine T 3 1 B E O O O kr (fun _=>aK O B O (fun w J=>hF1.ld J 0 O)) fun a B E=>T 11 2 B E O O O kr (fun _=>aK O B O (fun w J=>aZ tcVS (bf 4 _ O _ _ w J))) fun a B E=>?_
  refine W1 4 kr O ?_
  have D:Hp Z ρ (aC 24 s1.v l1::Pt g1 (F1 s1.v)::aC 24 y.kids.v l2::KdA 24 x.kids l2::KdA 24 (t1.take i1) (l1.take i1)::KdA 24 (t1.drop (i1+1)) (l1.drop (i1+1))::(C++L)) w:=(((D.get 2 O).get 1 O).get 2 O)
  refine s_call (wk0 O) O O B O [s1.v] ⟨O,tv⟩ ndEntC (c_cloneO l1 s1.v (by omega) D) Ret.ret ?_
  intro v4 a w I B
  have D:=Ret.of I
  have D:Hp Z ρ (aC 24 v4 l1::aC 24 y.kids.v l2::Pt g1 (F1 s1.v)::aC 24 s1.v l1::KdA 24 x.kids l2::KdA 24 (t1.take i1) (l1.take i1)::KdA 24 (t1.drop (i1+1)) (l1.drop (i1+1))::(C++L)) w:=((((D.get 1 O).get 2 O).get 3 O).get 3 O)
  refine aB (aF ⟨gp0 D,fun _=>⟨_,D.get 2 O⟩,fun _=>⟨_,D.get 3 O⟩,tv⟩ fun E=>?_)
  refine W1 12 kr O ?_
  refine s_call (wk0 O) O O B O [v4,(Iv (i1:Int)),(Iv ((i1+1:Nat):Int)),y.kids.v] ⟨O,O,O,O,tv⟩ ndEntR (aQ0 v4 y.kids.v l1 l2 i1 (i1+1) (by omega) (by omega) (by omega) D) Ret.ret ?_
  intro v5 a w I B
  have D:=Ret.of I
  obtain⟨s3,rfl⟩:=aC.toSl D 0 O
  have D:Hp Z ρ (Pt g1 (F1 s1.v)::aC 24 s3.v (l1.take i1++l2++l1.drop (i1+1))::aC 24 y.kids.v l2::aC 24 s1.v l1::KdA 24 x.kids l2::KdA 24 (t1.take i1) (l1.take i1)::KdA 24 (t1.drop (i1+1)) (l1.drop (i1+1))::(C++L)) w:=((((D.get 3 O).get 2 O).get 2 O).get 3 O)
  refine aB (aF ⟨gp0 D,fun _=>⟨_,D⟩,fun _=>⟨_,D.get 3 O⟩,tv⟩ fun E=>?_)
  refine Ts [13] B E O O kr fun a B E=>?_
  refine W1 14 kr O ?_
  refine s_stF (wk0 O) O B D O O O hF1 0 O tcVS.size_ ?_
  intro w D
  have D:Hp Z ρ (Pt g1 (F1 s3.v)::aC 24 s3.v (l1.take i1++l2++l1.drop (i1+1))::aC 24 y.kids.v l2::aC 24 s1.v l1::KdA 24 x.kids l2::KdA 24 (t1.take i1) (l1.take i1)::KdA 24 (t1.drop (i1+1)) (l1.drop (i1+1))::(C++L)) w:=id D
  refine aB (aF ⟨gp0 D,dead kr,fun _=>⟨_,D.get 3 O⟩,tv⟩ fun E=>?_)
  exact bT kr ⟨B.cut trivial,s3,(((D.get 2 O).drop).get 2 O).drop⟩
 rintro a w ⟨B,s3,D⟩
 repeat (refine aG ?_)
 refine aA (S B 1 O fun a B=>?_)
 refine aB ?_
 repeat (refine aG ?_)
 refine cZ ?_
 have h1:Hp Z ρ (KdA 24 (t1.take i1) (l1.take i1)::KdA 24 x.kids l2::KdA 24 (t1.drop (i1+1)) (l1.drop (i1+1))::Pt g1 (F1 s3.v)::aC 24 s3.v (l1.take i1++l2++l1.drop (i1+1))::(C++L)) w:=(((((D.get 1 O).get 1 O).get 4 O).get 3 O).get 4 O)
 have h2:=Hp.kdApp (Hp.kdApp h1)
 obtain⟨s4,h3⟩:=hcl1 s3 _ w L ((Hp.forI (h2.get 2 O)).get 1 O)
 exact gY B O O ⟨_,O,s4,O,h3⟩
end Go.Proofs.YtopnldfjcciieaaGreat

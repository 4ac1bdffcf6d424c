/- align.actions, align.Apply, walked. (Printed by wip/c38/apply.py.) -/
import Derived.Test.YtopnldfjcciieaaGreatKLeT
import Derived.Test.YtopnldfjcciieaaGreatKLe21
set_option linter.unusedVariables false
set_option linter.unusedSimpArgs false
set_option maxRecDepth 100000
set_option maxHeartbeats 4000000
namespace Go.Proofs.YtopnldfjcciieaaGreat
open Go.RowKit
open Vl (vl)
structure ActF where
 f:Option Nat
 g:Option Nat
def fv:Option Nat→Value
 |none=> .nilFunc
 |some n=> .func (.func n) #[] #[]
instance vlActF:Vl ActF:=⟨fun a=> .agg #[fv a.f,fv a.g]⟩
def acts:List (Int×ActF):=[(0,⟨some 76,some 77⟩),(1,⟨some 78,some 79⟩),(2,⟨some 80,some 81⟩)]
theorem Z7:Tryz.prog.underlying 100=some (.map 3 98):=by kernel_rfl
theorem apKt:KT Tryz.prog 3 Int:=kt_int kr
theorem U7:∀w,(zeroValue 98).run Tryz.prog w= .ok (vl (⟨none,none⟩:ActF)) w:=fun w=>by simp[go_sem]<;>rfl
theorem apVA:VarTy Tryz.prog 98 true 2:=⟨fun w=>by simp[isAgg,go_sem],fun w=>by simp[sizeOf,go_sem]<;>rfl⟩
theorem apVF1:VarTy Tryz.prog 95 false 1:=⟨fun w=>by simp[isAgg,go_sem],fun w=>by simp[sizeOf,go_sem]<;>rfl⟩
theorem apVF2:VarTy Tryz.prog 96 false 1:=⟨fun w=>by simp[isAgg,go_sem],fun w=>by simp[sizeOf,go_sem]<;>rfl⟩
theorem apVC:VarTy Tryz.prog 58 true 6:=⟨fun w=>by simp[isAgg,go_sem],fun w=>by simp[sizeOf,go_sem]<;>rfl⟩
theorem apF0:oI Tryz.prog 98 0 0:=fun b o w=>by simp[Instr.fieldAt,go_sem]
theorem apF1:oI Tryz.prog 98 1 1:=fun b o w=>by simp[Instr.fieldAt,go_sem]
theorem apSlC:SlTy Tryz.prog 34 58 6 56:=SlTy.of (z:= .agg #[.int .i64 0,.int .i64 0,.int .i64 0,.int .i64 0,.int .i64 0,.string ByteArray.empty]) kr kr O
theorem apE0:∀args w,(callFunc 54 args).run Tryz.prog w= .ok (.enter 54 args) w:=enters Tryz.func54 kr O
theorem apE1:∀args w,(callFunc 76 args).run Tryz.prog w= .ok (.enter 76 args) w:=enters Tryz.func76 kr O
theorem apE2:∀args w,(callFunc 77 args).run Tryz.prog w= .ok (.enter 77 args) w:=enters Tryz.func77 kr O
theorem apE3:∀args w,(callFunc 78 args).run Tryz.prog w= .ok (.enter 78 args) w:=enters Tryz.func78 kr O
theorem apE4:∀args w,(callFunc 79 args).run Tryz.prog w= .ok (.enter 79 args) w:=enters Tryz.func79 kr O
theorem apE5:∀args w,(callFunc 80 args).run Tryz.prog w= .ok (.enter 80 args) w:=enters Tryz.func80 kr O
theorem apE6:∀args w,(callFunc 81 args).run Tryz.prog w= .ok (.enter 81 args) w:=enters Tryz.func81 kr O
section
variable {Rn:Option Nat} {P:Program} {ops:Array Oper} {Q:Exit→Act→World→Prop} {rest:List Oper} {o:Oper} {a:Act} {w:World} {Df:List Deferred} {N:Nat} {E:Ent} {d:Nat} {Z:World} {ρ:PH} {L:List bQ} {κ β:Type} [Vl κ] [Vl β]
theorem s_mins [DecidableEq κ] {kt et T:TypeId} (K:KT P kt κ) (H:P.underlying T=some (.map kt et)) (wk:Region.wanted o (yielded ops a.tmps)=true) (hd:o.dst=none) (B:EnvD Df N E a) (F:Hp Z ρ L w) {x y u:Operand} (G:o.op= .insert T x y u) (i:Nat) {b:Nat} {l:List (κ×β)} {k:κ} {v:β} (D:evo E x=some (.map (some b))) (hy:evo E y=some (vl k)) (hu:evo E u=some (vl v)) (hi:L[i]?=some (vJ b l))
  (C:∀w,Hp Z ρ (L.set i (vJ b (Q7 l k v))) w→wpL Rn P ops Q rest a w):wpL Rn P ops Q (o::rest) a w:=by
 obtain⟨w',hr,hp'⟩:=run_mput K H (F.get i hi) k v
 refine s_unit wk hd B (w':=w') ?_ (C w' (Hp.put i (X8 (A:=vJ b l) (_B:=vJ b l) hi).2 hp'))
 simp[execOp,G,B.eval D,B.eval hy,B.eval hu,hr]
end
theorem D6 {Z:World} {ρ:PH} {L:List bQ} {w:World} (B:Hp Z ρ L w):Calls Tryz.prog 54 #[] w (Ret fun v w'=>∃b,v= .map (some b)∧Hp Z ρ (vJ b acts::L) w'):=by
 refine enter (N:=6) Tryz.func54 O O [] O (bH trivial) fun a A=>?_
 repeat (refine aG ?_)
 refine aA (S A 1 O fun a A=>?_)
 refine aB ?_
 repeat (refine aG ?_)
 refine aA ?_
 refine s_mkmap (κ:=Int) (β:=ActF) (wk0 O) O O A B O ?_
 intro a w b A B
 refine V A B O (v:=vl (⟨some 76,some 77⟩:ActF)) (oD O A [(0,.func (.func 76) #[] #[]),(1,.func (.func 77) #[] #[])] (by exact⟨⟨O,O⟩,⟨O,O⟩,tv⟩) (fun w=>by simp[Instr.build,Instr.fill,Value.cells,go_sem]<;>rfl)) fun a A=>?_
 refine s_mins (κ:=Int) (β:=ActF) apKt Z7 (wk0 O) O A B O 0 (k:=0) (v:=(⟨some 76,some 77⟩:ActF)) O O O O ?_
 intro w B
 refine V A B O (v:=vl (⟨some 78,some 79⟩:ActF)) (oD O A [(0,.func (.func 78) #[] #[]),(1,.func (.func 79) #[] #[])] (by exact⟨⟨O,O⟩,⟨O,O⟩,tv⟩) (fun w=>by simp[Instr.build,Instr.fill,Value.cells,go_sem]<;>rfl)) fun a A=>?_
 refine s_mins (κ:=Int) (β:=ActF) apKt Z7 (wk0 O) O A B O 0 (k:=1) (v:=(⟨some 78,some 79⟩:ActF)) O O O O ?_
 intro w B
 refine V A B O (v:=vl (⟨some 80,some 81⟩:ActF)) (oD O A [(0,.func (.func 80) #[] #[]),(1,.func (.func 81) #[] #[])] (by exact⟨⟨O,O⟩,⟨O,O⟩,tv⟩) (fun w=>by simp[Instr.build,Instr.fill,Value.cells,go_sem]<;>rfl)) fun a A=>?_
 refine s_mins (κ:=Int) (β:=ActF) apKt Z7 (wk0 O) O A B O 0 (k:=2) (v:=(⟨some 80,some 81⟩:ActF)) O O O O ?_
 intro w B
 have B:Hp Z ρ (vJ b acts::L) w:=id B
 refine S A 2 O fun a A=>aB ?_
 repeat (refine aG ?_)
 refine cZ ?_
 exact gY A O O ⟨_,O,b,O,B⟩
theorem c_Apply {Z:World} {ρ:PH} {L:List bQ} {w:World} (R:List Node) (vp0:Value) (hp0:aH ρ vp0 R) (K:List Chg) (vp1:Value) (hp1:aH ρ vp1 K) (B:Hp Z ρ L w) (r:List Node×Int) (U:m_Apply R K=some r):
  Calls Tryz.prog 24 #[vp0,vp1] w (Ret fun v w'=>∃(ρ':PH) (vr1:Value),ρ.le ρ'∧v=(.tuple #[vr1,(Iv r.2)])∧aH ρ' vr1 r.1∧Hp Z ρ' L w'):=by
 unfold m_Apply at U
 split at U
 case isFalse=>cases U
 rename_i hb
 obtain⟨e,b⟩:=hb
 refine enter (N:=60) Tryz.func24 O O [(0,vp0),(1,vp1)] O (bH ⟨O,O,tv⟩) fun a A=>?_
 repeat (refine aG ?_)
 refine aA (S A 2 O fun a A=>?_)
 refine aB ?_
 repeat (refine aG ?_)
 refine aA (S A 1 O fun a A=>?_)
 refine V A B O (v:=uO ⟨0,ByteArray.empty,0,0,R⟩ vp0) (oD O A [(4,vp0)] (by exact⟨⟨O,O⟩,tv⟩) (fun w=>by have H:=aH.cells hp0;simp only[Value.cells] at H;simp[Instr.build,Instr.fill,Value.cells,H,go_sem]<;>rfl)) fun a A=>?_
 refine s_call (wk0 O) O O A O [uO ⟨0,ByteArray.empty,0,0,R⟩ vp0] ⟨O,tv⟩ ndEntP (copied_c _ ⟨0,ByteArray.empty,0,0,R⟩ (zP _) vp0 hp0 (by rw[bK];omega) L w B) Ret.ret ?_
 intro v2 a w F A
 obtain⟨v1,rfl,B⟩:=Ret.of F
 have B:Hp Z ρ (lH 24 v1 R::L) w:=id B
 obtain⟨s,rfl⟩:=lH.sl B
 refine V A B O (v:=s.v) (ex_fieldV O A O (fun w=>by simp[Instr.field,asAgg,go_sem])) fun a A=>?_
 refine dF (wk0 O) O O A B O [.slice none 0 0] (fun w=>by simp[Instr.alloc,go_sem]<;>rfl) ?_
 intro a w b6 A B
 refine bV (wk0 O) O A B O O O 0 O tcVS.size_ (Sl.cells s) (Sl.one s) O [s.v] O ?_
 intro w B
 have B:Hp Z ρ (Pt b6 (.cells #[s.v] 22 (0,0))::lH 24 s.v R::L) w:=id B
 refine aB ?_
 repeat (refine aG ?_)
 refine aA (S A 1 O fun a A=>?_)
 refine V A B O (bW O A O (aH.len hp1 apSlC)) fun a A=>S A 1 O fun a A=>aB ?_
 obtain⟨u0,hu0⟩:=chLoop K K.length 0 R r (by omega) (by rw[List.drop_zero];exact U)
 repeat (refine aG ?_)
 refine dM (fun a w=>∃(s:Sl) (ts:List Node),r=(ts,0)∧Env 60 [(6,.pointer (some ⟨b6,0,none⟩))] a∧Hp Z ρ (Pt b6 (.cells #[s.v] 22 (0,0))::lH 24 s.v ts::L) w) ?_ ?_
 ·refine eQ hu0 (fun p a w=>∃(s:Sl) (ts:List Node),p.2=ts∧p.1≤K.length∧chgs ts (K.drop p.1)=some r∧Env 60 [(6,.pointer (some ⟨b6,0,none⟩)),(16,vp1),(17,(Iv (K.length:Int))),(18,(Iv (p.1:Int)))] a∧Hp Z ρ (Pt b6 (.cells #[s.v] 22 (0,0))::lH 24 s.v ts::L) w) ?_ ?_
  ·exact⟨s,R,O,Nat.zero_le _,by rw[List.drop_zero];exact U,A.cut ⟨O,O,O,O,tv⟩,B⟩
  rintro⟨i,ts0⟩ st a w ⟨s,ts,hts,hi,hr,A,B⟩ J
  simp only at hts hi hr A
  subst hts
  repeat (refine aG ?_)
  refine aA (S A 1 O fun a A=>?_)
  refine aB ?_
  repeat (refine aG ?_)
  refine dK A O (fun hb=>?_) (fun hb=>?_)
  ·
   have hlt:i<K.length:=by simpa using hb
   obtain⟨c,I⟩:∃c,K[i]?=some c:=⟨_,vB hlt⟩
   have ec:idx K (i:Int)=some c:=idx_at I
   obtain⟨X,W⟩:=uR.1 I
   rw[List.drop_eq_getElem_cons X,W,chgs] at hr
   obtain⟨q,hq,hr⟩:=bnd hr
   have hst2:(if q.1=0 then Step.next (i+1,q.2) else .done ())=st:=by
    unfold aL5 at J;simp only[I,hq,Option.map_some] at J;exact oj J
   clear J
   obtain⟨b4,b4o,b4c,b4r,b4k,b4f⟩:=aH.at hp1 apSlC ec
   obtain rfl:b4c=Enc.enc c:=b4k
   refine bI ?_
   repeat (refine aG ?_)
   refine dN ?_
   repeat (refine aG ?_)
   refine aA (V A B O (aO O A O O b4r) fun a A=>?_)
   refine V A B O (aK O A O (fun w M=>aX (cs:=chC c) apVC (fun j u Y=>cell_of M.le (b4f j u Y)))) fun a A=>?_
   refine dF (wk0 O) O O A B O [.int .i64 0,.int .i64 0,.int .i64 0,.int .i64 0,.int .i64 0,.string ByteArray.empty] (fun w=>by simp[Instr.alloc,go_sem]<;>rfl) ?_
   intro a w b8 A B
   refine aV (wk0 O) O A B O O (v:=chV c) O 0 O apVC.size_ O (aP ⟨O,O,O,O,O,O,tv⟩) (chC c) (by simp[Value.cells]) ?_
   intro w B
   refine aB ?_
   have B:Hp Z ρ (Pt b8 (.cells (chC c).toArray 58 (0,0))::Pt b6 (.cells #[s.v] 22 (0,0))::lH 24 s.v ts0::L) w:=id B
   have A:=A.cut (E':=[(6,.pointer (some ⟨b6,0,none⟩)),(8,.pointer (some ⟨b8,0,none⟩)),(16,vp1),(17,(Iv (K.length:Int))),(18,(Iv (i:Int)))]) ⟨O,O,O,O,O,tv⟩
   rcases(show c.op=0∨c.op=1∨c.op=2∨(c.op≠0∧c.op≠1∧c.op≠2) by omega) with hop|hop|hop|hop
   ·
    repeat (refine aG ?_)
    have B:=B.drew
    refine gK ([([],At0 Z ρ),([],At1 Z ρ (Pt b8 (.cells (chC c).toArray 58 (0,0))))]:Facts) (fun a w=>∃b9:Nat,Env 60 [(6,.pointer (some ⟨b6,0,none⟩)),(8,.pointer (some ⟨b8,0,none⟩)),(9,.pointer (some ⟨b9,0,none⟩)),(10,.bool true),(16,vp1),(17,(Iv (K.length:Int))),(18,(Iv (i:Int)))] a∧Hp Z ρ (Pt b9 (.cells [.func (.func 76) #[] #[],.func (.func 77) #[] #[]].toArray 98 (0,0))::Pt b8 (.cells (chC c).toArray 58 (0,0))::Pt b6 (.cells #[s.v] 22 (0,0))::lH 24 s.v ts0::L) w) kr ⟨fun _=>⟨_,B⟩,fun _=>⟨_,B⟩,tv⟩ (fun C=>?_) ?_
    ·
     generalize w.drew=w at C B⊢
     refine T0 1 A C O O O kr (fun _=>dJ O A O (cgF0 _ _)) fun a A C=>T 2 1 A C O O O kr (fun _=>xl A rD 0 O O O O) fun a A C=>?_
     refine fQ [0,7] kr O ?_
     refine uE.2 ⟨?_,uE.2 ⟨?_,fun _ h=>absurd h (by simp)⟩⟩
     ·refine dV O ?_
      refine s_call (wk0 O) O O A O [] trivial apE0 (D6 B) Ret.ret ?_
      intro v23 a w F A
      obtain⟨bm,rfl,B⟩:=Ret.of F
      refine aB (aF ⟨gp0 B,fun _=>⟨_,B.get 1 O⟩,tv⟩ fun C=>?_)
      refine fQ [3,7] kr O ?_
      refine uE.2 ⟨?_,uE.2 ⟨?_,fun _ h=>absurd h (by simp)⟩⟩
      ·refine dV O ?_
       refine V A B O (v:= .tuple #[vl ((jW acts c.op).getD (⟨none,none⟩:ActF)),.bool (jW acts c.op).isSome]) (wZ (zd:=(⟨none,none⟩:ActF)) apKt Z7 U7 O A 0 (k:=c.op) O O O) fun a A=>?_
       have A:=A.eqv (v':= .tuple #[vl (⟨some 76,some 77⟩:ActF),.bool true]) (by rw[hop];rfl)
       refine aB (aF ⟨gp0 B,fun _=>⟨_,B.get 1 O⟩,tv⟩ fun C=>?_)
       refine Ts [4,5,6] A C O O kr fun a A C=>?_
       refine W1 7 kr O ?_
       refine dF (wk0 O) O O A B O [.nilFunc,.nilFunc] (fun w=>by simp[Instr.alloc,go_sem]<;>rfl) ?_
       intro a w b9 A B
       refine aB (aF ⟨gp0 B,fun _=>⟨_,B.get 2 O⟩,tv⟩ fun C=>?_)
       refine W1 8 kr O ?_
       refine aV (wk0 O) O A B O O (v:=vl (⟨some 76,some 77⟩:ActF)) O 0 O apVA.size_ O (aP ⟨O,O,tv⟩) [.func (.func 76) #[] #[],.func (.func 77) #[] #[]] (by simp[Value.cells,vl,fv]) ?_
       intro w B
       have B:Hp Z ρ (Pt b9 (.cells [.func (.func 76) #[] #[],.func (.func 77) #[] #[]].toArray 98 (0,0))::vJ bm acts::Pt b8 (.cells (chC c).toArray 58 (0,0))::Pt b6 (.cells #[s.v] 22 (0,0))::lH 24 s.v ts0::L) w:=id B
       refine aB (aF ⟨gp0 B,fun _=>⟨_,B.get 2 O⟩,tv⟩ fun C=>?_)
       refine Ts [9] A C O O kr fun a A C=>?_
       exact bT kr ⟨b9,A.cut ⟨O,O,O,O,O,O,O,tv⟩,(B.get 1 O).drop⟩
      refine dV O ?_
      refine dF (wk0 O) O O A B O [.nilFunc,.nilFunc] (fun w=>by simp[Instr.alloc,go_sem]<;>rfl) ?_
      intro a w b9 A B
      refine aB (aF ⟨gp0 B,fun _=>⟨_,B.get 2 O⟩,tv⟩ fun C=>?_)
      refine W1 3 kr O ?_
      refine V A B O (v:= .tuple #[vl ((jW acts c.op).getD (⟨none,none⟩:ActF)),.bool (jW acts c.op).isSome]) (wZ (zd:=(⟨none,none⟩:ActF)) apKt Z7 U7 O A 1 (k:=c.op) O O O) fun a A=>?_
      have A:=A.eqv (v':= .tuple #[vl (⟨some 76,some 77⟩:ActF),.bool true]) (by rw[hop];rfl)
      refine aB (aF ⟨gp0 B,fun _=>⟨_,B.get 2 O⟩,tv⟩ fun C=>?_)
      refine Ts [4,5,6] A C O O kr fun a A C=>?_
      refine W1 8 kr O ?_
      refine aV (wk0 O) O A B O O (v:=vl (⟨some 76,some 77⟩:ActF)) O 0 O apVA.size_ O (aP ⟨O,O,tv⟩) [.func (.func 76) #[] #[],.func (.func 77) #[] #[]] (by simp[Value.cells,vl,fv]) ?_
      intro w B
      have B:Hp Z ρ (Pt b9 (.cells [.func (.func 76) #[] #[],.func (.func 77) #[] #[]].toArray 98 (0,0))::vJ bm acts::Pt b8 (.cells (chC c).toArray 58 (0,0))::Pt b6 (.cells #[s.v] 22 (0,0))::lH 24 s.v ts0::L) w:=id B
      refine aB (aF ⟨gp0 B,fun _=>⟨_,B.get 2 O⟩,tv⟩ fun C=>?_)
      refine Ts [9] A C O O kr fun a A C=>?_
      exact bT kr ⟨b9,A.cut ⟨O,O,O,O,O,O,O,tv⟩,(B.get 1 O).drop⟩
     refine dV O ?_
     refine dF (wk0 O) O O A B O [.nilFunc,.nilFunc] (fun w=>by simp[Instr.alloc,go_sem]<;>rfl) ?_
     intro a w b9 A B
     refine aB (aF ⟨gp0 B,fun _=>⟨_,B.get 1 O⟩,tv⟩ fun C=>?_)
     refine W1 0 kr O ?_
     refine s_call (wk0 O) O O A O [] trivial apE0 (D6 B) Ret.ret ?_
     intro v23 a w F A
     obtain⟨bm,rfl,B⟩:=Ret.of F
     have B:=B.get 1 O
     refine aB (aF ⟨gp0 B,fun _=>⟨_,B.get 2 O⟩,tv⟩ fun C=>?_)
     refine W1 3 kr O ?_
     refine V A B O (v:= .tuple #[vl ((jW acts c.op).getD (⟨none,none⟩:ActF)),.bool (jW acts c.op).isSome]) (wZ (zd:=(⟨none,none⟩:ActF)) apKt Z7 U7 O A 1 (k:=c.op) O O O) fun a A=>?_
     have A:=A.eqv (v':= .tuple #[vl (⟨some 76,some 77⟩:ActF),.bool true]) (by rw[hop];rfl)
     refine aB (aF ⟨gp0 B,fun _=>⟨_,B.get 2 O⟩,tv⟩ fun C=>?_)
     refine Ts [4,5,6] A C O O kr fun a A C=>?_
     refine W1 8 kr O ?_
     refine aV (wk0 O) O A B O O (v:=vl (⟨some 76,some 77⟩:ActF)) O 0 O apVA.size_ O (aP ⟨O,O,tv⟩) [.func (.func 76) #[] #[],.func (.func 77) #[] #[]] (by simp[Value.cells,vl,fv]) ?_
     intro w B
     have B:Hp Z ρ (Pt b9 (.cells [.func (.func 76) #[] #[],.func (.func 77) #[] #[]].toArray 98 (0,0))::vJ bm acts::Pt b8 (.cells (chC c).toArray 58 (0,0))::Pt b6 (.cells #[s.v] 22 (0,0))::lH 24 s.v ts0::L) w:=id B
     refine aB (aF ⟨gp0 B,fun _=>⟨_,B.get 2 O⟩,tv⟩ fun C=>?_)
     refine Ts [9] A C O O kr fun a A C=>?_
     exact bT kr ⟨b9,A.cut ⟨O,O,O,O,O,O,O,tv⟩,(B.get 1 O).drop⟩
    rintro a w ⟨b9,A,B⟩
    repeat (refine aG ?_)
    refine aA (S A 3 O fun a A=>?_)
    refine G A B O O (dJ O A O (apF0 _ _)) fun a A=>G A B O O (xl A apVF1 0 O O O O) fun a A=>G A B O O (aK O A O (fun w M=>aX (cs:=chC c) apVC (Hp.cN 1 O 0 _ (aS O) w M))) fun a A=>?_
    have hfb:xW c=some (fieldsB c):=by
     unfold xW fieldsB
     rw[if_pos hop]
    refine rZ (wk1 A O O O O) O O A O O [chV c] ⟨O,tv⟩ apE1 (aQ8 c B _ hfb) Ret.ret ?_
    intro v35 a w F A
    obtain⟨rfl,B⟩:=Ret.of F
    refine Gs A O O O fun a A=>pk0 A O O O O O fun a A=>aB ?_
    repeat (refine aG ?_)
    refine dK A O (fun H=>?_) (fun H=>?_)
    ·
     repeat (refine aG ?_)
     refine aA (S A 2 O fun a A=>?_)
     refine aB ?_
     repeat (refine aG ?_)
     refine cZ ?_
     have hq1:q=(1,ts0):=by unfold qY at hq;rw[if_neg (by simpa using H)] at hq;exact(oj hq).symm
     subst hq1
     refine⟨(),?_,fun _=>?_⟩
     ·rw[←hst2,if_neg (by simp)]
     rw[if_neg (by simp)] at hr
     obtain rfl:=oj hr
     exact N7 A O O O ⟨_,O,ρ,_,PH.le.rf _,O,aH.nil _,B.drop.drop.drop.drop⟩
    have hfb1:fieldsB c=true:=by simpa using H
    refine bI ?_
    cases hn1:decide (c.node<(-1)) with
    |true=>
     repeat (refine aG ?_)
     refine aA (V A B O (dJ O A O (cgF1 _ _)) fun a A=>?_)
     refine V A B O (xl A rD 1 O O O O) fun a A=>S A 2 O fun a A=>Gk A hn1 O fun a A=>Gk A hn1 O fun a A=>Gk A hn1 O fun a A=>Gk A hn1 O fun a A=>?_
     refine vG (wk3 A O O O) O O A ?_
     intro a A
     refine vG (wk3 A O O O) O O A ?_
     intro a A
     refine vG (wk3 A O O O) O O A ?_
     intro a A
     refine Gk A hn1 O fun a A=>pk1 A hn1 O O O O fun a A=>aB ?_
     repeat (refine aG ?_)
     refine dK A O (fun _=>?_) (fun I=>by cases I)
     repeat (refine aG ?_)
     refine aA (S A 2 O fun a A=>?_)
     refine aB ?_
     repeat (refine aG ?_)
     refine cZ ?_
     have hq1:q=(2,ts0):=by unfold qY at hq;rw[if_pos hfb1,if_pos (by simp only[decide_eq_true_eq] at*;omega)] at hq;exact(oj hq).symm
     subst hq1
     refine⟨(),?_,fun _=>?_⟩
     ·rw[←hst2,if_neg (by simp)]
     rw[if_neg (by simp)] at hr
     obtain rfl:=oj hr
     exact N7 A O O O ⟨_,O,ρ,_,PH.le.rf _,O,aH.nil _,B.drop.drop.drop.drop⟩
    |false=>
     cases hn2:decide (c.node=(-1)) with
     |true=>
      repeat (refine aG ?_)
      refine aA (V A B O (dJ O A O (cgF1 _ _)) fun a A=>?_)
      refine V A B O (xl A rD 1 O O O O) fun a A=>S A 2 O fun a A=>G A B hn1 O (dJ O A O (cgF1 _ _)) fun a A=>G A B hn1 O (xl A rD 1 O O O O) fun a A=>Gs A hn1 O O fun a A=>Gs A hn1 O O fun a A=>G A B hn2 O (dJ O A O (cgF0 _ _)) fun a A=>G A B hn2 O (xl A rD 1 O O O O) fun a A=>Gs A hn2 O O fun a A=>G A B hn1 O (jM O A O hn2 O) fun a A=>pk0 A hn1 O O O O fun a A=>aB ?_
      repeat (refine aG ?_)
      refine dK A O (fun _=>?_) (fun I=>by rw[hop] at I;cases I)
      repeat (refine aG ?_)
      refine aA (S A 2 O fun a A=>?_)
      refine aB ?_
      repeat (refine aG ?_)
      refine cZ ?_
      have hq1:q=(2,ts0):=by unfold qY at hq;rw[if_pos hfb1,if_pos (by simp only[decide_eq_true_eq] at*;omega)] at hq;exact(oj hq).symm
      subst hq1
      refine⟨(),?_,fun _=>?_⟩
      ·rw[←hst2,if_neg (by simp)]
      rw[if_neg (by simp)] at hr
      obtain rfl:=oj hr
      exact N7 A O O O ⟨_,O,ρ,_,PH.le.rf _,O,aH.nil _,B.drop.drop.drop.drop⟩
     |false=>
      repeat (refine aG ?_)
      refine aA (V A B O (dJ O A O (cgF1 _ _)) fun a A=>?_)
      refine V A B O (xl A rD 1 O O O O) fun a A=>S A 2 O fun a A=>G A B hn1 O (dJ O A O (cgF1 _ _)) fun a A=>G A B hn1 O (xl A rD 1 O O O O) fun a A=>Gs A hn1 O O fun a A=>Gs A hn1 O O fun a A=>Gk A hn2 O fun a A=>Gk A hn2 O fun a A=>Gk A hn2 O fun a A=>G A B hn1 O (iV O A O hn2 O) fun a A=>pk0 A hn1 O O O O fun a A=>aB ?_
      repeat (refine aG ?_)
      refine dK A O (fun I=>by cases I) (fun _=>?_)
      refine bI ?_
      repeat (refine aG ?_)
      refine aA (V A B O (dJ O A O (apF1 _ _)) fun a A=>?_)
      refine V A B O (xl A apVF2 0 O O O O) fun a A=>V A B O (aK O A O (fun w M=>aX (cs:=chC c) apVC (Hp.cN 1 O 0 _ (aS O) w M))) fun a A=>?_
      have hq2:aO1 ts0 c=some q:=by
       unfold qY at hq
       rw[if_pos hfb1,if_neg (by simp only[decide_eq_false_iff_not] at*;omega),if_pos hop] at hq
       exact hq
      have hp2:Hp Z ρ (Pt b6 (.cells #[s.v] 22 (0,0))::lH 24 s.v ts0::L) w:=B.drop.drop
      refine rZ (wk0 O) O O A O O [.pointer (some ⟨b6,0,none⟩),chV c] ⟨O,O,tv⟩ apE2 (c_relabel b6 ts0 s c hp2 q hq2) Ret.ret ?_
      intro v54 a w F A
      obtain⟨s',rfl,B⟩:=Ret.of F
      refine S A 1 O fun a A=>aB ?_
      repeat (refine aG ?_)
      refine aA (S A 2 O fun a A=>?_)
      refine aB ?_
      repeat (refine aG ?_)
      refine dK A O (fun D=>?_) (fun D=>?_)
      ·
       have hne:¬q.1=0:=by simpa using D
       repeat (refine aG ?_)
       refine aA (S A 3 O fun a A=>?_)
       refine aB ?_
       repeat (refine aG ?_)
       refine cZ ?_
       refine⟨(),?_,fun _=>?_⟩
       ·rw[←hst2,if_neg hne]
       rw[if_neg hne] at hr
       obtain rfl:=oj hr
       exact N7 A O O O ⟨_,O,ρ,_,PH.le.rf _,O,aH.nil _,B.drop.drop⟩
      have he:q.1=0:=by simpa using D
      refine bI ?_
      repeat (refine aG ?_)
      refine aA (V A B O (v:=(Iv ((i+1:Nat):Int))) (bF O A O O (by rw[IntKind.wrap_i64];omega)) fun a A=>?_)
      refine S A 1 O fun a A=>aB ?_
      rw[if_pos he] at hr hst2
      exact⟨(i+1,q.2),hst2.symm,s',q.2,O,by show i+1≤_;omega,hr,A.cut ⟨O,O,O,O,tv⟩,B⟩
   ·
    repeat (refine aG ?_)
    have B:=B.drew
    refine gK ([([],At0 Z ρ),([],At1 Z ρ (Pt b8 (.cells (chC c).toArray 58 (0,0))))]:Facts) (fun a w=>∃b9:Nat,Env 60 [(6,.pointer (some ⟨b6,0,none⟩)),(8,.pointer (some ⟨b8,0,none⟩)),(9,.pointer (some ⟨b9,0,none⟩)),(10,.bool true),(16,vp1),(17,(Iv (K.length:Int))),(18,(Iv (i:Int)))] a∧Hp Z ρ (Pt b9 (.cells [.func (.func 78) #[] #[],.func (.func 79) #[] #[]].toArray 98 (0,0))::Pt b8 (.cells (chC c).toArray 58 (0,0))::Pt b6 (.cells #[s.v] 22 (0,0))::lH 24 s.v ts0::L) w) kr ⟨fun _=>⟨_,B⟩,fun _=>⟨_,B⟩,tv⟩ (fun C=>?_) ?_
    ·
     generalize w.drew=w at C B⊢
     refine T0 1 A C O O O kr (fun _=>dJ O A O (cgF0 _ _)) fun a A C=>T 2 1 A C O O O kr (fun _=>xl A rD 0 O O O O) fun a A C=>?_
     refine fQ [0,7] kr O ?_
     refine uE.2 ⟨?_,uE.2 ⟨?_,fun _ h=>absurd h (by simp)⟩⟩
     ·refine dV O ?_
      refine s_call (wk0 O) O O A O [] trivial apE0 (D6 B) Ret.ret ?_
      intro v23 a w F A
      obtain⟨bm,rfl,B⟩:=Ret.of F
      refine aB (aF ⟨gp0 B,fun _=>⟨_,B.get 1 O⟩,tv⟩ fun C=>?_)
      refine fQ [3,7] kr O ?_
      refine uE.2 ⟨?_,uE.2 ⟨?_,fun _ h=>absurd h (by simp)⟩⟩
      ·refine dV O ?_
       refine V A B O (v:= .tuple #[vl ((jW acts c.op).getD (⟨none,none⟩:ActF)),.bool (jW acts c.op).isSome]) (wZ (zd:=(⟨none,none⟩:ActF)) apKt Z7 U7 O A 0 (k:=c.op) O O O) fun a A=>?_
       have A:=A.eqv (v':= .tuple #[vl (⟨some 78,some 79⟩:ActF),.bool true]) (by rw[hop];rfl)
       refine aB (aF ⟨gp0 B,fun _=>⟨_,B.get 1 O⟩,tv⟩ fun C=>?_)
       refine Ts [4,5,6] A C O O kr fun a A C=>?_
       refine W1 7 kr O ?_
       refine dF (wk0 O) O O A B O [.nilFunc,.nilFunc] (fun w=>by simp[Instr.alloc,go_sem]<;>rfl) ?_
       intro a w b9 A B
       refine aB (aF ⟨gp0 B,fun _=>⟨_,B.get 2 O⟩,tv⟩ fun C=>?_)
       refine W1 8 kr O ?_
       refine aV (wk0 O) O A B O O (v:=vl (⟨some 78,some 79⟩:ActF)) O 0 O apVA.size_ O (aP ⟨O,O,tv⟩) [.func (.func 78) #[] #[],.func (.func 79) #[] #[]] (by simp[Value.cells,vl,fv]) ?_
       intro w B
       have B:Hp Z ρ (Pt b9 (.cells [.func (.func 78) #[] #[],.func (.func 79) #[] #[]].toArray 98 (0,0))::vJ bm acts::Pt b8 (.cells (chC c).toArray 58 (0,0))::Pt b6 (.cells #[s.v] 22 (0,0))::lH 24 s.v ts0::L) w:=id B
       refine aB (aF ⟨gp0 B,fun _=>⟨_,B.get 2 O⟩,tv⟩ fun C=>?_)
       refine Ts [9] A C O O kr fun a A C=>?_
       exact bT kr ⟨b9,A.cut ⟨O,O,O,O,O,O,O,tv⟩,(B.get 1 O).drop⟩
      refine dV O ?_
      refine dF (wk0 O) O O A B O [.nilFunc,.nilFunc] (fun w=>by simp[Instr.alloc,go_sem]<;>rfl) ?_
      intro a w b9 A B
      refine aB (aF ⟨gp0 B,fun _=>⟨_,B.get 2 O⟩,tv⟩ fun C=>?_)
      refine W1 3 kr O ?_
      refine V A B O (v:= .tuple #[vl ((jW acts c.op).getD (⟨none,none⟩:ActF)),.bool (jW acts c.op).isSome]) (wZ (zd:=(⟨none,none⟩:ActF)) apKt Z7 U7 O A 1 (k:=c.op) O O O) fun a A=>?_
      have A:=A.eqv (v':= .tuple #[vl (⟨some 78,some 79⟩:ActF),.bool true]) (by rw[hop];rfl)
      refine aB (aF ⟨gp0 B,fun _=>⟨_,B.get 2 O⟩,tv⟩ fun C=>?_)
      refine Ts [4,5,6] A C O O kr fun a A C=>?_
      refine W1 8 kr O ?_
      refine aV (wk0 O) O A B O O (v:=vl (⟨some 78,some 79⟩:ActF)) O 0 O apVA.size_ O (aP ⟨O,O,tv⟩) [.func (.func 78) #[] #[],.func (.func 79) #[] #[]] (by simp[Value.cells,vl,fv]) ?_
      intro w B
      have B:Hp Z ρ (Pt b9 (.cells [.func (.func 78) #[] #[],.func (.func 79) #[] #[]].toArray 98 (0,0))::vJ bm acts::Pt b8 (.cells (chC c).toArray 58 (0,0))::Pt b6 (.cells #[s.v] 22 (0,0))::lH 24 s.v ts0::L) w:=id B
      refine aB (aF ⟨gp0 B,fun _=>⟨_,B.get 2 O⟩,tv⟩ fun C=>?_)
      refine Ts [9] A C O O kr fun a A C=>?_
      exact bT kr ⟨b9,A.cut ⟨O,O,O,O,O,O,O,tv⟩,(B.get 1 O).drop⟩
     refine dV O ?_
     refine dF (wk0 O) O O A B O [.nilFunc,.nilFunc] (fun w=>by simp[Instr.alloc,go_sem]<;>rfl) ?_
     intro a w b9 A B
     refine aB (aF ⟨gp0 B,fun _=>⟨_,B.get 1 O⟩,tv⟩ fun C=>?_)
     refine W1 0 kr O ?_
     refine s_call (wk0 O) O O A O [] trivial apE0 (D6 B) Ret.ret ?_
     intro v23 a w F A
     obtain⟨bm,rfl,B⟩:=Ret.of F
     have B:=B.get 1 O
     refine aB (aF ⟨gp0 B,fun _=>⟨_,B.get 2 O⟩,tv⟩ fun C=>?_)
     refine W1 3 kr O ?_
     refine V A B O (v:= .tuple #[vl ((jW acts c.op).getD (⟨none,none⟩:ActF)),.bool (jW acts c.op).isSome]) (wZ (zd:=(⟨none,none⟩:ActF)) apKt Z7 U7 O A 1 (k:=c.op) O O O) fun a A=>?_
     have A:=A.eqv (v':= .tuple #[vl (⟨some 78,some 79⟩:ActF),.bool true]) (by rw[hop];rfl)
     refine aB (aF ⟨gp0 B,fun _=>⟨_,B.get 2 O⟩,tv⟩ fun C=>?_)
     refine Ts [4,5,6] A C O O kr fun a A C=>?_
     refine W1 8 kr O ?_
     refine aV (wk0 O) O A B O O (v:=vl (⟨some 78,some 79⟩:ActF)) O 0 O apVA.size_ O (aP ⟨O,O,tv⟩) [.func (.func 78) #[] #[],.func (.func 79) #[] #[]] (by simp[Value.cells,vl,fv]) ?_
     intro w B
     have B:Hp Z ρ (Pt b9 (.cells [.func (.func 78) #[] #[],.func (.func 79) #[] #[]].toArray 98 (0,0))::vJ bm acts::Pt b8 (.cells (chC c).toArray 58 (0,0))::Pt b6 (.cells #[s.v] 22 (0,0))::lH 24 s.v ts0::L) w:=id B
     refine aB (aF ⟨gp0 B,fun _=>⟨_,B.get 2 O⟩,tv⟩ fun C=>?_)
     refine Ts [9] A C O O kr fun a A C=>?_
     exact bT kr ⟨b9,A.cut ⟨O,O,O,O,O,O,O,tv⟩,(B.get 1 O).drop⟩
    rintro a w ⟨b9,A,B⟩
    repeat (refine aG ?_)
    refine aA (S A 3 O fun a A=>?_)
    refine G A B O O (dJ O A O (apF0 _ _)) fun a A=>G A B O O (xl A apVF1 0 O O O O) fun a A=>G A B O O (aK O A O (fun w M=>aX (cs:=chC c) apVC (Hp.cN 1 O 0 _ (aS O) w M))) fun a A=>?_
    have hfb:xX c=some (fieldsB c):=by
     unfold xX fieldsB
     rw[if_neg (by omega),if_pos hop]
    refine rZ (wk1 A O O O O) O O A O O [chV c] ⟨O,tv⟩ apE3 (aQ9 c B _ hfb) Ret.ret ?_
    intro v35 a w F A
    obtain⟨rfl,B⟩:=Ret.of F
    refine Gs A O O O fun a A=>pk0 A O O O O O fun a A=>aB ?_
    repeat (refine aG ?_)
    refine dK A O (fun H=>?_) (fun H=>?_)
    ·
     repeat (refine aG ?_)
     refine aA (S A 2 O fun a A=>?_)
     refine aB ?_
     repeat (refine aG ?_)
     refine cZ ?_
     have hq1:q=(1,ts0):=by unfold qY at hq;rw[if_neg (by simpa using H)] at hq;exact(oj hq).symm
     subst hq1
     refine⟨(),?_,fun _=>?_⟩
     ·rw[←hst2,if_neg (by simp)]
     rw[if_neg (by simp)] at hr
     obtain rfl:=oj hr
     exact N7 A O O O ⟨_,O,ρ,_,PH.le.rf _,O,aH.nil _,B.drop.drop.drop.drop⟩
    have hfb1:fieldsB c=true:=by simpa using H
    refine bI ?_
    cases hn1:decide (c.node<(-1)) with
    |true=>
     repeat (refine aG ?_)
     refine aA (V A B O (dJ O A O (cgF1 _ _)) fun a A=>?_)
     refine V A B O (xl A rD 1 O O O O) fun a A=>S A 2 O fun a A=>Gk A hn1 O fun a A=>Gk A hn1 O fun a A=>Gk A hn1 O fun a A=>Gk A hn1 O fun a A=>?_
     refine vG (wk3 A O O O) O O A ?_
     intro a A
     refine vG (wk3 A O O O) O O A ?_
     intro a A
     refine vG (wk3 A O O O) O O A ?_
     intro a A
     refine Gk A hn1 O fun a A=>pk1 A hn1 O O O O fun a A=>aB ?_
     repeat (refine aG ?_)
     refine dK A O (fun _=>?_) (fun I=>by cases I)
     repeat (refine aG ?_)
     refine aA (S A 2 O fun a A=>?_)
     refine aB ?_
     repeat (refine aG ?_)
     refine cZ ?_
     have hq1:q=(2,ts0):=by unfold qY at hq;rw[if_pos hfb1,if_pos (by simp only[decide_eq_true_eq] at*;omega)] at hq;exact(oj hq).symm
     subst hq1
     refine⟨(),?_,fun _=>?_⟩
     ·rw[←hst2,if_neg (by simp)]
     rw[if_neg (by simp)] at hr
     obtain rfl:=oj hr
     exact N7 A O O O ⟨_,O,ρ,_,PH.le.rf _,O,aH.nil _,B.drop.drop.drop.drop⟩
    |false=>
     cases hn2:decide (c.node=(-1)) with
     |true=>
      repeat (refine aG ?_)
      refine aA (V A B O (dJ O A O (cgF1 _ _)) fun a A=>?_)
      refine V A B O (xl A rD 1 O O O O) fun a A=>S A 2 O fun a A=>G A B hn1 O (dJ O A O (cgF1 _ _)) fun a A=>G A B hn1 O (xl A rD 1 O O O O) fun a A=>Gs A hn1 O O fun a A=>Gs A hn1 O O fun a A=>G A B hn2 O (dJ O A O (cgF0 _ _)) fun a A=>G A B hn2 O (xl A rD 1 O O O O) fun a A=>Gs A hn2 O O fun a A=>G A B hn1 O (jM O A O hn2 O) fun a A=>pk0 A hn1 O O O O fun a A=>aB ?_
      repeat (refine aG ?_)
      refine dK A O (fun _=>?_) (fun I=>by rw[hop] at I;cases I)
      repeat (refine aG ?_)
      refine aA (S A 2 O fun a A=>?_)
      refine aB ?_
      repeat (refine aG ?_)
      refine cZ ?_
      have hq1:q=(2,ts0):=by unfold qY at hq;rw[if_pos hfb1,if_pos (by simp only[decide_eq_true_eq] at*;omega)] at hq;exact(oj hq).symm
      subst hq1
      refine⟨(),?_,fun _=>?_⟩
      ·rw[←hst2,if_neg (by simp)]
      rw[if_neg (by simp)] at hr
      obtain rfl:=oj hr
      exact N7 A O O O ⟨_,O,ρ,_,PH.le.rf _,O,aH.nil _,B.drop.drop.drop.drop⟩
     |false=>
      repeat (refine aG ?_)
      refine aA (V A B O (dJ O A O (cgF1 _ _)) fun a A=>?_)
      refine V A B O (xl A rD 1 O O O O) fun a A=>S A 2 O fun a A=>G A B hn1 O (dJ O A O (cgF1 _ _)) fun a A=>G A B hn1 O (xl A rD 1 O O O O) fun a A=>Gs A hn1 O O fun a A=>Gs A hn1 O O fun a A=>Gk A hn2 O fun a A=>Gk A hn2 O fun a A=>Gk A hn2 O fun a A=>G A B hn1 O (iV O A O hn2 O) fun a A=>pk0 A hn1 O O O O fun a A=>aB ?_
      repeat (refine aG ?_)
      refine dK A O (fun I=>by cases I) (fun _=>?_)
      refine bI ?_
      repeat (refine aG ?_)
      refine aA (V A B O (dJ O A O (apF1 _ _)) fun a A=>?_)
      refine V A B O (xl A apVF2 0 O O O O) fun a A=>V A B O (aK O A O (fun w M=>aX (cs:=chC c) apVC (Hp.cN 1 O 0 _ (aS O) w M))) fun a A=>?_
      have hq2:aR7 ts0 c=some q:=by
       unfold qY at hq
       rw[if_pos hfb1,if_neg (by simp only[decide_eq_false_iff_not] at*;omega),if_neg (by omega),if_pos hop] at hq
       exact hq
      have hp2:Hp Z ρ (Pt b6 (.cells #[s.v] 22 (0,0))::lH 24 s.v ts0::L) w:=B.drop.drop
      refine rZ (wk0 O) O O A O O [.pointer (some ⟨b6,0,none⟩),chV c] ⟨O,O,tv⟩ apE4 (c_remove b6 ts0 s c hp2 q hq2) Ret.ret ?_
      intro v54 a w F A
      obtain⟨s',rfl,B⟩:=Ret.of F
      refine S A 1 O fun a A=>aB ?_
      repeat (refine aG ?_)
      refine aA (S A 2 O fun a A=>?_)
      refine aB ?_
      repeat (refine aG ?_)
      refine dK A O (fun D=>?_) (fun D=>?_)
      ·
       have hne:¬q.1=0:=by simpa using D
       repeat (refine aG ?_)
       refine aA (S A 3 O fun a A=>?_)
       refine aB ?_
       repeat (refine aG ?_)
       refine cZ ?_
       refine⟨(),?_,fun _=>?_⟩
       ·rw[←hst2,if_neg hne]
       rw[if_neg hne] at hr
       obtain rfl:=oj hr
       exact N7 A O O O ⟨_,O,ρ,_,PH.le.rf _,O,aH.nil _,B.drop.drop⟩
      have he:q.1=0:=by simpa using D
      refine bI ?_
      repeat (refine aG ?_)
      refine aA (V A B O (v:=(Iv ((i+1:Nat):Int))) (bF O A O O (by rw[IntKind.wrap_i64];omega)) fun a A=>?_)
      refine S A 1 O fun a A=>aB ?_
      rw[if_pos he] at hr hst2
      exact⟨(i+1,q.2),hst2.symm,s',q.2,O,by show i+1≤_;omega,hr,A.cut ⟨O,O,O,O,tv⟩,B⟩
   ·
    repeat (refine aG ?_)
    have B:=B.drew
    refine gK ([([],At0 Z ρ),([],At1 Z ρ (Pt b8 (.cells (chC c).toArray 58 (0,0))))]:Facts) (fun a w=>∃b9:Nat,Env 60 [(6,.pointer (some ⟨b6,0,none⟩)),(8,.pointer (some ⟨b8,0,none⟩)),(9,.pointer (some ⟨b9,0,none⟩)),(10,.bool true),(16,vp1),(17,(Iv (K.length:Int))),(18,(Iv (i:Int)))] a∧Hp Z ρ (Pt b9 (.cells [.func (.func 80) #[] #[],.func (.func 81) #[] #[]].toArray 98 (0,0))::Pt b8 (.cells (chC c).toArray 58 (0,0))::Pt b6 (.cells #[s.v] 22 (0,0))::lH 24 s.v ts0::L) w) kr ⟨fun _=>⟨_,B⟩,fun _=>⟨_,B⟩,tv⟩ (fun C=>?_) ?_
    ·
     generalize w.drew=w at C B⊢
     refine T0 1 A C O O O kr (fun _=>dJ O A O (cgF0 _ _)) fun a A C=>T 2 1 A C O O O kr (fun _=>xl A rD 0 O O O O) fun a A C=>?_
     refine fQ [0,7] kr O ?_
     refine uE.2 ⟨?_,uE.2 ⟨?_,fun _ h=>absurd h (by simp)⟩⟩
     ·refine dV O ?_
      refine s_call (wk0 O) O O A O [] trivial apE0 (D6 B) Ret.ret ?_
      intro v23 a w F A
      obtain⟨bm,rfl,B⟩:=Ret.of F
      refine aB (aF ⟨gp0 B,fun _=>⟨_,B.get 1 O⟩,tv⟩ fun C=>?_)
      refine fQ [3,7] kr O ?_
      refine uE.2 ⟨?_,uE.2 ⟨?_,fun _ h=>absurd h (by simp)⟩⟩
      ·refine dV O ?_
       refine V A B O (v:= .tuple #[vl ((jW acts c.op).getD (⟨none,none⟩:ActF)),.bool (jW acts c.op).isSome]) (wZ (zd:=(⟨none,none⟩:ActF)) apKt Z7 U7 O A 0 (k:=c.op) O O O) fun a A=>?_
       have A:=A.eqv (v':= .tuple #[vl (⟨some 80,some 81⟩:ActF),.bool true]) (by rw[hop];rfl)
       refine aB (aF ⟨gp0 B,fun _=>⟨_,B.get 1 O⟩,tv⟩ fun C=>?_)
       refine Ts [4,5,6] A C O O kr fun a A C=>?_
       refine W1 7 kr O ?_
       refine dF (wk0 O) O O A B O [.nilFunc,.nilFunc] (fun w=>by simp[Instr.alloc,go_sem]<;>rfl) ?_
       intro a w b9 A B
       refine aB (aF ⟨gp0 B,fun _=>⟨_,B.get 2 O⟩,tv⟩ fun C=>?_)
       refine W1 8 kr O ?_
       refine aV (wk0 O) O A B O O (v:=vl (⟨some 80,some 81⟩:ActF)) O 0 O apVA.size_ O (aP ⟨O,O,tv⟩) [.func (.func 80) #[] #[],.func (.func 81) #[] #[]] (by simp[Value.cells,vl,fv]) ?_
       intro w B
       have B:Hp Z ρ (Pt b9 (.cells [.func (.func 80) #[] #[],.func (.func 81) #[] #[]].toArray 98 (0,0))::vJ bm acts::Pt b8 (.cells (chC c).toArray 58 (0,0))::Pt b6 (.cells #[s.v] 22 (0,0))::lH 24 s.v ts0::L) w:=id B
       refine aB (aF ⟨gp0 B,fun _=>⟨_,B.get 2 O⟩,tv⟩ fun C=>?_)
       refine Ts [9] A C O O kr fun a A C=>?_
       exact bT kr ⟨b9,A.cut ⟨O,O,O,O,O,O,O,tv⟩,(B.get 1 O).drop⟩
      refine dV O ?_
      refine dF (wk0 O) O O A B O [.nilFunc,.nilFunc] (fun w=>by simp[Instr.alloc,go_sem]<;>rfl) ?_
      intro a w b9 A B
      refine aB (aF ⟨gp0 B,fun _=>⟨_,B.get 2 O⟩,tv⟩ fun C=>?_)
      refine W1 3 kr O ?_
      refine V A B O (v:= .tuple #[vl ((jW acts c.op).getD (⟨none,none⟩:ActF)),.bool (jW acts c.op).isSome]) (wZ (zd:=(⟨none,none⟩:ActF)) apKt Z7 U7 O A 1 (k:=c.op) O O O) fun a A=>?_
      have A:=A.eqv (v':= .tuple #[vl (⟨some 80,some 81⟩:ActF),.bool true]) (by rw[hop];rfl)
      refine aB (aF ⟨gp0 B,fun _=>⟨_,B.get 2 O⟩,tv⟩ fun C=>?_)
      refine Ts [4,5,6] A C O O kr fun a A C=>?_
      refine W1 8 kr O ?_
      refine aV (wk0 O) O A B O O (v:=vl (⟨some 80,some 81⟩:ActF)) O 0 O apVA.size_ O (aP ⟨O,O,tv⟩) [.func (.func 80) #[] #[],.func (.func 81) #[] #[]] (by simp[Value.cells,vl,fv]) ?_
      intro w B
      have B:Hp Z ρ (Pt b9 (.cells [.func (.func 80) #[] #[],.func (.func 81) #[] #[]].toArray 98 (0,0))::vJ bm acts::Pt b8 (.cells (chC c).toArray 58 (0,0))::Pt b6 (.cells #[s.v] 22 (0,0))::lH 24 s.v ts0::L) w:=id B
      refine aB (aF ⟨gp0 B,fun _=>⟨_,B.get 2 O⟩,tv⟩ fun C=>?_)
      refine Ts [9] A C O O kr fun a A C=>?_
      exact bT kr ⟨b9,A.cut ⟨O,O,O,O,O,O,O,tv⟩,(B.get 1 O).drop⟩
     refine dV O ?_
     refine dF (wk0 O) O O A B O [.nilFunc,.nilFunc] (fun w=>by simp[Instr.alloc,go_sem]<;>rfl) ?_
     intro a w b9 A B
     refine aB (aF ⟨gp0 B,fun _=>⟨_,B.get 1 O⟩,tv⟩ fun C=>?_)
     refine W1 0 kr O ?_
     refine s_call (wk0 O) O O A O [] trivial apE0 (D6 B) Ret.ret ?_
     intro v23 a w F A
     obtain⟨bm,rfl,B⟩:=Ret.of F
     have B:=B.get 1 O
     refine aB (aF ⟨gp0 B,fun _=>⟨_,B.get 2 O⟩,tv⟩ fun C=>?_)
     refine W1 3 kr O ?_
     refine V A B O (v:= .tuple #[vl ((jW acts c.op).getD (⟨none,none⟩:ActF)),.bool (jW acts c.op).isSome]) (wZ (zd:=(⟨none,none⟩:ActF)) apKt Z7 U7 O A 1 (k:=c.op) O O O) fun a A=>?_
     have A:=A.eqv (v':= .tuple #[vl (⟨some 80,some 81⟩:ActF),.bool true]) (by rw[hop];rfl)
     refine aB (aF ⟨gp0 B,fun _=>⟨_,B.get 2 O⟩,tv⟩ fun C=>?_)
     refine Ts [4,5,6] A C O O kr fun a A C=>?_
     refine W1 8 kr O ?_
     refine aV (wk0 O) O A B O O (v:=vl (⟨some 80,some 81⟩:ActF)) O 0 O apVA.size_ O (aP ⟨O,O,tv⟩) [.func (.func 80) #[] #[],.func (.func 81) #[] #[]] (by simp[Value.cells,vl,fv]) ?_
     intro w B
     have B:Hp Z ρ (Pt b9 (.cells [.func (.func 80) #[] #[],.func (.func 81) #[] #[]].toArray 98 (0,0))::vJ bm acts::Pt b8 (.cells (chC c).toArray 58 (0,0))::Pt b6 (.cells #[s.v] 22 (0,0))::lH 24 s.v ts0::L) w:=id B
     refine aB (aF ⟨gp0 B,fun _=>⟨_,B.get 2 O⟩,tv⟩ fun C=>?_)
     refine Ts [9] A C O O kr fun a A C=>?_
     exact bT kr ⟨b9,A.cut ⟨O,O,O,O,O,O,O,tv⟩,(B.get 1 O).drop⟩
    rintro a w ⟨b9,A,B⟩
    repeat (refine aG ?_)
    refine aA (S A 3 O fun a A=>?_)
    refine G A B O O (dJ O A O (apF0 _ _)) fun a A=>G A B O O (xl A apVF1 0 O O O O) fun a A=>G A B O O (aK O A O (fun w M=>aX (cs:=chC c) apVC (Hp.cN 1 O 0 _ (aS O) w M))) fun a A=>?_
    have hfb:xY c=some (fieldsB c):=by
     unfold xY fieldsB
     rw[if_neg (by omega),if_neg (by omega),hop];rfl
    refine rZ (wk1 A O O O O) O O A O O [chV c] ⟨O,tv⟩ apE5 (aR0 c B _ hfb) Ret.ret ?_
    intro v35 a w F A
    obtain⟨rfl,B⟩:=Ret.of F
    refine Gs A O O O fun a A=>pk0 A O O O O O fun a A=>aB ?_
    repeat (refine aG ?_)
    refine dK A O (fun H=>?_) (fun H=>?_)
    ·
     repeat (refine aG ?_)
     refine aA (S A 2 O fun a A=>?_)
     refine aB ?_
     repeat (refine aG ?_)
     refine cZ ?_
     have hq1:q=(1,ts0):=by unfold qY at hq;rw[if_neg (by simpa using H)] at hq;exact(oj hq).symm
     subst hq1
     refine⟨(),?_,fun _=>?_⟩
     ·rw[←hst2,if_neg (by simp)]
     rw[if_neg (by simp)] at hr
     obtain rfl:=oj hr
     exact N7 A O O O ⟨_,O,ρ,_,PH.le.rf _,O,aH.nil _,B.drop.drop.drop.drop⟩
    have hfb1:fieldsB c=true:=by simpa using H
    refine bI ?_
    cases hn1:decide (c.node<(-1)) with
    |true=>
     repeat (refine aG ?_)
     refine aA (V A B O (dJ O A O (cgF1 _ _)) fun a A=>?_)
     refine V A B O (xl A rD 1 O O O O) fun a A=>S A 2 O fun a A=>Gk A hn1 O fun a A=>Gk A hn1 O fun a A=>Gk A hn1 O fun a A=>Gk A hn1 O fun a A=>?_
     refine vG (wk3 A O O O) O O A ?_
     intro a A
     refine vG (wk3 A O O O) O O A ?_
     intro a A
     refine vG (wk3 A O O O) O O A ?_
     intro a A
     refine Gk A hn1 O fun a A=>pk1 A hn1 O O O O fun a A=>aB ?_
     repeat (refine aG ?_)
     refine dK A O (fun _=>?_) (fun I=>by cases I)
     repeat (refine aG ?_)
     refine aA (S A 2 O fun a A=>?_)
     refine aB ?_
     repeat (refine aG ?_)
     refine cZ ?_
     have hq1:q=(2,ts0):=by unfold qY at hq;rw[if_pos hfb1,if_pos (by simp only[decide_eq_true_eq] at*;omega)] at hq;exact(oj hq).symm
     subst hq1
     refine⟨(),?_,fun _=>?_⟩
     ·rw[←hst2,if_neg (by simp)]
     rw[if_neg (by simp)] at hr
     obtain rfl:=oj hr
     exact N7 A O O O ⟨_,O,ρ,_,PH.le.rf _,O,aH.nil _,B.drop.drop.drop.drop⟩
    |false=>
     cases hn2:decide (c.node=(-1)) with
     |true=>
      repeat (refine aG ?_)
      refine aA (V A B O (dJ O A O (cgF1 _ _)) fun a A=>?_)
      refine V A B O (xl A rD 1 O O O O) fun a A=>S A 2 O fun a A=>G A B hn1 O (dJ O A O (cgF1 _ _)) fun a A=>G A B hn1 O (xl A rD 1 O O O O) fun a A=>Gs A hn1 O O fun a A=>Gs A hn1 O O fun a A=>G A B hn2 O (dJ O A O (cgF0 _ _)) fun a A=>G A B hn2 O (xl A rD 1 O O O O) fun a A=>Gs A hn2 O O fun a A=>G A B hn1 O (jM O A O hn2 O) fun a A=>pk0 A hn1 O O O O fun a A=>aB ?_
      repeat (refine aG ?_)
      refine dK A O (fun I=>by rw[hop] at I;cases I) (fun _=>?_)
      refine bI ?_
      repeat (refine aG ?_)
      refine aA (V A B O (dJ O A O (apF1 _ _)) fun a A=>?_)
      refine V A B O (xl A apVF2 0 O O O O) fun a A=>V A B O (aK O A O (fun w M=>aX (cs:=chC c) apVC (Hp.cN 1 O 0 _ (aS O) w M))) fun a A=>?_
      have hq2:aL9 ts0 c=some q:=by
       unfold qY at hq
       rw[if_pos hfb1,if_neg (by simp only[decide_eq_false_iff_not] at*;omega),if_neg (by omega),if_neg (by omega)] at hq
       exact hq
      have hp2:Hp Z ρ (Pt b6 (.cells #[s.v] 22 (0,0))::lH 24 s.v ts0::L) w:=B.drop.drop
      refine rZ (wk0 O) O O A O O [.pointer (some ⟨b6,0,none⟩),chV c] ⟨O,O,tv⟩ apE6 (c_insert b6 ts0 s c hp2 q hq2) Ret.ret ?_
      intro v54 a w F A
      obtain⟨s',rfl,B⟩:=Ret.of F
      refine S A 1 O fun a A=>aB ?_
      repeat (refine aG ?_)
      refine aA (S A 2 O fun a A=>?_)
      refine aB ?_
      repeat (refine aG ?_)
      refine dK A O (fun D=>?_) (fun D=>?_)
      ·
       have hne:¬q.1=0:=by simpa using D
       repeat (refine aG ?_)
       refine aA (S A 3 O fun a A=>?_)
       refine aB ?_
       repeat (refine aG ?_)
       refine cZ ?_
       refine⟨(),?_,fun _=>?_⟩
       ·rw[←hst2,if_neg hne]
       rw[if_neg hne] at hr
       obtain rfl:=oj hr
       exact N7 A O O O ⟨_,O,ρ,_,PH.le.rf _,O,aH.nil _,B.drop.drop⟩
      have he:q.1=0:=by simpa using D
      refine bI ?_
      repeat (refine aG ?_)
      refine aA (V A B O (v:=(Iv ((i+1:Nat):Int))) (bF O A O O (by rw[IntKind.wrap_i64];omega)) fun a A=>?_)
      refine S A 1 O fun a A=>aB ?_
      rw[if_pos he] at hr hst2
      exact⟨(i+1,q.2),hst2.symm,s',q.2,O,by show i+1≤_;omega,hr,A.cut ⟨O,O,O,O,tv⟩,B⟩
     |false=>
      repeat (refine aG ?_)
      refine aA (V A B O (dJ O A O (cgF1 _ _)) fun a A=>?_)
      refine V A B O (xl A rD 1 O O O O) fun a A=>S A 2 O fun a A=>G A B hn1 O (dJ O A O (cgF1 _ _)) fun a A=>G A B hn1 O (xl A rD 1 O O O O) fun a A=>Gs A hn1 O O fun a A=>Gs A hn1 O O fun a A=>Gk A hn2 O fun a A=>Gk A hn2 O fun a A=>Gk A hn2 O fun a A=>G A B hn1 O (iV O A O hn2 O) fun a A=>pk0 A hn1 O O O O fun a A=>aB ?_
      repeat (refine aG ?_)
      refine dK A O (fun I=>by cases I) (fun _=>?_)
      refine bI ?_
      repeat (refine aG ?_)
      refine aA (V A B O (dJ O A O (apF1 _ _)) fun a A=>?_)
      refine V A B O (xl A apVF2 0 O O O O) fun a A=>V A B O (aK O A O (fun w M=>aX (cs:=chC c) apVC (Hp.cN 1 O 0 _ (aS O) w M))) fun a A=>?_
      have hq2:aL9 ts0 c=some q:=by
       unfold qY at hq
       rw[if_pos hfb1,if_neg (by simp only[decide_eq_false_iff_not] at*;omega),if_neg (by omega),if_neg (by omega)] at hq
       exact hq
      have hp2:Hp Z ρ (Pt b6 (.cells #[s.v] 22 (0,0))::lH 24 s.v ts0::L) w:=B.drop.drop
      refine rZ (wk0 O) O O A O O [.pointer (some ⟨b6,0,none⟩),chV c] ⟨O,O,tv⟩ apE6 (c_insert b6 ts0 s c hp2 q hq2) Ret.ret ?_
      intro v54 a w F A
      obtain⟨s',rfl,B⟩:=Ret.of F
      refine S A 1 O fun a A=>aB ?_
      repeat (refine aG ?_)
      refine aA (S A 2 O fun a A=>?_)
      refine aB ?_
      repeat (refine aG ?_)
      refine dK A O (fun D=>?_) (fun D=>?_)
      ·
       have hne:¬q.1=0:=by simpa using D
       repeat (refine aG ?_)
       refine aA (S A 3 O fun a A=>?_)
       refine aB ?_
       repeat (refine aG ?_)
       refine cZ ?_
       refine⟨(),?_,fun _=>?_⟩
       ·rw[←hst2,if_neg hne]
       rw[if_neg hne] at hr
       obtain rfl:=oj hr
       exact N7 A O O O ⟨_,O,ρ,_,PH.le.rf _,O,aH.nil _,B.drop.drop⟩
      have he:q.1=0:=by simpa using D
      refine bI ?_
      repeat (refine aG ?_)
      refine aA (V A B O (v:=(Iv ((i+1:Nat):Int))) (bF O A O O (by rw[IntKind.wrap_i64];omega)) fun a A=>?_)
      refine S A 1 O fun a A=>aB ?_
      rw[if_pos he] at hr hst2
      exact⟨(i+1,q.2),hst2.symm,s',q.2,O,by show i+1≤_;omega,hr,A.cut ⟨O,O,O,O,tv⟩,B⟩
   repeat (refine aG ?_)
   have B:=B.drew
   refine gK ([([],At0 Z ρ),([],At1 Z ρ (Pt b8 (.cells (chC c).toArray 58 (0,0))))]:Facts) (fun a w=>∃b9:Nat,Env 60 [(6,.pointer (some ⟨b6,0,none⟩)),(8,.pointer (some ⟨b8,0,none⟩)),(9,.pointer (some ⟨b9,0,none⟩)),(10,.bool false),(16,vp1),(17,(Iv (K.length:Int))),(18,(Iv (i:Int)))] a∧Hp Z ρ (Pt b9 (.cells [.nilFunc,.nilFunc].toArray 98 (0,0))::Pt b8 (.cells (chC c).toArray 58 (0,0))::Pt b6 (.cells #[s.v] 22 (0,0))::lH 24 s.v ts0::L) w) kr ⟨fun _=>⟨_,B⟩,fun _=>⟨_,B⟩,tv⟩ (fun C=>?_) ?_
   ·
    generalize w.drew=w at C B⊢
    refine T0 1 A C O O O kr (fun _=>dJ O A O (cgF0 _ _)) fun a A C=>T 2 1 A C O O O kr (fun _=>xl A rD 0 O O O O) fun a A C=>?_
    refine fQ [0,7] kr O ?_
    refine uE.2 ⟨?_,uE.2 ⟨?_,fun _ h=>absurd h (by simp)⟩⟩
    ·refine dV O ?_
     refine s_call (wk0 O) O O A O [] trivial apE0 (D6 B) Ret.ret ?_
     intro v23 a w F A
     obtain⟨bm,rfl,B⟩:=Ret.of F
     refine aB (aF ⟨gp0 B,fun _=>⟨_,B.get 1 O⟩,tv⟩ fun C=>?_)
     refine fQ [3,7] kr O ?_
     refine uE.2 ⟨?_,uE.2 ⟨?_,fun _ h=>absurd h (by simp)⟩⟩
     ·refine dV O ?_
      refine V A B O (v:= .tuple #[vl ((jW acts c.op).getD (⟨none,none⟩:ActF)),.bool (jW acts c.op).isSome]) (wZ (zd:=(⟨none,none⟩:ActF)) apKt Z7 U7 O A 0 (k:=c.op) O O O) fun a A=>?_
      have A:=A.eqv (v':= .tuple #[vl (⟨none,none⟩:ActF),.bool false]) (by rw[show jW acts c.op=none by simp[jW,acts,Ne.symm hop.1,Ne.symm hop.2.1,Ne.symm hop.2.2]];rfl)
      refine aB (aF ⟨gp0 B,fun _=>⟨_,B.get 1 O⟩,tv⟩ fun C=>?_)
      refine Ts [4,5,6] A C O O kr fun a A C=>?_
      refine W1 7 kr O ?_
      refine dF (wk0 O) O O A B O [.nilFunc,.nilFunc] (fun w=>by simp[Instr.alloc,go_sem]<;>rfl) ?_
      intro a w b9 A B
      refine aB (aF ⟨gp0 B,fun _=>⟨_,B.get 2 O⟩,tv⟩ fun C=>?_)
      refine W1 8 kr O ?_
      refine aV (wk0 O) O A B O O (v:=vl (⟨none,none⟩:ActF)) O 0 O apVA.size_ O (aP ⟨O,O,tv⟩) [.nilFunc,.nilFunc] (by simp[Value.cells,vl,fv]) ?_
      intro w B
      have B:Hp Z ρ (Pt b9 (.cells [.nilFunc,.nilFunc].toArray 98 (0,0))::vJ bm acts::Pt b8 (.cells (chC c).toArray 58 (0,0))::Pt b6 (.cells #[s.v] 22 (0,0))::lH 24 s.v ts0::L) w:=id B
      refine aB (aF ⟨gp0 B,fun _=>⟨_,B.get 2 O⟩,tv⟩ fun C=>?_)
      refine Ts [9] A C O O kr fun a A C=>?_
      exact bT kr ⟨b9,A.cut ⟨O,O,O,O,O,O,O,tv⟩,(B.get 1 O).drop⟩
     refine dV O ?_
     refine dF (wk0 O) O O A B O [.nilFunc,.nilFunc] (fun w=>by simp[Instr.alloc,go_sem]<;>rfl) ?_
     intro a w b9 A B
     refine aB (aF ⟨gp0 B,fun _=>⟨_,B.get 2 O⟩,tv⟩ fun C=>?_)
     refine W1 3 kr O ?_
     refine V A B O (v:= .tuple #[vl ((jW acts c.op).getD (⟨none,none⟩:ActF)),.bool (jW acts c.op).isSome]) (wZ (zd:=(⟨none,none⟩:ActF)) apKt Z7 U7 O A 1 (k:=c.op) O O O) fun a A=>?_
     have A:=A.eqv (v':= .tuple #[vl (⟨none,none⟩:ActF),.bool false]) (by rw[show jW acts c.op=none by simp[jW,acts,Ne.symm hop.1,Ne.symm hop.2.1,Ne.symm hop.2.2]];rfl)
     refine aB (aF ⟨gp0 B,fun _=>⟨_,B.get 2 O⟩,tv⟩ fun C=>?_)
     refine Ts [4,5,6] A C O O kr fun a A C=>?_
     refine W1 8 kr O ?_
     refine aV (wk0 O) O A B O O (v:=vl (⟨none,none⟩:ActF)) O 0 O apVA.size_ O (aP ⟨O,O,tv⟩) [.nilFunc,.nilFunc] (by simp[Value.cells,vl,fv]) ?_
     intro w B
     have B:Hp Z ρ (Pt b9 (.cells [.nilFunc,.nilFunc].toArray 98 (0,0))::vJ bm acts::Pt b8 (.cells (chC c).toArray 58 (0,0))::Pt b6 (.cells #[s.v] 22 (0,0))::lH 24 s.v ts0::L) w:=id B
     refine aB (aF ⟨gp0 B,fun _=>⟨_,B.get 2 O⟩,tv⟩ fun C=>?_)
     refine Ts [9] A C O O kr fun a A C=>?_
     exact bT kr ⟨b9,A.cut ⟨O,O,O,O,O,O,O,tv⟩,(B.get 1 O).drop⟩
    refine dV O ?_
    refine dF (wk0 O) O O A B O [.nilFunc,.nilFunc] (fun w=>by simp[Instr.alloc,go_sem]<;>rfl) ?_
    intro a w b9 A B
    refine aB (aF ⟨gp0 B,fun _=>⟨_,B.get 1 O⟩,tv⟩ fun C=>?_)
    refine W1 0 kr O ?_
    refine s_call (wk0 O) O O A O [] trivial apE0 (D6 B) Ret.ret ?_
    intro v23 a w F A
    obtain⟨bm,rfl,B⟩:=Ret.of F
    have B:=B.get 1 O
    refine aB (aF ⟨gp0 B,fun _=>⟨_,B.get 2 O⟩,tv⟩ fun C=>?_)
    refine W1 3 kr O ?_
    refine V A B O (v:= .tuple #[vl ((jW acts c.op).getD (⟨none,none⟩:ActF)),.bool (jW acts c.op).isSome]) (wZ (zd:=(⟨none,none⟩:ActF)) apKt Z7 U7 O A 1 (k:=c.op) O O O) fun a A=>?_
    have A:=A.eqv (v':= .tuple #[vl (⟨none,none⟩:ActF),.bool false]) (by rw[show jW acts c.op=none by simp[jW,acts,Ne.symm hop.1,Ne.symm hop.2.1,Ne.symm hop.2.2]];rfl)
    refine aB (aF ⟨gp0 B,fun _=>⟨_,B.get 2 O⟩,tv⟩ fun C=>?_)
    refine Ts [4,5,6] A C O O kr fun a A C=>?_
    refine W1 8 kr O ?_
    refine aV (wk0 O) O A B O O (v:=vl (⟨none,none⟩:ActF)) O 0 O apVA.size_ O (aP ⟨O,O,tv⟩) [.nilFunc,.nilFunc] (by simp[Value.cells,vl,fv]) ?_
    intro w B
    have B:Hp Z ρ (Pt b9 (.cells [.nilFunc,.nilFunc].toArray 98 (0,0))::vJ bm acts::Pt b8 (.cells (chC c).toArray 58 (0,0))::Pt b6 (.cells #[s.v] 22 (0,0))::lH 24 s.v ts0::L) w:=id B
    refine aB (aF ⟨gp0 B,fun _=>⟨_,B.get 2 O⟩,tv⟩ fun C=>?_)
    refine Ts [9] A C O O kr fun a A C=>?_
    exact bT kr ⟨b9,A.cut ⟨O,O,O,O,O,O,O,tv⟩,(B.get 1 O).drop⟩
   rintro a w ⟨b9,A,B⟩
   repeat (refine aG ?_)
   refine aA (S A 3 O fun a A=>?_)
   refine Gk A (by rfl) O fun a A=>Gk A (by rfl) O fun a A=>Gk A (by rfl) O fun a A=>Gk A (by rfl) O fun a A=>Gk A (by rfl) O fun a A=>pk1 A O O O O O fun a A=>aB ?_
   repeat (refine aG ?_)
   refine dK A O (fun _=>?_) (fun I=>by cases I)
   repeat (refine aG ?_)
   refine aA (S A 2 O fun a A=>?_)
   refine aB ?_
   repeat (refine aG ?_)
   refine cZ ?_
   have hfb:fieldsB c=false:=by unfold fieldsB;rw[if_neg hop.1,if_neg hop.2.1];simpa using hop.2.2
   have hq1:q=(1,ts0):=by unfold qY at hq;rw[hfb] at hq;exact(oj hq).symm
   subst hq1
   refine⟨(),?_,fun _=>?_⟩
   ·rw[←hst2,if_neg (by simp)]
   rw[if_neg (by simp)] at hr
   obtain rfl:=oj hr
   exact N7 A O O O ⟨_,O,ρ,_,PH.le.rf _,O,aH.nil _,B.drop.drop.drop.drop⟩
  have hge:¬i<K.length:=by simpa using hb
  refine dZ ?_
  rw[List.drop_of_length_le (by omega),chgs] at hr
  refine⟨(),?_,fun _=>⟨s,ts0,(oj hr).symm,A.cut ⟨O,tv⟩,B⟩⟩
  unfold aL5 at J;simp only at J;rw[List.getElem?_eq_none (by omega)] at J;exact(oj J).symm
 rintro a w ⟨s,ts,rfl,A,B⟩
 repeat (refine aG ?_)
 refine aA (V A B O (xl A tcVS 0 O O O O) fun a A=>?_)
 refine S A 2 O fun a A=>aB ?_
 repeat (refine aG ?_)
 refine cZ ?_
 obtain⟨k1,k1a,k1d,B⟩:=B.drop.lend
 exact N7 A O O O ⟨_,O,ρ.un k1,s.v,PH.le_un _ k1,O,lH.ro k1d k1a,B⟩
end Go.Proofs.YtopnldfjcciieaaGreat

/- align.actions, align.Apply, walked. (Printed by wip/c38/apply.py.) -/
import Derived.Test.YtopnldfjcciieaaGreatKFoT
import Derived.Test.YtopnldfjcciieaaGreatKFo21
set_option linter.unusedVariables false
set_option linter.unusedSimpArgs false
set_option maxRecDepth 100000
set_option maxHeartbeats 4000000
namespace Go.Proofs.YtopnldfjcciieaaGreat
open Go.RowKit
open Vl (vl)
structure ActF where
 f:Option Nat
 g:Option Nat
def fv:Option Nat→Value
 |none=> .nilFunc
 |some n=> .func (.func n) #[] #[]
instance vlActF:Vl ActF:=⟨fun a=> .agg #[fv a.f,fv a.g]⟩
def acts:List (Int×ActF):=[(0,⟨some 76,some 77⟩),(1,⟨some 78,some 79⟩),(2,⟨some 80,some 81⟩)]
theorem O7:Tryz.prog.underlying 100=some (.map 3 98):=by kernel_rfl
theorem apKt:KT Tryz.prog 3 Int:=kt_int (by kernel_rfl)
theorem H8:∀w,(zeroValue 98).run Tryz.prog w= .ok (vl (⟨none,none⟩:ActF)) w:=fun w=>by simp[go_sem]<;>rfl
theorem apVA:VarTy Tryz.prog 98 true 2:=⟨fun w=>by simp[isAgg,go_sem],fun w=>by simp[sizeOf,go_sem]<;>rfl⟩
theorem apVF1:VarTy Tryz.prog 95 false 1:=⟨fun w=>by simp[isAgg,go_sem],fun w=>by simp[sizeOf,go_sem]<;>rfl⟩
theorem apVF2:VarTy Tryz.prog 96 false 1:=⟨fun w=>by simp[isAgg,go_sem],fun w=>by simp[sizeOf,go_sem]<;>rfl⟩
theorem apVC:VarTy Tryz.prog 58 true 6:=⟨fun w=>by simp[isAgg,go_sem],fun w=>by simp[sizeOf,go_sem]<;>rfl⟩
theorem apF0:mY Tryz.prog 98 0 0:=fun b o w=>by simp[Instr.fieldAt,go_sem]
theorem apF1:mY Tryz.prog 98 1 1:=fun b o w=>by simp[Instr.fieldAt,go_sem]
theorem apSlC:SlTy Tryz.prog 34 58 6 56:=SlTy.of (z:= .agg #[.int .i64 0,.int .i64 0,.int .i64 0,.int .i64 0,.int .i64 0,.string ByteArray.empty]) (by kernel_rfl) (by kernel_rfl) rfl
theorem apE0:∀args w,(callFunc 54 args).run Tryz.prog w= .ok (.enter 54 args) w:=enters Tryz.func54 (by kernel_rfl) rfl
theorem apE1:∀args w,(callFunc 76 args).run Tryz.prog w= .ok (.enter 76 args) w:=enters Tryz.func76 (by kernel_rfl) rfl
theorem apE2:∀args w,(callFunc 77 args).run Tryz.prog w= .ok (.enter 77 args) w:=enters Tryz.func77 (by kernel_rfl) rfl
theorem apE3:∀args w,(callFunc 78 args).run Tryz.prog w= .ok (.enter 78 args) w:=enters Tryz.func78 (by kernel_rfl) rfl
theorem apE4:∀args w,(callFunc 79 args).run Tryz.prog w= .ok (.enter 79 args) w:=enters Tryz.func79 (by kernel_rfl) rfl
theorem apE5:∀args w,(callFunc 80 args).run Tryz.prog w= .ok (.enter 80 args) w:=enters Tryz.func80 (by kernel_rfl) rfl
theorem apE6:∀args w,(callFunc 81 args).run Tryz.prog w= .ok (.enter 81 args) w:=enters Tryz.func81 (by kernel_rfl) rfl
section
variable {Rn:Option Nat} {P:Program} {ops:Array Oper} {Q:Exit→Act→World→Prop} {rest:List Oper} {o:Oper} {a:Act} {w:World} {Df:List Deferred} {N:Nat} {E:Ent} {d:Nat} {Z:World} {ρ:PH} {L:List bK} {κ β:Type} [Vl κ] [Vl β]
theorem s_mins [DecidableEq κ] {kt et T:TypeId} (K:KT P kt κ) (hT:P.underlying T=some (.map kt et)) (wk:Region.wanted o (yielded ops a.tmps)=true) (hd:o.dst=none) (hE:EnvD Df N E a) (hp:Hp Z ρ L w) {x y u:Operand} (ho:o.op= .insert T x y u) (i:Nat) {b:Nat} {l:List (κ×β)} {k:κ} {v:β} (hx:evo E x=some (.map (some b))) (hy:evo E y=some (vl k)) (hu:evo E u=some (vl v)) (hi:L[i]?=some (sN b l))
  (C:∀w,Hp Z ρ (L.set i (sN b (Y5 l k v))) w→wpL Rn P ops Q rest a w):wpL Rn P ops Q (o::rest) a w:=by
 obtain⟨w',hr,hp'⟩:=run_mput K hT (hp.get i hi) k v
 refine s_unit wk hd hE (w':=w') ?_ (C w' (Hp.put i (J6 (A:=sN b l) (_B:=sN b l) hi).2 hp'))
 simp[execOp,ho,hE.eval hx,hE.eval hy,hE.eval hu,hr]
end
theorem yA {Z:World} {ρ:PH} {L:List bK} {w:World} (hp:Hp Z ρ L w):Calls Tryz.prog 54 #[] w (Ret fun v w'=>∃b,v= .map (some b)∧Hp Z ρ (sN b acts::L) w'):=by
 refine enter (N:=6) Tryz.func54 rfl rfl [] rfl (bC trivial) fun a hE=>?_
 repeat (refine aG ?_)
 refine aA (S hE 1 rfl fun a hE=>?_)
 refine aB ?_
 repeat (refine aG ?_)
 refine aA ?_
 refine s_mkmap (κ:=Int) (β:=ActF) (wk0 rfl) rfl rfl hE hp rfl ?_
 intro a w b hE hp
 refine V hE hp rfl (v:=vl (⟨some 76,some 77⟩:ActF)) (lW rfl hE [(0,.func (.func 76) #[] #[]),(1,.func (.func 77) #[] #[])] (by exact⟨⟨rfl,rfl⟩,⟨rfl,rfl⟩,trivial⟩) (fun w=>by simp[Instr.build,Instr.fill,Value.cells,go_sem]<;>rfl)) fun a hE=>?_
 refine s_mins (κ:=Int) (β:=ActF) apKt O7 (wk0 rfl) rfl hE hp rfl 0 (k:=0) (v:=(⟨some 76,some 77⟩:ActF)) rfl rfl rfl rfl ?_
 intro w hp
 refine V hE hp rfl (v:=vl (⟨some 78,some 79⟩:ActF)) (lW rfl hE [(0,.func (.func 78) #[] #[]),(1,.func (.func 79) #[] #[])] (by exact⟨⟨rfl,rfl⟩,⟨rfl,rfl⟩,trivial⟩) (fun w=>by simp[Instr.build,Instr.fill,Value.cells,go_sem]<;>rfl)) fun a hE=>?_
 refine s_mins (κ:=Int) (β:=ActF) apKt O7 (wk0 rfl) rfl hE hp rfl 0 (k:=1) (v:=(⟨some 78,some 79⟩:ActF)) rfl rfl rfl rfl ?_
 intro w hp
 refine V hE hp rfl (v:=vl (⟨some 80,some 81⟩:ActF)) (lW rfl hE [(0,.func (.func 80) #[] #[]),(1,.func (.func 81) #[] #[])] (by exact⟨⟨rfl,rfl⟩,⟨rfl,rfl⟩,trivial⟩) (fun w=>by simp[Instr.build,Instr.fill,Value.cells,go_sem]<;>rfl)) fun a hE=>?_
 refine s_mins (κ:=Int) (β:=ActF) apKt O7 (wk0 rfl) rfl hE hp rfl 0 (k:=2) (v:=(⟨some 80,some 81⟩:ActF)) rfl rfl rfl rfl ?_
 intro w hp
 have hp:Hp Z ρ (sN b acts::L) w:=id hp
 refine S hE 2 rfl fun a hE=>aB ?_
 repeat (refine aG ?_)
 refine bZ ?_
 exact gJ hE rfl rfl ⟨_,rfl,b,rfl,hp⟩
theorem c_Apply {Z:World} {ρ:PH} {L:List bK} {w:World} (p0:List Node) (vp0:Value) (hp0:aH ρ vp0 p0) (p1:List Chg) (vp1:Value) (hp1:aH ρ vp1 p1) (hp:Hp Z ρ L w) (r:List Node×Int) (hm:m_Apply p0 p1=some r):
  Calls Tryz.prog 24 #[vp0,vp1] w (Ret fun v w'=>∃(ρ':PH) (vr1:Value),ρ.le ρ'∧v=(.tuple #[vr1,(Iv r.2)])∧aH ρ' vr1 r.1∧Hp Z ρ' L w'):=by
 unfold m_Apply at hm
 split at hm
 case isFalse=>cases hm
 rename_i hb
 obtain⟨hb1,hb2⟩:=hb
 refine enter (N:=60) Tryz.func24 rfl rfl [(0,vp0),(1,vp1)] rfl (bC ⟨rfl,rfl,trivial⟩) fun a hE=>?_
 repeat (refine aG ?_)
 refine aA (S hE 2 rfl fun a hE=>?_)
 refine aB ?_
 repeat (refine aG ?_)
 refine aA (S hE 1 rfl fun a hE=>?_)
 refine V hE hp rfl (v:=rW ⟨0,ByteArray.empty,0,0,p0⟩ vp0) (lW rfl hE [(4,vp0)] (by exact⟨⟨rfl,rfl⟩,trivial⟩) (fun w=>by have hc0:=aH.cells hp0;simp only[Value.cells] at hc0;simp[Instr.build,Instr.fill,Value.cells,hc0,go_sem]<;>rfl)) fun a hE=>?_
 refine s_call (wk0 rfl) rfl rfl hE rfl [rW ⟨0,ByteArray.empty,0,0,p0⟩ vp0] ⟨rfl,trivial⟩ ndEntP (copied_c _ ⟨0,ByteArray.empty,0,0,p0⟩ (Nat.le_refl _) vp0 hp0 (by rw[bW];omega) L w hp) Ret.ret ?_
 intro v2 a w hR hE
 obtain⟨v1,rfl,hp⟩:=Ret.of hR
 have hp:Hp Z ρ (jX 24 v1 p0::L) w:=id hp
 obtain⟨s,rfl⟩:=jX.sl hp
 refine V hE hp rfl (v:=s.v) (ex_fieldV rfl hE rfl (fun w=>by simp[Instr.field,asAgg,go_sem])) fun a hE=>?_
 refine dL (wk0 rfl) rfl rfl hE hp rfl [.slice none 0 0] (fun w=>by simp[Instr.alloc,go_sem]<;>rfl) ?_
 intro a w b6 hE hp
 refine bQ (wk0 rfl) rfl hE hp rfl rfl rfl 0 rfl tcVS.size_ (Sl.cells s) (Sl.one s) rfl [s.v] rfl ?_
 intro w hp
 have hp:Hp Z ρ (Pt b6 (.cells #[s.v] 22 (0,0))::jX 24 s.v p0::L) w:=id hp
 refine aB ?_
 repeat (refine aG ?_)
 refine aA (S hE 1 rfl fun a hE=>?_)
 refine V hE hp rfl (bT rfl hE rfl (aH.len hp1 apSlC)) fun a hE=>S hE 1 rfl fun a hE=>aB ?_
 obtain⟨u0,hu0⟩:=chLoop p1 p1.length 0 p0 r (by omega) (by rw[List.drop_zero];exact hm)
 repeat (refine aG ?_)
 refine dH (fun a w=>∃(s:Sl) (ts:List Node),r=(ts,0)∧Env 60 [(6,.pointer (some ⟨b6,0,none⟩))] a∧Hp Z ρ (Pt b6 (.cells #[s.v] 22 (0,0))::jX 24 s.v ts::L) w) ?_ ?_
 ·refine dZ hu0 (fun p a w=>∃(s:Sl) (ts:List Node),p.2=ts∧p.1≤p1.length∧chgs ts (p1.drop p.1)=some r∧Env 60 [(6,.pointer (some ⟨b6,0,none⟩)),(16,vp1),(17,(Iv (p1.length:Int))),(18,(Iv (p.1:Int)))] a∧Hp Z ρ (Pt b6 (.cells #[s.v] 22 (0,0))::jX 24 s.v ts::L) w) ?_ ?_
  ·exact⟨s,p0,rfl,Nat.zero_le _,by rw[List.drop_zero];exact hm,hE.cut ⟨rfl,rfl,rfl,rfl,trivial⟩,hp⟩
  rintro⟨i,ts0⟩ st a w ⟨s,ts,hts,hi,hr,hE,hp⟩ hst
  simp only at hts hi hr hE
  subst hts
  repeat (refine aG ?_)
  refine aA (S hE 1 rfl fun a hE=>?_)
  refine aB ?_
  repeat (refine aG ?_)
  refine dE hE rfl (fun hb=>?_) (fun hb=>?_)
  ·
   have hlt:i<p1.length:=by simpa using hb
   obtain⟨c,hc⟩:∃c,p1[i]?=some c:=⟨_,List.getElem?_eq_getElem hlt⟩
   have ec:idx p1 (i:Int)=some c:=idx_at hc
   obtain⟨hc3,hc4⟩:=List.getElem?_eq_some_iff.1 hc
   rw[List.drop_eq_getElem_cons hc3,hc4,chgs] at hr
   obtain⟨q,hq,hr⟩:=bnd hr
   have hst2:(if q.1=0 then Step.next (i+1,q.2) else .done ())=st:=by
    unfold aE4 at hst;simp only[hc,hq,Option.map_some] at hst;exact oj hst
   clear hst
   obtain⟨b4,b4o,b4c,b4r,b4k,b4f⟩:=aH.at hp1 apSlC ec
   obtain rfl:b4c=Enc.enc c:=b4k
   refine aZ ?_
   repeat (refine aG ?_)
   refine dM ?_
   repeat (refine aG ?_)
   refine aA (V hE hp rfl (aN rfl hE rfl rfl b4r) fun a hE=>?_)
   refine V hE hp rfl (aK rfl hE rfl (fun w hw=>aW (cs:=chC c) apVC (fun j u hj=>cell_of hw.le (b4f j u hj)))) fun a hE=>?_
   refine dL (wk0 rfl) rfl rfl hE hp rfl [.int .i64 0,.int .i64 0,.int .i64 0,.int .i64 0,.int .i64 0,.string ByteArray.empty] (fun w=>by simp[Instr.alloc,go_sem]<;>rfl) ?_
   intro a w b8 hE hp
   refine aX (wk0 rfl) rfl hE hp rfl rfl (v:=chV c) rfl 0 rfl apVC.size_ rfl (aQ ⟨rfl,rfl,rfl,rfl,rfl,rfl,trivial⟩) (chC c) (by simp[Value.cells]) ?_
   intro w hp
   refine aB ?_
   have hp:Hp Z ρ (Pt b8 (.cells (chC c).toArray 58 (0,0))::Pt b6 (.cells #[s.v] 22 (0,0))::jX 24 s.v ts0::L) w:=id hp
   have hE:=hE.cut (E':=[(6,.pointer (some ⟨b6,0,none⟩)),(8,.pointer (some ⟨b8,0,none⟩)),(16,vp1),(17,(Iv (p1.length:Int))),(18,(Iv (i:Int)))]) ⟨rfl,rfl,rfl,rfl,rfl,trivial⟩
   rcases(show c.op=0∨c.op=1∨c.op=2∨(c.op≠0∧c.op≠1∧c.op≠2) by omega) with hop|hop|hop|hop
   ·
    repeat (refine aG ?_)
    have hp:=hp.drew
    refine fG ([([],At0 Z ρ),([],At1 Z ρ (Pt b8 (.cells (chC c).toArray 58 (0,0))))]:Facts) (fun a w=>∃b9:Nat,Env 60 [(6,.pointer (some ⟨b6,0,none⟩)),(8,.pointer (some ⟨b8,0,none⟩)),(9,.pointer (some ⟨b9,0,none⟩)),(10,.bool true),(16,vp1),(17,(Iv (p1.length:Int))),(18,(Iv (i:Int)))] a∧Hp Z ρ (Pt b9 (.cells [.func (.func 76) #[] #[],.func (.func 77) #[] #[]].toArray 98 (0,0))::Pt b8 (.cells (chC c).toArray 58 (0,0))::Pt b6 (.cells #[s.v] 22 (0,0))::jX 24 s.v ts0::L) w) (by kernel_rfl) ⟨fun _=>⟨_,hp⟩,fun _=>⟨_,hp⟩,trivial⟩ (fun hS=>?_) ?_
    ·
     generalize w.drew=w at hS hp⊢
     refine T0 1 hE hS rfl rfl rfl (by kernel_rfl) (fun _=>dF rfl hE rfl (cgF0 _ _)) fun a hE hS=>T 2 1 hE hS rfl rfl rfl (by kernel_rfl) (fun _=>xl hE oP 0 rfl rfl rfl rfl) fun a hE hS=>?_
     refine gW [0,7] (by kernel_rfl) rfl ?_
     refine List.forall_mem_cons.2 ⟨?_,List.forall_mem_cons.2 ⟨?_,fun _ h=>absurd h (by simp)⟩⟩
     ·refine dX rfl ?_
      refine s_call (wk0 rfl) rfl rfl hE rfl [] trivial apE0 (yA hp) Ret.ret ?_
      intro v23 a w hR hE
      obtain⟨bm,rfl,hp⟩:=Ret.of hR
      refine aB (aF ⟨gp0 hp,fun _=>⟨_,hp.get 1 rfl⟩,trivial⟩ fun hS=>?_)
      refine gW [3,7] (by kernel_rfl) rfl ?_
      refine List.forall_mem_cons.2 ⟨?_,List.forall_mem_cons.2 ⟨?_,fun _ h=>absurd h (by simp)⟩⟩
      ·refine dX rfl ?_
       refine V hE hp rfl (v:= .tuple #[vl ((lM acts c.op).getD (⟨none,none⟩:ActF)),.bool (lM acts c.op).isSome]) (uU (zd:=(⟨none,none⟩:ActF)) apKt O7 H8 rfl hE 0 (k:=c.op) rfl rfl rfl) fun a hE=>?_
       have hE:=hE.eqv (v':= .tuple #[vl (⟨some 76,some 77⟩:ActF),.bool true]) (by rw[hop];rfl)
       refine aB (aF ⟨gp0 hp,fun _=>⟨_,hp.get 1 rfl⟩,trivial⟩ fun hS=>?_)
       refine Ts [4,5,6] hE hS rfl rfl (by kernel_rfl) fun a hE hS=>?_
       refine W1 7 (by kernel_rfl) rfl ?_
       refine dL (wk0 rfl) rfl rfl hE hp rfl [.nilFunc,.nilFunc] (fun w=>by simp[Instr.alloc,go_sem]<;>rfl) ?_
       intro a w b9 hE hp
       refine aB (aF ⟨gp0 hp,fun _=>⟨_,hp.get 2 rfl⟩,trivial⟩ fun hS=>?_)
       refine W1 8 (by kernel_rfl) rfl ?_
       refine aX (wk0 rfl) rfl hE hp rfl rfl (v:=vl (⟨some 76,some 77⟩:ActF)) rfl 0 rfl apVA.size_ rfl (aQ ⟨rfl,rfl,trivial⟩) [.func (.func 76) #[] #[],.func (.func 77) #[] #[]] (by simp[Value.cells,vl,fv]) ?_
       intro w hp
       have hp:Hp Z ρ (Pt b9 (.cells [.func (.func 76) #[] #[],.func (.func 77) #[] #[]].toArray 98 (0,0))::sN bm acts::Pt b8 (.cells (chC c).toArray 58 (0,0))::Pt b6 (.cells #[s.v] 22 (0,0))::jX 24 s.v ts0::L) w:=id hp
       refine aB (aF ⟨gp0 hp,fun _=>⟨_,hp.get 2 rfl⟩,trivial⟩ fun hS=>?_)
       refine Ts [9] hE hS rfl rfl (by kernel_rfl) fun a hE hS=>?_
       exact bP (by kernel_rfl) ⟨b9,hE.cut ⟨rfl,rfl,rfl,rfl,rfl,rfl,rfl,trivial⟩,(hp.get 1 rfl).drop⟩
      refine dX rfl ?_
      refine dL (wk0 rfl) rfl rfl hE hp rfl [.nilFunc,.nilFunc] (fun w=>by simp[Instr.alloc,go_sem]<;>rfl) ?_
      intro a w b9 hE hp
      refine aB (aF ⟨gp0 hp,fun _=>⟨_,hp.get 2 rfl⟩,trivial⟩ fun hS=>?_)
      refine W1 3 (by kernel_rfl) rfl ?_
      refine V hE hp rfl (v:= .tuple #[vl ((lM acts c.op).getD (⟨none,none⟩:ActF)),.bool (lM acts c.op).isSome]) (uU (zd:=(⟨none,none⟩:ActF)) apKt O7 H8 rfl hE 1 (k:=c.op) rfl rfl rfl) fun a hE=>?_
      have hE:=hE.eqv (v':= .tuple #[vl (⟨some 76,some 77⟩:ActF),.bool true]) (by rw[hop];rfl)
      refine aB (aF ⟨gp0 hp,fun _=>⟨_,hp.get 2 rfl⟩,trivial⟩ fun hS=>?_)
      refine Ts [4,5,6] hE hS rfl rfl (by kernel_rfl) fun a hE hS=>?_
      refine W1 8 (by kernel_rfl) rfl ?_
      refine aX (wk0 rfl) rfl hE hp rfl rfl (v:=vl (⟨some 76,some 77⟩:ActF)) rfl 0 rfl apVA.size_ rfl (aQ ⟨rfl,rfl,trivial⟩) [.func (.func 76) #[] #[],.func (.func 77) #[] #[]] (by simp[Value.cells,vl,fv]) ?_
      intro w hp
      have hp:Hp Z ρ (Pt b9 (.cells [.func (.func 76) #[] #[],.func (.func 77) #[] #[]].toArray 98 (0,0))::sN bm acts::Pt b8 (.cells (chC c).toArray 58 (0,0))::Pt b6 (.cells #[s.v] 22 (0,0))::jX 24 s.v ts0::L) w:=id hp
      refine aB (aF ⟨gp0 hp,fun _=>⟨_,hp.get 2 rfl⟩,trivial⟩ fun hS=>?_)
      refine Ts [9] hE hS rfl rfl (by kernel_rfl) fun a hE hS=>?_
      exact bP (by kernel_rfl) ⟨b9,hE.cut ⟨rfl,rfl,rfl,rfl,rfl,rfl,rfl,trivial⟩,(hp.get 1 rfl).drop⟩
     refine dX rfl ?_
     refine dL (wk0 rfl) rfl rfl hE hp rfl [.nilFunc,.nilFunc] (fun w=>by simp[Instr.alloc,go_sem]<;>rfl) ?_
     intro a w b9 hE hp
     refine aB (aF ⟨gp0 hp,fun _=>⟨_,hp.get 1 rfl⟩,trivial⟩ fun hS=>?_)
     refine W1 0 (by kernel_rfl) rfl ?_
     refine s_call (wk0 rfl) rfl rfl hE rfl [] trivial apE0 (yA hp) Ret.ret ?_
     intro v23 a w hR hE
     obtain⟨bm,rfl,hp⟩:=Ret.of hR
     have hp:=hp.get 1 rfl
     refine aB (aF ⟨gp0 hp,fun _=>⟨_,hp.get 2 rfl⟩,trivial⟩ fun hS=>?_)
     refine W1 3 (by kernel_rfl) rfl ?_
     refine V hE hp rfl (v:= .tuple #[vl ((lM acts c.op).getD (⟨none,none⟩:ActF)),.bool (lM acts c.op).isSome]) (uU (zd:=(⟨none,none⟩:ActF)) apKt O7 H8 rfl hE 1 (k:=c.op) rfl rfl rfl) fun a hE=>?_
     have hE:=hE.eqv (v':= .tuple #[vl (⟨some 76,some 77⟩:ActF),.bool true]) (by rw[hop];rfl)
     refine aB (aF ⟨gp0 hp,fun _=>⟨_,hp.get 2 rfl⟩,trivial⟩ fun hS=>?_)
     refine Ts [4,5,6] hE hS rfl rfl (by kernel_rfl) fun a hE hS=>?_
     refine W1 8 (by kernel_rfl) rfl ?_
     refine aX (wk0 rfl) rfl hE hp rfl rfl (v:=vl (⟨some 76,some 77⟩:ActF)) rfl 0 rfl apVA.size_ rfl (aQ ⟨rfl,rfl,trivial⟩) [.func (.func 76) #[] #[],.func (.func 77) #[] #[]] (by simp[Value.cells,vl,fv]) ?_
     intro w hp
     have hp:Hp Z ρ (Pt b9 (.cells [.func (.func 76) #[] #[],.func (.func 77) #[] #[]].toArray 98 (0,0))::sN bm acts::Pt b8 (.cells (chC c).toArray 58 (0,0))::Pt b6 (.cells #[s.v] 22 (0,0))::jX 24 s.v ts0::L) w:=id hp
     refine aB (aF ⟨gp0 hp,fun _=>⟨_,hp.get 2 rfl⟩,trivial⟩ fun hS=>?_)
     refine Ts [9] hE hS rfl rfl (by kernel_rfl) fun a hE hS=>?_
     exact bP (by kernel_rfl) ⟨b9,hE.cut ⟨rfl,rfl,rfl,rfl,rfl,rfl,rfl,trivial⟩,(hp.get 1 rfl).drop⟩
    rintro a w ⟨b9,hE,hp⟩
    repeat (refine aG ?_)
    refine aA (S hE 3 rfl fun a hE=>?_)
    refine G hE hp rfl rfl (dF rfl hE rfl (apF0 _ _)) fun a hE=>G hE hp rfl rfl (xl hE apVF1 0 rfl rfl rfl rfl) fun a hE=>G hE hp rfl rfl (aK rfl hE rfl (fun w hw=>aW (cs:=chC c) apVC (Hp.cN 1 rfl 0 _ (aS rfl) w hw))) fun a hE=>?_
    have hfb:vJ c=some (fieldsB c):=by
     unfold vJ fieldsB
     rw[if_pos hop]
    refine pU (wk1 hE rfl rfl rfl rfl) rfl rfl hE rfl rfl [chV c] ⟨rfl,trivial⟩ apE1 (aI8 c hp _ hfb) Ret.ret ?_
    intro v35 a w hR hE
    obtain⟨rfl,hp⟩:=Ret.of hR
    refine Gs hE rfl rfl rfl fun a hE=>pk0 hE rfl rfl rfl rfl rfl fun a hE=>aB ?_
    repeat (refine aG ?_)
    refine dE hE rfl (fun hc0=>?_) (fun hc0=>?_)
    ·
     repeat (refine aG ?_)
     refine aA (S hE 2 rfl fun a hE=>?_)
     refine aB ?_
     repeat (refine aG ?_)
     refine bZ ?_
     have hq1:q=(1,ts0):=by unfold oO at hq;rw[if_neg (by simpa using hc0)] at hq;exact(oj hq).symm
     subst hq1
     refine⟨(),?_,fun _=>?_⟩
     ·rw[←hst2,if_neg (by simp)]
     rw[if_neg (by simp)] at hr
     obtain rfl:=oj hr
     exact yU hE rfl rfl rfl ⟨_,rfl,ρ,_,PH.le.rf _,rfl,aH.nil _,hp.drop.drop.drop.drop⟩
    have hfb1:fieldsB c=true:=by simpa using hc0
    refine aZ ?_
    cases hn1:decide (c.node<(-1)) with
    |true=>
     repeat (refine aG ?_)
     refine aA (V hE hp rfl (dF rfl hE rfl (cgF1 _ _)) fun a hE=>?_)
     refine V hE hp rfl (xl hE oP 1 rfl rfl rfl rfl) fun a hE=>S hE 2 rfl fun a hE=>Gk hE hn1 rfl fun a hE=>Gk hE hn1 rfl fun a hE=>Gk hE hn1 rfl fun a hE=>Gk hE hn1 rfl fun a hE=>?_
     refine sK (wk3 hE rfl rfl rfl) rfl rfl hE ?_
     intro a hE
     refine sK (wk3 hE rfl rfl rfl) rfl rfl hE ?_
     intro a hE
     refine sK (wk3 hE rfl rfl rfl) rfl rfl hE ?_
     intro a hE
     refine Gk hE hn1 rfl fun a hE=>pk1 hE hn1 rfl rfl rfl rfl fun a hE=>aB ?_
     repeat (refine aG ?_)
     refine dE hE rfl (fun _=>?_) (fun hc=>by cases hc)
     repeat (refine aG ?_)
     refine aA (S hE 2 rfl fun a hE=>?_)
     refine aB ?_
     repeat (refine aG ?_)
     refine bZ ?_
     have hq1:q=(2,ts0):=by unfold oO at hq;rw[if_pos hfb1,if_pos (by simp only[decide_eq_true_eq] at*;omega)] at hq;exact(oj hq).symm
     subst hq1
     refine⟨(),?_,fun _=>?_⟩
     ·rw[←hst2,if_neg (by simp)]
     rw[if_neg (by simp)] at hr
     obtain rfl:=oj hr
     exact yU hE rfl rfl rfl ⟨_,rfl,ρ,_,PH.le.rf _,rfl,aH.nil _,hp.drop.drop.drop.drop⟩
    |false=>
     cases hn2:decide (c.node=(-1)) with
     |true=>
      repeat (refine aG ?_)
      refine aA (V hE hp rfl (dF rfl hE rfl (cgF1 _ _)) fun a hE=>?_)
      refine V hE hp rfl (xl hE oP 1 rfl rfl rfl rfl) fun a hE=>S hE 2 rfl fun a hE=>G hE hp hn1 rfl (dF rfl hE rfl (cgF1 _ _)) fun a hE=>G hE hp hn1 rfl (xl hE oP 1 rfl rfl rfl rfl) fun a hE=>Gs hE hn1 rfl rfl fun a hE=>Gs hE hn1 rfl rfl fun a hE=>G hE hp hn2 rfl (dF rfl hE rfl (cgF0 _ _)) fun a hE=>G hE hp hn2 rfl (xl hE oP 1 rfl rfl rfl rfl) fun a hE=>Gs hE hn2 rfl rfl fun a hE=>G hE hp hn1 rfl (iD rfl hE rfl hn2 rfl) fun a hE=>pk0 hE hn1 rfl rfl rfl rfl fun a hE=>aB ?_
      repeat (refine aG ?_)
      refine dE hE rfl (fun _=>?_) (fun hc=>by rw[hop] at hc;cases hc)
      repeat (refine aG ?_)
      refine aA (S hE 2 rfl fun a hE=>?_)
      refine aB ?_
      repeat (refine aG ?_)
      refine bZ ?_
      have hq1:q=(2,ts0):=by unfold oO at hq;rw[if_pos hfb1,if_pos (by simp only[decide_eq_true_eq] at*;omega)] at hq;exact(oj hq).symm
      subst hq1
      refine⟨(),?_,fun _=>?_⟩
      ·rw[←hst2,if_neg (by simp)]
      rw[if_neg (by simp)] at hr
      obtain rfl:=oj hr
      exact yU hE rfl rfl rfl ⟨_,rfl,ρ,_,PH.le.rf _,rfl,aH.nil _,hp.drop.drop.drop.drop⟩
     |false=>
      repeat (refine aG ?_)
      refine aA (V hE hp rfl (dF rfl hE rfl (cgF1 _ _)) fun a hE=>?_)
      refine V hE hp rfl (xl hE oP 1 rfl rfl rfl rfl) fun a hE=>S hE 2 rfl fun a hE=>G hE hp hn1 rfl (dF rfl hE rfl (cgF1 _ _)) fun a hE=>G hE hp hn1 rfl (xl hE oP 1 rfl rfl rfl rfl) fun a hE=>Gs hE hn1 rfl rfl fun a hE=>Gs hE hn1 rfl rfl fun a hE=>Gk hE hn2 rfl fun a hE=>Gk hE hn2 rfl fun a hE=>Gk hE hn2 rfl fun a hE=>G hE hp hn1 rfl (gQ rfl hE rfl hn2 rfl) fun a hE=>pk0 hE hn1 rfl rfl rfl rfl fun a hE=>aB ?_
      repeat (refine aG ?_)
      refine dE hE rfl (fun hc=>by cases hc) (fun _=>?_)
      refine aZ ?_
      repeat (refine aG ?_)
      refine aA (V hE hp rfl (dF rfl hE rfl (apF1 _ _)) fun a hE=>?_)
      refine V hE hp rfl (xl hE apVF2 0 rfl rfl rfl rfl) fun a hE=>V hE hp rfl (aK rfl hE rfl (fun w hw=>aW (cs:=chC c) apVC (Hp.cN 1 rfl 0 _ (aS rfl) w hw))) fun a hE=>?_
      have hq2:aG3 ts0 c=some q:=by
       unfold oO at hq
       rw[if_pos hfb1,if_neg (by simp only[decide_eq_false_iff_not] at*;omega),if_pos hop] at hq
       exact hq
      have hp2:Hp Z ρ (Pt b6 (.cells #[s.v] 22 (0,0))::jX 24 s.v ts0::L) w:=hp.drop.drop
      refine pU (wk0 rfl) rfl rfl hE rfl rfl [.pointer (some ⟨b6,0,none⟩),chV c] ⟨rfl,rfl,trivial⟩ apE2 (c_relabel b6 ts0 s c hp2 q hq2) Ret.ret ?_
      intro v54 a w hR hE
      obtain⟨s',rfl,hp⟩:=Ret.of hR
      refine S hE 1 rfl fun a hE=>aB ?_
      repeat (refine aG ?_)
      refine aA (S hE 2 rfl fun a hE=>?_)
      refine aB ?_
      repeat (refine aG ?_)
      refine dE hE rfl (fun hc1=>?_) (fun hc1=>?_)
      ·
       have hne:¬q.1=0:=by simpa using hc1
       repeat (refine aG ?_)
       refine aA (S hE 3 rfl fun a hE=>?_)
       refine aB ?_
       repeat (refine aG ?_)
       refine bZ ?_
       refine⟨(),?_,fun _=>?_⟩
       ·rw[←hst2,if_neg hne]
       rw[if_neg hne] at hr
       obtain rfl:=oj hr
       exact yU hE rfl rfl rfl ⟨_,rfl,ρ,_,PH.le.rf _,rfl,aH.nil _,hp.drop.drop⟩
      have he:q.1=0:=by simpa using hc1
      refine aZ ?_
      repeat (refine aG ?_)
      refine aA (V hE hp rfl (v:=(Iv ((i+1:Nat):Int))) (bF rfl hE rfl rfl (by rw[IntKind.wrap_i64];omega)) fun a hE=>?_)
      refine S hE 1 rfl fun a hE=>aB ?_
      rw[if_pos he] at hr hst2
      exact⟨(i+1,q.2),hst2.symm,s',q.2,rfl,by show i+1≤_;omega,hr,hE.cut ⟨rfl,rfl,rfl,rfl,trivial⟩,hp⟩
   ·
    repeat (refine aG ?_)
    have hp:=hp.drew
    refine fG ([([],At0 Z ρ),([],At1 Z ρ (Pt b8 (.cells (chC c).toArray 58 (0,0))))]:Facts) (fun a w=>∃b9:Nat,Env 60 [(6,.pointer (some ⟨b6,0,none⟩)),(8,.pointer (some ⟨b8,0,none⟩)),(9,.pointer (some ⟨b9,0,none⟩)),(10,.bool true),(16,vp1),(17,(Iv (p1.length:Int))),(18,(Iv (i:Int)))] a∧Hp Z ρ (Pt b9 (.cells [.func (.func 78) #[] #[],.func (.func 79) #[] #[]].toArray 98 (0,0))::Pt b8 (.cells (chC c).toArray 58 (0,0))::Pt b6 (.cells #[s.v] 22 (0,0))::jX 24 s.v ts0::L) w) (by kernel_rfl) ⟨fun _=>⟨_,hp⟩,fun _=>⟨_,hp⟩,trivial⟩ (fun hS=>?_) ?_
    ·
     generalize w.drew=w at hS hp⊢
     refine T0 1 hE hS rfl rfl rfl (by kernel_rfl) (fun _=>dF rfl hE rfl (cgF0 _ _)) fun a hE hS=>T 2 1 hE hS rfl rfl rfl (by kernel_rfl) (fun _=>xl hE oP 0 rfl rfl rfl rfl) fun a hE hS=>?_
     refine gW [0,7] (by kernel_rfl) rfl ?_
     refine List.forall_mem_cons.2 ⟨?_,List.forall_mem_cons.2 ⟨?_,fun _ h=>absurd h (by simp)⟩⟩
     ·refine dX rfl ?_
      refine s_call (wk0 rfl) rfl rfl hE rfl [] trivial apE0 (yA hp) Ret.ret ?_
      intro v23 a w hR hE
      obtain⟨bm,rfl,hp⟩:=Ret.of hR
      refine aB (aF ⟨gp0 hp,fun _=>⟨_,hp.get 1 rfl⟩,trivial⟩ fun hS=>?_)
      refine gW [3,7] (by kernel_rfl) rfl ?_
      refine List.forall_mem_cons.2 ⟨?_,List.forall_mem_cons.2 ⟨?_,fun _ h=>absurd h (by simp)⟩⟩
      ·refine dX rfl ?_
       refine V hE hp rfl (v:= .tuple #[vl ((lM acts c.op).getD (⟨none,none⟩:ActF)),.bool (lM acts c.op).isSome]) (uU (zd:=(⟨none,none⟩:ActF)) apKt O7 H8 rfl hE 0 (k:=c.op) rfl rfl rfl) fun a hE=>?_
       have hE:=hE.eqv (v':= .tuple #[vl (⟨some 78,some 79⟩:ActF),.bool true]) (by rw[hop];rfl)
       refine aB (aF ⟨gp0 hp,fun _=>⟨_,hp.get 1 rfl⟩,trivial⟩ fun hS=>?_)
       refine Ts [4,5,6] hE hS rfl rfl (by kernel_rfl) fun a hE hS=>?_
       refine W1 7 (by kernel_rfl) rfl ?_
       refine dL (wk0 rfl) rfl rfl hE hp rfl [.nilFunc,.nilFunc] (fun w=>by simp[Instr.alloc,go_sem]<;>rfl) ?_
       intro a w b9 hE hp
       refine aB (aF ⟨gp0 hp,fun _=>⟨_,hp.get 2 rfl⟩,trivial⟩ fun hS=>?_)
       refine W1 8 (by kernel_rfl) rfl ?_
       refine aX (wk0 rfl) rfl hE hp rfl rfl (v:=vl (⟨some 78,some 79⟩:ActF)) rfl 0 rfl apVA.size_ rfl (aQ ⟨rfl,rfl,trivial⟩) [.func (.func 78) #[] #[],.func (.func 79) #[] #[]] (by simp[Value.cells,vl,fv]) ?_
       intro w hp
       have hp:Hp Z ρ (Pt b9 (.cells [.func (.func 78) #[] #[],.func (.func 79) #[] #[]].toArray 98 (0,0))::sN bm acts::Pt b8 (.cells (chC c).toArray 58 (0,0))::Pt b6 (.cells #[s.v] 22 (0,0))::jX 24 s.v ts0::L) w:=id hp
       refine aB (aF ⟨gp0 hp,fun _=>⟨_,hp.get 2 rfl⟩,trivial⟩ fun hS=>?_)
       refine Ts [9] hE hS rfl rfl (by kernel_rfl) fun a hE hS=>?_
       exact bP (by kernel_rfl) ⟨b9,hE.cut ⟨rfl,rfl,rfl,rfl,rfl,rfl,rfl,trivial⟩,(hp.get 1 rfl).drop⟩
      refine dX rfl ?_
      refine dL (wk0 rfl) rfl rfl hE hp rfl [.nilFunc,.nilFunc] (fun w=>by simp[Instr.alloc,go_sem]<;>rfl) ?_
      intro a w b9 hE hp
      refine aB (aF ⟨gp0 hp,fun _=>⟨_,hp.get 2 rfl⟩,trivial⟩ fun hS=>?_)
      refine W1 3 (by kernel_rfl) rfl ?_
      refine V hE hp rfl (v:= .tuple #[vl ((lM acts c.op).getD (⟨none,none⟩:ActF)),.bool (lM acts c.op).isSome]) (uU (zd:=(⟨none,none⟩:ActF)) apKt O7 H8 rfl hE 1 (k:=c.op) rfl rfl rfl) fun a hE=>?_
      have hE:=hE.eqv (v':= .tuple #[vl (⟨some 78,some 79⟩:ActF),.bool true]) (by rw[hop];rfl)
      refine aB (aF ⟨gp0 hp,fun _=>⟨_,hp.get 2 rfl⟩,trivial⟩ fun hS=>?_)
      refine Ts [4,5,6] hE hS rfl rfl (by kernel_rfl) fun a hE hS=>?_
      refine W1 8 (by kernel_rfl) rfl ?_
      refine aX (wk0 rfl) rfl hE hp rfl rfl (v:=vl (⟨some 78,some 79⟩:ActF)) rfl 0 rfl apVA.size_ rfl (aQ ⟨rfl,rfl,trivial⟩) [.func (.func 78) #[] #[],.func (.func 79) #[] #[]] (by simp[Value.cells,vl,fv]) ?_
      intro w hp
      have hp:Hp Z ρ (Pt b9 (.cells [.func (.func 78) #[] #[],.func (.func 79) #[] #[]].toArray 98 (0,0))::sN bm acts::Pt b8 (.cells (chC c).toArray 58 (0,0))::Pt b6 (.cells #[s.v] 22 (0,0))::jX 24 s.v ts0::L) w:=id hp
      refine aB (aF ⟨gp0 hp,fun _=>⟨_,hp.get 2 rfl⟩,trivial⟩ fun hS=>?_)
      refine Ts [9] hE hS rfl rfl (by kernel_rfl) fun a hE hS=>?_
      exact bP (by kernel_rfl) ⟨b9,hE.cut ⟨rfl,rfl,rfl,rfl,rfl,rfl,rfl,trivial⟩,(hp.get 1 rfl).drop⟩
     refine dX rfl ?_
     refine dL (wk0 rfl) rfl rfl hE hp rfl [.nilFunc,.nilFunc] (fun w=>by simp[Instr.alloc,go_sem]<;>rfl) ?_
     intro a w b9 hE hp
     refine aB (aF ⟨gp0 hp,fun _=>⟨_,hp.get 1 rfl⟩,trivial⟩ fun hS=>?_)
     refine W1 0 (by kernel_rfl) rfl ?_
     refine s_call (wk0 rfl) rfl rfl hE rfl [] trivial apE0 (yA hp) Ret.ret ?_
     intro v23 a w hR hE
     obtain⟨bm,rfl,hp⟩:=Ret.of hR
     have hp:=hp.get 1 rfl
     refine aB (aF ⟨gp0 hp,fun _=>⟨_,hp.get 2 rfl⟩,trivial⟩ fun hS=>?_)
     refine W1 3 (by kernel_rfl) rfl ?_
     refine V hE hp rfl (v:= .tuple #[vl ((lM acts c.op).getD (⟨none,none⟩:ActF)),.bool (lM acts c.op).isSome]) (uU (zd:=(⟨none,none⟩:ActF)) apKt O7 H8 rfl hE 1 (k:=c.op) rfl rfl rfl) fun a hE=>?_
     have hE:=hE.eqv (v':= .tuple #[vl (⟨some 78,some 79⟩:ActF),.bool true]) (by rw[hop];rfl)
     refine aB (aF ⟨gp0 hp,fun _=>⟨_,hp.get 2 rfl⟩,trivial⟩ fun hS=>?_)
     refine Ts [4,5,6] hE hS rfl rfl (by kernel_rfl) fun a hE hS=>?_
     refine W1 8 (by kernel_rfl) rfl ?_
     refine aX (wk0 rfl) rfl hE hp rfl rfl (v:=vl (⟨some 78,some 79⟩:ActF)) rfl 0 rfl apVA.size_ rfl (aQ ⟨rfl,rfl,trivial⟩) [.func (.func 78) #[] #[],.func (.func 79) #[] #[]] (by simp[Value.cells,vl,fv]) ?_
     intro w hp
     have hp:Hp Z ρ (Pt b9 (.cells [.func (.func 78) #[] #[],.func (.func 79) #[] #[]].toArray 98 (0,0))::sN bm acts::Pt b8 (.cells (chC c).toArray 58 (0,0))::Pt b6 (.cells #[s.v] 22 (0,0))::jX 24 s.v ts0::L) w:=id hp
     refine aB (aF ⟨gp0 hp,fun _=>⟨_,hp.get 2 rfl⟩,trivial⟩ fun hS=>?_)
     refine Ts [9] hE hS rfl rfl (by kernel_rfl) fun a hE hS=>?_
     exact bP (by kernel_rfl) ⟨b9,hE.cut ⟨rfl,rfl,rfl,rfl,rfl,rfl,rfl,trivial⟩,(hp.get 1 rfl).drop⟩
    rintro a w ⟨b9,hE,hp⟩
    repeat (refine aG ?_)
    refine aA (S hE 3 rfl fun a hE=>?_)
    refine G hE hp rfl rfl (dF rfl hE rfl (apF0 _ _)) fun a hE=>G hE hp rfl rfl (xl hE apVF1 0 rfl rfl rfl rfl) fun a hE=>G hE hp rfl rfl (aK rfl hE rfl (fun w hw=>aW (cs:=chC c) apVC (Hp.cN 1 rfl 0 _ (aS rfl) w hw))) fun a hE=>?_
    have hfb:vK c=some (fieldsB c):=by
     unfold vK fieldsB
     rw[if_neg (by omega),if_pos hop]
    refine pU (wk1 hE rfl rfl rfl rfl) rfl rfl hE rfl rfl [chV c] ⟨rfl,trivial⟩ apE3 (aI9 c hp _ hfb) Ret.ret ?_
    intro v35 a w hR hE
    obtain⟨rfl,hp⟩:=Ret.of hR
    refine Gs hE rfl rfl rfl fun a hE=>pk0 hE rfl rfl rfl rfl rfl fun a hE=>aB ?_
    repeat (refine aG ?_)
    refine dE hE rfl (fun hc0=>?_) (fun hc0=>?_)
    ·
     repeat (refine aG ?_)
     refine aA (S hE 2 rfl fun a hE=>?_)
     refine aB ?_
     repeat (refine aG ?_)
     refine bZ ?_
     have hq1:q=(1,ts0):=by unfold oO at hq;rw[if_neg (by simpa using hc0)] at hq;exact(oj hq).symm
     subst hq1
     refine⟨(),?_,fun _=>?_⟩
     ·rw[←hst2,if_neg (by simp)]
     rw[if_neg (by simp)] at hr
     obtain rfl:=oj hr
     exact yU hE rfl rfl rfl ⟨_,rfl,ρ,_,PH.le.rf _,rfl,aH.nil _,hp.drop.drop.drop.drop⟩
    have hfb1:fieldsB c=true:=by simpa using hc0
    refine aZ ?_
    cases hn1:decide (c.node<(-1)) with
    |true=>
     repeat (refine aG ?_)
     refine aA (V hE hp rfl (dF rfl hE rfl (cgF1 _ _)) fun a hE=>?_)
     refine V hE hp rfl (xl hE oP 1 rfl rfl rfl rfl) fun a hE=>S hE 2 rfl fun a hE=>Gk hE hn1 rfl fun a hE=>Gk hE hn1 rfl fun a hE=>Gk hE hn1 rfl fun a hE=>Gk hE hn1 rfl fun a hE=>?_
     refine sK (wk3 hE rfl rfl rfl) rfl rfl hE ?_
     intro a hE
     refine sK (wk3 hE rfl rfl rfl) rfl rfl hE ?_
     intro a hE
     refine sK (wk3 hE rfl rfl rfl) rfl rfl hE ?_
     intro a hE
     refine Gk hE hn1 rfl fun a hE=>pk1 hE hn1 rfl rfl rfl rfl fun a hE=>aB ?_
     repeat (refine aG ?_)
     refine dE hE rfl (fun _=>?_) (fun hc=>by cases hc)
     repeat (refine aG ?_)
     refine aA (S hE 2 rfl fun a hE=>?_)
     refine aB ?_
     repeat (refine aG ?_)
     refine bZ ?_
     have hq1:q=(2,ts0):=by unfold oO at hq;rw[if_pos hfb1,if_pos (by simp only[decide_eq_true_eq] at*;omega)] at hq;exact(oj hq).symm
     subst hq1
     refine⟨(),?_,fun _=>?_⟩
     ·rw[←hst2,if_neg (by simp)]
     rw[if_neg (by simp)] at hr
     obtain rfl:=oj hr
     exact yU hE rfl rfl rfl ⟨_,rfl,ρ,_,PH.le.rf _,rfl,aH.nil _,hp.drop.drop.drop.drop⟩
    |false=>
     cases hn2:decide (c.node=(-1)) with
     |true=>
      repeat (refine aG ?_)
      refine aA (V hE hp rfl (dF rfl hE rfl (cgF1 _ _)) fun a hE=>?_)
      refine V hE hp rfl (xl hE oP 1 rfl rfl rfl rfl) fun a hE=>S hE 2 rfl fun a hE=>G hE hp hn1 rfl (dF rfl hE rfl (cgF1 _ _)) fun a hE=>G hE hp hn1 rfl (xl hE oP 1 rfl rfl rfl rfl) fun a hE=>Gs hE hn1 rfl rfl fun a hE=>Gs hE hn1 rfl rfl fun a hE=>G hE hp hn2 rfl (dF rfl hE rfl (cgF0 _ _)) fun a hE=>G hE hp hn2 rfl (xl hE oP 1 rfl rfl rfl rfl) fun a hE=>Gs hE hn2 rfl rfl fun a hE=>G hE hp hn1 rfl (iD rfl hE rfl hn2 rfl) fun a hE=>pk0 hE hn1 rfl rfl rfl rfl fun a hE=>aB ?_
      repeat (refine aG ?_)
      refine dE hE rfl (fun _=>?_) (fun hc=>by rw[hop] at hc;cases hc)
      repeat (refine aG ?_)
      refine aA (S hE 2 rfl fun a hE=>?_)
      refine aB ?_
      repeat (refine aG ?_)
      refine bZ ?_
      have hq1:q=(2,ts0):=by unfold oO at hq;rw[if_pos hfb1,if_pos (by simp only[decide_eq_true_eq] at*;omega)] at hq;exact(oj hq).symm
      subst hq1
      refine⟨(),?_,fun _=>?_⟩
      ·rw[←hst2,if_neg (by simp)]
      rw[if_neg (by simp)] at hr
      obtain rfl:=oj hr
      exact yU hE rfl rfl rfl ⟨_,rfl,ρ,_,PH.le.rf _,rfl,aH.nil _,hp.drop.drop.drop.drop⟩
     |false=>
      repeat (refine aG ?_)
      refine aA (V hE hp rfl (dF rfl hE rfl (cgF1 _ _)) fun a hE=>?_)
      refine V hE hp rfl (xl hE oP 1 rfl rfl rfl rfl) fun a hE=>S hE 2 rfl fun a hE=>G hE hp hn1 rfl (dF rfl hE rfl (cgF1 _ _)) fun a hE=>G hE hp hn1 rfl (xl hE oP 1 rfl rfl rfl rfl) fun a hE=>Gs hE hn1 rfl rfl fun a hE=>Gs hE hn1 rfl rfl fun a hE=>Gk hE hn2 rfl fun a hE=>Gk hE hn2 rfl fun a hE=>Gk hE hn2 rfl fun a hE=>G hE hp hn1 rfl (gQ rfl hE rfl hn2 rfl) fun a hE=>pk0 hE hn1 rfl rfl rfl rfl fun a hE=>aB ?_
      repeat (refine aG ?_)
      refine dE hE rfl (fun hc=>by cases hc) (fun _=>?_)
      refine aZ ?_
      repeat (refine aG ?_)
      refine aA (V hE hp rfl (dF rfl hE rfl (apF1 _ _)) fun a hE=>?_)
      refine V hE hp rfl (xl hE apVF2 0 rfl rfl rfl rfl) fun a hE=>V hE hp rfl (aK rfl hE rfl (fun w hw=>aW (cs:=chC c) apVC (Hp.cN 1 rfl 0 _ (aS rfl) w hw))) fun a hE=>?_
      have hq2:aJ6 ts0 c=some q:=by
       unfold oO at hq
       rw[if_pos hfb1,if_neg (by simp only[decide_eq_false_iff_not] at*;omega),if_neg (by omega),if_pos hop] at hq
       exact hq
      have hp2:Hp Z ρ (Pt b6 (.cells #[s.v] 22 (0,0))::jX 24 s.v ts0::L) w:=hp.drop.drop
      refine pU (wk0 rfl) rfl rfl hE rfl rfl [.pointer (some ⟨b6,0,none⟩),chV c] ⟨rfl,rfl,trivial⟩ apE4 (c_remove b6 ts0 s c hp2 q hq2) Ret.ret ?_
      intro v54 a w hR hE
      obtain⟨s',rfl,hp⟩:=Ret.of hR
      refine S hE 1 rfl fun a hE=>aB ?_
      repeat (refine aG ?_)
      refine aA (S hE 2 rfl fun a hE=>?_)
      refine aB ?_
      repeat (refine aG ?_)
      refine dE hE rfl (fun hc1=>?_) (fun hc1=>?_)
      ·
       have hne:¬q.1=0:=by simpa using hc1
       repeat (refine aG ?_)
       refine aA (S hE 3 rfl fun a hE=>?_)
       refine aB ?_
       repeat (refine aG ?_)
       refine bZ ?_
       refine⟨(),?_,fun _=>?_⟩
       ·rw[←hst2,if_neg hne]
       rw[if_neg hne] at hr
       obtain rfl:=oj hr
       exact yU hE rfl rfl rfl ⟨_,rfl,ρ,_,PH.le.rf _,rfl,aH.nil _,hp.drop.drop⟩
      have he:q.1=0:=by simpa using hc1
      refine aZ ?_
      repeat (refine aG ?_)
      refine aA (V hE hp rfl (v:=(Iv ((i+1:Nat):Int))) (bF rfl hE rfl rfl (by rw[IntKind.wrap_i64];omega)) fun a hE=>?_)
      refine S hE 1 rfl fun a hE=>aB ?_
      rw[if_pos he] at hr hst2
      exact⟨(i+1,q.2),hst2.symm,s',q.2,rfl,by show i+1≤_;omega,hr,hE.cut ⟨rfl,rfl,rfl,rfl,trivial⟩,hp⟩
   ·
    repeat (refine aG ?_)
    have hp:=hp.drew
    refine fG ([([],At0 Z ρ),([],At1 Z ρ (Pt b8 (.cells (chC c).toArray 58 (0,0))))]:Facts) (fun a w=>∃b9:Nat,Env 60 [(6,.pointer (some ⟨b6,0,none⟩)),(8,.pointer (some ⟨b8,0,none⟩)),(9,.pointer (some ⟨b9,0,none⟩)),(10,.bool true),(16,vp1),(17,(Iv (p1.length:Int))),(18,(Iv (i:Int)))] a∧Hp Z ρ (Pt b9 (.cells [.func (.func 80) #[] #[],.func (.func 81) #[] #[]].toArray 98 (0,0))::Pt b8 (.cells (chC c).toArray 58 (0,0))::Pt b6 (.cells #[s.v] 22 (0,0))::jX 24 s.v ts0::L) w) (by kernel_rfl) ⟨fun _=>⟨_,hp⟩,fun _=>⟨_,hp⟩,trivial⟩ (fun hS=>?_) ?_
    ·
     generalize w.drew=w at hS hp⊢
     refine T0 1 hE hS rfl rfl rfl (by kernel_rfl) (fun _=>dF rfl hE rfl (cgF0 _ _)) fun a hE hS=>T 2 1 hE hS rfl rfl rfl (by kernel_rfl) (fun _=>xl hE oP 0 rfl rfl rfl rfl) fun a hE hS=>?_
     refine gW [0,7] (by kernel_rfl) rfl ?_
     refine List.forall_mem_cons.2 ⟨?_,List.forall_mem_cons.2 ⟨?_,fun _ h=>absurd h (by simp)⟩⟩
     ·refine dX rfl ?_
      refine s_call (wk0 rfl) rfl rfl hE rfl [] trivial apE0 (yA hp) Ret.ret ?_
      intro v23 a w hR hE
      obtain⟨bm,rfl,hp⟩:=Ret.of hR
      refine aB (aF ⟨gp0 hp,fun _=>⟨_,hp.get 1 rfl⟩,trivial⟩ fun hS=>?_)
      refine gW [3,7] (by kernel_rfl) rfl ?_
      refine List.forall_mem_cons.2 ⟨?_,List.forall_mem_cons.2 ⟨?_,fun _ h=>absurd h (by simp)⟩⟩
      ·refine dX rfl ?_
       refine V hE hp rfl (v:= .tuple #[vl ((lM acts c.op).getD (⟨none,none⟩:ActF)),.bool (lM acts c.op).isSome]) (uU (zd:=(⟨none,none⟩:ActF)) apKt O7 H8 rfl hE 0 (k:=c.op) rfl rfl rfl) fun a hE=>?_
       have hE:=hE.eqv (v':= .tuple #[vl (⟨some 80,some 81⟩:ActF),.bool true]) (by rw[hop];rfl)
       refine aB (aF ⟨gp0 hp,fun _=>⟨_,hp.get 1 rfl⟩,trivial⟩ fun hS=>?_)
       refine Ts [4,5,6] hE hS rfl rfl (by kernel_rfl) fun a hE hS=>?_
       refine W1 7 (by kernel_rfl) rfl ?_
       refine dL (wk0 rfl) rfl rfl hE hp rfl [.nilFunc,.nilFunc] (fun w=>by simp[Instr.alloc,go_sem]<;>rfl) ?_
       intro a w b9 hE hp
       refine aB (aF ⟨gp0 hp,fun _=>⟨_,hp.get 2 rfl⟩,trivial⟩ fun hS=>?_)
       refine W1 8 (by kernel_rfl) rfl ?_
       refine aX (wk0 rfl) rfl hE hp rfl rfl (v:=vl (⟨some 80,some 81⟩:ActF)) rfl 0 rfl apVA.size_ rfl (aQ ⟨rfl,rfl,trivial⟩) [.func (.func 80) #[] #[],.func (.func 81) #[] #[]] (by simp[Value.cells,vl,fv]) ?_
       intro w hp
       have hp:Hp Z ρ (Pt b9 (.cells [.func (.func 80) #[] #[],.func (.func 81) #[] #[]].toArray 98 (0,0))::sN bm acts::Pt b8 (.cells (chC c).toArray 58 (0,0))::Pt b6 (.cells #[s.v] 22 (0,0))::jX 24 s.v ts0::L) w:=id hp
       refine aB (aF ⟨gp0 hp,fun _=>⟨_,hp.get 2 rfl⟩,trivial⟩ fun hS=>?_)
       refine Ts [9] hE hS rfl rfl (by kernel_rfl) fun a hE hS=>?_
       exact bP (by kernel_rfl) ⟨b9,hE.cut ⟨rfl,rfl,rfl,rfl,rfl,rfl,rfl,trivial⟩,(hp.get 1 rfl).drop⟩
      refine dX rfl ?_
      refine dL (wk0 rfl) rfl rfl hE hp rfl [.nilFunc,.nilFunc] (fun w=>by simp[Instr.alloc,go_sem]<;>rfl) ?_
      intro a w b9 hE hp
      refine aB (aF ⟨gp0 hp,fun _=>⟨_,hp.get 2 rfl⟩,trivial⟩ fun hS=>?_)
      refine W1 3 (by kernel_rfl) rfl ?_
      refine V hE hp rfl (v:= .tuple #[vl ((lM acts c.op).getD (⟨none,none⟩:ActF)),.bool (lM acts c.op).isSome]) (uU (zd:=(⟨none,none⟩:ActF)) apKt O7 H8 rfl hE 1 (k:=c.op) rfl rfl rfl) fun a hE=>?_
      have hE:=hE.eqv (v':= .tuple #[vl (⟨some 80,some 81⟩:ActF),.bool true]) (by rw[hop];rfl)
      refine aB (aF ⟨gp0 hp,fun _=>⟨_,hp.get 2 rfl⟩,trivial⟩ fun hS=>?_)
      refine Ts [4,5,6] hE hS rfl rfl (by kernel_rfl) fun a hE hS=>?_
      refine W1 8 (by kernel_rfl) rfl ?_
      refine aX (wk0 rfl) rfl hE hp rfl rfl (v:=vl (⟨some 80,some 81⟩:ActF)) rfl 0 rfl apVA.size_ rfl (aQ ⟨rfl,rfl,trivial⟩) [.func (.func 80) #[] #[],.func (.func 81) #[] #[]] (by simp[Value.cells,vl,fv]) ?_
      intro w hp
      have hp:Hp Z ρ (Pt b9 (.cells [.func (.func 80) #[] #[],.func (.func 81) #[] #[]].toArray 98 (0,0))::sN bm acts::Pt b8 (.cells (chC c).toArray 58 (0,0))::Pt b6 (.cells #[s.v] 22 (0,0))::jX 24 s.v ts0::L) w:=id hp
      refine aB (aF ⟨gp0 hp,fun _=>⟨_,hp.get 2 rfl⟩,trivial⟩ fun hS=>?_)
      refine Ts [9] hE hS rfl rfl (by kernel_rfl) fun a hE hS=>?_
      exact bP (by kernel_rfl) ⟨b9,hE.cut ⟨rfl,rfl,rfl,rfl,rfl,rfl,rfl,trivial⟩,(hp.get 1 rfl).drop⟩
     refine dX rfl ?_
     refine dL (wk0 rfl) rfl rfl hE hp rfl [.nilFunc,.nilFunc] (fun w=>by simp[Instr.alloc,go_sem]<;>rfl) ?_
     intro a w b9 hE hp
     refine aB (aF ⟨gp0 hp,fun _=>⟨_,hp.get 1 rfl⟩,trivial⟩ fun hS=>?_)
     refine W1 0 (by kernel_rfl) rfl ?_
     refine s_call (wk0 rfl) rfl rfl hE rfl [] trivial apE0 (yA hp) Ret.ret ?_
     intro v23 a w hR hE
     obtain⟨bm,rfl,hp⟩:=Ret.of hR
     have hp:=hp.get 1 rfl
     refine aB (aF ⟨gp0 hp,fun _=>⟨_,hp.get 2 rfl⟩,trivial⟩ fun hS=>?_)
     refine W1 3 (by kernel_rfl) rfl ?_
     refine V hE hp rfl (v:= .tuple #[vl ((lM acts c.op).getD (⟨none,none⟩:ActF)),.bool (lM acts c.op).isSome]) (uU (zd:=(⟨none,none⟩:ActF)) apKt O7 H8 rfl hE 1 (k:=c.op) rfl rfl rfl) fun a hE=>?_
     have hE:=hE.eqv (v':= .tuple #[vl (⟨some 80,some 81⟩:ActF),.bool true]) (by rw[hop];rfl)
     refine aB (aF ⟨gp0 hp,fun _=>⟨_,hp.get 2 rfl⟩,trivial⟩ fun hS=>?_)
     refine Ts [4,5,6] hE hS rfl rfl (by kernel_rfl) fun a hE hS=>?_
     refine W1 8 (by kernel_rfl) rfl ?_
     refine aX (wk0 rfl) rfl hE hp rfl rfl (v:=vl (⟨some 80,some 81⟩:ActF)) rfl 0 rfl apVA.size_ rfl (aQ ⟨rfl,rfl,trivial⟩) [.func (.func 80) #[] #[],.func (.func 81) #[] #[]] (by simp[Value.cells,vl,fv]) ?_
     intro w hp
     have hp:Hp Z ρ (Pt b9 (.cells [.func (.func 80) #[] #[],.func (.func 81) #[] #[]].toArray 98 (0,0))::sN bm acts::Pt b8 (.cells (chC c).toArray 58 (0,0))::Pt b6 (.cells #[s.v] 22 (0,0))::jX 24 s.v ts0::L) w:=id hp
     refine aB (aF ⟨gp0 hp,fun _=>⟨_,hp.get 2 rfl⟩,trivial⟩ fun hS=>?_)
     refine Ts [9] hE hS rfl rfl (by kernel_rfl) fun a hE hS=>?_
     exact bP (by kernel_rfl) ⟨b9,hE.cut ⟨rfl,rfl,rfl,rfl,rfl,rfl,rfl,trivial⟩,(hp.get 1 rfl).drop⟩
    rintro a w ⟨b9,hE,hp⟩
    repeat (refine aG ?_)
    refine aA (S hE 3 rfl fun a hE=>?_)
    refine G hE hp rfl rfl (dF rfl hE rfl (apF0 _ _)) fun a hE=>G hE hp rfl rfl (xl hE apVF1 0 rfl rfl rfl rfl) fun a hE=>G hE hp rfl rfl (aK rfl hE rfl (fun w hw=>aW (cs:=chC c) apVC (Hp.cN 1 rfl 0 _ (aS rfl) w hw))) fun a hE=>?_
    have hfb:vM c=some (fieldsB c):=by
     unfold vM fieldsB
     rw[if_neg (by omega),if_neg (by omega),hop];rfl
    refine pU (wk1 hE rfl rfl rfl rfl) rfl rfl hE rfl rfl [chV c] ⟨rfl,trivial⟩ apE5 (aJ0 c hp _ hfb) Ret.ret ?_
    intro v35 a w hR hE
    obtain⟨rfl,hp⟩:=Ret.of hR
    refine Gs hE rfl rfl rfl fun a hE=>pk0 hE rfl rfl rfl rfl rfl fun a hE=>aB ?_
    repeat (refine aG ?_)
    refine dE hE rfl (fun hc0=>?_) (fun hc0=>?_)
    ·
     repeat (refine aG ?_)
     refine aA (S hE 2 rfl fun a hE=>?_)
     refine aB ?_
     repeat (refine aG ?_)
     refine bZ ?_
     have hq1:q=(1,ts0):=by unfold oO at hq;rw[if_neg (by simpa using hc0)] at hq;exact(oj hq).symm
     subst hq1
     refine⟨(),?_,fun _=>?_⟩
     ·rw[←hst2,if_neg (by simp)]
     rw[if_neg (by simp)] at hr
     obtain rfl:=oj hr
     exact yU hE rfl rfl rfl ⟨_,rfl,ρ,_,PH.le.rf _,rfl,aH.nil _,hp.drop.drop.drop.drop⟩
    have hfb1:fieldsB c=true:=by simpa using hc0
    refine aZ ?_
    cases hn1:decide (c.node<(-1)) with
    |true=>
     repeat (refine aG ?_)
     refine aA (V hE hp rfl (dF rfl hE rfl (cgF1 _ _)) fun a hE=>?_)
     refine V hE hp rfl (xl hE oP 1 rfl rfl rfl rfl) fun a hE=>S hE 2 rfl fun a hE=>Gk hE hn1 rfl fun a hE=>Gk hE hn1 rfl fun a hE=>Gk hE hn1 rfl fun a hE=>Gk hE hn1 rfl fun a hE=>?_
     refine sK (wk3 hE rfl rfl rfl) rfl rfl hE ?_
     intro a hE
     refine sK (wk3 hE rfl rfl rfl) rfl rfl hE ?_
     intro a hE
     refine sK (wk3 hE rfl rfl rfl) rfl rfl hE ?_
     intro a hE
     refine Gk hE hn1 rfl fun a hE=>pk1 hE hn1 rfl rfl rfl rfl fun a hE=>aB ?_
     repeat (refine aG ?_)
     refine dE hE rfl (fun _=>?_) (fun hc=>by cases hc)
     repeat (refine aG ?_)
     refine aA (S hE 2 rfl fun a hE=>?_)
     refine aB ?_
     repeat (refine aG ?_)
     refine bZ ?_
     have hq1:q=(2,ts0):=by unfold oO at hq;rw[if_pos hfb1,if_pos (by simp only[decide_eq_true_eq] at*;omega)] at hq;exact(oj hq).symm
     subst hq1
     refine⟨(),?_,fun _=>?_⟩
     ·rw[←hst2,if_neg (by simp)]
     rw[if_neg (by simp)] at hr
     obtain rfl:=oj hr
     exact yU hE rfl rfl rfl ⟨_,rfl,ρ,_,PH.le.rf _,rfl,aH.nil _,hp.drop.drop.drop.drop⟩
    |false=>
     cases hn2:decide (c.node=(-1)) with
     |true=>
      repeat (refine aG ?_)
      refine aA (V hE hp rfl (dF rfl hE rfl (cgF1 _ _)) fun a hE=>?_)
      refine V hE hp rfl (xl hE oP 1 rfl rfl rfl rfl) fun a hE=>S hE 2 rfl fun a hE=>G hE hp hn1 rfl (dF rfl hE rfl (cgF1 _ _)) fun a hE=>G hE hp hn1 rfl (xl hE oP 1 rfl rfl rfl rfl) fun a hE=>Gs hE hn1 rfl rfl fun a hE=>Gs hE hn1 rfl rfl fun a hE=>G hE hp hn2 rfl (dF rfl hE rfl (cgF0 _ _)) fun a hE=>G hE hp hn2 rfl (xl hE oP 1 rfl rfl rfl rfl) fun a hE=>Gs hE hn2 rfl rfl fun a hE=>G hE hp hn1 rfl (iD rfl hE rfl hn2 rfl) fun a hE=>pk0 hE hn1 rfl rfl rfl rfl fun a hE=>aB ?_
      repeat (refine aG ?_)
      refine dE hE rfl (fun hc=>by rw[hop] at hc;cases hc) (fun _=>?_)
      refine aZ ?_
      repeat (refine aG ?_)
      refine aA (V hE hp rfl (dF rfl hE rfl (apF1 _ _)) fun a hE=>?_)
      refine V hE hp rfl (xl hE apVF2 0 rfl rfl rfl rfl) fun a hE=>V hE hp rfl (aK rfl hE rfl (fun w hw=>aW (cs:=chC c) apVC (Hp.cN 1 rfl 0 _ (aS rfl) w hw))) fun a hE=>?_
      have hq2:aF0 ts0 c=some q:=by
       unfold oO at hq
       rw[if_pos hfb1,if_neg (by simp only[decide_eq_false_iff_not] at*;omega),if_neg (by omega),if_neg (by omega)] at hq
       exact hq
      have hp2:Hp Z ρ (Pt b6 (.cells #[s.v] 22 (0,0))::jX 24 s.v ts0::L) w:=hp.drop.drop
      refine pU (wk0 rfl) rfl rfl hE rfl rfl [.pointer (some ⟨b6,0,none⟩),chV c] ⟨rfl,rfl,trivial⟩ apE6 (c_insert b6 ts0 s c hp2 q hq2) Ret.ret ?_
      intro v54 a w hR hE
      obtain⟨s',rfl,hp⟩:=Ret.of hR
      refine S hE 1 rfl fun a hE=>aB ?_
      repeat (refine aG ?_)
      refine aA (S hE 2 rfl fun a hE=>?_)
      refine aB ?_
      repeat (refine aG ?_)
      refine dE hE rfl (fun hc1=>?_) (fun hc1=>?_)
      ·
       have hne:¬q.1=0:=by simpa using hc1
       repeat (refine aG ?_)
       refine aA (S hE 3 rfl fun a hE=>?_)
       refine aB ?_
       repeat (refine aG ?_)
       refine bZ ?_
       refine⟨(),?_,fun _=>?_⟩
       ·rw[←hst2,if_neg hne]
       rw[if_neg hne] at hr
       obtain rfl:=oj hr
       exact yU hE rfl rfl rfl ⟨_,rfl,ρ,_,PH.le.rf _,rfl,aH.nil _,hp.drop.drop⟩
      have he:q.1=0:=by simpa using hc1
      refine aZ ?_
      repeat (refine aG ?_)
      refine aA (V hE hp rfl (v:=(Iv ((i+1:Nat):Int))) (bF rfl hE rfl rfl (by rw[IntKind.wrap_i64];omega)) fun a hE=>?_)
      refine S hE 1 rfl fun a hE=>aB ?_
      rw[if_pos he] at hr hst2
      exact⟨(i+1,q.2),hst2.symm,s',q.2,rfl,by show i+1≤_;omega,hr,hE.cut ⟨rfl,rfl,rfl,rfl,trivial⟩,hp⟩
     |false=>
      repeat (refine aG ?_)
      refine aA (V hE hp rfl (dF rfl hE rfl (cgF1 _ _)) fun a hE=>?_)
      refine V hE hp rfl (xl hE oP 1 rfl rfl rfl rfl) fun a hE=>S hE 2 rfl fun a hE=>G hE hp hn1 rfl (dF rfl hE rfl (cgF1 _ _)) fun a hE=>G hE hp hn1 rfl (xl hE oP 1 rfl rfl rfl rfl) fun a hE=>Gs hE hn1 rfl rfl fun a hE=>Gs hE hn1 rfl rfl fun a hE=>Gk hE hn2 rfl fun a hE=>Gk hE hn2 rfl fun a hE=>Gk hE hn2 rfl fun a hE=>G hE hp hn1 rfl (gQ rfl hE rfl hn2 rfl) fun a hE=>pk0 hE hn1 rfl rfl rfl rfl fun a hE=>aB ?_
      repeat (refine aG ?_)
      refine dE hE rfl (fun hc=>by cases hc) (fun _=>?_)
      refine aZ ?_
      repeat (refine aG ?_)
      refine aA (V hE hp rfl (dF rfl hE rfl (apF1 _ _)) fun a hE=>?_)
      refine V hE hp rfl (xl hE apVF2 0 rfl rfl rfl rfl) fun a hE=>V hE hp rfl (aK rfl hE rfl (fun w hw=>aW (cs:=chC c) apVC (Hp.cN 1 rfl 0 _ (aS rfl) w hw))) fun a hE=>?_
      have hq2:aF0 ts0 c=some q:=by
       unfold oO at hq
       rw[if_pos hfb1,if_neg (by simp only[decide_eq_false_iff_not] at*;omega),if_neg (by omega),if_neg (by omega)] at hq
       exact hq
      have hp2:Hp Z ρ (Pt b6 (.cells #[s.v] 22 (0,0))::jX 24 s.v ts0::L) w:=hp.drop.drop
      refine pU (wk0 rfl) rfl rfl hE rfl rfl [.pointer (some ⟨b6,0,none⟩),chV c] ⟨rfl,rfl,trivial⟩ apE6 (c_insert b6 ts0 s c hp2 q hq2) Ret.ret ?_
      intro v54 a w hR hE
      obtain⟨s',rfl,hp⟩:=Ret.of hR
      refine S hE 1 rfl fun a hE=>aB ?_
      repeat (refine aG ?_)
      refine aA (S hE 2 rfl fun a hE=>?_)
      refine aB ?_
      repeat (refine aG ?_)
      refine dE hE rfl (fun hc1=>?_) (fun hc1=>?_)
      ·
       have hne:¬q.1=0:=by simpa using hc1
       repeat (refine aG ?_)
       refine aA (S hE 3 rfl fun a hE=>?_)
       refine aB ?_
       repeat (refine aG ?_)
       refine bZ ?_
       refine⟨(),?_,fun _=>?_⟩
       ·rw[←hst2,if_neg hne]
       rw[if_neg hne] at hr
       obtain rfl:=oj hr
       exact yU hE rfl rfl rfl ⟨_,rfl,ρ,_,PH.le.rf _,rfl,aH.nil _,hp.drop.drop⟩
      have he:q.1=0:=by simpa using hc1
      refine aZ ?_
      repeat (refine aG ?_)
      refine aA (V hE hp rfl (v:=(Iv ((i+1:Nat):Int))) (bF rfl hE rfl rfl (by rw[IntKind.wrap_i64];omega)) fun a hE=>?_)
      refine S hE 1 rfl fun a hE=>aB ?_
      rw[if_pos he] at hr hst2
      exact⟨(i+1,q.2),hst2.symm,s',q.2,rfl,by show i+1≤_;omega,hr,hE.cut ⟨rfl,rfl,rfl,rfl,trivial⟩,hp⟩
   repeat (refine aG ?_)
   have hp:=hp.drew
   refine fG ([([],At0 Z ρ),([],At1 Z ρ (Pt b8 (.cells (chC c).toArray 58 (0,0))))]:Facts) (fun a w=>∃b9:Nat,Env 60 [(6,.pointer (some ⟨b6,0,none⟩)),(8,.pointer (some ⟨b8,0,none⟩)),(9,.pointer (some ⟨b9,0,none⟩)),(10,.bool false),(16,vp1),(17,(Iv (p1.length:Int))),(18,(Iv (i:Int)))] a∧Hp Z ρ (Pt b9 (.cells [.nilFunc,.nilFunc].toArray 98 (0,0))::Pt b8 (.cells (chC c).toArray 58 (0,0))::Pt b6 (.cells #[s.v] 22 (0,0))::jX 24 s.v ts0::L) w) (by kernel_rfl) ⟨fun _=>⟨_,hp⟩,fun _=>⟨_,hp⟩,trivial⟩ (fun hS=>?_) ?_
   ·
    generalize w.drew=w at hS hp⊢
    refine T0 1 hE hS rfl rfl rfl (by kernel_rfl) (fun _=>dF rfl hE rfl (cgF0 _ _)) fun a hE hS=>T 2 1 hE hS rfl rfl rfl (by kernel_rfl) (fun _=>xl hE oP 0 rfl rfl rfl rfl) fun a hE hS=>?_
    refine gW [0,7] (by kernel_rfl) rfl ?_
    refine List.forall_mem_cons.2 ⟨?_,List.forall_mem_cons.2 ⟨?_,fun _ h=>absurd h (by simp)⟩⟩
    ·refine dX rfl ?_
     refine s_call (wk0 rfl) rfl rfl hE rfl [] trivial apE0 (yA hp) Ret.ret ?_
     intro v23 a w hR hE
     obtain⟨bm,rfl,hp⟩:=Ret.of hR
     refine aB (aF ⟨gp0 hp,fun _=>⟨_,hp.get 1 rfl⟩,trivial⟩ fun hS=>?_)
     refine gW [3,7] (by kernel_rfl) rfl ?_
     refine List.forall_mem_cons.2 ⟨?_,List.forall_mem_cons.2 ⟨?_,fun _ h=>absurd h (by simp)⟩⟩
     ·refine dX rfl ?_
      refine V hE hp rfl (v:= .tuple #[vl ((lM acts c.op).getD (⟨none,none⟩:ActF)),.bool (lM acts c.op).isSome]) (uU (zd:=(⟨none,none⟩:ActF)) apKt O7 H8 rfl hE 0 (k:=c.op) rfl rfl rfl) fun a hE=>?_
      have hE:=hE.eqv (v':= .tuple #[vl (⟨none,none⟩:ActF),.bool false]) (by rw[show lM acts c.op=none by simp[lM,acts,Ne.symm hop.1,Ne.symm hop.2.1,Ne.symm hop.2.2]];rfl)
      refine aB (aF ⟨gp0 hp,fun _=>⟨_,hp.get 1 rfl⟩,trivial⟩ fun hS=>?_)
      refine Ts [4,5,6] hE hS rfl rfl (by kernel_rfl) fun a hE hS=>?_
      refine W1 7 (by kernel_rfl) rfl ?_
      refine dL (wk0 rfl) rfl rfl hE hp rfl [.nilFunc,.nilFunc] (fun w=>by simp[Instr.alloc,go_sem]<;>rfl) ?_
      intro a w b9 hE hp
      refine aB (aF ⟨gp0 hp,fun _=>⟨_,hp.get 2 rfl⟩,trivial⟩ fun hS=>?_)
      refine W1 8 (by kernel_rfl) rfl ?_
      refine aX (wk0 rfl) rfl hE hp rfl rfl (v:=vl (⟨none,none⟩:ActF)) rfl 0 rfl apVA.size_ rfl (aQ ⟨rfl,rfl,trivial⟩) [.nilFunc,.nilFunc] (by simp[Value.cells,vl,fv]) ?_
      intro w hp
      have hp:Hp Z ρ (Pt b9 (.cells [.nilFunc,.nilFunc].toArray 98 (0,0))::sN bm acts::Pt b8 (.cells (chC c).toArray 58 (0,0))::Pt b6 (.cells #[s.v] 22 (0,0))::jX 24 s.v ts0::L) w:=id hp
      refine aB (aF ⟨gp0 hp,fun _=>⟨_,hp.get 2 rfl⟩,trivial⟩ fun hS=>?_)
      refine Ts [9] hE hS rfl rfl (by kernel_rfl) fun a hE hS=>?_
      exact bP (by kernel_rfl) ⟨b9,hE.cut ⟨rfl,rfl,rfl,rfl,rfl,rfl,rfl,trivial⟩,(hp.get 1 rfl).drop⟩
     refine dX rfl ?_
     refine dL (wk0 rfl) rfl rfl hE hp rfl [.nilFunc,.nilFunc] (fun w=>by simp[Instr.alloc,go_sem]<;>rfl) ?_
     intro a w b9 hE hp
     refine aB (aF ⟨gp0 hp,fun _=>⟨_,hp.get 2 rfl⟩,trivial⟩ fun hS=>?_)
     refine W1 3 (by kernel_rfl) rfl ?_
     refine V hE hp rfl (v:= .tuple #[vl ((lM acts c.op).getD (⟨none,none⟩:ActF)),.bool (lM acts c.op).isSome]) (uU (zd:=(⟨none,none⟩:ActF)) apKt O7 H8 rfl hE 1 (k:=c.op) rfl rfl rfl) fun a hE=>?_
     have hE:=hE.eqv (v':= .tuple #[vl (⟨none,none⟩:ActF),.bool false]) (by rw[show lM acts c.op=none by simp[lM,acts,Ne.symm hop.1,Ne.symm hop.2.1,Ne.symm hop.2.2]];rfl)
     refine aB (aF ⟨gp0 hp,fun _=>⟨_,hp.get 2 rfl⟩,trivial⟩ fun hS=>?_)
     refine Ts [4,5,6] hE hS rfl rfl (by kernel_rfl) fun a hE hS=>?_
     refine W1 8 (by kernel_rfl) rfl ?_
     refine aX (wk0 rfl) rfl hE hp rfl rfl (v:=vl (⟨none,none⟩:ActF)) rfl 0 rfl apVA.size_ rfl (aQ ⟨rfl,rfl,trivial⟩) [.nilFunc,.nilFunc] (by simp[Value.cells,vl,fv]) ?_
     intro w hp
     have hp:Hp Z ρ (Pt b9 (.cells [.nilFunc,.nilFunc].toArray 98 (0,0))::sN bm acts::Pt b8 (.cells (chC c).toArray 58 (0,0))::Pt b6 (.cells #[s.v] 22 (0,0))::jX 24 s.v ts0::L) w:=id hp
     refine aB (aF ⟨gp0 hp,fun _=>⟨_,hp.get 2 rfl⟩,trivial⟩ fun hS=>?_)
     refine Ts [9] hE hS rfl rfl (by kernel_rfl) fun a hE hS=>?_
     exact bP (by kernel_rfl) ⟨b9,hE.cut ⟨rfl,rfl,rfl,rfl,rfl,rfl,rfl,trivial⟩,(hp.get 1 rfl).drop⟩
    refine dX rfl ?_
    refine dL (wk0 rfl) rfl rfl hE hp rfl [.nilFunc,.nilFunc] (fun w=>by simp[Instr.alloc,go_sem]<;>rfl) ?_
    intro a w b9 hE hp
    refine aB (aF ⟨gp0 hp,fun _=>⟨_,hp.get 1 rfl⟩,trivial⟩ fun hS=>?_)
    refine W1 0 (by kernel_rfl) rfl ?_
    refine s_call (wk0 rfl) rfl rfl hE rfl [] trivial apE0 (yA hp) Ret.ret ?_
    intro v23 a w hR hE
    obtain⟨bm,rfl,hp⟩:=Ret.of hR
    have hp:=hp.get 1 rfl
    refine aB (aF ⟨gp0 hp,fun _=>⟨_,hp.get 2 rfl⟩,trivial⟩ fun hS=>?_)
    refine W1 3 (by kernel_rfl) rfl ?_
    refine V hE hp rfl (v:= .tuple #[vl ((lM acts c.op).getD (⟨none,none⟩:ActF)),.bool (lM acts c.op).isSome]) (uU (zd:=(⟨none,none⟩:ActF)) apKt O7 H8 rfl hE 1 (k:=c.op) rfl rfl rfl) fun a hE=>?_
    have hE:=hE.eqv (v':= .tuple #[vl (⟨none,none⟩:ActF),.bool false]) (by rw[show lM acts c.op=none by simp[lM,acts,Ne.symm hop.1,Ne.symm hop.2.1,Ne.symm hop.2.2]];rfl)
    refine aB (aF ⟨gp0 hp,fun _=>⟨_,hp.get 2 rfl⟩,trivial⟩ fun hS=>?_)
    refine Ts [4,5,6] hE hS rfl rfl (by kernel_rfl) fun a hE hS=>?_
    refine W1 8 (by kernel_rfl) rfl ?_
    refine aX (wk0 rfl) rfl hE hp rfl rfl (v:=vl (⟨none,none⟩:ActF)) rfl 0 rfl apVA.size_ rfl (aQ ⟨rfl,rfl,trivial⟩) [.nilFunc,.nilFunc] (by simp[Value.cells,vl,fv]) ?_
    intro w hp
    have hp:Hp Z ρ (Pt b9 (.cells [.nilFunc,.nilFunc].toArray 98 (0,0))::sN bm acts::Pt b8 (.cells (chC c).toArray 58 (0,0))::Pt b6 (.cells #[s.v] 22 (0,0))::jX 24 s.v ts0::L) w:=id hp
    refine aB (aF ⟨gp0 hp,fun _=>⟨_,hp.get 2 rfl⟩,trivial⟩ fun hS=>?_)
    refine Ts [9] hE hS rfl rfl (by kernel_rfl) fun a hE hS=>?_
    exact bP (by kernel_rfl) ⟨b9,hE.cut ⟨rfl,rfl,rfl,rfl,rfl,rfl,rfl,trivial⟩,(hp.get 1 rfl).drop⟩
   rintro a w ⟨b9,hE,hp⟩
   repeat (refine aG ?_)
   refine aA (S hE 3 rfl fun a hE=>?_)
   refine Gk hE (by rfl) rfl fun a hE=>Gk hE (by rfl) rfl fun a hE=>Gk hE (by rfl) rfl fun a hE=>Gk hE (by rfl) rfl fun a hE=>Gk hE (by rfl) rfl fun a hE=>pk1 hE rfl rfl rfl rfl rfl fun a hE=>aB ?_
   repeat (refine aG ?_)
   refine dE hE rfl (fun _=>?_) (fun hc=>by cases hc)
   repeat (refine aG ?_)
   refine aA (S hE 2 rfl fun a hE=>?_)
   refine aB ?_
   repeat (refine aG ?_)
   refine bZ ?_
   have hfb:fieldsB c=false:=by unfold fieldsB;rw[if_neg hop.1,if_neg hop.2.1];simpa using hop.2.2
   have hq1:q=(1,ts0):=by unfold oO at hq;rw[hfb] at hq;exact(oj hq).symm
   subst hq1
   refine⟨(),?_,fun _=>?_⟩
   ·rw[←hst2,if_neg (by simp)]
   rw[if_neg (by simp)] at hr
   obtain rfl:=oj hr
   exact yU hE rfl rfl rfl ⟨_,rfl,ρ,_,PH.le.rf _,rfl,aH.nil _,hp.drop.drop.drop.drop⟩
  have hge:¬i<p1.length:=by simpa using hb
  refine dS ?_
  rw[List.drop_of_length_le (by omega),chgs] at hr
  refine⟨(),?_,fun _=>⟨s,ts0,(oj hr).symm,hE.cut ⟨rfl,trivial⟩,hp⟩⟩
  unfold aE4 at hst;simp only at hst;rw[List.getElem?_eq_none (by omega)] at hst;exact(oj hst).symm
 rintro a w ⟨s,ts,rfl,hE,hp⟩
 repeat (refine aG ?_)
 refine aA (V hE hp rfl (xl hE tcVS 0 rfl rfl rfl rfl) fun a hE=>?_)
 refine S hE 2 rfl fun a hE=>aB ?_
 repeat (refine aG ?_)
 refine bZ ?_
 obtain⟨k1,k1a,k1d,hp⟩:=hp.drop.lend
 exact yU hE rfl rfl rfl ⟨_,rfl,ρ.un k1,s.v,PH.le_un _ k1,rfl,jX.ro k1d k1a,hp⟩
end Go.Proofs.YtopnldfjcciieaaGreat

/-
  tree.Count, walked: a range over a function that calls itself; each round adds 1.
-/
import Derived.Test.YtnnccbagbgndpaaTreeV
set_option linter.unusedVariables false
set_option linter.unusedSimpArgs false
namespace Go.Proofs.Ytnnccbagbgndpaa
open Go.RowKit
section
variable {P : Program} {ops : Array Oper} {Q : Exit → Act → World → Prop} {a : Act} {w : World} {N : Nat} {E : Ent} {d : Nat} {o : Oper} {cs : List Code} {Z : World} {ρ : PH} {L : List Atom} {F : Fence}
/-- A function that holds a range over a function. -/
theorem enterM {f : FuncId} {fn : Func} {c : Code} {args : Array Value} {R : Ending → World → Prop} (hf : P.funcs[f]? = some fn) (hb : fn.body = some c) (hN : fn.ntmps = N) (E : Ent) (h1 : Nat.ble args.size N = true) (hE : ∀ p ∈ E, args[p.1]? = some p.2)
    (h : ∀ a, Env N E a → wpK P (bodyPostM Fence.wide 0 P fn R) [c] a w) : Calls P f args w R :=
  (callsIn_wide (n := 0)).1 (callsIn_of_wp_marks hf hb trivial ((wpIn_wide (n := 0)).2 (by rw [hN]; exact k_one (h _ (Env.start N args E (by simpa using h1) hE)))) rfl)
theorem k_rangeFuncA {g : Operand} {ps : Array Tmp} {assign body : Code} {gf : FuncId} {lb : List Value} (hE : Env N E a) (hg : evo E g = some (.func (.func gf) #[] lb.toArray)) (eg : ∀ args w, (callFunc gf args).run P w = .ok (.enter gf args) w) (hp : Hp Z ρ L w)
    (h : ∀ (fn l dd : Nat) (rec : Loop) (W : World), rec = { state := .ready, pending := none, fn := fn, tmps := a.tmps, params := ps, assign := assign, body := body, defers := dd } → Hp Z ρ (Pt l (.loop rec) :: Pt dd (.deferred (some [])) :: L) W →
      ∃ L', Calls P gf (#[.func (.yield l) #[] #[]] ++ lb.toArray) W (Ret fun _ W' => Hp Z ρ (Pt l (.loop rec) :: Pt dd (.deferred (some [])) :: L') W') ∧
        ∀ W, Hp Z ρ (Pt dd (.deferred (some [])) :: L') W → wpK P Q cs { a with defers := { target := .collected dd, args := #[] } :: a.defers } W)  (fn : FuncId) : ∃ (l : Nat) (mark : List Deferred) (w₁ : World) (d : Deferred) (w₁' : World) (f : FuncId) (args : Array Value) (w₂ : World),
      (Instr.enterLoop fn a.tmps ps assign body none).run P w = .ok (l, mark) w₁ ∧
      (resolve a.eval (rangeCall g l) 0).run P w₁ = .ok d w₁' ∧
      (∀ f', Target.leads P w₁' d.target d.args = some f' → Fence.wide.fn f') ∧
      (invoke d.target d.args).run P w₁' = .ok (.enter f args) w₂ ∧
      (Fence.wide.depth.isSome = true → 1 ≤ 0) ∧
      CallsIn Fence.wide (0 - 1) P f args w₂ (rangePost Fence.wide 0 P l (Exit.then (wpK P Q cs) Q) { a with defers := mark ++ a.defers }) := by
  obtain ⟨rec, hrec⟩ : ∃ rec : Loop, rec = { state := .ready, pending := none, fn := fn, tmps := a.tmps, params := ps, assign := assign, body := body, defers := w.heap.size } := ⟨_, rfl⟩
  obtain ⟨W1, hW1⟩ : ∃ W1, (w.alloc (.deferred (some []))).alloc (.loop rec) = W1 := ⟨_, rfl⟩
  have hp1 : Hp Z ρ (Pt (w.heap.size + 1) (.loop rec) :: Pt w.heap.size (.deferred (some [])) :: L) W1 := by
    have := (hp.alloc (.deferred (some []))).alloc (.loop rec)
    rwa [World.size_alloc, hW1] at this
  obtain ⟨L', hc, hk⟩ := h fn (w.heap.size + 1) w.heap.size rec W1 hrec hp1
  refine ⟨w.heap.size + 1, [{ target := .collected w.heap.size, args := #[] }], W1, { target := .fn (.func gf) lb.toArray, args := #[.func (.yield (w.heap.size + 1)) #[] #[]] }, W1, gf, #[.func (.yield (w.heap.size + 1)) #[] #[]] ++ lb.toArray, W1, ?_, ?_, ?_, ?_, ?_, ?_⟩
  · rw [← hW1, hrec]; exact run_enterLoop_outer _ _ _ _ _
  · simp only [resolve, hE.eval hg]
    simp [go_sem]
  · exact fun _ _ => trivial
  · simp [invoke, go_sem, eg]
  · intro h; simp [Fence.wide] at h
  · refine callsIn_wide.2 (Calls.mono hc fun e W' he => ?_)
    obtain ⟨v, rfl, hp'⟩ := he
    have hl := hp'.look 0 rfl
    have hlt := (Array.getElem?_eq_some_iff.1 hl).1
    have hnb : rec.state ≠ .busy := by rw [hrec]; simp
    have hpe : rec.pending = none := by rw [hrec]
    have hrun := run_endLoop (P := P) hl hnb
    rw [hpe] at hrun
    refine ⟨none, _, hrun, ?_⟩
    exact hk _ (Hp.set (w' := World.putObj _ _ _) hp' rfl rfl rfl (World.putObj_heap_same hlt) (fun k hk => World.putObj_heap_other hk)).drop
theorem k_rangeFunc {g : Operand} {ps : Array Tmp} {assign body : Code} {gf : FuncId} {lb : List Value} (hE : Env N E a) (hg : evo E g = some (.func (.func gf) #[] lb.toArray)) (eg : ∀ args w, (callFunc gf args).run P w = .ok (.enter gf args) w) (hp : Hp Z ρ L w)
    (h : ∀ (fn l dd : Nat) (rec : Loop) (W : World), rec = { state := .ready, pending := none, fn := fn, tmps := a.tmps, params := ps, assign := assign, body := body, defers := dd } → Hp Z ρ (Pt l (.loop rec) :: Pt dd (.deferred (some [])) :: L) W →
      ∃ L', Calls P gf (#[.func (.yield l) #[] #[]] ++ lb.toArray) W (Ret fun _ W' => Hp Z ρ (Pt l (.loop rec) :: Pt dd (.deferred (some [])) :: L') W') ∧
        ∀ W, Hp Z ρ (Pt dd (.deferred (some [])) :: L') W → wpK P Q cs { a with defers := { target := .collected dd, args := #[] } :: a.defers } W) : wpK P Q (.rangeFunc g ps assign body :: cs) a w := by
  have main : (Code.rangeFunc g ps assign body).wpIn Fence.wide 0 P (Exit.then (wpK P Q cs) Q) a w := by
    refine wpIn_rangeFunc fun fn _ => ?_
    exact k_rangeFuncA hE hg eg hp h fn
  exact (wpIn_wide (n := 0)).1 main
theorem i_val {C : World → Prop} {i : Nat} {rest : List Nat} (hF : ∀ f, F.fn f) (hi : ops[i]? = some o) (wk : Region.wanted o (yielded ops a.tmps) = true) (hnd : ∀ c, o.op ≠ .defer c) (hd : o.dst = some d) (hN : Nat.blt d N = true) (hE : Env N E a) (hC : C w) {v : Value} (hx : Ex P C a o v)
    (K : ∀ a, Env N ((d, v) :: E) a → wpOpsIn F 0 P ops Q rest a w) : wpOpsIn F 0 P ops Q (i :: rest) a w := by
  unfold wpOpsIn
  rw [hi]
  simp only [wk, if_true]
  refine ⟨fun f _ => hF f, ?_⟩
  rw [Oper.semAt_eq _ _ _ hnd, hx w hC, Oper.uponIn_value, hd]
  exact K _ (hE.put hN v)
/-- A store into a block of one cell. -/
theorem run_store1 (hE : Env N E a) (hp : Hp Z ρ L w) {T : TypeId} {x y : Operand} (ho : o.op = .store T x y) {b : Nat} (hx : evo E x = some (.pointer (some ⟨b, 0, none⟩))) {v c0 : Value} (hy : evo E y = some v) (i : Nat) {El : TypeId} (hi : L[i]? = some (Pt b (.cells #[c0] El (0, 0))))
    (ht : ∀ w, (sizeOf T).run P w = .ok 1 w) (hc : v.cells = #[v]) (h1 : v.oneCell' = true) : ∃ w', (execOp a.eval o).run P w = .ok .skip w' ∧ Hp Z ρ (L.set i (Pt b (.cells #[v] El (0, 0)))) w' := by
  have hg := hp.look i hi
  have r1 := run_storeCells_at P b 0 El [v] 0 #[c0] w hg (by simp) (by intro u hu; simp at hu; subst hu; exact h1)
  simp only [Nat.add_zero] at r1
  generalize hcur : ((#[c0].toList.take 0 ++ [v] ++ #[c0].toList.drop (0 + [v].length)).toArray : Array Value) = cur at r1
  refine ⟨w.setRow b cur, ?_, ?_⟩
  · simp [execOp, ho, hE.eval hx, hE.eval hy, Instr.storeAt, Instr.sureAddr, storeVar, ht w, hc, r1]
  · refine Hp.put i (set_get (A := Pt b (.cells #[c0] El (0, 0))) (_B := Pt b (.cells #[c0] El (0, 0))) hi).2 (Hp.set (w' := w.setRow b cur) (hp.get i hi) rfl rfl rfl ?_ (fun k hk => setRow_other w b k _ hk))
    rw [setRow_heap w b #[c0] _ El _ hg, ← hcur]
    simp
theorem i_store {i0 : Nat} {rest : List Nat} (hF : ∀ f, F.fn f) (hi0 : ops[i0]? = some o) (wk : Region.wanted o (yielded ops a.tmps) = true) (hnd : ∀ c, o.op ≠ .defer c) (hd : o.dst = none)
    (hE : Env N E a) (hp : Hp Z ρ L w) {T : TypeId} {x y : Operand} (ho : o.op = .store T x y) {b : Nat} (hx : evo E x = some (.pointer (some ⟨b, 0, none⟩))) {v c0 : Value} (hy : evo E y = some v) (i : Nat) {El : TypeId} (hi : L[i]? = some (Pt b (.cells #[c0] El (0, 0))))
    (ht : ∀ w, (sizeOf T).run P w = .ok 1 w) (hc : v.cells = #[v]) (h1 : v.oneCell' = true)
    (K : ∀ w, Hp Z ρ (L.set i (Pt b (.cells #[v] El (0, 0)))) w → wpOpsIn F 0 P ops Q rest a w) : wpOpsIn F 0 P ops Q (i0 :: rest) a w := by
  obtain ⟨w', hr, hp'⟩ := run_store1 hE hp ho hx hy i hi ht hc h1
  unfold wpOpsIn
  rw [hi0]
  simp only [wk, if_true]
  refine ⟨fun f _ => hF f, ?_⟩
  rw [Oper.semAt_eq _ _ _ hnd, hr, Oper.uponIn_skip, hd]
  exact K w' hp'
/-- Behind the loop: the frame has a deferred mark. -/
theorem d_val {C : World → Prop} {rest : List Oper} {ds : List Deferred} (wk : Region.wanted o (yielded ops a.tmps) = true) (hd : o.dst = some d) (hN : Nat.blt d N = true) (hE : Env N E a) (hC : C w) {v : Value} (hx : Ex P C a o v)
    (K : ∀ a, Env N ((d, v) :: E) a → wpList P ops Q rest { a with defers := ds } w) : wpList P ops Q (o :: rest) { a with defers := ds } w := by
  unfold wpList
  have wk' : Region.wanted o (yielded ops ({ a with defers := ds } : Act).tmps) = true := wk
  rw [if_pos wk']
  left
  unfold Oper.wp
  have : (execOp ({ a with defers := ds } : Act).eval o).run P w = .ok (.value v) w := hx w hC
  rw [this]
  simp only [Oper.upon]
  rw [hd]
  exact K _ (hE.put hN v)
end
set_option maxRecDepth 100000 in
set_option maxHeartbeats 4000000 in
theorem c_count {Z : World} {ρ : PH} {L : List Atom} {w : World} (p0 : Node) (vp0_kids : Value) (hp0_kids : RoSl ρ vp0_kids p0.kids) (hp : Hp Z ρ (L) w) (r : Int) (hm : m_count p0 = some r) :
    Calls Try.prog 40 #[(.agg #[(.int .i64 p0.kind), (.string p0.text), (.int .i64 p0.at_), (.int .i64 p0.fin), vp0_kids])] w (Ret fun v w' => v = (.int .i64 r) ∧ Hp Z ρ (L) w') := by
  obtain ⟨hlt, rfl⟩ : cntN p0 < 4611686018427387904 ∧ r = (cntN p0 : Int) := by
    unfold m_count at hm
    split at hm
    · exact ⟨by assumption, (Option.some.inj hm).symm⟩
    · cases hm
  refine enterM (N := 10) Try.func40 rfl rfl [(0, nodeV p0 vp0_kids)] rfl (argsIn_mem ⟨rfl, trivial⟩) fun a hE => ?_
  refine k_seq ?_
  refine k_region ?_
  refine s_box (wk0 rfl) rfl rfl hE hp rfl (v := nodeV p0 vp0_kids) rfl ?_
  intro a w b1 hE hp
  have hp : Hp Z ρ (Pt b1 (.cells #[(.int .i64 p0.kind), (.string p0.text), (.int .i64 p0.at_), (.int .i64 p0.fin), vp0_kids] 24 (0, 0)) :: L) w := hp
  refine s_val (wk0 rfl) rfl rfl hE hp (v := .int .i64 0) (ex_asn rfl hE rfl) ?_
  intro a hE
  refine s_nil ?_
  refine k_seq ?_
  refine k_region ?_
  refine s_new (wk0 rfl) rfl rfl hE hp rfl [.int .i64 0] (fun w => by simp [Instr.alloc, go_sem] <;> rfl) ?_
  intro a w b2 hE hp
  refine s_store (wk0 rfl) rfl hE hp rfl rfl (v := .int .i64 0) rfl 0 rfl (by exact tcVI.size_) rfl (by simp [Value.cells, Value.oneCell']) [.int .i64 0] (by simp [Value.cells]) ?_
  intro w hp
  refine s_nil ?_
  refine k_seq ?_
  refine k_seq ?_
  refine k_region ?_
  refine s_val (wk0 rfl) rfl rfl hE hp (v := nodeV p0 vp0_kids) (ex_load rfl hE rfl (fun w hw => run_ldN (cs := [(.int .i64 p0.kind), (.string p0.text), (.int .i64 p0.at_), (.int .i64 p0.fin), vp0_kids]) tcVN (Hp.cN 1 rfl 0 _ (sub_all rfl) w hw))) ?_
  intro a hE
  refine s_call (wk0 rfl) rfl rfl hE rfl [nodeV p0 vp0_kids] ⟨rfl, trivial⟩ tcEn (nodes_c p0 vp0_kids hp) Ret.ret ?_
  intro v2 a w hR hE
  obtain ⟨b, rfl, hp⟩ := Ret.of hR
  refine s_nil ?_
  refine k_plain ?_
  refine k_rangeFunc (lb := [.pointer (some ⟨b, 0, none⟩)]) hE rfl tcE1 hp ?_
  intro fn l dd rec W hrec hp
  refine ⟨Pt b2 (.cells #[.int .i64 ((cntN p0 : Nat) : Int)] 3 (0, 0)) :: L, ?_, ?_⟩
  · refine Calls.mono (nodes1_c (Z := Z) (A := fun c => Pt b2 (.cells #[.int .i64 (c : Int)] 3 (0, 0))) (B := Pt l (.loop rec)) (D := Pt dd (.deferred (some []))) (L := Pt b1 (.cells #[(.int .i64 p0.kind), (.string p0.text), (.int .i64 p0.at_), (.int .i64 p0.fin), vp0_kids] 24 (0, 0)) :: L) (l := l) (N := cntN p0) (by omega) ?_ p0 b W vp0_kids hp0_kids (Nat.le_refl _) ?_) fun e W' he => ?_
    · intro c L W x hcN hp
      have hl := hp.look 1 rfl
      have hlt := (Array.getElem?_eq_some_iff.1 hl).1
      have hps : (#[x] : Array Value).size = rec.params.size := by rw [hrec]; rfl
      have hy := run_yield (P := Try.prog) hl hps
      rw [hrec] at hy
      refine ⟨fn, _, _, _, hy, roundIn_of_wpIn trivial (wpIn_skip ⟨_, run_beginRound hl (by rw [hrec]), ?_⟩)⟩
      have hp2 : Hp Z ρ (Pt l (.loop { rec with state := .busy }) :: Pt b2 (.cells #[.int .i64 (c : Int)] 3 (0, 0)) :: Pt dd (.deferred (some [])) :: L) (W.putObj l (.loop { rec with state := .busy })) :=
        Hp.set (w' := World.putObj _ _ _) (hp.get 1 rfl) rfl rfl rfl (World.putObj_heap_same hlt) (fun k hk => World.putObj_heap_other hk)
      generalize W.putObj l (.loop { rec with state := .busy }) = W2 at hp2 ⊢
      have hE2 := hE.put (d := 6) rfl x
      have ha : a.put (some 6) x = { tmps := (Array.zip #[6] #[x]).foldl (fun t (p : Nat × Value) => t.setIfInBounds p.1 p.2) a.tmps, defers := [] } := by
        unfold Act.put; simp [hE.defers]
      refine wpIn_block (wpIn_region ?_)
      rw [ha] at hE2
      revert hE2
      generalize (Act.mk _ _) = a2
      intro hE2
      show wpOpsIn _ 0 _ _ _ [0, 1, 2] _ _
      refine i_val (C := Hp Z ρ _) (fun _ => trivial) rfl (wk0 rfl) (fun c h => by cases h) rfl rfl hE2 hp2 (v := .int .i64 (c : Int)) (ex_load rfl hE2 rfl (fun w hw => run_ld1 tcVI (Hp.c 1 rfl 0 rfl w hw))) ?_
      intro a2 hE2
      refine i_val (C := Hp Z ρ _) (fun _ => trivial) rfl (wk0 rfl) (fun c h => by cases h) rfl rfl hE2 hp2 (v := .int .i64 ((c + 1 : Nat) : Int)) (ex_add rfl hE2 rfl rfl (by rw [IntKind.wrap_i64]; omega)) ?_
      intro a2 hE2
      refine i_store (fun _ => trivial) rfl (wk0 rfl) (fun c h => by cases h) rfl hE2 hp2 rfl rfl (v := .int .i64 ((c + 1 : Nat) : Int)) rfl 1 rfl (fun w => tcVI.size_ w) rfl rfl ?_
      intro W3 hp3
      unfold wpOpsIn
      have hl3 := hp3.look 0 rfl
      have hlt3 := (Array.getElem?_eq_some_iff.1 hl3).1
      have hrb : ({ ({ rec with state := .busy } : Loop) with state := .ready, pending := none } : Loop) = rec := by rw [hrec]
      refine ⟨_, _, run_endRound none hl3, _, rfl, rfl, ?_⟩
      have := Hp.set (w' := World.putObj W3 l (.loop rec)) hp3 rfl rfl rfl (World.putObj_heap_same hlt3) (fun k hk => World.putObj_heap_other hk)
      have hq := this.get 1 rfl
      exact hrb ▸ hq
    · exact hp.get 3 rfl
    · obtain ⟨v, rfl, hq⟩ := he
      exact ⟨_, rfl, (((hq.get 3 rfl).drop).get 2 rfl).get 2 rfl⟩
  · intro W hp
    rw [hE.defers]
    refine k_seq ?_
    refine k_region ?_
    refine d_val (C := Hp Z ρ _) (wk0 rfl) rfl rfl hE hp (v := .int .i64 ((cntN p0 : Nat) : Int)) (ex_load rfl hE rfl (fun w hw => run_ld1 tcVI (Hp.c 1 rfl 0 rfl w hw))) ?_
    intro a hE
    refine d_val (C := Hp Z ρ _) (wk0 rfl) rfl rfl hE hp (v := .int .i64 ((cntN p0 : Nat) : Int)) (ex_asn rfl hE rfl) ?_
    intro a hE
    refine s_nil ?_
    refine k_ret ?_
    have hl := hp.look 0 rfl
    have hlt := (Array.getElem?_eq_some_iff.1 hl).1
    have hq := Hp.set (w' := World.putObj W dd (.deferred none)) hp rfl rfl rfl (World.putObj_heap_same hlt) (fun k hk => World.putObj_heap_other hk)
    refine ⟨by simp, .inl ⟨dd, _, rfl, run_takeDeferred hl, ?_⟩⟩
    refine ⟨_, results_tmp rfl _ _ _, _, rfl, ?_, (hq.drop).drop⟩
    have hv := hE.val 2 _ rfl
    show a.tmps.getD 2 undef = _
    simp [Array.getD_eq_getD_getElem?, hv]
end Go.Proofs.Ytnnccbagbgndpaa

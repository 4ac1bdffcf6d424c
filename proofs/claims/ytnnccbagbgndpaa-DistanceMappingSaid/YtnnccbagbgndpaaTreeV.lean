/-
  tree.visit, walked: a function that calls itself and hands yield on.
-/
import Derived.Test.YtnnccbagbgndpaaTreeM
import Derived.Test.YtnnccbagbgndpaaProg
import Derived.Test.YtnnccbagbgndpaaMut2
import Derived.RangeFuncIn
import Derived.RangeFuncLeaves
import Derived.RangeFuncRecord
import Derived.RangeFuncSeq
set_option linter.unusedVariables false
set_option linter.unusedSimpArgs false
namespace Go.Proofs.Ytnnccbagbgndpaa
open Go.RowKit
section
variable {P : Program} {ops : Array Oper} {Q : Exit → Act → World → Prop} {a : Act} {w : World} {N : Nat} {E : Ent} {d : Nat} {o : Oper} {cs : List Code}
theorem k_regionIn {id : Nat} {l : List Oper} (h : wpOpsIn Fence.wide 0 P l.toArray (fun e a w => match e with | .normal => wpK P Q cs a w | e => Q e a w) (List.range l.length) a w) : wpK P Q (.region id l.toArray false :: cs) a w := by
  have e : (fun e a w => match e with | .normal => wpK P Q cs a w | e => Q e a w) = Exit.then (wpK P Q cs) Q := by
    funext e a w; cases e <;> rfl
  rw [e] at h
  exact (wpIn_wide (n := 0)).1 (wpIn_region (by rw [List.size_toArray]; exact h))
theorem o_val {C : World → Prop} {i : Nat} {rest : List Nat} (hi : ops[i]? = some o) (wk : Region.wanted o (yielded ops a.tmps) = true) (hd : o.dst = some d) (hN : Nat.blt d N = true) (hE : Env N E a) (hC : C w) {v : Value} (hx : Ex P C a o v)
    (K : ∀ a, Env N ((d, v) :: E) a → wpOpsIn Fence.wide 0 P ops Q rest a w) : wpOpsIn Fence.wide 0 P ops Q (i :: rest) a w := by
  unfold wpOpsIn
  rw [hi]
  simp only [wk, if_true]
  refine ⟨fun _ _ => trivial, ?_⟩
  show o.uponIn _ _ _ _ _ _ ((execOp a.eval o).run P w)
  rw [hx w hC, Oper.uponIn_value, hd]
  exact K _ (hE.put hN v)
theorem o_yield {i l : Nat} {rest : List Nat} (hi : ops[i]? = some o) (wk : Region.wanted o (yielded ops a.tmps) = true) (hd : o.dst = some d) (hN : Nat.blt d N = true) (hE : Env N E a) {x : Operand} {xs : List Operand} {ts : Array TypeId} (ho : o.op = .call { callee := .value x, args := xs.toArray, argTypes := ts })
    (hf : evo E x = some (.func (.yield l) #[] #[])) (vs : List Value) (hx : evA E xs vs) {R : Value → World → Prop} (hY : YieldAt Fence.wide 0 P l vs.toArray w (Ret R)) (K : ∀ v a w, R v w → Env N ((d, v) :: E) a → wpOpsIn Fence.wide 0 P ops Q rest a w) : wpOpsIn Fence.wide 0 P ops Q (i :: rest) a w := by
  obtain ⟨fn, tmps, assign, body, hy, hR⟩ := hY
  have hxs : xs.toArray.map a.eval = vs.toArray := by rw [List.map_toArray, evA_map hE hx]
  have hex : (execOp a.eval o).run P w = .ok (.round l fn tmps assign body) w := by
    simp only [execOp, ho, resolve, hE.eval hf, hxs, Deferred.ofValue, invoke, Sem.run_bind, Sem.run_pure, Result.andThen_ok]
    simp [hy]
  unfold wpOpsIn
  rw [hi]
  simp only [wk, if_true]
  refine ⟨fun _ _ => trivial, ?_⟩
  show o.uponIn _ _ _ _ _ _ ((execOp a.eval o).run P w)
  rw [hex, Oper.uponIn_round]
  refine ⟨fun h => (by simp [Fence.wide] at h), hR.mono fun e w' he => ?_⟩
  obtain ⟨v, rfl, hr⟩ := he
  rw [hd]
  exact K v _ w' hr (hE.put hN v)
theorem o_nil (h : Q .normal a w) : wpOpsIn Fence.wide 0 P ops Q [] a w := by unfold wpOpsIn; exact h
end
theorem tcVN : VarTy Try.prog 24 true 5 := ⟨fun w => by simp [isAgg, go_sem], fun w => by simp [sizeOf, go_sem] <;> rfl⟩
theorem tcVS : VarTy Try.prog 22 false 1 := ⟨fun w => by simp [isAgg, go_sem], fun w => by simp [sizeOf, go_sem] <;> rfl⟩
theorem tcVI : VarTy Try.prog 3 false 1 := ⟨fun w => by simp [isAgg, go_sem], fun w => by simp [sizeOf, go_sem] <;> rfl⟩
theorem tcF4 : FldTy Try.prog 24 4 4 := fun b o w => by simp [Instr.fieldAt, go_sem]
theorem tcSl : SlTy Try.prog 22 24 5 64 := SlTy.of (z := .agg #[.int .i64 0, .string ByteArray.empty, .int .i64 0, .int .i64 0, .slice none 0 0]) (by kernel_rfl) (by kernel_rfl) rfl
theorem tcEv : ∀ args w, (callFunc 50 args).run Try.prog w = .ok (.enter 50 args) w := enters Try.func50 (by kernel_rfl) rfl
theorem tcE1 : ∀ args w, (callFunc 49 args).run Try.prog w = .ok (.enter 49 args) w := enters Try.func49 (by kernel_rfl) rfl
theorem tcEn : ∀ args w, (callFunc 45 args).run Try.prog w = .ok (.enter 45 args) w := enters Try.func45 (by kernel_rfl) rfl
theorem cntL_cons (n : Node) (l : List Node) : cntL (n :: l) = cntN n + cntL l := by rw [cntL]
theorem cntN_eq (n : Node) : cntN n = 1 + cntL n.kids := by obtain ⟨a, b, c, d, k⟩ := n; rw [cntN]
theorem cntL_app : ∀ (l m : List Node), cntL (l ++ m) = cntL l + cntL m
  | [], m => by simp [cntL]
  | n :: l, m => by rw [List.cons_append, cntL_cons, cntL_cons, cntL_app l m]; omega
theorem cntL_take {l : List Node} {i : Nat} {n : Node} (h : l[i]? = some n) : cntL (l.take (i + 1)) = cntL (l.take i) + cntN n := by
  obtain ⟨h1, h2⟩ := List.getElem?_eq_some_iff.1 h
  rw [← h2, List.take_succ_eq_append_getElem h1, cntL_app, cntL_cons]; simp [cntL]
theorem cntL_le (l : List Node) (i : Nat) : cntL (l.take i) ≤ cntL l := by
  have := cntL_app (l.take i) (l.drop i)
  rw [List.take_append_drop] at this; omega
theorem node_sz {n m : Node} {i : Nat} (h : n.kids[i]? = some m) : SizeOf.sizeOf m < SizeOf.sizeOf n := by
  obtain ⟨a, b, c, d, k⟩ := n
  change k[i]? = some m at h
  have := List.sizeOf_lt_of_mem (List.mem_of_getElem? h)
  simp only [Node.mk.sizeOf_spec]
  omega
/-- .. at least one node for each kid. -/
theorem cntL_len : ∀ (l : List Node), l.length ≤ cntL l
  | [] => Nat.zero_le _
  | n :: l => by
    have := cntL_len l
    have h := cntN_eq n
    rw [cntL_cons, List.length_cons]; omega
def kidsStep (n i : Nat) : Option (Step Nat Unit) := if i < n then some (.next (i + 1)) else some (.done ())
theorem kidsLoop (n : Nat) : ∀ (j i : Nat), i + j = n → loopM (kidsStep n) i = some ()
  | 0, i, h => loopM_done (by unfold kidsStep; rw [if_neg (by omega)])
  | j + 1, i, h => by rw [loopM_next (show kidsStep n i = some (.next (i + 1)) by unfold kidsStep; rw [if_pos (by omega)])]; exact kidsLoop n j (i + 1) (by omega)
abbrev nodeV (p0 : Node) (v : Value) : Value := .agg #[.int .i64 p0.kind, .string p0.text, .int .i64 p0.at_, .int .i64 p0.fin, v]
set_option maxRecDepth 100000 in
set_option maxHeartbeats 4000000 in
theorem visit_c {Z : World} {ρ : PH} {A : Nat → Atom} {B D : Atom} {l N : Nat} (hN : N ≤ 4611686018427387904)
    (hY : ∀ (c : Nat) (L : List Atom) (W : World) (x : Value), c < N → Hp Z ρ (A c :: B :: D :: L) W → YieldAt Fence.wide 0 Try.prog l #[x] W (Ret fun v W' => v = .bool true ∧ Hp Z ρ (A (c + 1) :: B :: D :: L) W')) :
    ∀ (m : Nat) (p0 : Node), SizeOf.sizeOf p0 ≤ m → ∀ (c : Nat) (L : List Atom) (w : World) (v : Value) (hv : RoSl ρ v p0.kids), c + cntN p0 ≤ N → Hp Z ρ (A c :: B :: D :: L) w →
      Calls Try.prog 50 #[nodeV p0 v, .func (.yield l) #[] #[]] w (Ret fun r w' => r = .bool true ∧ Hp Z ρ (A (c + cntN p0) :: B :: D :: L) w') := by
  intro m
  induction m with
  | zero => intro p0 h; obtain ⟨a, b, c, d, k⟩ := p0; simp only [Node.mk.sizeOf_spec] at h; omega
  | succ m ih =>
    intro p0 hsz c L w v hv hcN hp
    have hcnt := cntN_eq p0
    refine enter (N := 23) Try.func50 rfl rfl [(0, nodeV p0 v), (1, .func (.yield l) #[] #[])] rfl (argsIn_mem ⟨rfl, rfl, trivial⟩) fun a hE => ?_
    refine k_seq ?_
    refine k_region ?_
    refine s_box (wk0 rfl) rfl rfl hE hp rfl (v := nodeV p0 v) rfl ?_
    intro a w b1 hE hp
    have hp : Hp Z ρ (Pt b1 (.cells #[(.int .i64 p0.kind), (.string p0.text), (.int .i64 p0.at_), (.int .i64 p0.fin), v] 24 (0, 0)) :: A c :: B :: D :: L) w := hp
    refine s_val (wk0 rfl) rfl rfl hE hp (v := .bool false) (ex_asn rfl hE rfl) ?_
    intro a hE
    refine s_nil ?_
    refine k_seq ?_
    refine k_seq ?_
    refine k_regionIn ?_
    refine o_val rfl (wk0 rfl) rfl rfl hE hp (v := .func (.yield l) #[] #[]) (ex_move rfl hE rfl) ?_
    intro a hE
    refine o_val rfl (wk0 rfl) rfl rfl hE hp (v := nodeV p0 v) (ex_load rfl hE rfl (fun w hw => run_ldN (cs := [(.int .i64 p0.kind), (.string p0.text), (.int .i64 p0.at_), (.int .i64 p0.fin), v]) tcVN (Hp.cN 0 rfl 0 _ (sub_all rfl) w hw))) ?_
    intro a hE
    have hp : Hp Z ρ (A c :: B :: D :: Pt b1 (.cells #[(.int .i64 p0.kind), (.string p0.text), (.int .i64 p0.at_), (.int .i64 p0.fin), v] 24 (0, 0)) :: L) w := ((hp.get 3 rfl).get 3 rfl).get 3 rfl
    refine o_yield rfl (wk0 rfl) rfl rfl hE rfl rfl [nodeV p0 v] ⟨rfl, trivial⟩ (hY c _ w _ (by omega) hp) ?_
    rintro _ a w ⟨rfl, hp⟩ hE
    refine o_val rfl (wk0 rfl) rfl rfl hE hp (v := .bool (!true)) (ex_not rfl hE rfl) ?_
    intro a hE
    refine o_nil ?_
    refine k_if hE rfl (fun hb => by cases hb) (fun _ => ?_)
    refine k_skip ?_
    refine k_seq ?_
    refine k_seq ?_
    refine k_region ?_
    refine s_val (wk0 rfl) rfl rfl hE hp (v := (.pointer (some ⟨b1, 4, none⟩))) (ex_field rfl hE rfl (tcF4 _ _)) ?_
    intro a hE
    refine s_val (wk0 rfl) rfl rfl hE hp (v := v) (ex_load rfl hE rfl (fun w hw => run_ld1 tcVS (Hp.c 3 rfl 4 rfl w hw))) ?_
    intro a hE
    refine s_val (wk0 rfl) rfl rfl hE hp (v := (.int .i64 (p0.kids.length : Int))) (ex_len rfl hE rfl (RoSl.len hv tcSl)) ?_
    intro a hE
    refine s_val (wk0 rfl) rfl rfl hE hp (v := (.int .i64 0)) (ex_move rfl hE rfl) ?_
    intro a hE
    refine s_nil ?_
    refine k_block (fun a w => Env 23 [] a ∧ Hp Z ρ (A (c + cntN p0) :: B :: D :: L) w) ?_ ?_
    · refine k_loop (kidsLoop p0.kids.length p0.kids.length 0 (by omega)) (fun i a w => i ≤ p0.kids.length ∧ Env 23 [(1, .func (.yield l) #[] #[]), (12, v), (13, (.int .i64 (p0.kids.length : Int))), (14, (.int .i64 (i : Int)))] a ∧ ∃ L', Hp Z ρ (A (c + 1 + cntL (p0.kids.take i)) :: B :: D :: L') w ∧ ∀ c w, Hp Z ρ (A c :: B :: D :: L') w → Hp Z ρ (A c :: B :: D :: L) w) ?_ ?_
      · refine ⟨Nat.zero_le _, hE.cut ⟨rfl, rfl, rfl, rfl, trivial⟩, (Pt b1 (.cells #[(.int .i64 p0.kind), (.string p0.text), (.int .i64 p0.at_), (.int .i64 p0.fin), v] 24 (0, 0)) :: L), ?_, fun c w h => ?_⟩
        · rw [List.take_zero, cntL, Nat.add_zero]; exact hp
        · exact (h.get 3 rfl).drop
      · rintro i st a w ⟨hi, hE, L', hp, hL'⟩ hst
        refine k_seq ?_
        refine k_region ?_
        refine s_val (wk0 rfl) rfl rfl hE hp (v := (.bool (decide ((i : Int) < (p0.kids.length : Int))))) (ex_lss rfl hE rfl rfl) ?_
        intro a hE
        refine s_nil ?_
        refine k_seq ?_
        refine k_if hE rfl (fun hb => ?_) (fun hb => ?_)
        · have hlt : i < p0.kids.length := by simpa using hb
          obtain ⟨x, hx⟩ : ∃ x, p0.kids[i]? = some x := ⟨_, List.getElem?_eq_getElem hlt⟩
          refine k_skip ?_
          refine k_seq ?_
          refine k_plain ?_
          refine k_seq ?_
          refine k_region ?_
          have ex : idx p0.kids (i : Int) = some x := by unfold idx; rw [if_pos (by omega)]; simpa using hx
          obtain ⟨b3, b3o, b3c, b3r, b3k, b3f⟩ := RoSl.at hv tcSl ex
          obtain ⟨vk, rfl, hk⟩ := NodeAt.opens b3k
          refine s_val (wk0 rfl) rfl rfl hE hp (v := (.pointer (some ⟨b3, b3o, none⟩))) (ex_index rfl hE rfl rfl b3r) ?_
          intro a hE
          refine s_val (wk0 rfl) rfl rfl hE hp (v := nodeV x vk) (ex_load rfl hE rfl (fun w hw => run_ldN (cs := [(.int .i64 x.kind), (.string x.text), (.int .i64 x.at_), (.int .i64 x.fin), vk]) tcVN (fun j u hj => cell_of hw.le (b3f j u hj)))) ?_
          intro a hE
          refine s_new (wk0 rfl) rfl rfl hE hp rfl [(.int .i64 0), (.string ByteArray.empty), (.int .i64 0), (.int .i64 0), (.slice none 0 0)] (fun w => by simp [Instr.alloc, go_sem] <;> rfl) ?_
          intro a w b2 hE hp
          refine s_store (wk0 rfl) rfl hE hp rfl rfl (v := nodeV x vk) rfl 0 rfl (by exact tcVN.size_) rfl (by
            have h1 := RoSl.one hk
            intro u hu
            simp [Value.cells] at hu
            rcases hu with rfl | rfl | rfl | rfl | rfl <;> first | rfl | exact h1) [(.int .i64 x.kind), (.string x.text), (.int .i64 x.at_), (.int .i64 x.fin), vk] (by simp [Value.cells]) ?_
          intro w hp
          refine s_nil ?_
          refine k_seq ?_
          refine k_region ?_
          refine s_val (wk0 rfl) rfl rfl hE hp (v := nodeV x vk) (ex_load rfl hE rfl (fun w hw => run_ldN (cs := [(.int .i64 x.kind), (.string x.text), (.int .i64 x.at_), (.int .i64 x.fin), vk]) tcVN (Hp.cN 0 rfl 0 _ (sub_all rfl) w hw))) ?_
          intro a hE
          refine s_val (wk0 rfl) rfl rfl hE hp (v := .func (.yield l) #[] #[]) (ex_move rfl hE rfl) ?_
          intro a hE
          have hp := hp.drop
          have h1 := cntL_take hx
          have h2 := cntL_le p0.kids (i + 1)
          refine s_call (wk0 rfl) rfl rfl hE rfl [nodeV x vk, .func (.yield l) #[] #[]] ⟨rfl, rfl, trivial⟩ tcEv (ih x (by have := node_sz hx; omega) _ _ w vk hk (by omega) hp) Ret.ret ?_
          intro v2 a w hR hE
          obtain ⟨rfl, hp⟩ := Ret.of hR
          refine s_val (wk0 rfl) rfl rfl hE hp (v := .bool (!true)) (ex_not rfl hE rfl) ?_
          intro a hE
          refine s_nil ?_
          refine k_if hE rfl (fun hb => by cases hb) (fun _ => ?_)
          refine k_skip ?_
          refine k_region ?_
          refine s_val (wk0 rfl) rfl rfl hE hp (v := (.int .i64 ((i + 1 : Nat) : Int))) (ex_add rfl hE rfl rfl (by have := cntL_len p0.kids; rw [IntKind.wrap_i64]; omega)) ?_
          intro a hE
          refine s_val (wk0 rfl) rfl rfl hE hp (v := (.int .i64 ((i + 1 : Nat) : Int))) (ex_move rfl hE rfl) ?_
          intro a hE
          refine s_nil ?_
          refine ⟨i + 1, ?_, by omega, hE.cut ⟨rfl, rfl, rfl, rfl, trivial⟩, L', ?_, hL'⟩
          · unfold kidsStep at hst; rw [if_pos hlt] at hst; exact (Option.some.inj hst).symm
          · rw [h1, ← Nat.add_assoc]; exact hp
        · have hge : ¬ i < p0.kids.length := by simpa using hb
          refine k_exit ?_
          refine ⟨(), ?_, fun _ => ?_⟩
          · unfold kidsStep at hst; rw [if_neg hge] at hst; exact (Option.some.inj hst).symm
          · refine ⟨hE.cut trivial, ?_⟩
            have := hL' _ _ hp
            rw [List.take_of_length_le (by omega)] at this
            rw [hcnt, ← Nat.add_assoc]; exact this
    · rintro a w ⟨hE, hp⟩
      refine k_seq ?_
      refine k_region ?_
      refine s_val (wk0 rfl) rfl rfl hE hp (v := .bool true) (ex_asn rfl hE rfl) ?_
      intro a hE
      refine s_nil ?_
      refine k_ret ?_
      exact ret1 hE rfl rfl ⟨_, rfl, rfl, hp⟩

/-! ### The function value, and the loop -/
set_option maxRecDepth 100000 in
set_option maxHeartbeats 4000000 in
theorem nodes_c {Z : World} {ρ : PH} {L : List Atom} {w : World} (p0 : Node) (v : Value) (hp : Hp Z ρ L w) :
    Calls Try.prog 45 #[nodeV p0 v] w (Ret fun r w' => ∃ b, r = .func (.func 49) #[] #[.pointer (some ⟨b, 0, none⟩)] ∧ Hp Z ρ (Pt b (.cells #[(.int .i64 p0.kind), (.string p0.text), (.int .i64 p0.at_), (.int .i64 p0.fin), v] 24 (0, 0)) :: L) w') := by
  refine enter (N := 4) Try.func45 rfl rfl [(0, nodeV p0 v)] rfl (argsIn_mem ⟨rfl, trivial⟩) fun a hE => ?_
  refine k_seq ?_
  refine k_region ?_
  refine s_box (wk0 rfl) rfl rfl hE hp rfl (v := nodeV p0 v) rfl ?_
  intro a w b1 hE hp
  refine s_val (wk0 rfl) rfl rfl hE hp (v := .nilFunc) (ex_asn rfl hE rfl) ?_
  intro a hE
  refine s_nil ?_
  refine k_seq ?_
  refine k_region ?_
  refine s_val (wk0 rfl) rfl rfl hE hp (v := .func (.func 49) #[] #[.pointer (some ⟨b1, 0, none⟩)]) (ex_fn rfl hE [.pointer (some ⟨b1, 0, none⟩)] (by exact ⟨rfl, trivial⟩)) ?_
  intro a hE
  refine s_val (wk0 rfl) rfl rfl hE hp (v := .func (.func 49) #[] #[.pointer (some ⟨b1, 0, none⟩)]) (ex_asn rfl hE rfl) ?_
  intro a hE
  refine s_nil ?_
  refine k_ret ?_
  exact ret1 hE rfl rfl ⟨_, rfl, _, rfl, hp⟩
set_option maxRecDepth 100000 in
set_option maxHeartbeats 4000000 in
theorem nodes1_c {Z : World} {ρ : PH} {A : Nat → Atom} {B D : Atom} {l N : Nat} (hN : N ≤ 4611686018427387904)
    (hY : ∀ (c : Nat) (L : List Atom) (W : World) (x : Value), c < N → Hp Z ρ (A c :: B :: D :: L) W → YieldAt Fence.wide 0 Try.prog l #[x] W (Ret fun v W' => v = .bool true ∧ Hp Z ρ (A (c + 1) :: B :: D :: L) W'))
    (p0 : Node) (b : Nat) (L : List Atom) (w : World) (v : Value) (hv : RoSl ρ v p0.kids) (hcN : cntN p0 ≤ N)
    (hp : Hp Z ρ (A 0 :: B :: D :: Pt b (.cells #[(.int .i64 p0.kind), (.string p0.text), (.int .i64 p0.at_), (.int .i64 p0.fin), v] 24 (0, 0)) :: L) w) :
    Calls Try.prog 49 #[.func (.yield l) #[] #[], .pointer (some ⟨b, 0, none⟩)] w (Ret fun _ w' => Hp Z ρ (A (cntN p0) :: B :: D :: L) w') := by
  refine enter (N := 6) Try.func49 rfl rfl [(0, .func (.yield l) #[] #[]), (1, .pointer (some ⟨b, 0, none⟩))] rfl (argsIn_mem ⟨rfl, rfl, trivial⟩) fun a hE => ?_
  refine k_region ?_
  refine s_val (wk0 rfl) rfl rfl hE hp (v := nodeV p0 v) (ex_load rfl hE rfl (fun w hw => run_ldN (cs := [(.int .i64 p0.kind), (.string p0.text), (.int .i64 p0.at_), (.int .i64 p0.fin), v]) tcVN (Hp.cN 3 rfl 0 _ (sub_all rfl) w hw))) ?_
  intro a hE
  refine s_val (wk0 rfl) rfl rfl hE hp (v := .func (.yield l) #[] #[]) (ex_move rfl hE rfl) ?_
  intro a hE
  refine s_call (wk0 rfl) rfl rfl hE rfl [nodeV p0 v, .func (.yield l) #[] #[]] ⟨rfl, rfl, trivial⟩ tcEv (visit_c hN hY _ p0 (Nat.le_refl _) 0 _ w v hv (by omega) hp) Ret.ret ?_
  intro v2 a w hR hE
  obtain ⟨rfl, hp⟩ := Ret.of hR
  refine s_nil ?_
  refine ⟨hE.defers, _, results_none rfl _ _ _, _, rfl, ?_⟩
  rw [Nat.zero_add] at hp
  exact (((hp.get 3 rfl).drop))
end Go.Proofs.Ytnnccbagbgndpaa

/- The library's contracts over owned parts: slices.SortFunc of literals, slices.Compact. -/
import Derived.Test.YtelioaepnpnojaaGreatDoorKRe3
import Derived.Test.YtelioaepnpnojaaGreatDoorKRe4
import Derived.Shelf.Abstract
set_option linter.unusedVariables false
set_option linter.unusedSimpArgs false
namespace Go.Proofs.YtelioaepnpnojaaGreatDoor
open Go.RowKit Go.Sort
def or2 (a b : Int) : Int := if a ≠ 0 then a else b
set_option maxHeartbeats 2000000 in
theorem or_any (c1 c2 : Int) (g : Nat) (W : World) (h1 : W.cell? ⟨g, 0, none⟩ = some (.int .i64 c1)) (h2 : W.cell? ⟨g, 1, none⟩ = some (.int .i64 c2)) :
    Calls Tryz.prog 44 #[.slice (some ⟨g, 0, none⟩) 2 2] W fun e w' => e = .returned (.int .i64 (or2 c1 c2)) ∧ w' = W := by
  unfold or2
  go_enter Tryz.func44, Tryz.ntmps44
  go_wp2_with fail
  refine wp_loop_rounds 3 ?_
  rw [rounds_succ]
  go_wp2_with fail
  all_goals try (rw [rounds_succ]; go_wp2_with fail)
  all_goals try (rw [rounds_succ]; go_wp2_with fail)
  all_goals try (go_ret; simp_all)
set_option maxHeartbeats 2000000 in
theorem var_any (n : Int) (h : -4611686018427387904 ≤ n ∧ n ≤ 4611686018427387904) (W : World) :
    Calls Tryz.prog 46 #[.int .i64 n] W fun e w' => e = .returned (.int .i64 (vr n)) ∧ w' = W := by
  unfold vr
  have hw : IntKind.wrap .i64 (-n) = 0 - n := by rw [IntKind.wrap_i64]; omega
  go_enter Tryz.func46, Tryz.ntmps46
  go_wp2_with fail
  all_goals try (go_ret; simp_all)
def Tr (W w : World) : Prop := ∃ q os, w = grow (W.drewN q) os
theorem Tr.refl (W : World) : Tr W W := ⟨0, #[], by simp [grow, World.drewN]⟩
theorem Tr.drew {W w : World} (h : Tr W w) : Tr W w.drew := by
  obtain ⟨q, os, rfl⟩ := h
  exact ⟨q + 1, os, rfl⟩
theorem Tr.alloc {W w : World} (h : Tr W w) (o : Obj) : Tr W (w.alloc o) := by
  obtain ⟨q, os, rfl⟩ := h
  exact ⟨q, os ++ #[o], by rw [alloc_eq_grow, grow_grow]⟩
section
variable {Z : World} {ρ : PH} {L : List Atom} {w W : World}
theorem c_cmpIT (a b : Int) (hp : Hp Z ρ L w) (hT : Tr W w) : Calls Tryz.prog 45 #[.int .i64 a, .int .i64 b] w (Ret fun v w' => v = .int .i64 (Lib.compareInt a b) ∧ Hp Z ρ L w' ∧ Tr W w') := by
  refine (Tryz.cmp_Compare_int a b w).mono ?_
  rintro e w' ⟨rfl, rfl⟩
  exact ⟨_, rfl, rfl, hp, hT⟩
theorem c_varT (a : Int) (h : -4611686018427387904 ≤ a ∧ a ≤ 4611686018427387904) (hp : Hp Z ρ L w) (hT : Tr W w) : Calls Tryz.prog 46 #[.int .i64 a] w (Ret fun v w' => v = .int .i64 (vr a) ∧ Hp Z ρ L w' ∧ Tr W w') := by
  refine (var_any a h w).mono ?_
  rintro e w' ⟨rfl, rfl⟩
  exact ⟨_, rfl, rfl, hp, hT⟩
theorem c_orT (c1 c2 : Int) (b : Nat) (hp : Hp Z ρ (Pt b (.cells #[.int .i64 c1, .int .i64 c2] 3 (0, 0)) :: L) w) (hT : Tr W w) : Calls Tryz.prog 44 #[.slice (some ⟨b, 0, none⟩) 2 2] w (Ret fun v w' => v = .int .i64 (or2 c1 c2) ∧ Hp Z ρ (Pt b (.cells #[.int .i64 c1, .int .i64 c2] 3 (0, 0)) :: L) w' ∧ Tr W w') := by
  have h := hp.look 0 rfl
  refine (or_any c1 c2 b w (by simp [World.cell?, h]) (by simp [World.cell?, h])).mono ?_
  rintro e w' ⟨rfl, rfl⟩
  exact ⟨_, rfl, rfl, hp, hT⟩
end
section
variable {Rn : Option Nat} {P : Program} {ops : Array Oper} {Q : Exit → Act → World → Prop} {rest : List Oper} {o : Oper} {a : Act} {w W : World} {N : Nat} {E : Ent} {d : Nat} {Z : World} {ρ : PH} {L : List Atom}
theorem s_litT (hT : Tr W w) (wk : Region.wanted o (yielded ops a.tmps) = true) (hd : o.dst = some d) (hN : Nat.blt d N = true) (hE : Env N E a) (hp : Hp Z ρ L w) {T : TypeId} {n : Nat} {ps : List (Nat × Operand)} (ho : o.op = .buildSlice T n ps.toArray) (vs : List (Nat × Value)) (hx : evP E ps vs)
    (cs : List Value) (El : TypeId) (hr : ∀ w, (Instr.buildSlice T n vs.toArray).run P w = .ok (.slice (some ⟨w.heap.size, 0, none⟩) n n) (w.alloc (.cells cs.toArray El)))
    (K : ∀ a w b, Env N ((d, .slice (some ⟨b, 0, none⟩) n n) :: E) a → Hp Z ρ (Pt b (.cells cs.toArray El (0, 0)) :: L) w → Tr W w → wpL Rn P ops Q rest a w) : wpL Rn P ops Q (o :: rest) a w := by
  have hps : ps.toArray.map (fun p => (p.1, a.eval p.2)) = vs.toArray := by rw [List.map_toArray, evP_map hE hx]
  refine s_run wk hd hN hE (v := .slice (some ⟨w.heap.size, 0, none⟩) n n) (w' := w.alloc (.cells cs.toArray El)) ?_ fun a' hE' => K a' _ _ hE' (hp.alloc _) (hT.alloc _)
  simp only [execOp, ho, hps, Sem.run_bind, hr w]
  rfl
end
theorem ent44 : ∀ args w, (callFunc 44 args).run Tryz.prog w = .ok (.enter 44 args) w := enters Tryz.func44 (by kernel_rfl) rfl
theorem ent45 : ∀ args w, (callFunc 45 args).run Tryz.prog w = .ok (.enter 45 args) w := enters Tryz.func45 (by kernel_rfl) rfl
def liOk (x : Int) : Prop := -4611686018427387904 ≤ x ∧ x ≤ 4611686018427387904
instance (x : Int) : Decidable (liOk x) := by unfold liOk; infer_instance
set_option maxRecDepth 100000 in
set_option maxHeartbeats 4000000 in
theorem closureN_ {Z : World} {ρ : PH} {L : List Atom} {w W : World} (p0 p1 : Int) (h0 : liOk p0) (h1 : liOk p1) (hp : Hp Z ρ (L) w) (hT : Tr W w) :
    Calls Tryz.prog 43 #[(.int .i64 p0), (.int .i64 p1)] w (Ret fun v w' => v = (.int .i64 (or2 (Lib.compareInt (vr p0) (vr p1)) (Lib.compareInt p0 p1))) ∧ Tr W w') := by
  refine enter (N := 15) Tryz.func43 rfl rfl [(0, (.int .i64 p0)), (1, (.int .i64 p1))] rfl (argsIn_mem ⟨rfl, rfl, trivial⟩) fun a hE => ?_
  refine k_seq ?_
  refine k_region ?_
  refine s_val (wk0 rfl) rfl rfl hE hp (v := (.int .i64 0)) (ex_asn rfl hE rfl) ?_
  intro a hE
  refine s_nil ?_
  refine k_seq ?_
  refine k_region ?_
  refine s_val (wk0 rfl) rfl rfl hE hp (v := (.int .i64 p0)) (ex_move rfl hE rfl) ?_
  intro a hE
  refine s_call (wk0 rfl) rfl rfl hE rfl [(.int .i64 p0)] ⟨rfl, trivial⟩ ent46 (c_varT p0 h0 hp hT) Ret.ret ?_
  intro v a w hR hE
  obtain ⟨rfl, hp, hT⟩ := Ret.of hR
  refine s_val (wk0 rfl) rfl rfl hE hp (v := (.int .i64 p1)) (ex_move rfl hE rfl) ?_
  intro a hE
  refine s_call (wk0 rfl) rfl rfl hE rfl [(.int .i64 p1)] ⟨rfl, trivial⟩ ent46 (c_varT p1 h1 hp hT) Ret.ret ?_
  intro v a w hR hE
  obtain ⟨rfl, hp, hT⟩ := Ret.of hR
  refine s_call (wk0 rfl) rfl rfl hE rfl [(.int .i64 (vr p0)), (.int .i64 (vr p1))] ⟨rfl, rfl, trivial⟩ ent45 (c_cmpIT (vr p0) (vr p1) hp hT) Ret.ret ?_
  intro v a w hR hE
  obtain ⟨rfl, hp, hT⟩ := Ret.of hR
  refine s_val (wk0 rfl) rfl rfl hE hp (v := (.int .i64 p0)) (ex_move rfl hE rfl) ?_
  intro a hE
  refine s_val (wk0 rfl) rfl rfl hE hp (v := (.int .i64 p1)) (ex_move rfl hE rfl) ?_
  intro a hE
  refine s_call (wk0 rfl) rfl rfl hE rfl [(.int .i64 p0), (.int .i64 p1)] ⟨rfl, rfl, trivial⟩ ent45 (c_cmpIT p0 p1 hp hT) Ret.ret ?_
  intro v a w hR hE
  obtain ⟨rfl, hp, hT⟩ := Ret.of hR
  refine s_litT hT (wk0 rfl) rfl rfl hE hp rfl [(0, (.int .i64 (Lib.compareInt (vr p0) (vr p1)))), (1, (.int .i64 (Lib.compareInt p0 p1)))] ⟨⟨rfl, rfl⟩, ⟨rfl, rfl⟩, trivial⟩ [(.int .i64 (Lib.compareInt (vr p0) (vr p1))), (.int .i64 (Lib.compareInt p0 p1))] 3 (fun w => by simp [Instr.buildSlice, Instr.fill, Value.cells, go_sem]) ?_
  intro a w b1 hE hp hT
  refine s_call (wk0 rfl) rfl rfl hE rfl [(.slice (some ⟨b1, 0, none⟩) 2 2)] ⟨rfl, trivial⟩ ent44 (c_orT (Lib.compareInt (vr p0) (vr p1)) (Lib.compareInt p0 p1) b1 hp hT) Ret.ret ?_
  intro v a w hR hE
  obtain ⟨rfl, hp, hT⟩ := Ret.of hR
  refine s_val (wk0 rfl) rfl rfl hE hp (v := (.int .i64 (or2 (Lib.compareInt (vr p0) (vr p1)) (Lib.compareInt p0 p1)))) (ex_asn rfl hE rfl) ?_
  intro a hE
  refine s_nil ?_
  refine k_ret ?_
  exact ret1 hE rfl rfl ⟨_, rfl, rfl, hT⟩
set_option maxRecDepth 100000 in
set_option maxHeartbeats 4000000 in
theorem closureV_ {Z : World} {ρ : PH} {L : List Atom} {w W : World} (p0 p1 : Int) (h0 : liOk p0) (h1 : liOk p1) (hp : Hp Z ρ (L) w) (hT : Tr W w) :
    Calls Tryz.prog 59 #[(.int .i64 p0), (.int .i64 p1)] w (Ret fun v w' => v = (.int .i64 (Lib.compareInt (vr p0) (vr p1))) ∧ Tr W w') := by
  refine enter (N := 10) Tryz.func59 rfl rfl [(0, (.int .i64 p0)), (1, (.int .i64 p1))] rfl (argsIn_mem ⟨rfl, rfl, trivial⟩) fun a hE => ?_
  refine k_seq ?_
  refine k_region ?_
  refine s_val (wk0 rfl) rfl rfl hE hp (v := (.int .i64 0)) (ex_asn rfl hE rfl) ?_
  intro a hE
  refine s_nil ?_
  refine k_seq ?_
  refine k_region ?_
  refine s_val (wk0 rfl) rfl rfl hE hp (v := (.int .i64 p0)) (ex_move rfl hE rfl) ?_
  intro a hE
  refine s_call (wk0 rfl) rfl rfl hE rfl [(.int .i64 p0)] ⟨rfl, trivial⟩ ent46 (c_varT p0 h0 hp hT) Ret.ret ?_
  intro v a w hR hE
  obtain ⟨rfl, hp, hT⟩ := Ret.of hR
  refine s_val (wk0 rfl) rfl rfl hE hp (v := (.int .i64 p1)) (ex_move rfl hE rfl) ?_
  intro a hE
  refine s_call (wk0 rfl) rfl rfl hE rfl [(.int .i64 p1)] ⟨rfl, trivial⟩ ent46 (c_varT p1 h1 hp hT) Ret.ret ?_
  intro v a w hR hE
  obtain ⟨rfl, hp, hT⟩ := Ret.of hR
  refine s_call (wk0 rfl) rfl rfl hE rfl [(.int .i64 (vr p0)), (.int .i64 (vr p1))] ⟨rfl, rfl, trivial⟩ ent45 (c_cmpIT (vr p0) (vr p1) hp hT) Ret.ret ?_
  intro v a w hR hE
  obtain ⟨rfl, hp, hT⟩ := Ret.of hR
  refine s_val (wk0 rfl) rfl rfl hE hp (v := (.int .i64 (Lib.compareInt (vr p0) (vr p1)))) (ex_asn rfl hE rfl) ?_
  intro a hE
  refine s_nil ?_
  refine k_ret ?_
  exact ret1 hE rfl rfl ⟨_, rfl, rfl, hT⟩
structure LitI where
  val : Int
  ok : liOk val
instance : Inhabited LitI := ⟨⟨0, by decide⟩⟩
def encL (x : LitI) : Value := .int .i64 x.1
theorem encL1 : OneCell encL := fun _ => rfl
def cfN (x y : LitI) : Int := or2 (Lib.compareInt (vr x.1) (vr y.1)) (Lib.compareInt x.1 y.1)
def cfV (x y : LitI) : Int := Lib.compareInt (vr x.1) (vr y.1)
theorem hp_whole0 (W : World) : Hp W (hp W) [] W := ⟨rfl, rfl, rfl, PH.le.rf _⟩
theorem closureN (x y : LitI) (W : World) : Calls Tryz.prog 43 (#[encL x, encL y] ++ #[]) W fun e w' => e = .returned (.int .i64 (cfN x y)) ∧ ∃ q os', w' = grow (W.drewN q) os' := by
  refine (closureN_ (Z := W) (ρ := hp W) (L := []) x.1 y.1 x.2 y.2 (hp_whole0 W) (Tr.refl W)).mono ?_
  rintro e w' ⟨v, rfl, rfl, q, os, rfl⟩
  exact ⟨rfl, q, os, rfl⟩
theorem closureV (x y : LitI) (W : World) : Calls Tryz.prog 59 (#[encL x, encL y] ++ #[]) W fun e w' => e = .returned (.int .i64 (cfV x y)) ∧ ∃ q os', w' = grow (W.drewN q) os' := by
  refine (closureV_ (Z := W) (ρ := hp W) (L := []) x.1 y.1 x.2 y.2 (hp_whole0 W) (Tr.refl W)).mono ?_
  rintro e w' ⟨v, rfl, rfl, q, os, rfl⟩
  exact ⟨rfl, q, os, rfl⟩
theorem cmpI_neg {a b : Int} : Lib.compareInt a b < 0 ↔ a < b := by
  unfold Lib.compareInt
  by_cases h1 : a < b
  · simp [h1]
  · by_cases h2 : b < a <;> simp [h1, h2]
theorem cmpI_zero {a b : Int} : Lib.compareInt a b = 0 ↔ a = b := by
  unfold Lib.compareInt
  by_cases h1 : a < b
  · simp [h1]; omega
  · by_cases h2 : b < a
    · simp [h1, h2]; omega
    · simp [h1, h2]; omega
theorem or2_neg {a b : Int} : or2 a b < 0 ↔ a < 0 ∨ a = 0 ∧ b < 0 := by
  unfold or2
  split <;> omega
theorem cfN_lt (x y : LitI) : ltOf cfN x y = ltN x.1 y.1 := by
  unfold ltOf cfN ltN
  rw [decide_eq_decide, or2_neg, cmpI_neg, cmpI_neg, cmpI_zero]
theorem cfV_lt (x y : LitI) : ltOf cfV x y = decide (vr x.1 < vr y.1) := by
  unfold ltOf cfV
  rw [decide_eq_decide, cmpI_neg]
theorem swoN : SWO (ltOf cfN) where
  irrefl x := by rw [cfN_lt]; unfold ltN; simp
  trans x y z h1 h2 := by rw [cfN_lt] at *; unfold ltN at *; simp only [decide_eq_true_eq] at *; omega
  ntrans x y z h1 h2 := by rw [cfN_lt] at *; unfold ltN at *; simp only [decide_eq_false_iff_not] at *; omega
theorem swoV : SWO (ltOf cfV) where
  irrefl x := by rw [cfV_lt]; simp
  trans x y z h1 h2 := by rw [cfV_lt] at *; simp only [decide_eq_true_eq] at *; omega
  ntrans x y z h1 h2 := by rw [cfV_lt] at *; simp only [decide_eq_false_iff_not] at *; omega
theorem totN (x y : LitI) (h1 : ltOf cfN x y = false) (h2 : ltOf cfN y x = false) : x = y := by
  rw [cfN_lt] at *
  unfold ltN at *
  simp only [decide_eq_false_iff_not] at *
  obtain ⟨a, _⟩ := x
  obtain ⟨b, _⟩ := y
  simp only [LitI.mk.injEq] at *
  omega
theorem lift_li : ∀ (l : List Int), litOk l = true → ∃ ls : List LitI, ls.map LitI.val = l
  | [], _ => ⟨[], rfl⟩
  | p :: l, h => by
    unfold litOk at h
    rw [List.all_cons, Bool.and_eq_true] at h
    obtain ⟨ls, e⟩ := lift_li l h.2
    exact ⟨⟨p, of_decide_eq_true h.1⟩ :: ls, by rw [List.map_cons, e]⟩
theorem flat_li (ls : List LitI) : ls.toArray.toList.map encL = flat (ls.map LitI.val) := by
  rw [flat_int, List.map_map]; rfl
theorem map_sortN (ls : List LitI) : (ls.mergeSort fun x y => !(ltOf cfN) y x).map LitI.val = (ls.map LitI.val).mergeSort fun x y => !ltN y x := by
  have e2 : (fun x y : LitI => !(ltOf cfN) y x) = fun x y => !ltN y.1 x.1 := by funext x y; rw [cfN_lt]
  rw [e2]
  exact (List.map_mergeSort (fun a _ b _ => rfl))
theorem leN_trans (x y z : Int) (h1 : (!ltN y x) = true) (h2 : (!ltN z y) = true) : (!ltN z x) = true := by
  unfold ltN at *; simp only [Bool.not_eq_true', decide_eq_false_iff_not] at *; omega
theorem leN_total (x y : Int) : (!ltN y x || !ltN x y) = true := by
  rw [Bool.or_eq_true]
  unfold ltN; simp only [Bool.not_eq_true', decide_eq_false_iff_not]; omega
theorem sortedN {l m : List Int} (hp : m.Perm l) (hs : m.Pairwise fun x y => (!ltN y x) = true) : m = l.mergeSort fun x y => !ltN y x := by
  have h2 : (l.mergeSort fun x y => !ltN y x).Pairwise fun x y => (!ltN y x) = true := List.pairwise_mergeSort leN_trans leN_total l
  refine List.Perm.eq_of_pairwise (le := fun x y => (!ltN y x) = true) (fun x y _ _ h3 h4 => ?_) hs h2 (hp.trans (List.mergeSort_perm _ _).symm)
  unfold ltN at *; simp only [Bool.not_eq_true', decide_eq_false_iff_not] at *; omega
section
variable {Z : World} {ρ : PH} {L : List Atom} {w : World}
theorem c_sortN (l : List Int) (v : Value) (hp : Hp Z ρ (OwnSl 3 v l :: L) w) (r : List Int) (hm : m_sortN l = some r) :
    Calls Tryz.prog 42 #[v, .func (.func 43) #[] #[]] w (Ret fun u w' => u = .tuple #[] ∧ Hp Z ρ (OwnSl 3 v r :: L) w') := by
  unfold m_sortN at hm
  split at hm
  · rename_i hh
    obtain ⟨hlen, hall⟩ := hh
    simp only [Option.some.injEq] at hm
    subst hm
    obtain ⟨ls, rfl⟩ := lift_li l hall
    have none_ : ∀ A c, v = .slice A 0 c → ls = [] → Calls Tryz.prog 42 #[v, .func (.func 43) #[] #[]] w (Ret fun u w' => u = .tuple #[] ∧ Hp Z ρ (OwnSl 3 v ((ls.map LitI.val).mergeSort fun x y => !ltN y x) :: L) w') := by
      rintro A c rfl rfl
      have h0 : Calls Tryz.prog 42 #[.slice A 0 c, .func (.func 43) #[] #[]] w (fun e w' => e = .returned (.tuple #[]) ∧ w' = w) := Tryz.slices_SortFunc_none (α := Int) A c _ w
      refine h0.mono ?_
      rintro e w' ⟨rfl, rfl⟩
      exact ⟨_, rfl, rfl, by simpa using hp⟩
    rcases hp.row.2 with ⟨A, hv, hn⟩ | ⟨g, off, cap, cur, hv, _⟩
    · exact none_ A 0 hv (by simpa using hn)
    · rcases Nat.eq_zero_or_pos ls.length with h0 | h0
      · exact none_ _ cap (by rw [hv, List.length_map, h0]) (List.eq_nil_of_length_eq_zero h0)
      · subst hv
        rw [List.length_map] at hlen
        obtain ⟨hH, hg⟩ := Hp.holdsO encL hp (by simpa using h0) (d := ls.toArray) (flat_li ls)
        have eg : ∀ args w, (callFunc 43 args).run Tryz.prog w = .ok (.enter 43 args) w := enters Tryz.func43 (by kernel_rfl) rfl
        have hcon : Calls Tryz.prog 42 #[.slice (some ⟨g, off, none⟩) ls.toArray.size cap, .func (.func 43) #[] #[]] w (fun e w' =>
            e = .returned (.tuple #[]) ∧ ∃ n os, w' = sortWorld encL w g off n (ls.toArray.toList.mergeSort fun x y => !(ltOf cfN) y x).toArray os) :=
          Tryz.slices_SortFunc_total encL encL1 cfN swoN 43 #[] g off cap ls.toArray w eg (fun _ _ _ _ x y => closureN x y _) hH hg (by simp; omega) totN
        rw [List.size_toArray] at hcon
        rw [List.length_map]
        refine hcon.mono ?_
        rintro e w' ⟨rfl, m, os, rfl⟩
        have := Hp.putO (m := m) (os := os) (xs' := flat ((ls.map LitI.val).mergeSort fun x y => !ltN y x)) encL hp (by simpa using h0) (d := (ls.mergeSort fun x y => !(ltOf cfN) y x).toArray) (by rw [flat_li, map_sortN]) (by rw [flat_len]; simp)
        refine ⟨_, rfl, rfl, ?_⟩
        unfold OwnSl
        rw [List.length_mergeSort]
        rw [List.length_map] at this ⊢
        exact this
  · cases hm
theorem c_sortV (l : List Int) (v : Value) (hp : Hp Z ρ (OwnSl 3 v l :: L) w) (r : List Int) (hm : m_sortV l = some r) :
    Calls Tryz.prog 42 #[v, .func (.func 59) #[] #[]] w (Ret fun u w' => u = .tuple #[] ∧ Hp Z ρ (OwnSl 3 v r :: L) w') := by
  unfold m_sortV at hm
  split at hm
  · rename_i hh
    obtain ⟨hlen, hall, hnd⟩ := hh
    simp only [Option.some.injEq] at hm
    subst hm
    obtain ⟨ls, rfl⟩ := lift_li l hall
    have none_ : ∀ A c, v = .slice A 0 c → ls = [] → Calls Tryz.prog 42 #[v, .func (.func 59) #[] #[]] w (Ret fun u w' => u = .tuple #[] ∧ Hp Z ρ (OwnSl 3 v ((ls.map LitI.val).mergeSort fun x y => !ltN y x) :: L) w') := by
      rintro A c rfl rfl
      have h0 : Calls Tryz.prog 42 #[.slice A 0 c, .func (.func 59) #[] #[]] w (fun e w' => e = .returned (.tuple #[]) ∧ w' = w) := Tryz.slices_SortFunc_none (α := Int) A c _ w
      refine h0.mono ?_
      rintro e w' ⟨rfl, rfl⟩
      exact ⟨_, rfl, rfl, by simpa using hp⟩
    rcases hp.row.2 with ⟨A, hv, hn⟩ | ⟨g, off, cap, cur, hv, _⟩
    · exact none_ A 0 hv (by simpa using hn)
    · rcases Nat.eq_zero_or_pos ls.length with h0 | h0
      · exact none_ _ cap (by rw [hv, List.length_map, h0]) (List.eq_nil_of_length_eq_zero h0)
      · subst hv
        rw [List.length_map] at hlen
        obtain ⟨hH, hg⟩ := Hp.holdsO encL hp (by simpa using h0) (d := ls.toArray) (flat_li ls)
        have eg : ∀ args w, (callFunc 59 args).run Tryz.prog w = .ok (.enter 59 args) w := enters Tryz.func59 (by kernel_rfl) rfl
        have hcon : Calls Tryz.prog 42 #[.slice (some ⟨g, off, none⟩) ls.toArray.size cap, .func (.func 59) #[] #[]] w (fun e w' =>
            e = .returned (.tuple #[]) ∧ ∃ d' n os, PermIn 0 ls.toArray.size ls.toArray d' ∧ SortedIn (ltOf cfV) 0 ls.toArray.size d' ∧ w' = sortWorld encL w g off n d' os) :=
          Tryz.slices_SortFunc encL encL1 cfV swoV 59 #[] g off cap ls.toArray w eg (fun _ _ _ _ x y => closureV x y _) hH hg (by simp; omega)
        rw [List.size_toArray] at hcon
        rw [List.length_map]
        refine hcon.mono ?_
        rintro e w' ⟨rfl, d', m, os, ⟨hs, _, hpm⟩, hso, rfl⟩
        have hs' : d'.size = ls.length := by simpa using hs
        have hpm' : d'.toList.Perm ls := by
          have e1 : d'.extract 0 ls.length = d' := by rw [← hs']; simp
          have e2 : ls.toArray.extract 0 ls.length = ls.toArray := by simp
          rw [e1, e2] at hpm
          exact hpm
        have hnd' : (d'.toList.map fun x => vr x.1).Nodup := by
          rw [List.map_map] at hnd
          exact ((hpm'.map _).nodup_iff).2 hnd
        have hsort : (d'.toList.map LitI.val).Pairwise fun x y => (!ltN y x) = true := by
          rw [List.pairwise_map, List.pairwise_iff_getElem]
          intro i j hi hj hij
          have h9 := hso i j (Nat.zero_le _) hij (by simpa [hs'] using hj)
          rw [cfV_lt] at h9
          have h8 := List.pairwise_iff_getElem.1 hnd' i j (by simpa using hi) (by simpa using hj) hij
          simp only [Array.length_toList] at hi hj
          rw [getElem!_pos d' j hj, getElem!_pos d' i hi] at h9
          simp only [List.getElem_map, Array.getElem_toList, ne_eq, decide_eq_false_iff_not] at h8 h9 ⊢
          unfold ltN
          simp only [Bool.not_eq_true', decide_eq_false_iff_not]
          omega
        have heq := sortedN (hpm'.map LitI.val) hsort
        have := Hp.putO (m := m) (os := os) (xs' := flat ((ls.map LitI.val).mergeSort fun x y => !ltN y x)) encL hp (by simpa using h0) (d := d') (by rw [← heq, flat_int, List.map_map]; rfl) (by rw [flat_len]; simp)
        refine ⟨_, rfl, rfl, ?_⟩
        unfold OwnSl
        rw [List.length_mergeSort]
        rw [List.length_map] at this ⊢
        exact this
  · cases hm
theorem compact_le (l : List Int) : (Lib.compact l).length ≤ l.length := by
  unfold Lib.compact Lib.compactUpTo
  rw [List.length_map]
  exact Nat.le_trans (List.length_filter_le _ _) (by simp)
theorem c_compactI_own (l : List Int) (v : Value) (hp : Hp Z ρ (OwnSl 3 v l :: L) w) (r : List Int) (hm : m_compactI l = some r) :
    Calls Tryz.prog 47 #[v] w (Ret fun u w' => ∃ v1, u = v1 ∧ Hp Z ρ (OwnSl 3 v1 r :: L) w') := by
  unfold m_compactI at hm
  split at hm
  · rename_i hlen
    simp only [Option.some.injEq] at hm
    subst hm
    have none_ : ∀ A c, v = .slice A 0 c → l = [] → Calls Tryz.prog 47 #[v] w (Ret fun u w' => ∃ v1, u = v1 ∧ Hp Z ρ (OwnSl 3 v1 (Lib.compact l) :: L) w') := by
      rintro A c rfl rfl
      refine (Tryz.slices_Compact_int_empty A c w).mono ?_
      rintro e w' ⟨rfl, rfl⟩
      exact ⟨_, rfl, _, rfl, hp⟩
    rcases hp.row.2 with ⟨A, hv, hn⟩ | ⟨g, off, cap, cur, hv, _, hnc, hcm, _⟩
    · exact none_ A 0 hv (List.eq_nil_of_length_eq_zero hn)
    · rcases Nat.eq_zero_or_pos l.length with h0 | h0
      · exact none_ _ cap (by rw [hv, h0]) (List.eq_nil_of_length_eq_zero h0)
      · subst hv
        obtain ⟨hH, hg⟩ := Hp.holdsO (Value.int .i64) hp h0 (d := l.toArray) (by rw [flat_int])
        refine (Tryz.slices_Compact_int g off cap l w hH (by omega) hnc).mono ?_
        rintro e w' ⟨rfl, q, rfl⟩
        have hle := compact_le l
        have h1 := Hp.putO (m := q) (os := #[]) (xs' := flat (Lib.compact l ++ List.replicate (l.length - (Lib.compact l).length) 0)) (Value.int .i64) hp h0 (d := (Lib.compact l ++ List.replicate (l.length - (Lib.compact l).length) 0).toArray) (by rw [flat_int]) (by rw [flat_len, List.length_append, List.length_replicate, Nat.add_sub_cancel' hle])
        rw [grow_empty] at h1
        refine ⟨_, rfl, _, rfl, ?_⟩
        rcases h1.row.2 with ⟨A, _, hn0⟩ | ⟨g', off', cap', cur', e', hpt, k1, k2, k3, k4⟩
        · omega
        · simp only [Value.slice.injEq, Option.some.injEq, Addr.mk.injEq, and_true, true_and] at e'
          obtain ⟨⟨rfl, rfl⟩, rfl⟩ := e'
          refine Hp.shutO hpt (by omega) k2 k3 ?_
          have k5 := congrArg (List.take ((Lib.compact l).length * Enc.sz Int)) k4
          rw [List.take_take, Nat.min_eq_left (Nat.mul_le_mul_right _ hle)] at k5
          rw [k5, flat_app, List.take_left' (by rw [flat_len])]
  · cases hm
end
end Go.Proofs.YtelioaepnpnojaaGreatDoor

/- The program's Parse: lines, words, numbers; it inverts Format. -/
import Derived.Test.YtelioaepnpnojaaGreatDoorKTe14
import Derived.Lib.SplitLaws
import Derived.Lib.IndexLaws
import Derived.Lib.CutLaws
import Derived.Test.YtelioaepnpnojaaGreatDoorKTe13
import Derived.Test.YtelioaepnpnojaaGreatDoorKTe3
import Derived.Test.YtelioaepnpnojaaGreatDoorKTe4
set_option linter.unusedVariables false
set_option linter.unusedSimpArgs false
namespace Go.Proofs.YtelioaepnpnojaaGreatDoor
open Go.RowKit Go.Lib
def preC (c : UInt8) (l : List UInt8) : List UInt8 := l.takeWhile (· != c)
def rstC (c : UInt8) (l : List UInt8) : List UInt8 := (l.dropWhile (· != c)).drop 1
theorem preC_app {c : UInt8} : ∀ {x r : List UInt8}, c ∉ x → preC c (x ++ c :: r) = x ∧ rstC c (x ++ c :: r) = r
  | [], r, _ => by simp [preC, rstC]
  | b :: x, r, h => by
    have hb : (b != c) = true := by simp; intro e; exact h (by rw [e]; exact List.mem_cons_self ..)
    have := preC_app (c := c) (x := x) (r := r) (fun hm => h (List.mem_cons_of_mem _ hm))
    unfold preC rstC at *
    rw [List.cons_append, List.takeWhile_cons, List.dropWhile_cons, if_pos hb, if_pos hb, this.1, this.2]
    exact ⟨rfl, rfl⟩
theorem preC_none {c : UInt8} : ∀ {x : List UInt8}, c ∉ x → preC c x = x ∧ rstC c x = []
  | [], _ => by simp [preC, rstC]
  | b :: x, h => by
    have hb : (b != c) = true := by simp; intro e; exact h (by rw [e]; exact List.mem_cons_self ..)
    have := preC_none (c := c) (x := x) (fun hm => h (List.mem_cons_of_mem _ hm))
    unfold preC rstC at *
    rw [List.takeWhile_cons, List.dropWhile_cons, if_pos hb, if_pos hb, this.1, this.2]
    exact ⟨rfl, rfl⟩
theorem split_at (c : UInt8) : ∀ (l : List UInt8), c ∈ l → ∃ x r, l = x ++ c :: r ∧ c ∉ x
  | [], h => by simp at h
  | b :: l, h => by
    by_cases hb : b = c
    · exact ⟨[], l, by rw [hb]; rfl, by simp⟩
    · obtain ⟨x, r, h1, h2⟩ := split_at c l (by rcases List.mem_cons.1 h with h | h; exact absurd h.symm hb; exact h)
      exact ⟨b :: x, r, by rw [h1]; rfl, by simp [h2]; exact fun e => hb e.symm⟩
theorem index_app {c : UInt8} {x r : List UInt8} (h : c ∉ x) : index (x ++ c :: r) [c] = x.length := by
  refine index_first (by simp) ?_ fun j hj => ?_
  · simp [occAt, List.isPrefixOf]
  · unfold occAt
    have hlt : j < (x ++ c :: r).length := by simp; omega
    rw [List.drop_eq_getElem_cons hlt]
    have : (x ++ c :: r)[j] = x[j] := List.getElem_append_left hj
    rw [this]
    have hne : ¬ c = x[j] := fun e => h (e ▸ List.getElem_mem hj)
    simp [List.isPrefixOf, hne]
theorem index_no {c : UInt8} {x : List UInt8} (h : c ∉ x) : index x [c] = -1 := by
  refine index_none fun j hj => ?_
  unfold occAt
  by_cases hlt : j < x.length
  · rw [List.drop_eq_getElem_cons hlt]
    have hne : ¬ c = x[j] := fun e => h (e ▸ List.getElem_mem hlt)
    simp [List.isPrefixOf, hne]
  · rw [List.drop_eq_nil_of_le (by omega)]; rfl
theorem cut_eq (c : UInt8) (l : List UInt8) : (Lib.cut l [c]).1 = preC c l ∧ (Lib.cut l [c]).2.1 = rstC c l := by
  unfold Lib.cut
  by_cases h : c ∈ l
  · obtain ⟨x, r, rfl, hx⟩ := split_at c l h
    rw [index_app hx, if_pos (by omega), (preC_app hx).1, (preC_app hx).2]
    simp
  · rw [index_no h, if_neg (by decide), (preC_none h).1, (preC_none h).2]
    exact ⟨rfl, rfl⟩
def splitC (c : UInt8) : List UInt8 → List (List UInt8)
  | [] => [[]]
  | b :: r => if b = c then [] :: splitC c r else match splitC c r with
    | [] => [[b]]
    | w :: ws => (b :: w) :: ws
theorem splitC_none {c : UInt8} : ∀ {x : List UInt8}, c ∉ x → splitC c x = [x]
  | [], _ => rfl
  | b :: x, h => by
    have hb : ¬ b = c := fun e => h (by rw [e]; exact List.mem_cons_self ..)
    unfold splitC
    rw [if_neg hb, splitC_none (fun hm => h (List.mem_cons_of_mem _ hm))]
theorem splitC_app {c : UInt8} : ∀ {x r : List UInt8}, c ∉ x → splitC c (x ++ c :: r) = x :: splitC c r
  | [], r, _ => by rw [List.nil_append, splitC, if_pos rfl]
  | b :: x, r, h => by
    have hb : ¬ b = c := fun e => h (by rw [e]; exact List.mem_cons_self ..)
    rw [List.cons_append, splitC, if_neg hb, splitC_app (fun hm => h (List.mem_cons_of_mem _ hm))]
theorem splitC_len (c : UInt8) : ∀ (l : List UInt8), 1 ≤ (splitC c l).length ∧ (splitC c l).length ≤ l.length + 1
  | [] => by simp [splitC]
  | b :: r => by
    have := splitC_len c r
    unfold splitC
    by_cases hb : b = c
    · rw [if_pos hb]; simp only [List.length_cons]; omega
    · rw [if_neg hb]
      cases h : splitC c r with
      | nil => rw [h] at this; simp at this
      | cons w ws => rw [h] at this; simp only [List.length_cons] at *; omega
theorem splitC_word (c : UInt8) : ∀ (l : List UInt8), ∀ w ∈ splitC c l, w.length ≤ l.length
  | [], w, h => by simp [splitC] at h; simp [h]
  | b :: r, w, h => by
    have ih := splitC_word c r
    unfold splitC at h
    by_cases hb : b = c
    · rw [if_pos hb] at h
      rcases List.mem_cons.1 h with rfl | h
      · simp
      · have := ih w h; simp only [List.length_cons]; omega
    · rw [if_neg hb] at h
      cases hs : splitC c r with
      | nil => have := splitC_len c r; rw [hs] at this; simp at this
      | cons v vs =>
        rw [hs] at h ih
        simp only at h
        rcases List.mem_cons.1 h with rfl | h
        · have := ih v (List.mem_cons_self ..); simp only [List.length_cons]; omega
        · have := ih w (List.mem_cons_of_mem _ h); simp only [List.length_cons]; omega
theorem splitK_eq (c : UInt8) : ∀ (n : Nat) (l : List UInt8), l.length ≤ n → splitK [c] 0 (l.count c) l = splitC c l := by
  intro n
  induction n with
  | zero => intro l hl; have : l = [] := List.eq_nil_of_length_eq_zero (by omega); subst this; rfl
  | succ n ih =>
    intro l hl
    by_cases h : c ∈ l
    · obtain ⟨x, r, rfl, hx⟩ := split_at c l h
      have hc : (x ++ c :: r).count c = r.count c + 1 := by
        rw [List.count_append, List.count_cons_self, List.count_eq_zero.2 hx]; omega
      rw [hc, splitC_app hx]
      unfold splitK
      rw [index_app hx, if_neg (by simp)]
      simp only [Nat.add_zero, Int.toNat_natCast, List.length_singleton]
      rw [List.take_left' rfl, show List.drop (x.length + 1) (x ++ c :: r) = r by simp]
      simp only [List.length_append, List.length_cons] at hl
      rw [ih r (by omega)]
    · rw [List.count_eq_zero.2 h, splitC_none h]; rfl
theorem split_ok {l : List UInt8} (h : l.length ≤ 1000000) : m_split (bs l) (ByteArray.mk #[32]) = some ((splitC 32 l).map bs) := by
  have hc : countB (bs l) (ByteArray.mk #[32]) = l.count 32 := by
    rw [← count_one]
    show Lib.count (bs l).data.toList _ = _
    rw [bs_data]
  have hle : l.count 32 ≤ l.length := List.count_le_length
  unfold m_split
  rw [if_pos ⟨by rw [bs_size]; omega, by decide, by rw [hc]; omega⟩, hc]
  congr 1
  have h1 := splitB_data (ByteArray.mk #[32]) 0 (l.count 32) (bs l)
  rw [bs_data, show (ByteArray.mk #[32]).data.toList = [32] from rfl, splitK_eq 32 l.length l (Nat.le_refl _)] at h1
  rw [← h1, List.map_map]
  have : (bs ∘ fun x : ByteArray => x.data.toList) = id := by funext x; exact bs_of x
  rw [this, List.map_id]
theorem cut_ok {l : List UInt8} (h : l.length ≤ 1000000) : ∃ b, m_cut (bs l) (ByteArray.mk #[10]) = some (bs (preC 10 l), bs (rstC 10 l), b) := by
  unfold m_cut
  rw [if_pos (by rw [bs_size]; omega), bs_data]
  have h1 := cut_eq 10 l
  exact ⟨_, by rw [show (ByteArray.mk #[10]).data.toList = [10] from rfl, h1.1, h1.2]; rfl⟩
theorem rst_len {c : UInt8} {l : List UInt8} (h : l ≠ []) : (rstC c l).length < l.length := by
  by_cases hm : c ∈ l
  · obtain ⟨x, r, rfl, hx⟩ := split_at c l hm
    rw [(preC_app hx).2]; simp; omega
  · rw [(preC_none hm).2]
    cases l with
    | nil => exact absurd rfl h
    | cons b l => simp
theorem pre_len (c : UInt8) (l : List UInt8) : (preC c l).length ≤ l.length := by
  unfold preC
  exact (List.takeWhile_sublist _).length_le
def pfold {σ ε : Type} (step : List UInt8 → σ → Step σ ε) : Nat → List UInt8 → σ → Step σ ε
  | 0, _, s => .next s
  | n + 1, l, s => if l = [] then .next s else match step (preC 10 l) s with
    | .next s' => pfold step n (rstC 10 l) s'
    | .done r => .done r
theorem bs_nil {l : List UInt8} : bs l = ByteArray.mk #[] ↔ l = [] := by
  constructor
  · intro h; exact bs_inj (h.trans rfl)
  · rintro rfl; rfl
theorem yield_loop {σ ε : Type} {yf : ByteArray → σ → Option (Step σ ε)} {step : List UInt8 → σ → Step σ ε} (I : σ → Nat → Prop) (hI : ∀ s n m, I s n → m ≤ n → I s m)
    (h : ∀ line s n, I s (n + 1) → line.length ≤ n + 1 → yf (bs line) s = some (step line s) ∧ ∀ s', step line s = .next s' → I s' n) :
    ∀ (n : Nat) (l : List UInt8) (s : σ), l.length ≤ n → l.length ≤ 1000000 → I s l.length → ∃ b, m_cnf_lines_1_yield yf (.next s) (bs l) = some b ∧ b.2 = pfold step n l s := by
  have key : ∀ (n : Nat) (l : List UInt8) (s : σ), l.length ≤ n → l.length ≤ 1000000 → I s l.length →
      ∃ b, loopM (fun s => m_cnf_lines_1_yield_lp1 yf s.1 s.2) (bs l, .next s) = some b ∧ (match b with | .brk t => t.2 | .ret t => t.2) = pfold step n l s := by
    intro n
    induction n with
    | zero =>
      intro l s hl hb hi
      have : l = [] := List.eq_nil_of_length_eq_zero (by omega)
      subst this
      refine ⟨.brk (bs [], .next s), loopM_done ?_, rfl⟩
      have : bs [] = ByteArray.mk #[] := rfl
      simp [m_cnf_lines_1_yield_lp1, this]
    | succ n ih =>
      intro l s hl hb hi
      by_cases h0 : l = []
      · subst h0
        refine ⟨.brk (bs [], .next s), loopM_done ?_, by simp [pfold]⟩
        have : bs [] = ByteArray.mk #[] := rfl
        simp [m_cnf_lines_1_yield_lp1, this]
      · obtain ⟨q, hq⟩ := cut_ok hb
        have hne : ¬ bs l = ByteArray.mk #[] := fun e => h0 (bs_nil.1 e)
        obtain ⟨m, hm⟩ : ∃ m, l.length = m + 1 := ⟨l.length - 1, by have := List.length_pos_iff.2 h0; omega⟩
        obtain ⟨h1, h2⟩ := h (preC 10 l) s m (by rw [← hm]; exact hi) (by rw [← hm]; exact pre_len _ _)
        have hrl := rst_len (c := 10) h0
        cases hs : step (preC 10 l) s with
        | next s' =>
          rw [hs] at h1
          have hbody : m_cnf_lines_1_yield_lp1 yf (bs l) (.next s) = some (.next (bs (rstC 10 l), .next s')) := by
            simp only [m_cnf_lines_1_yield_lp1, hne, decide_false, Bool.not_false, if_true, hq, bsm, yieldM, h1, Step.more, Bool.not_true, Bool.false_eq_true, if_false]
          obtain ⟨b, hb1, hb2⟩ := ih (rstC 10 l) s' (by omega) (by omega) (hI s' m _ (h2 s' hs) (by omega))
          refine ⟨b, ?_, ?_⟩
          · rw [loopM_next (body := fun s => m_cnf_lines_1_yield_lp1 yf s.1 s.2) (s := (bs l, Step.next s)) hbody]; exact hb1
          · rw [hb2, pfold, if_neg h0, hs]
        | done r =>
          rw [hs] at h1
          have hbody : m_cnf_lines_1_yield_lp1 yf (bs l) (.next s) = some (.done (.ret (bs l, .done r))) := by
            simp only [m_cnf_lines_1_yield_lp1, hne, decide_false, Bool.not_false, if_true, hq, bsm, yieldM, h1, Step.more, Bool.not_false]
          refine ⟨.ret (bs l, .done r), loopM_done hbody, ?_⟩
          rw [pfold, if_neg h0, hs]
  intro n l s hl hb hi
  obtain ⟨b, h1, h2⟩ := key n l s hl hb hi
  unfold m_cnf_lines_1_yield
  rw [h1, bsm]
  cases b with
  | brk t => exact ⟨t, rfl, h2⟩
  | ret t => exact ⟨t, rfl, h2⟩
def atoiV (w : List UInt8) : Int := match Lib.atoiAll w with | .ok v => v | .range => Lib.atoiSat w | _ => 0
theorem atoi_ok {w : List UInt8} (h : w.length ≤ 1000000) : m_atoi (bs w) = some (atoiV w) := by
  unfold m_atoi atoiV
  rw [if_pos (by rw [bs_size]; omega), bs_data]
  rfl
theorem valD_ge : ∀ (l : List UInt8) (acc : Nat), acc ≤ valD acc l
  | [], acc => Nat.le_refl _
  | b :: l, acc => by
    have := valD_ge l (10 * acc + (b.toNat - 48))
    show acc ≤ valD (10 * acc + (b.toNat - 48)) l
    omega
theorem parse_digits : ∀ (l : List UInt8) (acc : Nat), (∀ b ∈ l, 48 ≤ b.toNat ∧ b.toNat ≤ 57) → valD acc l ≤ 1000000000000000000 → parseUint10 acc l = .ok (valD acc l)
  | [], acc, _, _ => rfl
  | b :: l, acc, hd, hv => by
    have hb := hd b (List.mem_cons_self ..)
    have hv' : valD (10 * acc + (b.toNat - 48)) l ≤ 1000000000000000000 := hv
    have hge := valD_ge l (10 * acc + (b.toNat - 48))
    unfold parseUint10
    rw [if_pos hb, if_neg (by omega), if_neg (by omega), show acc * 10 + (b.toNat - 48) = 10 * acc + (b.toNat - 48) by omega, parse_digits l _ (fun c hc => hd c (List.mem_cons_of_mem _ hc)) hv']
    rfl
theorem dd_cons (u : Nat) : ∃ b r, decDigits u = b :: r ∧ 48 ≤ b.toNat ∧ b.toNat ≤ 57 := by
  cases h : decDigits u with
  | nil => exact absurd h (dd_ne u)
  | cons b r => exact ⟨b, r, rfl, dd_digit u b (by rw [h]; exact List.mem_cons_self ..)⟩
theorem atoi_itoa {n : Int} (h : -1000000000000000000 ≤ n ∧ n ≤ 1000000000000000000) : atoiV (itoa n) = n := by
  unfold atoiV itoa
  by_cases h0 : n < 0
  · rw [if_pos h0]
    have hp : parseMag (decDigits n.natAbs) = .ok n.natAbs := by
      unfold parseMag
      rw [if_neg (dd_ne _), parse_digits _ 0 (dd_digit _) (by rw [dd_val]; omega), dd_val]
    have h1 : atoiAll (45 :: decDigits n.natAbs) = .ok n := by
      unfold atoiAll
      have e : (45 : UInt8).toNat = 45 := rfl
      simp only [e, or_true, if_true, hp, not_true_eq_false, false_and, if_false, true_and]
      rw [if_neg (by omega)]
      congr 1
      omega
    rw [h1]
  · rw [if_neg h0]
    obtain ⟨b, r, hb, h1, h2⟩ := dd_cons n.toNat
    have hp : parseMag (decDigits n.toNat) = .ok n.toNat := by
      unfold parseMag
      rw [if_neg (dd_ne _), parse_digits _ 0 (dd_digit _) (by rw [dd_val]; omega), dd_val]
    have h3 : atoiAll (decDigits n.toNat) = .ok n := by
      rw [hb] at hp ⊢
      unfold atoiAll
      have e1 : ¬ b.toNat = 43 := by omega
      have e2 : ¬ b.toNat = 45 := by omega
      simp only [e1, e2, or_self, if_false, hp, not_false_eq_true, true_and, false_and]
      rw [if_neg (by omega)]
      congr 1
      omega
    rw [h3]
abbrev PS := List (List Int) × Bool × Int
def pstep (line : List UInt8) (s : PS) : Step PS (Formula × Int) :=
  if s.2.1 = true then (if (splitC 32 line).length ≠ 4 then .done (⟨0, []⟩, 3) else .next (s.1, false, atoiV ((splitC 32 line).getD 2 [])))
  else .next (s.1 ++ [(splitC 32 line).dropLast.map atoiV], s.2.1, s.2.2)
theorem parse_words {ws : List (List UInt8)} (hw : ∀ w ∈ ws, w.length ≤ 1000000) (hl : ws.length ≤ 1000000) : loopM (fun s : Int × List Int => m_cnf_Parse_lp2 (ws.map bs) s.1 s.2) (0, []) = some (ws.map atoiV) := by
  have h : ∃ b, loopM (fun s : Int × List Int => m_cnf_Parse_lp2 (ws.map bs) s.1 s.2) (0, []) = some b ∧ b = ws.map atoiV := by
    refine loopN (body := fun s : Int × List Int => m_cnf_Parse_lp2 (ws.map bs) s.1 s.2) ws.length (fun k t => ((k : Int), t)) (fun k t => t = (ws.take k).map atoiV) _ (t0 := []) rfl rfl ?_ ?_
    · rintro k t hk rfl
      obtain ⟨w, hw1⟩ := get_of_lt hk
      have hw2 : (ws.map bs)[k]? = some (bs w) := by rw [List.getElem?_map, hw1]; rfl
      refine Or.inl ⟨_, ?_, rfl⟩
      have e1 : app ((ws.take k).map atoiV) [atoiV w] = some ((ws.take (k + 1)).map atoiV) := by
        rw [app_ok (by simp only [List.length_map, List.length_take, List.length_singleton]; omega), take_snoc_of hw1, List.map_append]; rfl
      have e2 : (decide ((k : Int) < ((ws.map bs).length : Int))) = true := by simpa using hk
      simp only [m_cnf_Parse_lp2, e2, if_true, idx_nat hw2, bsm, atoi_ok (hw w (mem_get hw1)), e1, inK_up hk (show ws.length ≤ 9223372036854775807 by omega)]
    · rintro t rfl
      have e2 : ¬ (decide ((ws.length : Int) < ((ws.map bs).length : Int))) = true := by simp
      exact ⟨_, by simp only [m_cnf_Parse_lp2, e2, if_false, Bool.false_eq_true, List.take_length], rfl⟩
  obtain ⟨b, hb, rfl⟩ := h
  exact hb
theorem parse_round {line : List UInt8} {s : PS} (h : line.length ≤ 100000) (hs : s.1.length ≤ 1000000) : m_cnf_Parse_lp1 (bs line) s.1 s.2.1 s.2.2 = some (pstep line s) := by
  obtain ⟨cs, fst, v⟩ := s
  simp only at hs
  have hsl := splitC_len 32 line
  have hsw := splitC_word 32 line
  unfold pstep
  simp only [m_cnf_Parse_lp1, split_ok (show line.length ≤ 1000000 by omega), bsm, List.length_map]
  cases fst with
  | true =>
    by_cases h4 : (splitC 32 line).length = 4
    · have e1 : ((splitC 32 line).length : Int) = 4 := by omega
      obtain ⟨w, hw⟩ := get_of_lt (show 2 < (splitC 32 line).length by omega)
      have hw2 : idx ((splitC 32 line).map bs) 2 = some (bs w) := idx_nat (k := 2) (by rw [List.getElem?_map, hw]; rfl)
      have hg : (splitC 32 line).getD 2 [] = w := by rw [List.getD_eq_getElem?_getD, hw]; rfl
      have e0 : (!decide (((splitC 32 line).length : Int) = 4)) = false := by simp [e1]
      simp only [if_true, e0, Bool.false_eq_true, if_false, hw2, bsm, atoi_ok (show w.length ≤ 1000000 by have := hsw w (mem_get hw); omega)]
      rw [if_neg (fun hc : (splitC 32 line).length ≠ 4 => hc h4), hg]
    · have e1 : ¬ ((splitC 32 line).length : Int) = 4 := by omega
      have e0 : (!decide (((splitC 32 line).length : Int) = 4)) = true := by simp [e1]
      rw [if_pos h4]
      simp only [if_true, e0, bsm]
  | false =>
    have e1 : inK .i64 (((splitC 32 line).length : Int) - 1) = some (((splitC 32 line).length - 1 : Nat) : Int) := inK_at (by omega) ⟨by omega, by omega⟩
    have e2 : sub ((splitC 32 line).map bs) 0 (((splitC 32 line).length - 1 : Nat) : Int) = some ((splitC 32 line).dropLast.map bs) := by
      rw [sub_ok (by omega) (by omega) (by rw [List.length_map]; omega)]
      simp only [Int.toNat_natCast, Int.toNat_zero, List.drop_zero, List.dropLast_eq_take, List.map_take, List.length_map]
    have e3 := parse_words (ws := (splitC 32 line).dropLast) (fun w hw => by have := hsw w (List.dropLast_subset _ hw); omega) (by rw [List.length_dropLast]; omega)
    simp only [Bool.false_eq_true, if_false, e1, bsm, e2, e3, app_ok (show cs.length + [(splitC 32 line).dropLast.map atoiV].length ≤ 4294967296 by simp; omega)]
theorem itoa_mem {n : Int} : ∀ b ∈ itoa n, b ≠ 32 ∧ b ≠ 10 := by
  intro b hb
  have hd : ∀ u, b ∈ decDigits u → b ≠ 32 ∧ b ≠ 10 := fun u hu => by
    have := dd_digit u b hu
    refine ⟨fun e => ?_, fun e => ?_⟩
    · rw [e] at this; exact absurd this.1 (by decide)
    · rw [e] at this; exact absurd this.1 (by decide)
  unfold itoa at hb
  split at hb
  · rcases List.mem_cons.1 hb with rfl | hb
    · exact ⟨by decide, by decide⟩
    · exact hd _ hb
  · exact hd _ hb
theorem split_lits : ∀ (c : List Int) (r : List UInt8), splitC 32 (c.flatMap litL ++ r) = c.map itoa ++ splitC 32 r
  | [], r => rfl
  | l :: c, r => by
    rw [List.flatMap_cons, List.append_assoc]
    rw [show litL l ++ (c.flatMap litL ++ r) = itoa l ++ 32 :: (c.flatMap litL ++ r) by unfold litL; simp, splitC_app (fun hm => (itoa_mem _ hm).1 rfl), split_lits c r]
    rfl
theorem lits_no {c : List Int} : (10 : UInt8) ∉ c.flatMap litL := by
  intro h
  obtain ⟨l, _, hl⟩ := List.mem_flatMap.1 h
  unfold litL at hl
  rcases List.mem_append.1 hl with hl | hl
  · exact (itoa_mem _ hl).2 rfl
  · simp at hl
theorem pfold_next {σ ε : Type} {step : List UInt8 → σ → Step σ ε} {x r : List UInt8} {s s' : σ} {n : Nat} (hx : (10 : UInt8) ∉ x) (hn : (x ++ 10 :: r).length ≤ n) (hs : step x s = .next s') :
    ∃ m, r.length ≤ m ∧ pfold step n (x ++ 10 :: r) s = pfold step m r s' := by
  cases n with
  | zero => simp at hn
  | succ n =>
    refine ⟨n, by simp only [List.length_append, List.length_cons] at hn; omega, ?_⟩
    rw [pfold, if_neg (by simp), (preC_app hx).1, (preC_app hx).2, hs]
theorem pfold_nil {σ ε : Type} {step : List UInt8 → σ → Step σ ε} {s : σ} : ∀ {n : Nat}, pfold step n [] s = .next s
  | 0 => rfl
  | n + 1 => by rw [pfold, if_pos rfl]
def Wide (c : List Int) : Prop := ∀ l ∈ c, -1000000000000000000 ≤ l ∧ l ≤ 1000000000000000000
theorem map_back : ∀ {c : List Int}, Wide c → (c.map itoa).map atoiV = c
  | [], _ => rfl
  | l :: c, h => by
    rw [List.map_cons, List.map_cons, atoi_itoa (h l (List.mem_cons_self ..)), map_back fun m hm => h m (List.mem_cons_of_mem _ hm)]
theorem pfold_lines : ∀ (cs acc : List (List Int)) (v : Int) (n : Nat), (∀ c ∈ cs, Wide c) → (cs.flatMap lineL).length ≤ n → pfold pstep n (cs.flatMap lineL) (acc, false, v) = .next (acc ++ cs, false, v)
  | [], acc, v, n, _, _ => by rw [List.flatMap_nil, pfold_nil, List.append_nil]
  | c :: cs, acc, v, n, h, hn => by
    have e : (c :: cs).flatMap lineL = (c.flatMap litL ++ [48]) ++ 10 :: cs.flatMap lineL := by
      rw [List.flatMap_cons]; unfold lineL; simp
    have h10 : (10 : UInt8) ∉ c.flatMap litL ++ [48] := by
      intro hm
      rcases List.mem_append.1 hm with hm | hm
      · exact lits_no hm
      · simp at hm
    have hs : pstep (c.flatMap litL ++ [48]) (acc, false, v) = .next (acc ++ [c], false, v) := by
      unfold pstep
      rw [if_neg (by simp), split_lits, splitC_none (by decide)]
      simp only [List.dropLast_concat]
      rw [map_back (h c (List.mem_cons_self ..))]
    rw [e] at hn ⊢
    obtain ⟨m, hm, he⟩ := pfold_next h10 hn hs
    rw [he, pfold_lines cs (acc ++ [c]) v m (fun d hd => h d (List.mem_cons_of_mem _ hd)) hm]
    simp
theorem valid_wide {f : Formula} (hv : validB f = true) : ∀ c ∈ f.clauses, Wide c := fun c hc l hl => by
  have := valid_lit hv hc hl
  have := valid_bnd hv
  omega
theorem pfold_fmt {f : Formula} (hv : validB f = true) {n : Nat} (hn : (fmtL f).length ≤ n) : pfold pstep n (fmtL f) ([], true, 0) = .next (f.clauses, false, f.vars) := by
  have hb := valid_bnd hv
  have e : fmtL f = ([112, 32, 99, 110, 102, 32] ++ itoa f.vars ++ [32] ++ itoa (f.clauses.length : Int)) ++ 10 :: f.clauses.flatMap lineL := by
    unfold fmtL headL; simp
  have h10 : (10 : UInt8) ∉ ([112, 32, 99, 110, 102, 32] ++ itoa f.vars ++ [32] ++ itoa (f.clauses.length : Int)) := by
    intro hm
    simp only [List.mem_append] at hm
    rcases hm with ((hm | hm) | hm) | hm
    · revert hm; decide
    · exact (itoa_mem _ hm).2 rfl
    · revert hm; decide
    · exact (itoa_mem _ hm).2 rfl
  have hsp : splitC 32 ([112, 32, 99, 110, 102, 32] ++ itoa f.vars ++ [32] ++ itoa (f.clauses.length : Int)) = [[112], [99, 110, 102], itoa f.vars, itoa (f.clauses.length : Int)] := by
    have e1 : ([112, 32, 99, 110, 102, 32] ++ itoa f.vars ++ [32] ++ itoa (f.clauses.length : Int)) = [112] ++ 32 :: ([99, 110, 102] ++ 32 :: (itoa f.vars ++ 32 :: itoa (f.clauses.length : Int))) := by simp
    rw [e1, splitC_app (by decide), splitC_app (by decide), splitC_app (fun hm => (itoa_mem _ hm).1 rfl), splitC_none (fun hm => (itoa_mem _ hm).1 rfl)]
  have hs : pstep ([112, 32, 99, 110, 102, 32] ++ itoa f.vars ++ [32] ++ itoa (f.clauses.length : Int)) ([], true, 0) = .next ([], false, f.vars) := by
    unfold pstep
    rw [if_pos rfl, hsp, if_neg (by simp)]
    show Step.next (_, _, atoiV (itoa f.vars)) = _
    rw [atoi_itoa (by omega)]
  rw [e] at hn ⊢
  obtain ⟨m, hm, he⟩ := pfold_next h10 hn hs
  rw [he, pfold_lines f.clauses [] f.vars m (valid_wide hv) hm]
  rfl
theorem fmtL_ne (f : Formula) : fmtL f ≠ [] := by unfold fmtL headL; simp
def ParseSpec (l : List UInt8) (r : Formula × Int) : Prop :=
  (∃ f, validB f = true ∧ Fits f.clauses ∧ l = fmtL f ∧ r = (f, 0)) ∨ ((∀ f, validB f = true → Fits f.clauses → l ≠ fmtL f) ∧ r = (⟨0, []⟩, 3))
theorem fmtL_inj {f g : Formula} (hf : validB f = true) (hg : validB g = true) (h : fmtL f = fmtL g) : f = g := by
  have h1 := pfold_fmt hf (Nat.le_refl _)
  have h2 := pfold_fmt hg (Nat.le_refl _)
  rw [h, h2] at h1
  simp only [Step.next.injEq, Prod.mk.injEq] at h1
  obtain ⟨fv, fc⟩ := f
  obtain ⟨gv, gc⟩ := g
  simp only at h1
  rw [h1.1, h1.2.2]
theorem ParseSpec.eq {l : List UInt8} {r r' : Formula × Int} (h : ParseSpec l r) (h' : ParseSpec l r') : r = r' := by
  rcases h with ⟨f, hv, hf, rfl, rfl⟩ | ⟨h, rfl⟩
  · rcases h' with ⟨g, hv', hg, he, rfl⟩ | ⟨h', rfl⟩
    · rw [fmtL_inj hv hv' he]
    · exact absurd rfl (h' f hv hf)
  · rcases h' with ⟨g, hv', hg, rfl, rfl⟩ | ⟨h', rfl⟩
    · exact absurd rfl (h g hv' hg)
    · rfl
theorem ParseSpec.fmt {f : Formula} (hv : validB f = true) (hf : Fits f.clauses) : ParseSpec (fmtL f) (f, 0) := Or.inl ⟨f, hv, hf, rfl, rfl⟩
theorem pfold_inv {σ ε : Type} {step : List UInt8 → σ → Step σ ε} (I : σ → Nat → Prop) (hI : ∀ s n m, I s n → m ≤ n → I s m)
    (h : ∀ line s n, I s (n + 1) → line.length ≤ n + 1 → ∀ s', step line s = .next s' → I s' n) :
    ∀ (n : Nat) (l : List UInt8) (s s' : σ), l.length ≤ n → I s l.length → pfold step n l s = .next s' → I s' 0
  | 0, l, s, s', _, hi, he => by
    simp only [pfold, Step.next.injEq] at he
    subst he
    exact hI _ _ _ hi (Nat.zero_le _)
  | n + 1, l, s, s', hl, hi, he => by
    rw [pfold] at he
    by_cases h0 : l = []
    · rw [if_pos h0, Step.next.injEq] at he
      subst he
      exact hI _ _ _ hi (Nat.zero_le _)
    · rw [if_neg h0] at he
      cases hs : step (preC 10 l) s with
      | done r => rw [hs] at he; cases he
      | next t =>
        rw [hs] at he
        have hrl := rst_len (c := 10) h0
        obtain ⟨m, hm⟩ : ∃ m, l.length = m + 1 := ⟨l.length - 1, by omega⟩
        have h1 := h (preC 10 l) s m (by rw [← hm]; exact hi) (by rw [← hm]; exact pre_len _ _) t hs
        exact pfold_inv I hI h n (rstC 10 l) t s' (by omega) (hI _ _ _ h1 (by omega)) he
theorem pfold_done : ∀ (n : Nat) (l : List UInt8) (s : PS) (r : Formula × Int), pfold pstep n l s = .done r → r = (⟨0, []⟩, 3)
  | 0, l, s, r, h => by simp [pfold] at h
  | n + 1, l, s, r, h => by
    rw [pfold] at h
    by_cases h0 : l = []
    · rw [if_pos h0] at h; cases h
    · rw [if_neg h0] at h
      cases hs : pstep (preC 10 l) s with
      | next t => rw [hs] at h; exact pfold_done n _ t r h
      | done q =>
        rw [hs] at h
        simp only [Step.done.injEq] at h
        subst h
        unfold pstep at hs
        split at hs
        · split at hs
          · simp only [Step.done.injEq] at hs; exact hs.symm
          · cases hs
        · cases hs
def PInv (s : PS) (n : Nat) : Prop := s.1.length + n ≤ 10000 ∧ ∀ c ∈ s.1, c.length ≤ 10000
theorem PInv.step {line : List UInt8} {s s' : PS} {n : Nat} (h : PInv s (n + 1)) (hl : line.length ≤ n + 1) (hs : pstep line s = .next s') : PInv s' n := by
  obtain ⟨h1, h2⟩ := h
  unfold pstep at hs
  split at hs
  · split at hs
    · cases hs
    · simp only [Step.next.injEq] at hs
      subst hs
      exact ⟨by simp only; omega, h2⟩
  · simp only [Step.next.injEq] at hs
    subst hs
    refine ⟨by simp only [List.length_append, List.length_singleton]; omega, fun c hc => ?_⟩
    rcases List.mem_append.1 hc with hc | hc
    · exact h2 c hc
    · rw [List.mem_singleton] at hc
      subst hc
      have := splitC_len 32 line
      rw [List.length_map, List.length_dropLast]; omega
theorem cnf_parse {l : List UInt8} (hl : l.length ≤ 10000) : ∃ r, m_cnf_Parse (bs l) = some r ∧ ParseSpec l r := by
  have hI : ∀ (s : PS) (n m : Nat), PInv s n → m ≤ n → PInv s m := fun s n m h hm => ⟨by have := h.1; omega, h.2⟩
  have h0 : PInv (([], true, 0) : PS) l.length := ⟨by simp; omega, by simp⟩
  obtain ⟨b, hb, hb2⟩ := yield_loop (yf := fun x (s : PS) => m_cnf_Parse_lp1 x s.1 s.2.1 s.2.2) (step := pstep) PInv hI
    (fun line s n h hn => ⟨parse_round (by have := h.1; omega) (by have := h.1; omega), fun s' hs => h.step hn hs⟩) l.length l ([], true, 0) (Nat.le_refl _) (by omega) h0
  unfold m_cnf_Parse m_cnf_lines
  rw [bsm, hb, bsm, hb2]
  cases hp : pfold pstep l.length l ([], true, 0) with
  | done r =>
    refine ⟨r, rfl, Or.inr ⟨fun f hv hf e => ?_, pfold_done _ _ _ _ hp⟩⟩
    subst e
    rw [pfold_fmt hv (Nat.le_refl _)] at hp
    cases hp
  | next s =>
    obtain ⟨cs, fst, v⟩ := s
    have hinv := pfold_inv PInv hI (fun line s n h hn s' hs => h.step hn hs) l.length l _ _ (Nat.le_refl _) h0 hp
    have hfit : Fits (Formula.mk v cs).clauses := ⟨by have := hinv.1; simp only at *; omega, hinv.2⟩
    simp only
    by_cases hnil : l = []
    · have : bs l = ByteArray.mk #[] := bs_nil.2 hnil
      refine ⟨(⟨0, []⟩, 3), by rw [if_pos (by simpa using this)]; rfl, Or.inr ⟨fun f _ _ e => ?_, rfl⟩⟩
      exact fmtL_ne f (e.symm.trans hnil)
    · have hne : ¬ (decide (bs l = ByteArray.mk #[])) = true := by
        rw [decide_eq_true_eq]; exact fun e => hnil (bs_nil.1 e)
      rw [if_neg hne, cnf_format hfit, bsm, bsm]
      by_cases he : fmtB ⟨v, cs⟩ = bs l
      · rw [if_neg (by simp [he])]
        unfold fmtB at he
        by_cases hv : validB ⟨v, cs⟩ = true
        · rw [if_pos hv] at he
          exact ⟨_, rfl, Or.inl ⟨⟨v, cs⟩, hv, hfit, (bs_inj he).symm, rfl⟩⟩
        · rw [if_neg hv] at he
          exact absurd (bs_inj he).symm hnil
      · rw [if_pos (by simp [he])]
        refine ⟨_, rfl, Or.inr ⟨fun f hv hf e => he ?_, rfl⟩⟩
        subst e
        rw [pfold_fmt hv (Nat.le_refl _)] at hp
        simp only [Step.next.injEq, Prod.mk.injEq] at hp
        obtain ⟨rfl, rfl, rfl⟩ := hp
        unfold fmtB
        rw [if_pos hv]
end Go.Proofs.YtelioaepnpnojaaGreatDoor

/- The reference's Parse: it reads what Format writes, and nothing else. -/
set_option linter.unusedVariables false
set_option linter.unusedSimpArgs false
namespace Go.Proofs.YtelioaepnpnojaaGreatDoor
open Go.RowKit Go.Lib
def dig (b : UInt8) : Prop := 48 ≤ b.toNat ∧ b.toNat ≤ 57
def NoDig (r : List UInt8) : Prop := ∀ b r', r = b :: r' → ¬ dig b
theorem dig_ex : ∀ (n : Nat) (l : List UInt8), ∃ d r, l = d ++ r ∧ d.length ≤ n ∧ (∀ b ∈ d, dig b) ∧ (d.length = n ∨ NoDig r)
  | 0, l => ⟨[], l, rfl, Nat.le_refl _, by simp, Or.inl rfl⟩
  | n + 1, [] => ⟨[], [], rfl, by simp, by simp, Or.inr (by intro b r' h; cases h)⟩
  | n + 1, b :: l => by
    by_cases hb : dig b
    · obtain ⟨d, r, h1, h2, h3, h4⟩ := dig_ex n l
      refine ⟨b :: d, r, by rw [h1]; rfl, by simp; omega, ?_, ?_⟩
      · intro c hc
        rcases List.mem_cons.1 hc with rfl | hc
        · exact hb
        · exact h3 c hc
      · rcases h4 with h4 | h4
        · exact Or.inl (by simp; omega)
        · exact Or.inr h4
    · exact ⟨[], b :: l, rfl, by simp, by simp, Or.inr (by
        intro c r' h
        simp only [List.cons.injEq] at h
        rw [← h.1]; exact hb)⟩
theorem dd_len9 {u : Nat} (h : u ≤ 999999999) : (decDigits u).length ≤ 9 := dd_len 8 u (by omega)
theorem val_lt : ∀ (d : List UInt8) (a : Nat), (∀ b ∈ d, dig b) → valD a d < (a + 1) * 10 ^ d.length
  | [], a, _ => by simp [valD]
  | b :: d, a, h => by
    have hb := h b (List.mem_cons_self ..)
    have := val_lt d (10 * a + (b.toNat - 48)) fun c hc => h c (List.mem_cons_of_mem _ hc)
    show valD (10 * a + (b.toNat - 48)) d < _
    unfold dig at hb
    have h2 : (10 * a + (b.toNat - 48) + 1) * 10 ^ d.length ≤ (10 * (a + 1)) * 10 ^ d.length := Nat.mul_le_mul_right _ (by omega)
    rw [List.length_cons, Nat.pow_succ]
    rw [Nat.mul_comm (10 ^ d.length) 10, ← Nat.mul_assoc, Nat.mul_comm (a + 1) 10]
    omega
theorem val9 {d : List UInt8} (hd : ∀ b ∈ d, dig b) (hl : d.length ≤ 9) : valD 0 d ≤ 999999999 := by
  have h1 := val_lt d 0 hd
  have h2 : 10 ^ d.length ≤ 10 ^ 9 := Nat.pow_le_pow_right (by omega) hl
  omega
theorem valD_take {d : List UInt8} {k : Nat} {b : UInt8} (h : d[k]? = some b) : valD 0 (d.take (k + 1)) = 10 * valD 0 (d.take k) + (b.toNat - 48) := by
  rw [take_snoc_of h]; unfold valD; rw [List.foldl_append]; rfl
theorem u8_sub {b : Int} (h : 48 ≤ b ∧ b ≤ 57) : IntKind.wrap .u8 (b - 48) = b - 48 := by
  rw [IntKind.wrap_u8]; omega
theorem int_loop {l d r : List UInt8} {j : Nat} (hl : l.length ≤ 10000) (e : l.drop j = d ++ r) (hj : j ≤ l.length) (h9 : d.length ≤ 9) (hd : ∀ b ∈ d, dig b) (hr : d.length = 9 ∨ NoDig r) :
    loopM (fun s : Int × Int => m_assessorref26_integer_lp1 (bs l) (j : Int) s.1 s.2) (0, (j : Int)) = some ((valD 0 d : Int), ((j + d.length : Nat) : Int)) := by
  have hlen : l.length = j + d.length + r.length := by
    have := congrArg List.length e
    simp only [List.length_drop, List.length_append] at this; omega
  have hget : ∀ k, l[j + k]? = (d ++ r)[k]? := fun k => by rw [← e, List.getElem?_drop]
  have h : ∃ b, loopM (fun s : Int × Int => m_assessorref26_integer_lp1 (bs l) (j : Int) s.1 s.2) (0, (j : Int)) = some b ∧ b = ((valD 0 d : Int), ((j + d.length : Nat) : Int)) := by
    refine loopN (body := fun s : Int × Int => m_assessorref26_integer_lp1 (bs l) (j : Int) s.1 s.2) d.length (fun k (t : Nat) => ((t : Int), ((j + k : Nat) : Int))) (fun k t => t = valD 0 (d.take k)) _ (t0 := 0) rfl rfl ?_ ?_
    · rintro k t hk rfl
      obtain ⟨b, hb⟩ := get_of_lt hk
      have hdb := hd b (mem_get hb)
      unfold dig at hdb
      have hg : sidx (bs l) ((j + k : Nat) : Int) = some (b.toNat : Int) := sidx_bs (by rw [hget, List.getElem?_append_left hk, hb])
      have c1 : (decide (((j + k : Nat) : Int) < ((bs l).size : Int))) = true := by rw [bs_size, decide_eq_true_eq]; omega
      have c2 : inK .i64 ((j : Int) + 9) = some ((j : Int) + 9) := inK_eq ⟨by omega, by omega⟩
      have c3 : (decide (((j + k : Nat) : Int) < (j : Int) + 9)) = true := by rw [decide_eq_true_eq]; omega
      have c4 : (decide ((48 : Int) ≤ (b.toNat : Int))) = true := by rw [decide_eq_true_eq]; omega
      have c5 : (decide ((b.toNat : Int) ≤ 57)) = true := by rw [decide_eq_true_eq]; omega
      have hv : valD 0 (d.take k) ≤ 999999999 := val9 (fun c hc => hd c (List.mem_of_mem_take hc)) (by rw [List.length_take]; omega)
      have hv' := valD_take hb
      have c6 : inK .i64 (10 * (valD 0 (d.take k) : Int)) = some (10 * (valD 0 (d.take k) : Int)) := inK_eq ⟨by omega, by omega⟩
      have c7 : inK .i64 (IntKind.wrap .u8 ((b.toNat : Int) - 48)) = some ((b.toNat : Int) - 48) := by rw [u8_sub ⟨by omega, by omega⟩]; exact inK_eq ⟨by omega, by omega⟩
      have c8 : inK .i64 (10 * (valD 0 (d.take k) : Int) + ((b.toNat : Int) - 48)) = some (valD 0 (d.take (k + 1)) : Int) := inK_at (by omega) ⟨by omega, by omega⟩
      have c9 : inK .i64 (((j + k : Nat) : Int) + 1) = some ((j + (k + 1) : Nat) : Int) := inK_at (by omega) ⟨by omega, by omega⟩
      exact Or.inl ⟨_, by simp only [m_assessorref26_integer_lp1, c1, c2, c3, c4, c5, hg, c6, c7, c8, c9, bsm, if_true], rfl⟩
    · rintro t rfl
      rw [List.take_length]
      refine ⟨_, ?_, rfl⟩
      have c2 : inK .i64 ((j : Int) + 9) = some ((j : Int) + 9) := inK_eq ⟨by omega, by omega⟩
      by_cases c1 : (decide (((j + d.length : Nat) : Int) < ((bs l).size : Int))) = true
      · by_cases c3 : (decide (((j + d.length : Nat) : Int) < (j : Int) + 9)) = true
        · rw [bs_size, decide_eq_true_eq] at c1
          have c1' : (decide (((j + d.length : Nat) : Int) < ((bs l).size : Int))) = true := by rw [bs_size, decide_eq_true_eq]; exact c1
          have c3' := c3
          rw [decide_eq_true_eq] at c3'
          cases r with
          | nil => simp only [List.length_nil] at hlen; omega
          | cons b r =>
            have hnb : ¬ dig b := by
              rcases hr with hr | hr
              · omega
              · exact hr b r rfl
            have hg : sidx (bs l) ((j + d.length : Nat) : Int) = some (b.toNat : Int) := sidx_bs (by rw [hget, List.getElem?_append_right (Nat.le_refl _), Nat.sub_self]; rfl)
            unfold dig at hnb
            by_cases c4 : (48 : Int) ≤ (b.toNat : Int)
            · have c5 : ¬ (b.toNat : Int) ≤ 57 := by omega
              simp only [m_assessorref26_integer_lp1, c1', c2, c3, c4, c5, hg, bsm, if_true, decide_true, decide_false, Bool.false_eq_true, if_false]
            · simp only [m_assessorref26_integer_lp1, c1', c2, c3, c4, hg, bsm, if_true, decide_false, Bool.false_eq_true, if_false]
        · simp only [m_assessorref26_integer_lp1, c1, c2, c3, bsm, if_true, Bool.false_eq_true, if_false]
      · simp only [m_assessorref26_integer_lp1, c1, bsm, if_true, Bool.false_eq_true, if_false]
  obtain ⟨b, hb, rfl⟩ := h
  exact hb
theorem int_core {sg d r : List UInt8} (hs : sg = [45] ∨ (sg = [] ∧ ∀ b r', d ++ r = b :: r' → b ≠ 45)) (hl : (sg ++ (d ++ r)).length ≤ 10000) (h9 : d.length ≤ 9) (hd : ∀ b ∈ d, dig b) (hr : d.length = 9 ∨ NoDig r) :
    m_assessorref26_integer (bs (sg ++ (d ++ r))) = some (if d = [] ∨ itoa (if sg = [45] then -(valD 0 d : Int) else (valD 0 d : Int)) ≠ sg ++ d then (0, 0) else (if sg = [45] then -(valD 0 d : Int) else (valD 0 d : Int), ((sg ++ d).length : Int))) := by
  have hv := val9 hd h9
  have hlen : (sg ++ (d ++ r)).length = sg.length + d.length + r.length := by simp only [List.length_append]; omega
  have hm1 : ((if (decide (0 < ((bs (sg ++ (d ++ r))).size : Int))) = true then (sidx (bs (sg ++ (d ++ r))) 0).bind fun x1 => some (decide (x1 = 45)) else some false) : Option Bool) = some (decide (sg = [45])) := by
    rcases hs with rfl | ⟨rfl, hs⟩
    · rw [if_pos (by rw [bs_size, decide_eq_true_eq]; simp; omega), show sidx (bs ([45] ++ (d ++ r))) 0 = some 45 from sidx_bs (l := [45] ++ (d ++ r)) (i := 0) (b := 45) rfl, bsm]; rfl
    · cases hdr : d ++ r with
      | nil => rfl
      | cons b r' =>
        rw [List.nil_append, if_pos (by rw [bs_size, decide_eq_true_eq]; simp), show sidx (bs (b :: r')) 0 = some (b.toNat : Int) from sidx_bs (l := b :: r') (i := 0) (b := b) rfl, bsm]
        have hb := hs b r' hdr
        have : ¬ ((b.toNat : Int) = 45) := fun e => hb (UInt8.toNat_inj.1 (by show b.toNat = 45; omega))
        simp [this]
  have hj : ((if (decide (sg = [45])) = true then some 1 else some 0) : Option Int) = some (sg.length : Int) := by
    rcases hs with rfl | ⟨rfl, hs⟩ <;> rfl
  have hj1 : (decide ((sg.length : Int) = 1)) = decide (sg = [45]) := by
    rcases hs with rfl | ⟨rfl, hs⟩ <;> rfl
  unfold m_assessorref26_integer
  rw [hm1, bsm, hj, bsm, int_loop hl (j := sg.length) (by simp) (by simp) h9 hd hr, bsm, hj1]
  have hj2 : ((if (decide (sg = [45])) = true then (inK .i64 (0 - (valD 0 d : Int))).bind fun x10 => some x10 else some (valD 0 d : Int)) : Option Int) = some (if sg = [45] then -(valD 0 d : Int) else (valD 0 d : Int)) := by
    rcases hs with rfl | ⟨rfl, hs⟩
    · rw [if_pos (by decide), if_pos rfl, inK_at (show 0 - (valD 0 d : Int) = -(valD 0 d : Int) by omega) ⟨by omega, by omega⟩, bsm]
    · rw [if_neg (by decide), if_neg (by decide)]
  simp only at hj2 ⊢
  rw [hj2, bsm]
  generalize hvv : (if sg = [45] then -(valD 0 d : Int) else (valD 0 d : Int)) = v
  have hvb : -9223372036854775808 ≤ v ∧ v ≤ 9223372036854775807 := by
    rw [← hvv]; split <;> omega
  by_cases h0 : d = []
  · subst h0
    rw [if_pos (by simp), bsm, if_pos rfl, if_pos (Or.inl rfl)]
  · have hd0 := List.length_pos_iff.2 h0
    rw [if_neg (by rw [decide_eq_true_eq]; omega), decimal_ok hvb, bsm]
    have hss : ssub (bs (sg ++ (d ++ r))) 0 ((sg.length + d.length : Nat) : Int) = some (bs (sg ++ d)) := by
      have := ssub_bs (l := sg ++ (d ++ r)) (i := 0) (j := sg.length + d.length) (by omega) (by omega)
      rw [show ((0 : Nat) : Int) = 0 from rfl] at this
      rw [this, List.drop_zero, ← List.append_assoc, List.take_left' (by simp)]
    rw [hss, bsm, bsm]
    by_cases he : itoa v = sg ++ d
    · rw [if_neg (by simp [he]), if_neg (by rintro (h | h); exact h0 h; exact h he), List.length_append]
    · rw [if_pos (by simp; exact fun e => he (bs_inj e)), if_pos (Or.inr he)]
def Sm (v : Int) : Prop := -999999999 ≤ v ∧ v ≤ 999999999
theorem ref_integer {l : List UInt8} (hl : l.length ≤ 10000) : ∃ (v : Int) (n : Nat), m_assessorref26_integer (bs l) = some (v, (n : Int)) ∧ (n = 0 ∨ (0 < n ∧ n = (itoa v).length ∧ Sm v ∧ ∃ r, l = itoa v ++ r)) ∧
    ∀ v' r, l = itoa v' ++ r → Sm v' → NoDig r → v = v' ∧ n = (itoa v').length := by
  have hcomp : ∀ v' r, l = itoa v' ++ r → Sm v' → NoDig r → m_assessorref26_integer (bs l) = some (v', ((itoa v').length : Int)) := by
    intro v' r e hs hr
    unfold Sm at hs
    by_cases h0 : v' < 0
    · have hit : itoa v' = [45] ++ decDigits v'.natAbs := by unfold itoa; rw [if_pos h0]; rfl
      rw [hit, List.append_assoc] at e
      subst e
      have := int_core (sg := [45]) (d := decDigits v'.natAbs) (r := r) (Or.inl rfl) hl (dd_len9 (by omega)) (dd_digit _) (Or.inr hr)
      rw [this, dd_val, if_pos rfl, show -((v'.natAbs : Nat) : Int) = v' by omega, hit, if_neg (by rintro (h | h); exact dd_ne _ h; exact h rfl)]
    · have hit : itoa v' = decDigits v'.toNat := by unfold itoa; rw [if_neg h0]
      rw [hit] at e
      subst e
      obtain ⟨b, q, hb, hb1, hb2⟩ := dd_cons v'.toNat
      have := int_core (sg := []) (d := decDigits v'.toNat) (r := r) (Or.inr ⟨rfl, by
        intro b' r' h e
        rw [hb, List.cons_append, List.cons.injEq] at h
        rw [h.1, e] at hb1
        exact absurd hb1 (by decide)⟩) hl (dd_len9 (by omega)) (dd_digit _) (Or.inr hr)
      rw [List.nil_append] at this
      rw [this, dd_val, if_neg (show ¬ (([] : List UInt8) = [45]) by decide), show ((v'.toNat : Nat) : Int) = v' by omega, hit, List.nil_append, if_neg (by rintro (h | h); exact dd_ne _ h; exact h rfl)]
  have hex : ∃ sg d r, l = sg ++ (d ++ r) ∧ (sg = [45] ∨ (sg = [] ∧ ∀ b r', d ++ r = b :: r' → b ≠ 45)) ∧ d.length ≤ 9 ∧ (∀ b ∈ d, dig b) ∧ (d.length = 9 ∨ NoDig r) := by
    by_cases h45 : ∃ r, l = 45 :: r
    · obtain ⟨r, rfl⟩ := h45
      obtain ⟨d, r', h1, h2, h3, h4⟩ := dig_ex 9 r
      exact ⟨[45], d, r', by rw [h1]; rfl, Or.inl rfl, h2, h3, h4⟩
    · obtain ⟨d, r', h1, h2, h3, h4⟩ := dig_ex 9 l
      exact ⟨[], d, r', h1, Or.inr ⟨rfl, fun b r'' h e => h45 ⟨r'', by rw [h1, h, e]⟩⟩, h2, h3, h4⟩
  have hsound : ∃ (v : Int) (n : Nat), m_assessorref26_integer (bs l) = some (v, (n : Int)) ∧ (n = 0 ∨ (0 < n ∧ n = (itoa v).length ∧ Sm v ∧ ∃ r, l = itoa v ++ r)) := by
    obtain ⟨sg, d, r, rfl, hs, h9, hd, hr⟩ := hex
    have := int_core hs hl h9 hd hr
    have hv := val9 hd h9
    generalize hvv : (if sg = [45] then -(valD 0 d : Int) else (valD 0 d : Int)) = v at this
    have hsm : Sm v := by rw [← hvv]; unfold Sm; split <;> omega
    by_cases hc : d = [] ∨ itoa v ≠ sg ++ d
    · rw [if_pos hc] at this
      exact ⟨0, 0, this, Or.inl rfl⟩
    · rw [if_neg hc] at this
      have he : itoa v = sg ++ d := Classical.byContradiction fun h => hc (Or.inr h)
      have h0 : d ≠ [] := fun h => hc (Or.inl h)
      have := List.length_pos_iff.2 h0
      exact ⟨v, (sg ++ d).length, by assumption, Or.inr ⟨by rw [List.length_append]; omega, by rw [he], hsm, r, by rw [he, List.append_assoc]⟩⟩
  obtain ⟨v, n, h1, h2⟩ := hsound
  refine ⟨v, n, h1, h2, fun v' r e hs hr => ?_⟩
  have := hcomp v' r e hs hr
  rw [h1] at this
  simp only [Option.some.injEq, Prod.mk.injEq] at this
  exact ⟨this.1, by omega⟩
def NL (c : List Int) : Prop := ∀ l ∈ c, Sm l ∧ l ≠ 0
theorem itoa_zero : itoa 0 = [48] := by unfold itoa; rw [if_neg (by decide), show (0 : Int).toNat = 0 from rfl, dd_small (by decide)]; rfl
theorem lineL_nil (r : List UInt8) : lineL [] ++ r = itoa 0 ++ 10 :: r := by rw [itoa_zero]; rfl
theorem lineL_cons (l : Int) (c : List Int) (r : List UInt8) : lineL (l :: c) ++ r = itoa l ++ 32 :: (lineL c ++ r) := by
  unfold lineL litL; simp
theorem itoa_pos (v : Int) : 0 < (itoa v).length := by
  unfold itoa
  split
  · simp
  · exact List.length_pos_iff.2 (dd_ne _)
theorem nodig32 (r : List UInt8) : NoDig (32 :: r) := by
  intro b r' h
  rw [List.cons.injEq] at h
  rw [← h.1]; unfold dig; decide
theorem nodig10 (r : List UInt8) : NoDig (10 :: r) := by
  intro b r' h
  rw [List.cons.injEq] at h
  rw [← h.1]; unfold dig; decide
theorem sm_zero : Sm 0 := by unfold Sm; omega
theorem sub_rest (pre rest : List UInt8) : ssub (bs (pre ++ rest)) (pre.length : Int) ((bs (pre ++ rest)).size : Int) = some (bs rest) := by
  rw [bs_size, ssub_bs (by simp) (Nat.le_refl _), List.take_length, List.drop_left]
theorem at_rest (pre : List UInt8) (b : UInt8) (rest : List UInt8) : sidx (bs (pre ++ b :: rest)) (pre.length : Int) = some (b.toNat : Int) := by
  refine sidx_bs ?_
  rw [List.getElem?_append_right (Nat.le_refl _), Nat.sub_self]; rfl
theorem u8_ne {b c : UInt8} (h : b ≠ c) : ¬ ((b.toNat : Int) = (c.toNat : Int)) := fun e => h (UInt8.toNat_inj.1 (by omega))
theorem readline_loop : ∀ (n : Nat) (pre rest : List UInt8) (acc : List Int), rest.length ≤ n → (pre ++ rest).length ≤ 10000 → acc.length ≤ pre.length →
    ∃ o, loopM (fun s : Int × List Int => m_assessorref26_ReadLine_lp1 (bs (pre ++ rest)) s.1 s.2) ((pre.length : Int), acc) = some o ∧
      ((∃ c r, NL c ∧ rest = lineL c ++ r ∧ o = .ret (acc ++ c, ((pre.length + (lineL c).length : Nat) : Int))) ∨ ((o = .ret ([], 0) ∨ ∃ x, o = .brk x) ∧ ∀ c r, NL c → rest ≠ lineL c ++ r)) := by
  intro n
  induction n with
  | zero =>
    intro pre rest acc hn hl ha
    have : rest = [] := List.eq_nil_of_length_eq_zero (by omega)
    subst this
    refine ⟨.brk acc, loopM_done ?_, Or.inr ⟨Or.inr ⟨_, rfl⟩, fun c r _ e => ?_⟩⟩
    · have : ¬ (decide ((pre.length : Int) < ((bs (pre ++ [])).size : Int))) = true := by rw [bs_size, decide_eq_true_eq]; simp
      simp only [m_assessorref26_ReadLine_lp1, this, Bool.false_eq_true, if_false]
    · have := congrArg List.length e
      unfold lineL at this; simp at this
  | succ n ih =>
    intro pre rest acc hn hl ha
    by_cases h0 : rest = []
    · subst h0
      refine ⟨.brk acc, loopM_done ?_, Or.inr ⟨Or.inr ⟨_, rfl⟩, fun c r _ e => ?_⟩⟩
      · have : ¬ (decide ((pre.length : Int) < ((bs (pre ++ [])).size : Int))) = true := by rw [bs_size, decide_eq_true_eq]; simp
        simp only [m_assessorref26_ReadLine_lp1, this, Bool.false_eq_true, if_false]
      · have := congrArg List.length e
        unfold lineL at this; simp at this
    · have hpos := List.length_pos_iff.2 h0
      have hlen : (pre ++ rest).length = pre.length + rest.length := List.length_append
      have c1 : (decide ((pre.length : Int) < ((bs (pre ++ rest)).size : Int))) = true := by rw [bs_size, decide_eq_true_eq]; omega
      obtain ⟨v, k, hint, hs, hc⟩ := ref_integer (l := rest) (by omega)
      have H0 : ∀ r, rest = lineL [] ++ r → v = 0 ∧ k = 1 := fun r e => by
        have := hc 0 (10 :: r) (by rw [e, lineL_nil]) sm_zero (nodig10 r)
        rw [itoa_zero] at this; exact this
      have H1 : ∀ l c r, NL (l :: c) → rest = lineL (l :: c) ++ r → v = l ∧ k = (itoa l).length := fun l c r hnl e =>
        hc l (32 :: (lineL c ++ r)) (by rw [e, lineL_cons]) (hnl l (List.mem_cons_self ..)).1 (nodig32 _)
      rcases hs with hk | ⟨hk, hkl, hsm, r1, hr1⟩
      · subst hk
        refine ⟨.ret ([], 0), loopM_done ?_, Or.inr ⟨Or.inl rfl, fun c r hnl e => ?_⟩⟩
        · simp only [m_assessorref26_ReadLine_lp1, c1, if_true, sub_rest, hint, bsm, Int.natCast_zero, decide_true]
        · cases c with
          | nil => have := (H0 r e).2; omega
          | cons l c => have := (H1 l c r hnl e).2; have := itoa_pos l; omega
      · have hk0 : ¬ (decide ((k : Int) = 0)) = true := by rw [decide_eq_true_eq]; omega
        have hrl : rest.length = k + r1.length := by rw [hr1, List.length_append, ← hkl]
        have c2 : inK .i64 ((pre.length : Int) + (k : Int)) = some ((pre.length + k : Nat) : Int) := inK_at (by omega) ⟨by omega, by omega⟩
        have c3 : inK .i64 (((pre.length + k : Nat) : Int) + 1) = some ((pre.length + k + 1 : Nat) : Int) := inK_at (by omega) ⟨by omega, by omega⟩
        have hpl : (pre ++ itoa v).length = pre.length + k := by rw [List.length_append, ← hkl]
        have hat : ∀ b r2, r1 = b :: r2 → sidx (bs (pre ++ rest)) ((pre.length + k : Nat) : Int) = some (b.toNat : Int) := fun b r2 e => by
          have := at_rest (pre ++ itoa v) b r2
          rw [hpl, List.append_assoc, ← e, ← hr1] at this
          exact this
        by_cases hv : v = 0
        · have hv0 : (decide (v = 0)) = true := by rw [decide_eq_true_eq]; exact hv
          by_cases h10 : ∃ r2, r1 = 10 :: r2
          · obtain ⟨r2, hr2⟩ := h10
            have c4 : (decide (((pre.length + k : Nat) : Int) < ((bs (pre ++ rest)).size : Int))) = true := by
              rw [bs_size, decide_eq_true_eq, hlen, hrl, hr2]; simp only [List.length_cons]; omega
            have hr3 : rest = lineL [] ++ r2 := by rw [lineL_nil, ← hv, ← hr2, ← hr1]
            have hk1 := (H0 r2 hr3).2
            refine ⟨_, loopM_done (b := .ret (acc, ((pre.length + k + 1 : Nat) : Int))) ?_, Or.inl ⟨[], r2, by intro l hl; simp at hl, hr3, ?_⟩⟩
            · simp only [m_assessorref26_ReadLine_lp1, c1, if_true, sub_rest, hint, bsm, hk0, Bool.false_eq_true, if_false, c2, hv0, c4, hat 10 r2 hr2, show ((10 : UInt8).toNat : Int) = 10 from rfl, decide_true, c3]
            · rw [List.append_nil, hk1]; rfl
          · refine ⟨.ret ([], 0), loopM_done ?_, Or.inr ⟨Or.inl rfl, fun c r hnl e => ?_⟩⟩
            · cases hr : r1 with
              | nil =>
                have c4 : ¬ (decide (((pre.length + k : Nat) : Int) < ((bs (pre ++ rest)).size : Int))) = true := by
                  rw [bs_size, decide_eq_true_eq, hlen, hrl, hr]; simp only [List.length_cons, List.length_nil]; omega
                simp only [m_assessorref26_ReadLine_lp1, c1, if_true, sub_rest, hint, bsm, hk0, Bool.false_eq_true, if_false, c2, hv0, c4]
              | cons b r2 =>
                have c4 : (decide (((pre.length + k : Nat) : Int) < ((bs (pre ++ rest)).size : Int))) = true := by
                  rw [bs_size, decide_eq_true_eq, hlen, hrl, hr]; simp only [List.length_cons, List.length_nil]; omega
                have hb : b ≠ 10 := fun e => h10 ⟨r2, by rw [hr, e]⟩
                have c5 : ¬ (decide ((b.toNat : Int) = 10)) = true := by rw [decide_eq_true_eq]; exact u8_ne hb
                simp only [m_assessorref26_ReadLine_lp1, c1, if_true, sub_rest, hint, bsm, hk0, Bool.false_eq_true, if_false, c2, hv0, c4, hat b r2 hr, c5]
            · cases c with
              | nil =>
                rw [lineL_nil, hr1, hv] at e
                exact h10 ⟨r, List.append_cancel_left e⟩
              | cons l c => exact (hnl l (List.mem_cons_self ..)).2 ((H1 l c r hnl e).1.symm.trans hv)
        · have hv0 : ¬ (decide (v = 0)) = true := by rw [decide_eq_true_eq]; exact hv
          by_cases h32 : ∃ r2, r1 = 32 :: r2
          · obtain ⟨r2, hr2⟩ := h32
            have c4 : ¬ (decide (((bs (pre ++ rest)).size : Int) ≤ ((pre.length + k : Nat) : Int))) = true := by
              rw [bs_size, decide_eq_true_eq, hlen, hrl, hr2]; simp only [List.length_cons]; omega
            have hr3 : rest = (itoa v ++ [32]) ++ r2 := by rw [hr1, hr2]; simp
            have hpl2 : (pre ++ (itoa v ++ [32])).length = pre.length + k + 1 := by simp only [List.length_append, List.length_singleton]; omega
            have hpr : pre ++ rest = (pre ++ (itoa v ++ [32])) ++ r2 := by rw [hr3]; simp
            have happ : app acc [v] = some (acc ++ [v]) := app_ok (by simp only [List.length_singleton]; omega)
            have hr2l : r2.length + k + 1 = rest.length := by rw [hrl, hr2, List.length_cons]; omega
            obtain ⟨o, ho, hcase⟩ := ih (pre ++ (itoa v ++ [32])) r2 (acc ++ [v]) (by omega) (by rw [← hpr]; exact hl) (by rw [hpl2]; simp only [List.length_append, List.length_singleton]; omega)
            rw [← hpr, hpl2] at ho
            refine ⟨o, ?_, ?_⟩
            · rw [loopM_next (body := fun s : Int × List Int => m_assessorref26_ReadLine_lp1 (bs (pre ++ rest)) s.1 s.2) (s := ((pre.length : Int), acc)) (s' := (((pre.length + k + 1 : Nat) : Int), acc ++ [v])) ?_]
              · exact ho
              · simp only [m_assessorref26_ReadLine_lp1, c1, if_true, sub_rest, hint, bsm, hk0, Bool.false_eq_true, if_false, c2, hv0, c4, hat 32 r2 hr2, show ((32 : UInt8).toNat : Int) = 32 from rfl, decide_true, Bool.not_true, c3, happ]
            · rcases hcase with ⟨c, r, hnl, hr, rfl⟩ | ⟨hbad, hno⟩
              · refine Or.inl ⟨v :: c, r, ?_, ?_, ?_⟩
                · intro l hl
                  rcases List.mem_cons.1 hl with rfl | hl
                  · exact ⟨hsm, hv⟩
                  · exact hnl l hl
                · rw [lineL_cons, ← hr, ← hr2, ← hr1]
                · have : (lineL (v :: c)).length = k + 1 + (lineL c).length := by
                    have := lineL_cons v c []
                    simp only [List.append_nil] at this
                    rw [this]; simp only [List.length_append, List.length_cons]; omega
                  rw [this, hpl2, show pre.length + k + 1 + (lineL c).length = pre.length + (k + 1 + (lineL c).length) by omega, List.append_assoc]; rfl
              · refine Or.inr ⟨hbad, fun c r hnl e => ?_⟩
                cases c with
                | nil => exact hv (H0 r e).1
                | cons l c =>
                  have h1 := (H1 l c r hnl e).1
                  rw [lineL_cons, hr1, ← h1, hr2] at e
                  have := List.append_cancel_left e
                  rw [List.cons.injEq] at this
                  exact hno c r (fun m hm => hnl m (List.mem_cons_of_mem _ hm)) this.2
          · refine ⟨.ret ([], 0), loopM_done ?_, Or.inr ⟨Or.inl rfl, fun c r hnl e => ?_⟩⟩
            · cases hr : r1 with
              | nil =>
                have c4 : (decide (((bs (pre ++ rest)).size : Int) ≤ ((pre.length + k : Nat) : Int))) = true := by
                  rw [bs_size, decide_eq_true_eq, hlen, hrl, hr]; simp only [List.length_nil]; omega
                simp only [m_assessorref26_ReadLine_lp1, c1, if_true, sub_rest, hint, bsm, hk0, Bool.false_eq_true, if_false, c2, hv0, c4]
              | cons b r2 =>
                have c4 : ¬ (decide (((bs (pre ++ rest)).size : Int) ≤ ((pre.length + k : Nat) : Int))) = true := by
                  rw [bs_size, decide_eq_true_eq, hlen, hrl, hr]; simp only [List.length_cons]; omega
                have hb : b ≠ 32 := fun e => h32 ⟨r2, by rw [hr, e]⟩
                have c5 : ¬ ((b.toNat : Int) = 32) := u8_ne hb
                simp only [m_assessorref26_ReadLine_lp1, c1, if_true, sub_rest, hint, bsm, hk0, Bool.false_eq_true, if_false, c2, hv0, c4, hat b r2 hr, c5, decide_false, Bool.not_false]
            · cases c with
              | nil => exact hv (H0 r e).1
              | cons l c =>
                have h1 := (H1 l c r hnl e).1
                rw [lineL_cons, hr1, ← h1] at e
                exact h32 ⟨_, List.append_cancel_left e⟩
theorem ref_readline {l : List UInt8} (hl : l.length ≤ 10000) : ∃ c n, m_assessorref26_ReadLine (bs l) = some (c, n) ∧
    ((∃ r, NL c ∧ l = lineL c ++ r ∧ n = ((lineL c).length : Int)) ∨ (n = 0 ∧ ∀ c r, NL c → l ≠ lineL c ++ r)) := by
  obtain ⟨o, ho, hc⟩ := readline_loop l.length [] l [] (Nat.le_refl _) (by simpa using hl) (Nat.le_refl _)
  unfold m_assessorref26_ReadLine
  rw [List.nil_append, show ((([] : List UInt8).length : Nat) : Int) = 0 from rfl] at ho
  rw [ho, bsm]
  rcases hc with ⟨c, r, h1, h2, rfl⟩ | ⟨hb, hno⟩
  · exact ⟨c, _, rfl, Or.inl ⟨r, h1, h2, by simp⟩⟩
  · rcases hb with rfl | ⟨x, rfl⟩
    · exact ⟨[], 0, rfl, Or.inr ⟨rfl, hno⟩⟩
    · exact ⟨[], 0, rfl, Or.inr ⟨rfl, hno⟩⟩
theorem NL.wide {c : List Int} (h : NL c) : Wide c := fun l hl => by
  have := (h l hl).1; unfold Sm at this; omega
theorem line_uniq {c c' : List Int} {r r' : List UInt8} (h : NL c) (h' : NL c') (e : lineL c ++ r = lineL c' ++ r') : c = c' ∧ r = r' := by
  have no : ∀ c : List Int, (10 : UInt8) ∉ c.flatMap litL ++ [48] := fun c hm => by
    rcases List.mem_append.1 hm with hm | hm
    · exact lits_no hm
    · simp at hm
  have ex : ∀ (c : List Int) r, lineL c ++ r = (c.flatMap litL ++ [48]) ++ 10 :: r := fun c r => by unfold lineL; simp
  rw [ex, ex] at e
  have h1 := preC_app (x := c.flatMap litL ++ [48]) (r := r) (no c)
  have h2 := preC_app (x := c'.flatMap litL ++ [48]) (r := r') (no c')
  rw [e, h2.1, h2.2] at h1
  refine ⟨?_, h1.2.symm⟩
  have h3 := split_lits c [48]
  have h4 := split_lits c' [48]
  rw [← h1.1, h4, splitC_none (by decide)] at h3
  have h5 := List.append_cancel_right h3
  rw [← map_back h.wide, ← map_back h'.wide, h5]
theorem parse_loop : ∀ (n : Nat) (rest : List UInt8) (acc : List (List Int)), rest.length ≤ n → acc.length + rest.length ≤ 10000 →
    ∃ o, loopM (fun s : ByteArray × List (List Int) => m_assessorref26_Parse_lp1 s.1 s.2) (bs rest, acc) = some o ∧
      ((∃ cs : List (List Int), (∀ c ∈ cs, NL c) ∧ rest = cs.flatMap lineL ∧ o = .brk (acc ++ cs)) ∨ (o = .ret (⟨0, []⟩, 3) ∧ ∀ cs : List (List Int), (∀ c ∈ cs, NL c) → rest ≠ cs.flatMap lineL)) := by
  intro n
  induction n with
  | zero =>
    intro rest acc hn hl
    have : rest = [] := List.eq_nil_of_length_eq_zero (by omega)
    subst this
    exact ⟨.brk acc, loopM_done (by simp [m_assessorref26_Parse_lp1, show bs [] = ByteArray.mk #[] from rfl]), Or.inl ⟨[], by simp, rfl, by rw [List.append_nil]⟩⟩
  | succ n ih =>
    intro rest acc hn hl
    by_cases h0 : rest = []
    · subst h0
      exact ⟨.brk acc, loopM_done (by simp [m_assessorref26_Parse_lp1, show bs [] = ByteArray.mk #[] from rfl]), Or.inl ⟨[], by simp, rfl, by rw [List.append_nil]⟩⟩
    · have hpos := List.length_pos_iff.2 h0
      have hne : ¬ bs rest = ByteArray.mk #[] := fun e => h0 (bs_nil.1 e)
      obtain ⟨c, k, hrd, hcase⟩ := ref_readline (l := rest) (by omega)
      rcases hcase with ⟨r, hnl, hr, rfl⟩ | ⟨rfl, hno⟩
      · have hll : 2 ≤ (lineL c).length := by unfold lineL; simp
        have hrl : rest.length = (lineL c).length + r.length := by rw [hr, List.length_append]
        have hk0 : ¬ (decide (((lineL c).length : Int) = 0)) = true := by rw [decide_eq_true_eq]; omega
        have hss : ssub (bs rest) ((lineL c).length : Int) ((bs rest).size : Int) = some (bs r) := by rw [hr]; exact sub_rest _ _
        have happ : app acc [c] = some (acc ++ [c]) := app_ok (by simp only [List.length_singleton]; omega)
        obtain ⟨o, ho, hc⟩ := ih r (acc ++ [c]) (by omega) (by simp only [List.length_append, List.length_singleton]; omega)
        refine ⟨o, ?_, ?_⟩
        · rw [loopM_next (body := fun s : ByteArray × List (List Int) => m_assessorref26_Parse_lp1 s.1 s.2) (s := (bs rest, acc)) (s' := (bs r, acc ++ [c])) ?_]
          · exact ho
          · simp only [m_assessorref26_Parse_lp1, hne, decide_false, Bool.not_false, if_true, hrd, bsm, hk0, Bool.false_eq_true, if_false, happ, hss]
        · rcases hc with ⟨cs, h1, h2, rfl⟩ | ⟨rfl, hno⟩
          · refine Or.inl ⟨c :: cs, ?_, by rw [List.flatMap_cons, ← h2, hr], by simp⟩
            intro d hd
            rcases List.mem_cons.1 hd with rfl | hd
            · exact hnl
            · exact h1 d hd
          · refine Or.inr ⟨rfl, fun cs hcs e => ?_⟩
            cases cs with
            | nil => exact h0 e
            | cons d cs =>
              rw [List.flatMap_cons, hr] at e
              have := line_uniq hnl (hcs d (List.mem_cons_self ..)) e
              exact hno cs (fun x hx => hcs x (List.mem_cons_of_mem _ hx)) this.2
      · refine ⟨.ret (⟨0, []⟩, 3), loopM_done ?_, Or.inr ⟨rfl, fun cs hcs e => ?_⟩⟩
        · simp only [m_assessorref26_Parse_lp1, hne, decide_false, Bool.not_false, if_true, hrd, bsm, decide_true]
        · cases cs with
          | nil => exact h0 e
          | cons d cs => exact hno d _ (hcs d (List.mem_cons_self ..)) (by rw [List.flatMap_cons] at e; exact e)
theorem valid_nl {f : Formula} (hv : validB f = true) : ∀ c ∈ f.clauses, NL c := fun c hc l hl => by
  have h1 := valid_lit hv hc hl
  have := valid_bnd hv
  unfold Sm
  refine ⟨by omega, fun e => ?_⟩
  have := vr_zero.2 e
  omega
theorem ref_parse {l : List UInt8} (hl : l.length ≤ 10000) : ∃ r, m_assessorref26_Parse (bs l) = some r ∧ ParseSpec l r := by
  have hex : ∀ f : Formula, fmtL f = [112, 32, 99, 110, 102, 32] ++ (itoa f.vars ++ 32 :: (itoa (f.clauses.length : Int) ++ 10 :: f.clauses.flatMap lineL)) := fun f => by
    unfold fmtL headL; simp
  unfold m_assessorref26_Parse
  by_cases h6 : ∃ l2, l = [112, 32, 99, 110, 102, 32] ++ l2
  · obtain ⟨l2, rfl⟩ := h6
    have hl2 : ([112, 32, 99, 110, 102, 32] ++ l2 : List UInt8).length = 6 + l2.length := by simp; omega
    have m1 : ((if (decide (((bs ([112, 32, 99, 110, 102, 32] ++ l2)).size : Int) < 6)) = true then some true else
        (ssub (bs ([112, 32, 99, 110, 102, 32] ++ l2)) 0 6).bind fun x1 => some (!decide (x1 = (ByteArray.mk #[112, 32, 99, 110, 102, 32])))) : Option Bool) = some false := by
      rw [if_neg (by rw [bs_size, decide_eq_true_eq, hl2]; omega), show ssub (bs ([112, 32, 99, 110, 102, 32] ++ l2)) 0 6 = some (bs [112, 32, 99, 110, 102, 32]) from ssub_bs (l := [112, 32, 99, 110, 102, 32] ++ l2) (i := 0) (j := 6) (by omega) (by omega), bsm]
      rfl
    have s1 : ssub (bs ([112, 32, 99, 110, 102, 32] ++ l2)) 6 ((bs ([112, 32, 99, 110, 102, 32] ++ l2)).size : Int) = some (bs l2) := sub_rest [112, 32, 99, 110, 102, 32] l2
    rw [m1, bsm, if_neg (by decide), s1, bsm]
    have hf2 : ∀ f : Formula, [112, 32, 99, 110, 102, 32] ++ l2 = fmtL f → l2 = itoa f.vars ++ 32 :: (itoa (f.clauses.length : Int) ++ 10 :: f.clauses.flatMap lineL) := fun f e => by
      rw [hex] at e; exact List.append_cancel_left e
    obtain ⟨v, n, hint, hs, hc⟩ := ref_integer (l := l2) (by omega)
    have hcv : ∀ f : Formula, validB f = true → [112, 32, 99, 110, 102, 32] ++ l2 = fmtL f → v = f.vars ∧ n = (itoa f.vars).length := fun f hv e => by
      have hb := valid_bnd hv
      exact hc f.vars _ (hf2 f e) (by unfold Sm; omega) (nodig32 _)
    rw [hint, bsm]
    have hnl : n ≤ l2.length := by
      rcases hs with rfl | ⟨_, h2, _, r, h3⟩
      · omega
      · rw [h3, List.length_append]; omega
    have i1 : inK .i64 (6 + (n : Int)) = some ((6 + n : Nat) : Int) := inK_at (by omega) ⟨by omega, by omega⟩
    have s2 : ssub (bs ([112, 32, 99, 110, 102, 32] ++ l2)) ((6 + n : Nat) : Int) ((bs ([112, 32, 99, 110, 102, 32] ++ l2)).size : Int) = some (bs (l2.drop n)) := by
      rw [bs_size, ssub_bs (by omega) (Nat.le_refl _), List.take_length, ← List.drop_drop]
      rfl
    simp only [i1, bsm]
    rw [s2, bsm]
    have bad : ∀ P : Prop, (∀ f, validB f = true → Fits f.clauses → [112, 32, 99, 110, 102, 32] ++ l2 = fmtL f → False) → ∃ r, (some ((⟨0, []⟩, 3) : Formula × Int)) = some r ∧ ParseSpec ([112, 32, 99, 110, 102, 32] ++ l2) r := fun _ h =>
      ⟨_, rfl, Or.inr ⟨fun f hv hf e => h f hv hf e, rfl⟩⟩
    by_cases hg : ∃ l4, n ≠ 0 ∧ l2 = itoa v ++ 32 :: l4
    · obtain ⟨l4, hn0, hl4⟩ := hg
      rcases hs with rfl | ⟨h1, h2, hsv, _⟩
      · exact absurd rfl hn0
      have hdrop : l2.drop n = 32 :: l4 := by rw [hl4, h2, List.drop_left]
      have m2 : ((if ((decide ((n : Int) = 0)) || (decide (bs (32 :: l4) = (ByteArray.mk #[])))) = true then some true else (sidx (bs (32 :: l4)) 0).bind fun x6 => some (!decide (x6 = 32))) : Option Bool) = some false := by
        rw [if_neg ?_, show sidx (bs (32 :: l4)) 0 = some ((32 : UInt8).toNat : Int) from sidx_bs (l := 32 :: l4) (i := 0) (b := 32) rfl, bsm]
        · rfl
        · rw [Bool.or_eq_true, decide_eq_true_eq, decide_eq_true_eq]
          rintro (h | h)
          · omega
          · exact absurd (bs_nil.1 h) (by simp)
      have s3 : ssub (bs (32 :: l4)) 1 ((bs (32 :: l4)).size : Int) = some (bs l4) := sub_rest [32] l4
      rw [hdrop, m2, bsm, if_neg (by decide), s3, bsm]
      have hl4l : l4.length + n + 1 = l2.length := by rw [hl4]; simp only [List.length_append, List.length_cons]; omega
      have hf4 : ∀ f : Formula, validB f = true → [112, 32, 99, 110, 102, 32] ++ l2 = fmtL f → v = f.vars ∧ l4 = itoa (f.clauses.length : Int) ++ 10 :: f.clauses.flatMap lineL := fun f hv e => by
        have e1 := hf2 f e
        have e2 := (hcv f hv e).1
        refine ⟨e2, ?_⟩
        rw [← e2, hl4] at e1
        have := List.append_cancel_left e1
        rw [List.cons.injEq] at this
        exact this.2
      obtain ⟨q, k, hint2, hs2, hc2⟩ := ref_integer (l := l4) (by omega)
      have hcq : ∀ f : Formula, validB f = true → [112, 32, 99, 110, 102, 32] ++ l2 = fmtL f → q = (f.clauses.length : Int) ∧ k = (itoa (f.clauses.length : Int)).length := fun f hv e => by
        have hb := valid_bnd hv
        exact hc2 _ _ (hf4 f hv e).2 (by unfold Sm; omega) (nodig10 _)
      rw [hint2, bsm]
      by_cases hg2 : ∃ l5, k ≠ 0 ∧ l4 = itoa q ++ 10 :: l5
      · obtain ⟨l5, hk0, hl5⟩ := hg2
        rcases hs2 with rfl | ⟨h3, h4, hsq, _⟩
        · exact absurd rfl hk0
        have hl5l : l5.length + k + 1 = l4.length := by rw [hl5]; simp only [List.length_append, List.length_cons]; omega
        have i2 : inK .i64 (1 + (k : Int)) = some ((1 + k : Nat) : Int) := inK_at (by omega) ⟨by omega, by omega⟩
        have i3 : inK .i64 (2 + (k : Int)) = some ((2 + k : Nat) : Int) := inK_at (by omega) ⟨by omega, by omega⟩
        have hsh : 32 :: l4 = (32 :: itoa q) ++ 10 :: l5 := by rw [hl5]; rfl
        have hshl : (32 :: itoa q).length = 1 + k := by rw [List.length_cons, ← h4]; omega
        have hsh2 : 32 :: l4 = (32 :: itoa q ++ [10]) ++ l5 := by rw [hl5]; simp
        have hshl2 : (32 :: itoa q ++ [10]).length = 2 + k := by rw [List.length_append, hshl, List.length_singleton]; omega
        have a1 : sidx (bs (32 :: l4)) ((1 + k : Nat) : Int) = some 10 := by
          have := at_rest (32 :: itoa q) 10 l5
          rw [hshl, ← hsh] at this; exact this
        have s4 : ssub (bs (32 :: l4)) ((2 + k : Nat) : Int) ((bs (32 :: l4)).size : Int) = some (bs l5) := by
          have := sub_rest (32 :: itoa q ++ [10]) l5
          rw [hshl2, ← hsh2] at this; exact this
        have m3 : ¬ (decide ((k : Int) = 0)) = true := by rw [decide_eq_true_eq]; omega
        have m3' : (decide (((bs (32 :: l4)).size : Int) ≤ ((1 + k : Nat) : Int))) = false := by
          rw [decide_eq_false_iff_not, bs_size, List.length_cons]; omega
        obtain ⟨o, ho, hoc⟩ := parse_loop l5.length l5 [] (Nat.le_refl _) (by simp; omega)
        simp only [m3, Bool.false_eq_true, if_false, i2, bsm, m3', a1, decide_true, Bool.not_true, i3]
        rw [s4, bsm, ho, bsm]
        have hf5 : ∀ f : Formula, validB f = true → [112, 32, 99, 110, 102, 32] ++ l2 = fmtL f → v = f.vars ∧ q = (f.clauses.length : Int) ∧ l5 = f.clauses.flatMap lineL := fun f hv e => by
          have e1 := hf4 f hv e
          have e2 := (hcq f hv e).1
          refine ⟨e1.1, e2, ?_⟩
          have e3 := e1.2
          rw [← e2, hl5] at e3
          have := List.append_cancel_left e3
          rw [List.cons.injEq] at this
          exact this.2
        rcases hoc with ⟨cs, hcs, hl6, rfl⟩ | ⟨rfl, hno⟩
        · rw [List.nil_append]
          simp only
          have hcl : cs.length ≤ l5.length ∧ ∀ c ∈ cs, c.length ≤ l5.length := by
            have hline : ∀ c : List Int, c.length + 2 ≤ (lineL c).length := fun c => by
              have : c.length ≤ (c.flatMap litL).length := by
                induction c with
                | nil => simp
                | cons x c ih2 => rw [List.flatMap_cons, List.length_append, List.length_cons]; have := itoa_pos x; unfold litL at *; simp only [List.length_append, List.length_singleton]; omega
              unfold lineL; simp only [List.length_append, List.length_cons, List.length_nil]; omega
            have : ∀ cs : List (List Int), cs.length ≤ (cs.flatMap lineL).length ∧ ∀ c ∈ cs, c.length ≤ (cs.flatMap lineL).length := fun cs => by
              induction cs with
              | nil => simp
              | cons x cs ih2 =>
                have := hline x
                rw [List.flatMap_cons, List.length_append, List.length_cons]
                refine ⟨by omega, fun c hc => ?_⟩
                rcases List.mem_cons.1 hc with rfl | hc
                · omega
                · have := ih2.2 c hc; omega
            rw [hl6]; exact this cs
          have hfit : Fits (Formula.mk v cs).clauses := ⟨by have := hcl.1; simp only; omega, fun c hc => by have := hcl.2 c hc; omega⟩
          have hinj : ∀ f : Formula, validB f = true → [112, 32, 99, 110, 102, 32] ++ l2 = fmtL f → f = ⟨v, cs⟩ := fun f hv e => by
            have e1 := hf5 f hv e
            have e2 : f.clauses = cs := by
              have e3 := e1.2.2
              rw [hl6] at e3
              have : ∀ (us bs' : List (List Int)), (∀ c ∈ us, NL c) → (∀ c ∈ bs', NL c) → us.flatMap lineL = bs'.flatMap lineL → us = bs' := by
                intro us
                induction us with
                | nil =>
                  intro bs' _ _ h
                  cases bs' with
                  | nil => rfl
                  | cons b bs' =>
                    have := congrArg List.length h
                    rw [List.flatMap_cons, List.length_append] at this
                    unfold lineL at this; simp at this; omega
                | cons a us ih3 =>
                  intro bs' h1 h2 h
                  cases bs' with
                  | nil =>
                    have := congrArg List.length h
                    rw [List.flatMap_cons, List.length_append] at this
                    unfold lineL at this; simp at this
                  | cons b bs' =>
                    rw [List.flatMap_cons, List.flatMap_cons] at h
                    have := line_uniq (h1 a (List.mem_cons_self ..)) (h2 b (List.mem_cons_self ..)) h
                    rw [this.1, ih3 bs' (fun c hc => h1 c (List.mem_cons_of_mem _ hc)) (fun c hc => h2 c (List.mem_cons_of_mem _ hc)) this.2]
              exact (this cs f.clauses hcs (valid_nl hv) e3).symm
            obtain ⟨fv, fc⟩ := f
            simp only at e1 e2
            rw [e1.1, e2]
          by_cases hlen : (cs.length : Int) = q
          · rw [if_neg (by simp [hlen]), ref_valid (fits_flen hfit), bsm, bsm]
            by_cases hv : validB ⟨v, cs⟩ = true
            · rw [if_neg (by simp [hv])]
              refine ⟨_, rfl, Or.inl ⟨⟨v, cs⟩, hv, hfit, ?_, rfl⟩⟩
              rw [hex]
              simp only
              rw [hlen, ← hl6, ← hl5, ← hl4]
            · rw [if_pos (by simp [hv])]
              refine bad True fun f hvf hf e => ?_
              rw [hinj f hvf e] at hvf
              exact hv hvf
          · rw [if_pos (by simp [hlen]), bsm, if_pos rfl]
            refine bad True fun f hvf hf e => ?_
            have e1 := hf5 f hvf e
            rw [hinj f hvf e] at e1
            exact hlen e1.2.1.symm
        · refine bad True fun f hvf hf e => hno f.clauses (valid_nl hvf) (hf5 f hvf e).2.2
      · have hfail : ∀ f, validB f = true → Fits f.clauses → [112, 32, 99, 110, 102, 32] ++ l2 = fmtL f → False := fun f hv hf e => by
          have e1 := hcq f hv e
          have e2 := (hf4 f hv e).2
          have := itoa_pos (f.clauses.length : Int)
          exact hg2 ⟨_, by omega, by rw [e1.1]; exact e2⟩
        have hm : ∃ r, (((if (decide ((k : Int) = 0)) = true then some true else (inK .i64 (1 + (k : Int))).bind fun x9 => some (decide (((bs (32 :: l4)).size : Int) ≤ x9))) : Option Bool).bind fun m3 =>
            ((if m3 = true then some true else (inK .i64 (1 + (k : Int))).bind fun x10 => (sidx (bs (32 :: l4)) x10).bind fun x11 => some (!decide (x11 = 10))) : Option Bool)) = some true ∧ r = () := by
          refine ⟨(), ?_, rfl⟩
          by_cases hk0 : k = 0
          · rw [if_pos (by rw [decide_eq_true_eq]; omega), bsm, if_pos rfl]
          · rcases hs2 with rfl | ⟨h3, h4, hsq, r5, hr5⟩
            · exact absurd rfl hk0
            have hrl : l4.length = k + r5.length := by rw [hr5, List.length_append]; omega
            have i2 : inK .i64 (1 + (k : Int)) = some ((1 + k : Nat) : Int) := inK_at (by omega) ⟨by omega, by omega⟩
            rw [if_neg (by rw [decide_eq_true_eq]; omega), i2, bsm, bsm]
            cases hr : r5 with
            | nil => rw [if_pos (by rw [decide_eq_true_eq, bs_size, List.length_cons, hrl, hr]; simp only [List.length_nil]; omega)]
            | cons b r6 =>
              rw [if_neg (by rw [decide_eq_true_eq, bs_size, List.length_cons, hrl, hr]; simp only [List.length_cons]; omega), bsm]
              have hshl : (32 :: itoa q).length = 1 + k := by rw [List.length_cons, ← h4]; omega
              have a1 : sidx (bs (32 :: l4)) ((1 + k : Nat) : Int) = some (b.toNat : Int) := by
                have := at_rest (32 :: itoa q) b r6
                rw [hshl, ← hr, show (32 :: itoa q) ++ r5 = 32 :: l4 by rw [hr5]; rfl] at this; exact this
              have hb : b ≠ 10 := fun e => hg2 ⟨r6, hk0, by rw [hr5, hr, e]⟩
              have c5 : ¬ ((b.toNat : Int) = 10) := u8_ne hb
              rw [a1, bsm, decide_eq_false c5]; rfl
        obtain ⟨_, hm, _⟩ := hm
        rw [← Option.bind_assoc, hm, bsm, if_pos rfl]
        exact bad True hfail
    · have hfail : ∀ f, validB f = true → Fits f.clauses → [112, 32, 99, 110, 102, 32] ++ l2 = fmtL f → False := fun f hv hf e => by
        have e1 := hcv f hv e
        have e2 := hf2 f e
        have := itoa_pos f.vars
        exact hg ⟨_, by omega, by rw [e1.1]; exact e2⟩
      have m2 : ((if ((decide ((n : Int) = 0)) || (decide (bs (l2.drop n) = (ByteArray.mk #[])))) = true then some true else (sidx (bs (l2.drop n)) 0).bind fun x6 => some (!decide (x6 = 32))) : Option Bool) = some true := by
        by_cases hn0 : n = 0
        · rw [if_pos (by rw [Bool.or_eq_true, decide_eq_true_eq]; exact Or.inl (by omega))]
        · rcases hs with rfl | ⟨h1, h2, hsv, r3, hr3⟩
          · exact absurd rfl hn0
          have hdrop : l2.drop n = r3 := by rw [hr3, h2, List.drop_left]
          rw [hdrop]
          cases hr : r3 with
          | nil => rw [if_pos (by rw [Bool.or_eq_true, decide_eq_true_eq, decide_eq_true_eq]; exact Or.inr rfl)]
          | cons b r4 =>
            rw [if_neg ?_, show sidx (bs (b :: r4)) 0 = some (b.toNat : Int) from sidx_bs (l := b :: r4) (i := 0) (b := b) rfl, bsm]
            · have hb : b ≠ 32 := fun e => hg ⟨r4, hn0, by rw [hr3, hr, e]⟩
              have c5 : ¬ ((b.toNat : Int) = 32) := u8_ne hb
              rw [decide_eq_false c5]; rfl
            · rw [Bool.or_eq_true, decide_eq_true_eq, decide_eq_true_eq]
              rintro (h | h)
              · omega
              · exact absurd (bs_nil.1 h) (by simp)
      rw [m2, bsm, if_pos rfl]
      exact bad True hfail
  · have m1 : ((if (decide (((bs l).size : Int) < 6)) = true then some true else (ssub (bs l) 0 6).bind fun x1 => some (!decide (x1 = (ByteArray.mk #[112, 32, 99, 110, 102, 32])))) : Option Bool) = some true := by
      by_cases hs : ((bs l).size : Int) < 6
      · rw [if_pos (by rw [decide_eq_true_eq]; exact hs)]
      · rw [if_neg (by rw [decide_eq_true_eq]; exact hs)]
        rw [bs_size] at hs
        rw [show ssub (bs l) 0 6 = some (bs (l.take 6)) from ssub_bs (l := l) (i := 0) (j := 6) (by omega) (by omega), bsm]
        have : ¬ bs (l.take 6) = (ByteArray.mk #[112, 32, 99, 110, 102, 32]) := fun e => by
          have e2 : l.take 6 = [112, 32, 99, 110, 102, 32] := bs_inj e
          exact h6 ⟨l.drop 6, by rw [← e2, List.take_append_drop]⟩
        rw [decide_eq_false this]; rfl
    rw [m1, bsm, if_pos rfl]
    exact ⟨_, rfl, Or.inr ⟨fun f hv hf e => h6 ⟨_, e.trans (hex f)⟩, rfl⟩⟩
end Go.Proofs.YtelioaepnpnojaaGreatDoor

/- The laws that compare the program's functions with the reference's. -/
set_option linter.unusedVariables false
set_option linter.unusedSimpArgs false
namespace Go.Proofs.YtelioaepnpnojaaGreatDoor
open Go.RowKit Go.Lib
def exF : Formula := ⟨4, [[-1], [2, -4], [-3, -4], [-2, 3, 4], [4]]⟩
theorem ex_tr : trF ⟨2, [⟨2, 5⟩]⟩ [6] = (exF, 0) := by decide +kernel
theorem ex_valid : validB exF = true := by decide +kernel
theorem ex_fit : FLen exF.clauses := ⟨by decide, by decide⟩
theorem ex_lits : Lits exF.vars exF.clauses [2, -3] := valid_lits ex_valid (by decide)
theorem ex_vo : ValOk exF.vars exF.clauses [2, -3] [0, -1, 2, -3, 4] := by
  refine ⟨rfl, fun v x h => ?_, fun v x h h0 => ?_⟩
  · match v, h with
    | 0, h => simp at h; exact Or.inl h.symm
    | 1, h => simp at h; subst h; exact Or.inr ⟨by decide, rfl⟩
    | 2, h => simp at h; subst h; exact Or.inr ⟨by decide, rfl⟩
    | 3, h => simp at h; subst h; exact Or.inr ⟨by decide, rfl⟩
    | 4, h => simp at h; subst h; exact Or.inr ⟨by decide, rfl⟩
    | n + 5, h => simp at h
  · match v, h with
    | 0, h => simp at h; exact absurd h.symm h0
    | 1, h => simp at h; subst h; exact .unit (c := [-1]) (by decide) (by decide) (fun y hy hn => absurd (List.mem_singleton.1 hy) hn)
    | 2, h => simp at h; subst h; exact .start (by decide)
    | 3, h => simp at h; subst h; exact .start (by decide)
    | 4, h => simp at h; subst h; exact .unit (c := [4]) (by decide) (by decide) (fun y hy hn => absurd (List.mem_singleton.1 hy) hn)
    | n + 5, h => simp at h
theorem ex_st : ∀ l ∈ ([2, -3] : List Int), gv [0, -1, 2, -3, 4] l = some l := by decide
theorem ex_good : ∀ c ∈ exF.clauses, Good [0, -1, 2, -3, 4] c := by
  intro c hc
  have hc : c ∈ [[-1], [2, -4], [-3, -4], [-2, 3, 4], [4]] := hc
  simp only [List.mem_cons, List.not_mem_nil, or_false] at hc
  rcases hc with rfl | rfl | rfl | rfl | rfl
  · exact Or.inl ⟨-1, by decide, by decide⟩
  · exact Or.inl ⟨2, by decide, by decide⟩
  · exact Or.inl ⟨-3, by decide, by decide⟩
  · exact Or.inl ⟨4, by decide, by decide⟩
  · exact Or.inl ⟨4, by decide, by decide⟩
theorem ex_prop : PropOk exF [2, -3] ([-1, 2, -3, 4], true, 0) := by
  unfold PropOk
  rw [if_pos ⟨ex_valid, by decide⟩]
  refine ⟨rfl, Or.inl ⟨rfl, closed_ok ex_lits ex_vo ex_st ex_good, by decide, fun x => ⟨fun h => ?_, fun h => ?_⟩⟩⟩
  · simp only [List.mem_cons, List.not_mem_nil, or_false] at h
    rcases h with rfl | rfl | rfl | rfl
    · exact ex_vo.sound 1 (-1) rfl (by decide)
    · exact ex_vo.sound 2 2 rfl (by decide)
    · exact ex_vo.sound 3 (-3) rfl (by decide)
    · exact ex_vo.sound 4 4 rfl (by decide)
  · have h1 := closed_up ex_lits ex_vo ex_st ex_good h
    have h2 := (h.lit ex_lits).1
    unfold gv at h1
    generalize (vr x).toNat = v at h1
    match v, h1 with
    | 0, h => simp at h; exact absurd h.symm h2
    | 1, h => simp at h; subst h; simp
    | 2, h => simp at h; subst h; simp
    | 3, h => simp at h; subst h; simp
    | 4, h => simp at h; subst h; simp
    | n + 5, h => simp at h
def exG : Formula := ⟨2, [[1, -2]]⟩
theorem itoa_dig {n : Int} (h0 : 0 ≤ n) (h : n < 10) : itoa n = [UInt8.ofNat (48 + n.toNat)] := by
  unfold itoa; rw [if_neg (by omega), dd_small (by omega)]
theorem ex_txt : fmtL exG = [112, 32, 99, 110, 102, 32, 50, 32, 49, 10, 49, 32, 45, 50, 32, 48, 10] := by
  have h1 : itoa 1 = [49] := itoa_dig (by decide) (by decide)
  have h2 : itoa 2 = [50] := itoa_dig (by decide) (by decide)
  have h3 : itoa (-2) = [45, 50] := by unfold itoa; rw [if_pos (by decide), show (-2 : Int).natAbs = 2 from rfl, dd_small (by decide)]; rfl
  unfold fmtL headL exG
  simp [lineL, litL, h1, h2, h3]
theorem ex_gfit : Fits exG.clauses := ⟨by decide, by decide⟩
theorem ex_gvalid : validB exG = true := by decide +kernel
theorem awake_true : m_assessorlaw26_awake = some true := by
  unfold m_assessorlaw26_awake
  rw [cnf_translate (by decide) (by decide) (by decide), bsm, ex_tr]
  obtain ⟨r, h1, h2⟩ := cnf_propagate (f := exF) (S := [2, -3]) ex_fit (by decide) (by decide) (by decide)
  rw [h2.eq ex_prop] at h1
  obtain ⟨q, h3, h4⟩ := cnf_parse (l := [112, 32, 99, 110, 102, 32, 50, 32, 49, 10, 49, 32, 45, 50, 32, 48, 10]) (by decide)
  rw [← ex_txt] at h3 h4
  rw [h4.eq (ParseSpec.fmt ex_gvalid ex_gfit)] at h3
  have e1 : (ByteArray.mk #[112, 32, 99, 110, 102, 32, 50, 32, 49, 10, 49, 32, 45, 50, 32, 48, 10]) = bs (fmtL exG) := by rw [ex_txt]; rfl
  have e2 : fmtB exG = bs (fmtL exG) := by unfold fmtB; rw [if_pos ex_gvalid]
  have n1 : m_cnf_Normal [3, -2, 3] = some ([-2, 3], true) := by rw [cnf_Normal (by decide)]; decide +kernel
  have c1 : m_assessorref26_Clauses exF.clauses [[-1], [2, -4], [-3, -4], [-2, 3, 4], [4]] = some true := by rw [clauses_equal _ _ ex_fit]; rfl
  have l1 : m_slices_Equal_int_int_ [-1, 2, -3, 4] [-1, 2, -3, 4] = some true := by rw [lists_equal _ _ (by decide)]; rfl
  have l2 : m_slices_Equal_int_int_ [-2, 3] [-2, 3] = some true := by rw [lists_equal _ _ (by decide)]; rfl
  have v1 : m_cnf_Valid exF = some true := by rw [cnf_valid ex_fit, ex_valid]
  have o1 : m_cnf_Holds exF [-1, 2, -3, 4] = some true := by rw [cnf_holds ex_fit]; decide +kernel
  have t1 : m_cnf_Literal 5 = some (-3) := by rw [cnf_literal (by decide)]; rfl
  have i1 : ((decide ((0 : Int) = 0)) && (decide (exF.vars = 4))) = true := by decide
  rw [e1, h1, bsm, n1, bsm, h3, bsm, if_pos i1, c1, bsm, bsm, if_pos rfl, l1, bsm, bsm, if_pos (by decide), l2, bsm, bsm, if_pos (by decide), cnf_format ex_gfit, bsm, e2, bsm, if_pos (by simp), v1, bsm, bsm, if_pos rfl, o1, bsm, bsm, if_pos rfl, t1, bsm, bsm]
  rfl
theorem small_ok {f : Formula} {v n : Int} (h : smallB f v n = true) : f.vars ≤ v ∧ (f.clauses.length : Int) ≤ n ∧ ∀ c ∈ f.clauses, c.length ≤ 30 := by
  unfold smallB at h
  simp only [Bool.and_eq_true, decide_eq_true_eq, List.all_eq_true] at h
  exact ⟨h.1.2, h.2, h.1.1⟩
theorem law_small {f : Formula} (h0 : FWf f) : ∃ b, ((if (decide (40 < (f.clauses.length : Int))) = true then some true else (m_assessorref26_Small (Formula.mk 0 f.clauses) 0 40).bind fun x2 => some (!x2)) : Option Bool) = some b ∧ (b = false → f.clauses.length ≤ 40 ∧ ∀ c ∈ f.clauses, c.length ≤ 30) := by
  split
  · exact ⟨true, rfl, fun h => by cases h⟩
  · refine ⟨_, by rw [small_eq ⟨0, f.clauses⟩ _ _ h0.2.1, bsm], fun h => ?_⟩
    have := small_ok (f := ⟨0, f.clauses⟩) (by simpa using h)
    exact ⟨by have := this.2.1; simp only at this; omega, this.2.2⟩
theorem law_CnfTexts (p0 : Formula) (p1 : ByteArray) (h0 : FWf p0) (h1 : p1.size ≤ maxLen) : m_assessorlaw26_CnfTexts p0 p1 = some true := by
  unfold m_assessorlaw26_CnfTexts
  rw [awake_true, bsm, if_neg (by decide)]
  obtain ⟨b, hb, hsm⟩ := law_small h0
  rw [hb, bsm]
  by_cases hs : (b || decide (400 < (p1.size : Int))) = true
  · rw [if_pos hs]
  · rw [if_neg hs]
    simp only [Bool.or_eq_true, decide_eq_true_eq, not_or, Bool.not_eq_true] at hs
    obtain ⟨hc, hl⟩ := hsm hs.1
    have hfit : Fits p0.clauses := ⟨by omega, fun c hm => by have := hl c hm; omega⟩
    have hsz : p1.data.toList.length ≤ 10000 := by
      have : p1.data.toList.length = p1.size := Array.length_toList
      omega
    obtain ⟨r, e1, q1⟩ := cnf_parse hsz
    obtain ⟨r', e2, q2⟩ := ref_parse hsz
    rw [q2.eq q1] at e2
    rw [bs_of] at e1 e2
    have hfl : FLen r.1.clauses := by
      rcases q1 with ⟨f, hv, hf, _, rfl⟩ | ⟨_, rfl⟩
      · exact fits_flen hf
      · exact ⟨by simp, by simp⟩
    rw [e1, bsm, e2, bsm, cnf_format hfit, bsm, ref_format hfit, bsm, if_pos (by simp), same_formula _ _ hfl, bsm, bsm]
    simp
end Go.Proofs.YtelioaepnpnojaaGreatDoor

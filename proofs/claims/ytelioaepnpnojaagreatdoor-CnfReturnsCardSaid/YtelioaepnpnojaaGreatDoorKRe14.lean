/- The program's Parse: lines, words, numbers; it inverts Format. -/
import Derived.Test.YtelioaepnpnojaaGreatDoorKRe13
import Derived.Lib.SplitLaws
import Derived.Lib.IndexLaws
import Derived.Lib.CutLaws
import Derived.Test.YtelioaepnpnojaaGreatDoorKRe3
import Derived.Test.YtelioaepnpnojaaGreatDoorKRe4
set_option linter.unusedVariables false
set_option linter.unusedSimpArgs false
namespace Go.Proofs.YtelioaepnpnojaaGreatDoor
open Go.RowKit Go.Lib
def preC (c : UInt8) (l : List UInt8) : List UInt8 := l.takeWhile (· != c)
def rstC (c : UInt8) (l : List UInt8) : List UInt8 := (l.dropWhile (· != c)).drop 1
theorem preC_app {c : UInt8} : ∀ {x r : List UInt8}, c ∉ x → preC c (x ++ c :: r) = x ∧ rstC c (x ++ c :: r) = r
  | [], r, _ => by simp [preC, rstC]
  | b :: x, r, h => by
    have hb : (b != c) = true := by simp; intro e; exact h (by rw [e]; exact List.mem_cons_self ..)
    have := preC_app (c := c) (x := x) (r := r) (fun hm => h (List.mem_cons_of_mem _ hm))
    unfold preC rstC at *
    rw [List.cons_append, List.takeWhile_cons, List.dropWhile_cons, if_pos hb, if_pos hb, this.1, this.2]
    exact ⟨rfl, rfl⟩
theorem preC_none {c : UInt8} : ∀ {x : List UInt8}, c ∉ x → preC c x = x ∧ rstC c x = []
  | [], _ => by simp [preC, rstC]
  | b :: x, h => by
    have hb : (b != c) = true := by simp; intro e; exact h (by rw [e]; exact List.mem_cons_self ..)
    have := preC_none (c := c) (x := x) (fun hm => h (List.mem_cons_of_mem _ hm))
    unfold preC rstC at *
    rw [List.takeWhile_cons, List.dropWhile_cons, if_pos hb, if_pos hb, this.1, this.2]
    exact ⟨rfl, rfl⟩
theorem split_at (c : UInt8) : ∀ (l : List UInt8), c ∈ l → ∃ x r, l = x ++ c :: r ∧ c ∉ x
  | [], h => by simp at h
  | b :: l, h => by
    by_cases hb : b = c
    · exact ⟨[], l, by rw [hb]; rfl, by simp⟩
    · obtain ⟨x, r, h1, h2⟩ := split_at c l (by rcases List.mem_cons.1 h with h | h; exact absurd h.symm hb; exact h)
      exact ⟨b :: x, r, by rw [h1]; rfl, by simp [h2]; exact fun e => hb e.symm⟩
theorem index_app {c : UInt8} {x r : List UInt8} (h : c ∉ x) : index (x ++ c :: r) [c] = x.length := by
  refine index_first (by simp) ?_ fun j hj => ?_
  · simp [occAt, List.isPrefixOf]
  · unfold occAt
    have hlt : j < (x ++ c :: r).length := by simp; omega
    rw [List.drop_eq_getElem_cons hlt]
    have : (x ++ c :: r)[j] = x[j] := List.getElem_append_left hj
    rw [this]
    have hne : ¬ c = x[j] := fun e => h (e ▸ List.getElem_mem hj)
    simp [List.isPrefixOf, hne]
theorem index_no {c : UInt8} {x : List UInt8} (h : c ∉ x) : index x [c] = -1 := by
  refine index_none fun j hj => ?_
  unfold occAt
  by_cases hlt : j < x.length
  · rw [List.drop_eq_getElem_cons hlt]
    have hne : ¬ c = x[j] := fun e => h (e ▸ List.getElem_mem hlt)
    simp [List.isPrefixOf, hne]
  · rw [List.drop_eq_nil_of_le (by omega)]; rfl
theorem cut_eq (c : UInt8) (l : List UInt8) : (Lib.cut l [c]).1 = preC c l ∧ (Lib.cut l [c]).2.1 = rstC c l := by
  unfold Lib.cut
  by_cases h : c ∈ l
  · obtain ⟨x, r, rfl, hx⟩ := split_at c l h
    rw [index_app hx, if_pos (by omega), (preC_app hx).1, (preC_app hx).2]
    simp
  · rw [index_no h, if_neg (by decide), (preC_none h).1, (preC_none h).2]
    exact ⟨rfl, rfl⟩
def splitC (c : UInt8) : List UInt8 → List (List UInt8)
  | [] => [[]]
  | b :: r => if b = c then [] :: splitC c r else match splitC c r with
    | [] => [[b]]
    | w :: ws => (b :: w) :: ws
theorem splitC_none {c : UInt8} : ∀ {x : List UInt8}, c ∉ x → splitC c x = [x]
  | [], _ => rfl
  | b :: x, h => by
    have hb : ¬ b = c := fun e => h (by rw [e]; exact List.mem_cons_self ..)
    unfold splitC
    rw [if_neg hb, splitC_none (fun hm => h (List.mem_cons_of_mem _ hm))]
theorem splitC_app {c : UInt8} : ∀ {x r : List UInt8}, c ∉ x → splitC c (x ++ c :: r) = x :: splitC c r
  | [], r, _ => by rw [List.nil_append, splitC, if_pos rfl]
  | b :: x, r, h => by
    have hb : ¬ b = c := fun e => h (by rw [e]; exact List.mem_cons_self ..)
    rw [List.cons_append, splitC, if_neg hb, splitC_app (fun hm => h (List.mem_cons_of_mem _ hm))]
theorem splitC_len (c : UInt8) : ∀ (l : List UInt8), 1 ≤ (splitC c l).length ∧ (splitC c l).length ≤ l.length + 1
  | [] => by simp [splitC]
  | b :: r => by
    have := splitC_len c r
    unfold splitC
    by_cases hb : b = c
    · rw [if_pos hb]; simp only [List.length_cons]; omega
    · rw [if_neg hb]
      cases h : splitC c r with
      | nil => rw [h] at this; simp at this
      | cons w ws => rw [h] at this; simp only [List.length_cons] at *; omega
theorem splitC_word (c : UInt8) : ∀ (l : List UInt8), ∀ w ∈ splitC c l, w.length ≤ l.length
  | [], w, h => by simp [splitC] at h; simp [h]
  | b :: r, w, h => by
    have ih := splitC_word c r
    unfold splitC at h
    by_cases hb : b = c
    · rw [if_pos hb] at h
      rcases List.mem_cons.1 h with rfl | h
      · simp
      · have := ih w h; simp only [List.length_cons]; omega
    · rw [if_neg hb] at h
      cases hs : splitC c r with
      | nil => have := splitC_len c r; rw [hs] at this; simp at this
      | cons v vs =>
        rw [hs] at h ih
        simp only at h
        rcases List.mem_cons.1 h with rfl | h
        · have := ih v (List.mem_cons_self ..); simp only [List.length_cons]; omega
        · have := ih w (List.mem_cons_of_mem _ h); simp only [List.length_cons]; omega
theorem splitK_eq (c : UInt8) : ∀ (n : Nat) (l : List UInt8), l.length ≤ n → splitK [c] 0 (l.count c) l = splitC c l := by
  intro n
  induction n with
  | zero => intro l hl; have : l = [] := List.eq_nil_of_length_eq_zero (by omega); subst this; rfl
  | succ n ih =>
    intro l hl
    by_cases h : c ∈ l
    · obtain ⟨x, r, rfl, hx⟩ := split_at c l h
      have hc : (x ++ c :: r).count c = r.count c + 1 := by
        rw [List.count_append, List.count_cons_self, List.count_eq_zero.2 hx]; omega
      rw [hc, splitC_app hx]
      unfold splitK
      rw [index_app hx, if_neg (by simp)]
      simp only [Nat.add_zero, Int.toNat_natCast, List.length_singleton]
      rw [List.take_left' rfl, show List.drop (x.length + 1) (x ++ c :: r) = r by simp]
      simp only [List.length_append, List.length_cons] at hl
      rw [ih r (by omega)]
    · rw [List.count_eq_zero.2 h, splitC_none h]; rfl
theorem split_ok {l : List UInt8} (h : l.length ≤ 1000000) : m_split (bs l) (ByteArray.mk #[32]) = some ((splitC 32 l).map bs) := by
  have hc : countB (bs l) (ByteArray.mk #[32]) = l.count 32 := by
    rw [← count_one]
    show Lib.count (bs l).data.toList _ = _
    rw [bs_data]
  have hle : l.count 32 ≤ l.length := List.count_le_length
  unfold m_split
  rw [if_pos ⟨by rw [bs_size]; omega, by decide, by rw [hc]; omega⟩, hc]
  congr 1
  have h1 := splitB_data (ByteArray.mk #[32]) 0 (l.count 32) (bs l)
  rw [bs_data, show (ByteArray.mk #[32]).data.toList = [32] from rfl, splitK_eq 32 l.length l (Nat.le_refl _)] at h1
  rw [← h1, List.map_map]
  have : (bs ∘ fun x : ByteArray => x.data.toList) = id := by funext x; exact bs_of x
  rw [this, List.map_id]
theorem cut_ok {l : List UInt8} (h : l.length ≤ 1000000) : ∃ b, m_cut (bs l) (ByteArray.mk #[10]) = some (bs (preC 10 l), bs (rstC 10 l), b) := by
  unfold m_cut
  rw [if_pos (by rw [bs_size]; omega), bs_data]
  have h1 := cut_eq 10 l
  exact ⟨_, by rw [show (ByteArray.mk #[10]).data.toList = [10] from rfl, h1.1, h1.2]; rfl⟩
theorem rst_len {c : UInt8} {l : List UInt8} (h : l ≠ []) : (rstC c l).length < l.length := by
  by_cases hm : c ∈ l
  · obtain ⟨x, r, rfl, hx⟩ := split_at c l hm
    rw [(preC_app hx).2]; simp; omega
  · rw [(preC_none hm).2]
    cases l with
    | nil => exact absurd rfl h
    | cons b l => simp
theorem pre_len (c : UInt8) (l : List UInt8) : (preC c l).length ≤ l.length := by
  unfold preC
  exact (List.takeWhile_sublist _).length_le
def pfold {σ ε : Type} (step : List UInt8 → σ → Step σ ε) : Nat → List UInt8 → σ → Step σ ε
  | 0, _, s => .next s
  | n + 1, l, s => if l = [] then .next s else match step (preC 10 l) s with
    | .next s' => pfold step n (rstC 10 l) s'
    | .done r => .done r
theorem bs_nil {l : List UInt8} : bs l = ByteArray.mk #[] ↔ l = [] := by
  constructor
  · intro h; exact bs_inj (h.trans rfl)
  · rintro rfl; rfl
theorem yield_loop {σ ε : Type} {yf : ByteArray → σ → Option (Step σ ε)} {step : List UInt8 → σ → Step σ ε} (I : σ → Nat → Prop) (hI : ∀ s n m, I s n → m ≤ n → I s m)
    (h : ∀ line s n, I s (n + 1) → line.length ≤ n + 1 → yf (bs line) s = some (step line s) ∧ ∀ s', step line s = .next s' → I s' n) :
    ∀ (n : Nat) (l : List UInt8) (s : σ), l.length ≤ n → l.length ≤ 1000000 → I s l.length → ∃ b, m_cnf_lines_1_yield yf (.next s) (bs l) = some b ∧ b.2 = pfold step n l s := by
  have key : ∀ (n : Nat) (l : List UInt8) (s : σ), l.length ≤ n → l.length ≤ 1000000 → I s l.length →
      ∃ b, loopM (fun s => m_cnf_lines_1_yield_lp1 yf s.1 s.2) (bs l, .next s) = some b ∧ (match b with | .brk t => t.2 | .ret t => t.2) = pfold step n l s := by
    intro n
    induction n with
    | zero =>
      intro l s hl hb hi
      have : l = [] := List.eq_nil_of_length_eq_zero (by omega)
      subst this
      refine ⟨.brk (bs [], .next s), loopM_done ?_, rfl⟩
      have : bs [] = ByteArray.mk #[] := rfl
      simp [m_cnf_lines_1_yield_lp1, this]
    | succ n ih =>
      intro l s hl hb hi
      by_cases h0 : l = []
      · subst h0
        refine ⟨.brk (bs [], .next s), loopM_done ?_, by simp [pfold]⟩
        have : bs [] = ByteArray.mk #[] := rfl
        simp [m_cnf_lines_1_yield_lp1, this]
      · obtain ⟨q, hq⟩ := cut_ok hb
        have hne : ¬ bs l = ByteArray.mk #[] := fun e => h0 (bs_nil.1 e)
        obtain ⟨m, hm⟩ : ∃ m, l.length = m + 1 := ⟨l.length - 1, by have := List.length_pos_iff.2 h0; omega⟩
        obtain ⟨h1, h2⟩ := h (preC 10 l) s m (by rw [← hm]; exact hi) (by rw [← hm]; exact pre_len _ _)
        have hrl := rst_len (c := 10) h0
        cases hs : step (preC 10 l) s with
        | next s' =>
          rw [hs] at h1
          have hbody : m_cnf_lines_1_yield_lp1 yf (bs l) (.next s) = some (.next (bs (rstC 10 l), .next s')) := by
            simp only [m_cnf_lines_1_yield_lp1, hne, decide_false, Bool.not_false, if_true, hq, bsm, yieldM, h1, Step.more, Bool.not_true, Bool.false_eq_true, if_false]
          obtain ⟨b, hb1, hb2⟩ := ih (rstC 10 l) s' (by omega) (by omega) (hI s' m _ (h2 s' hs) (by omega))
          refine ⟨b, ?_, ?_⟩
          · rw [loopM_next (body := fun s => m_cnf_lines_1_yield_lp1 yf s.1 s.2) (s := (bs l, Step.next s)) hbody]; exact hb1
          · rw [hb2, pfold, if_neg h0, hs]
        | done r =>
          rw [hs] at h1
          have hbody : m_cnf_lines_1_yield_lp1 yf (bs l) (.next s) = some (.done (.ret (bs l, .done r))) := by
            simp only [m_cnf_lines_1_yield_lp1, hne, decide_false, Bool.not_false, if_true, hq, bsm, yieldM, h1, Step.more, Bool.not_false]
          refine ⟨.ret (bs l, .done r), loopM_done hbody, ?_⟩
          rw [pfold, if_neg h0, hs]
  intro n l s hl hb hi
  obtain ⟨b, h1, h2⟩ := key n l s hl hb hi
  unfold m_cnf_lines_1_yield
  rw [h1, bsm]
  cases b with
  | brk t => exact ⟨t, rfl, h2⟩
  | ret t => exact ⟨t, rfl, h2⟩
def atoiV (w : List UInt8) : Int := match Lib.atoiAll w with | .ok v => v | .range => Lib.atoiSat w | _ => 0
theorem atoi_ok {w : List UInt8} (h : w.length ≤ 1000000) : m_atoi (bs w) = some (atoiV w) := by
  unfold m_atoi atoiV
  rw [if_pos (by rw [bs_size]; omega), bs_data]
  rfl
theorem valD_ge : ∀ (l : List UInt8) (acc : Nat), acc ≤ valD acc l
  | [], acc => Nat.le_refl _
  | b :: l, acc => by
    have := valD_ge l (10 * acc + (b.toNat - 48))
    show acc ≤ valD (10 * acc + (b.toNat - 48)) l
    omega
theorem parse_digits : ∀ (l : List UInt8) (acc : Nat), (∀ b ∈ l, 48 ≤ b.toNat ∧ b.toNat ≤ 57) → valD acc l ≤ 1000000000000000000 → parseUint10 acc l = .ok (valD acc l)
  | [], acc, _, _ => rfl
  | b :: l, acc, hd, hv => by
    have hb := hd b (List.mem_cons_self ..)
    have hv' : valD (10 * acc + (b.toNat - 48)) l ≤ 1000000000000000000 := hv
    have hge := valD_ge l (10 * acc + (b.toNat - 48))
    unfold parseUint10
    rw [if_pos hb, if_neg (by omega), if_neg (by omega), show acc * 10 + (b.toNat - 48) = 10 * acc + (b.toNat - 48) by omega, parse_digits l _ (fun c hc => hd c (List.mem_cons_of_mem _ hc)) hv']
    rfl
theorem dd_cons (u : Nat) : ∃ b r, decDigits u = b :: r ∧ 48 ≤ b.toNat ∧ b.toNat ≤ 57 := by
  cases h : decDigits u with
  | nil => exact absurd h (dd_ne u)
  | cons b r => exact ⟨b, r, rfl, dd_digit u b (by rw [h]; exact List.mem_cons_self ..)⟩
theorem atoi_itoa {n : Int} (h : -1000000000000000000 ≤ n ∧ n ≤ 1000000000000000000) : atoiV (itoa n) = n := by
  unfold atoiV itoa
  by_cases h0 : n < 0
  · rw [if_pos h0]
    have hp : parseMag (decDigits n.natAbs) = .ok n.natAbs := by
      unfold parseMag
      rw [if_neg (dd_ne _), parse_digits _ 0 (dd_digit _) (by rw [dd_val]; omega), dd_val]
    have h1 : atoiAll (45 :: decDigits n.natAbs) = .ok n := by
      unfold atoiAll
      have e : (45 : UInt8).toNat = 45 := rfl
      simp only [e, or_true, if_true, hp, not_true_eq_false, false_and, if_false, true_and]
      rw [if_neg (by omega)]
      congr 1
      omega
    rw [h1]
  · rw [if_neg h0]
    obtain ⟨b, r, hb, h1, h2⟩ := dd_cons n.toNat
    have hp : parseMag (decDigits n.toNat) = .ok n.toNat := by
      unfold parseMag
      rw [if_neg (dd_ne _), parse_digits _ 0 (dd_digit _) (by rw [dd_val]; omega), dd_val]
    have h3 : atoiAll (decDigits n.toNat) = .ok n := by
      rw [hb] at hp ⊢
      unfold atoiAll
      have e1 : ¬ b.toNat = 43 := by omega
      have e2 : ¬ b.toNat = 45 := by omega
      simp only [e1, e2, or_self, if_false, hp, not_false_eq_true, true_and, false_and]
      rw [if_neg (by omega)]
      congr 1
      omega
    rw [h3]
abbrev PS := List (List Int) × Bool × Int
def pstep (line : List UInt8) (s : PS) : Step PS (Formula × Int) :=
  if s.2.1 = true then (if (splitC 32 line).length ≠ 4 then .done (⟨0, []⟩, 3) else .next (s.1, false, atoiV ((splitC 32 line).getD 2 [])))
  else .next (s.1 ++ [(splitC 32 line).dropLast.map atoiV], s.2.1, s.2.2)
theorem parse_words {ws : List (List UInt8)} (hw : ∀ w ∈ ws, w.length ≤ 1000000) (hl : ws.length ≤ 1000000) : loopM (fun s : Int × List Int => m_cnf_Parse_lp2 (ws.map bs) s.1 s.2) (0, []) = some (ws.map atoiV) := by
  have h : ∃ b, loopM (fun s : Int × List Int => m_cnf_Parse_lp2 (ws.map bs) s.1 s.2) (0, []) = some b ∧ b = ws.map atoiV := by
    refine loopN (body := fun s : Int × List Int => m_cnf_Parse_lp2 (ws.map bs) s.1 s.2) ws.length (fun k t => ((k : Int), t)) (fun k t => t = (ws.take k).map atoiV) _ (t0 := []) rfl rfl ?_ ?_
    · rintro k t hk rfl
      obtain ⟨w, hw1⟩ := get_of_lt hk
      have hw2 : (ws.map bs)[k]? = some (bs w) := by rw [List.getElem?_map, hw1]; rfl
      refine Or.inl ⟨_, ?_, rfl⟩
      have e1 : app ((ws.take k).map atoiV) [atoiV w] = some ((ws.take (k + 1)).map atoiV) := by
        rw [app_ok (by simp only [List.length_map, List.length_take, List.length_singleton]; omega), take_snoc_of hw1, List.map_append]; rfl
      have e2 : (decide ((k : Int) < ((ws.map bs).length : Int))) = true := by simpa using hk
      simp only [m_cnf_Parse_lp2, e2, if_true, idx_nat hw2, bsm, atoi_ok (hw w (mem_get hw1)), e1, inK_up hk (show ws.length ≤ 9223372036854775807 by omega)]
    · rintro t rfl
      have e2 : ¬ (decide ((ws.length : Int) < ((ws.map bs).length : Int))) = true := by simp
      exact ⟨_, by simp only [m_cnf_Parse_lp2, e2, if_false, Bool.false_eq_true, List.take_length], rfl⟩
  obtain ⟨b, hb, rfl⟩ := h
  exact hb
theorem parse_round {line : List UInt8} {s : PS} (h : line.length ≤ 100000) (hs : s.1.length ≤ 1000000) : m_cnf_Parse_lp1 (bs line) s.1 s.2.1 s.2.2 = some (pstep line s) := by
  obtain ⟨cs, fst, v⟩ := s
  simp only at hs
  have hsl := splitC_len 32 line
  have hsw := splitC_word 32 line
  unfold pstep
  simp only [m_cnf_Parse_lp1, split_ok (show line.length ≤ 1000000 by omega), bsm, List.length_map]
  cases fst with
  | true =>
    by_cases h4 : (splitC 32 line).length = 4
    · have e1 : ((splitC 32 line).length : Int) = 4 := by omega
      obtain ⟨w, hw⟩ := get_of_lt (show 2 < (splitC 32 line).length by omega)
      have hw2 : idx ((splitC 32 line).map bs) 2 = some (bs w) := idx_nat (k := 2) (by rw [List.getElem?_map, hw]; rfl)
      have hg : (splitC 32 line).getD 2 [] = w := by rw [List.getD_eq_getElem?_getD, hw]; rfl
      have e0 : (!decide (((splitC 32 line).length : Int) = 4)) = false := by simp [e1]
      simp only [if_true, e0, Bool.false_eq_true, if_false, hw2, bsm, atoi_ok (show w.length ≤ 1000000 by have := hsw w (mem_get hw); omega)]
      rw [if_neg (fun hc : (splitC 32 line).length ≠ 4 => hc h4), hg]
    · have e1 : ¬ ((splitC 32 line).length : Int) = 4 := by omega
      have e0 : (!decide (((splitC 32 line).length : Int) = 4)) = true := by simp [e1]
      rw [if_pos h4]
      simp only [if_true, e0, bsm]
  | false =>
    have e1 : inK .i64 (((splitC 32 line).length : Int) - 1) = some (((splitC 32 line).length - 1 : Nat) : Int) := inK_at (by omega) ⟨by omega, by omega⟩
    have e2 : sub ((splitC 32 line).map bs) 0 (((splitC 32 line).length - 1 : Nat) : Int) = some ((splitC 32 line).dropLast.map bs) := by
      rw [sub_ok (by omega) (by omega) (by rw [List.length_map]; omega)]
      simp only [Int.toNat_natCast, Int.toNat_zero, List.drop_zero, List.dropLast_eq_take, List.map_take, List.length_map]
    have e3 := parse_words (ws := (splitC 32 line).dropLast) (fun w hw => by have := hsw w (List.dropLast_subset _ hw); omega) (by rw [List.length_dropLast]; omega)
    simp only [Bool.false_eq_true, if_false, e1, bsm, e2, e3, app_ok (show cs.length + [(splitC 32 line).dropLast.map atoiV].length ≤ 4294967296 by simp; omega)]
theorem itoa_mem {n : Int} : ∀ b ∈ itoa n, b ≠ 32 ∧ b ≠ 10 := by
  intro b hb
  have hd : ∀ u, b ∈ decDigits u → b ≠ 32 ∧ b ≠ 10 := fun u hu => by
    have := dd_digit u b hu
    refine ⟨fun e => ?_, fun e => ?_⟩
    · rw [e] at this; exact absurd this.1 (by decide)
    · rw [e] at this; exact absurd this.1 (by decide)
  unfold itoa at hb
  split at hb
  · rcases List.mem_cons.1 hb with rfl | hb
    · exact ⟨by decide, by decide⟩
    · exact hd _ hb
  · exact hd _ hb
theorem split_lits : ∀ (c : List Int) (r : List UInt8), splitC 32 (c.flatMap litL ++ r) = c.map itoa ++ splitC 32 r
  | [], r => rfl
  | l :: c, r => by
    rw [List.flatMap_cons, List.append_assoc]
    rw [show litL l ++ (c.flatMap litL ++ r) = itoa l ++ 32 :: (c.flatMap litL ++ r) by unfold litL; simp, splitC_app (fun hm => (itoa_mem _ hm).1 rfl), split_lits c r]
    rfl
theorem lits_no {c : List Int} : (10 : UInt8) ∉ c.flatMap litL := by
  intro h
  obtain ⟨l, _, hl⟩ := List.mem_flatMap.1 h
  unfold litL at hl
  rcases List.mem_append.1 hl with hl | hl
  · exact (itoa_mem _ hl).2 rfl
  · simp at hl
theorem pfold_next {σ ε : Type} {step : List UInt8 → σ → Step σ ε} {x r : List UInt8} {s s' : σ} {n : Nat} (hx : (10 : UInt8) ∉ x) (hn : (x ++ 10 :: r).length ≤ n) (hs : step x s = .next s') :
    ∃ m, r.length ≤ m ∧ pfold step n (x ++ 10 :: r) s = pfold step m r s' := by
  cases n with
  | zero => simp at hn
  | succ n =>
    refine ⟨n, by simp only [List.length_append, List.length_cons] at hn; omega, ?_⟩
    rw [pfold, if_neg (by simp), (preC_app hx).1, (preC_app hx).2, hs]
theorem pfold_nil {σ ε : Type} {step : List UInt8 → σ → Step σ ε} {s : σ} : ∀ {n : Nat}, pfold step n [] s = .next s
  | 0 => rfl
  | n + 1 => by rw [pfold, if_pos rfl]
def Wide (c : List Int) : Prop := ∀ l ∈ c, -1000000000000000000 ≤ l ∧ l ≤ 1000000000000000000
theorem map_back : ∀ {c : List Int}, Wide c → (c.map itoa).map atoiV = c
  | [], _ => rfl
  | l :: c, h => by
    rw [List.map_cons, List.map_cons, atoi_itoa (h l (List.mem_cons_self ..)), map_back fun m hm => h m (List.mem_cons_of_mem _ hm)]
theorem pfold_lines : ∀ (cs acc : List (List Int)) (v : Int) (n : Nat), (∀ c ∈ cs, Wide c) → (cs.flatMap lineL).length ≤ n → pfold pstep n (cs.flatMap lineL) (acc, false, v) = .next (acc ++ cs, false, v)
  | [], acc, v, n, _, _ => by rw [List.flatMap_nil, pfold_nil, List.append_nil]
  | c :: cs, acc, v, n, h, hn => by
    have e : (c :: cs).flatMap lineL = (c.flatMap litL ++ [48]) ++ 10 :: cs.flatMap lineL := by
      rw [List.flatMap_cons]; unfold lineL; simp
    have h10 : (10 : UInt8) ∉ c.flatMap litL ++ [48] := by
      intro hm
      rcases List.mem_append.1 hm with hm | hm
      · exact lits_no hm
      · simp at hm
    have hs : pstep (c.flatMap litL ++ [48]) (acc, false, v) = .next (acc ++ [c], false, v) := by
      unfold pstep
      rw [if_neg (by simp), split_lits, splitC_none (by decide)]
      simp only [List.dropLast_concat]
      rw [map_back (h c (List.mem_cons_self ..))]
    rw [e] at hn ⊢
    obtain ⟨m, hm, he⟩ := pfold_next h10 hn hs
    rw [he, pfold_lines cs (acc ++ [c]) v m (fun d hd => h d (List.mem_cons_of_mem _ hd)) hm]
    simp
theorem valid_wide {f : Formula} (hv : validB f = true) : ∀ c ∈ f.clauses, Wide c := fun c hc l hl => by
  have := valid_lit hv hc hl
  have := valid_bnd hv
  omega
theorem pfold_fmt {f : Formula} (hv : validB f = true) {n : Nat} (hn : (fmtL f).length ≤ n) : pfold pstep n (fmtL f) ([], true, 0) = .next (f.clauses, false, f.vars) := by
  have hb := valid_bnd hv
  have e : fmtL f = ([112, 32, 99, 110, 102, 32] ++ itoa f.vars ++ [32] ++ itoa (f.clauses.length : Int)) ++ 10 :: f.clauses.flatMap lineL := by
    unfold fmtL headL; simp
  have h10 : (10 : UInt8) ∉ ([112, 32, 99, 110, 102, 32] ++ itoa f.vars ++ [32] ++ itoa (f.clauses.length : Int)) := by
    intro hm
    simp only [List.mem_append] at hm
    rcases hm with ((hm | hm) | hm) | hm
    · revert hm; decide
    · exact (itoa_mem _ hm).2 rfl
    · revert hm; decide
    · exact (itoa_mem _ hm).2 rfl
  have hsp : splitC 32 ([112, 32, 99, 110, 102, 32] ++ itoa f.vars ++ [32] ++ itoa (f.clauses.length : Int)) = [[112], [99, 110, 102], itoa f.vars, itoa (f.clauses.length : Int)] := by
    have e1 : ([112, 32, 99, 110, 102, 32] ++ itoa f.vars ++ [32] ++ itoa (f.clauses.length : Int)) = [112] ++ 32 :: ([99, 110, 102] ++ 32 :: (itoa f.vars ++ 32 :: itoa (f.clauses.length : Int))) := by simp
    rw [e1, splitC_app (by decide), splitC_app (by decide), splitC_app (fun hm => (itoa_mem _ hm).1 rfl), splitC_none (fun hm => (itoa_mem _ hm).1 rfl)]
  have hs : pstep ([112, 32, 99, 110, 102, 32] ++ itoa f.vars ++ [32] ++ itoa (f.clauses.length : Int)) ([], true, 0) = .next ([], false, f.vars) := by
    unfold pstep
    rw [if_pos rfl, hsp, if_neg (by simp)]
    show Step.next (_, _, atoiV (itoa f.vars)) = _
    rw [atoi_itoa (by omega)]
  rw [e] at hn ⊢
  obtain ⟨m, hm, he⟩ := pfold_next h10 hn hs
  rw [he, pfold_lines f.clauses [] f.vars m (valid_wide hv) hm]
  rfl
theorem fmtL_ne (f : Formula) : fmtL f ≠ [] := by unfold fmtL headL; simp
def ParseSpec (l : List UInt8) (r : Formula × Int) : Prop :=
  (∃ f, validB f = true ∧ Fits f.clauses ∧ l = fmtL f ∧ r = (f, 0)) ∨ ((∀ f, validB f = true → Fits f.clauses → l ≠ fmtL f) ∧ r = (⟨0, []⟩, 3))
theorem fmtL_inj {f g : Formula} (hf : validB f = true) (hg : validB g = true) (h : fmtL f = fmtL g) : f = g := by
  have h1 := pfold_fmt hf (Nat.le_refl _)
  have h2 := pfold_fmt hg (Nat.le_refl _)
  rw [h, h2] at h1
  simp only [Step.next.injEq, Prod.mk.injEq] at h1
  obtain ⟨fv, fc⟩ := f
  obtain ⟨gv, gc⟩ := g
  simp only at h1
  rw [h1.1, h1.2.2]
theorem ParseSpec.eq {l : List UInt8} {r r' : Formula × Int} (h : ParseSpec l r) (h' : ParseSpec l r') : r = r' := by
  rcases h with ⟨f, hv, hf, rfl, rfl⟩ | ⟨h, rfl⟩
  · rcases h' with ⟨g, hv', hg, he, rfl⟩ | ⟨h', rfl⟩
    · rw [fmtL_inj hv hv' he]
    · exact absurd rfl (h' f hv hf)
  · rcases h' with ⟨g, hv', hg, rfl, rfl⟩ | ⟨h', rfl⟩
    · exact absurd rfl (h g hv' hg)
    · rfl
theorem ParseSpec.fmt {f : Formula} (hv : validB f = true) (hf : Fits f.clauses) : ParseSpec (fmtL f) (f, 0) := Or.inl ⟨f, hv, hf, rfl, rfl⟩
theorem pfold_inv {σ ε : Type} {step : List UInt8 → σ → Step σ ε} (I : σ → Nat → Prop) (hI : ∀ s n m, I s n → m ≤ n → I s m)
    (h : ∀ line s n, I s (n + 1) → line.length ≤ n + 1 → ∀ s', step line s = .next s' → I s' n) :
    ∀ (n : Nat) (l : List UInt8) (s s' : σ), l.length ≤ n → I s l.length → pfold step n l s = .next s' → I s' 0
  | 0, l, s, s', _, hi, he => by
    simp only [pfold, Step.next.injEq] at he
    subst he
    exact hI _ _ _ hi (Nat.zero_le _)
  | n + 1, l, s, s', hl, hi, he => by
    rw [pfold] at he
    by_cases h0 : l = []
    · rw [if_pos h0, Step.next.injEq] at he
      subst he
      exact hI _ _ _ hi (Nat.zero_le _)
    · rw [if_neg h0] at he
      cases hs : step (preC 10 l) s with
      | done r => rw [hs] at he; cases he
      | next t =>
        rw [hs] at he
        have hrl := rst_len (c := 10) h0
        obtain ⟨m, hm⟩ : ∃ m, l.length = m + 1 := ⟨l.length - 1, by omega⟩
        have h1 := h (preC 10 l) s m (by rw [← hm]; exact hi) (by rw [← hm]; exact pre_len _ _) t hs
        exact pfold_inv I hI h n (rstC 10 l) t s' (by omega) (hI _ _ _ h1 (by omega)) he
theorem pfold_done : ∀ (n : Nat) (l : List UInt8) (s : PS) (r : Formula × Int), pfold pstep n l s = .done r → r = (⟨0, []⟩, 3)
  | 0, l, s, r, h => by simp [pfold] at h
  | n + 1, l, s, r, h => by
    rw [pfold] at h
    by_cases h0 : l = []
    · rw [if_pos h0] at h; cases h
    · rw [if_neg h0] at h
      cases hs : pstep (preC 10 l) s with
      | next t => rw [hs] at h; exact pfold_done n _ t r h
      | done q =>
        rw [hs] at h
        simp only [Step.done.injEq] at h
        subst h
        unfold pstep at hs
        split at hs
        · split at hs
          · simp only [Step.done.injEq] at hs; exact hs.symm
          · cases hs
        · cases hs
def PInv (s : PS) (n : Nat) : Prop := s.1.length + n ≤ 10000 ∧ ∀ c ∈ s.1, c.length ≤ 10000
theorem PInv.step {line : List UInt8} {s s' : PS} {n : Nat} (h : PInv s (n + 1)) (hl : line.length ≤ n + 1) (hs : pstep line s = .next s') : PInv s' n := by
  obtain ⟨h1, h2⟩ := h
  unfold pstep at hs
  split at hs
  · split at hs
    · cases hs
    · simp only [Step.next.injEq] at hs
      subst hs
      exact ⟨by simp only; omega, h2⟩
  · simp only [Step.next.injEq] at hs
    subst hs
    refine ⟨by simp only [List.length_append, List.length_singleton]; omega, fun c hc => ?_⟩
    rcases List.mem_append.1 hc with hc | hc
    · exact h2 c hc
    · rw [List.mem_singleton] at hc
      subst hc
      have := splitC_len 32 line
      rw [List.length_map, List.length_dropLast]; omega
theorem cnf_parse {l : List UInt8} (hl : l.length ≤ 10000) : ∃ r, m_cnf_Parse (bs l) = some r ∧ ParseSpec l r := by
  have hI : ∀ (s : PS) (n m : Nat), PInv s n → m ≤ n → PInv s m := fun s n m h hm => ⟨by have := h.1; omega, h.2⟩
  have h0 : PInv (([], true, 0) : PS) l.length := ⟨by simp; omega, by simp⟩
  obtain ⟨b, hb, hb2⟩ := yield_loop (yf := fun x (s : PS) => m_cnf_Parse_lp1 x s.1 s.2.1 s.2.2) (step := pstep) PInv hI
    (fun line s n h hn => ⟨parse_round (by have := h.1; omega) (by have := h.1; omega), fun s' hs => h.step hn hs⟩) l.length l ([], true, 0) (Nat.le_refl _) (by omega) h0
  unfold m_cnf_Parse m_cnf_lines
  rw [bsm, hb, bsm, hb2]
  cases hp : pfold pstep l.length l ([], true, 0) with
  | done r =>
    refine ⟨r, rfl, Or.inr ⟨fun f hv hf e => ?_, pfold_done _ _ _ _ hp⟩⟩
    subst e
    rw [pfold_fmt hv (Nat.le_refl _)] at hp
    cases hp
  | next s =>
    obtain ⟨cs, fst, v⟩ := s
    have hinv := pfold_inv PInv hI (fun line s n h hn s' hs => h.step hn hs) l.length l _ _ (Nat.le_refl _) h0 hp
    have hfit : Fits (Formula.mk v cs).clauses := ⟨by have := hinv.1; simp only at *; omega, hinv.2⟩
    simp only
    by_cases hnil : l = []
    · have : bs l = ByteArray.mk #[] := bs_nil.2 hnil
      refine ⟨(⟨0, []⟩, 3), by rw [if_pos (by simpa using this)]; rfl, Or.inr ⟨fun f _ _ e => ?_, rfl⟩⟩
      exact fmtL_ne f (e.symm.trans hnil)
    · have hne : ¬ (decide (bs l = ByteArray.mk #[])) = true := by
        rw [decide_eq_true_eq]; exact fun e => hnil (bs_nil.1 e)
      rw [if_neg hne, cnf_format hfit, bsm, bsm]
      by_cases he : fmtB ⟨v, cs⟩ = bs l
      · rw [if_neg (by simp [he])]
        unfold fmtB at he
        by_cases hv : validB ⟨v, cs⟩ = true
        · rw [if_pos hv] at he
          exact ⟨_, rfl, Or.inl ⟨⟨v, cs⟩, hv, hfit, (bs_inj he).symm, rfl⟩⟩
        · rw [if_neg hv] at he
          exact absurd (bs_inj he).symm hnil
      · rw [if_pos (by simp [he])]
        refine ⟨_, rfl, Or.inr ⟨fun f hv hf e => he ?_, rfl⟩⟩
        subst e
        rw [pfold_fmt hv (Nat.le_refl _)] at hp
        simp only [Step.next.injEq, Prod.mk.injEq] at hp
        obtain ⟨rfl, rfl, rfl⟩ := hp
        unfold fmtB
        rw [if_pos hv]
end Go.Proofs.YtelioaepnpnojaaGreatDoor

/- The reference's Parse: it reads what Format writes, and nothing else. -/
set_option linter.unusedVariables false
set_option linter.unusedSimpArgs false
namespace Go.Proofs.YtelioaepnpnojaaGreatDoor
open Go.RowKit Go.Lib
def Sm (v : Int) : Prop := -999999999 ≤ v ∧ v ≤ 999999999
def NL (c : List Int) : Prop := ∀ l ∈ c, Sm l ∧ l ≠ 0
theorem NL.wide {c : List Int} (h : NL c) : Wide c := fun l hl => by
  have := (h l hl).1; unfold Sm at this; omega
end Go.Proofs.YtelioaepnpnojaaGreatDoor

/- The laws that compare the program's functions with the reference's. -/
set_option linter.unusedVariables false
set_option linter.unusedSimpArgs false
namespace Go.Proofs.YtelioaepnpnojaaGreatDoor
open Go.RowKit Go.Lib
def exF : Formula := ⟨4, [[-1], [2, -4], [-3, -4], [-2, 3, 4], [4]]⟩
theorem ex_tr : trF ⟨2, [⟨2, 5⟩]⟩ [6] = (exF, 0) := by decide +kernel
theorem ex_valid : validB exF = true := by decide +kernel
theorem ex_fit : FLen exF.clauses := ⟨by decide, by decide⟩
theorem ex_lits : Lits exF.vars exF.clauses [2, -3] := valid_lits ex_valid (by decide)
theorem ex_vo : ValOk exF.vars exF.clauses [2, -3] [0, -1, 2, -3, 4] := by
  refine ⟨rfl, fun v x h => ?_, fun v x h h0 => ?_⟩
  · match v, h with
    | 0, h => simp at h; exact Or.inl h.symm
    | 1, h => simp at h; subst h; exact Or.inr ⟨by decide, rfl⟩
    | 2, h => simp at h; subst h; exact Or.inr ⟨by decide, rfl⟩
    | 3, h => simp at h; subst h; exact Or.inr ⟨by decide, rfl⟩
    | 4, h => simp at h; subst h; exact Or.inr ⟨by decide, rfl⟩
    | n + 5, h => simp at h
  · match v, h with
    | 0, h => simp at h; exact absurd h.symm h0
    | 1, h => simp at h; subst h; exact .unit (c := [-1]) (by decide) (by decide) (fun y hy hn => absurd (List.mem_singleton.1 hy) hn)
    | 2, h => simp at h; subst h; exact .start (by decide)
    | 3, h => simp at h; subst h; exact .start (by decide)
    | 4, h => simp at h; subst h; exact .unit (c := [4]) (by decide) (by decide) (fun y hy hn => absurd (List.mem_singleton.1 hy) hn)
    | n + 5, h => simp at h
theorem ex_st : ∀ l ∈ ([2, -3] : List Int), gv [0, -1, 2, -3, 4] l = some l := by decide
theorem ex_good : ∀ c ∈ exF.clauses, Good [0, -1, 2, -3, 4] c := by
  intro c hc
  have hc : c ∈ [[-1], [2, -4], [-3, -4], [-2, 3, 4], [4]] := hc
  simp only [List.mem_cons, List.not_mem_nil, or_false] at hc
  rcases hc with rfl | rfl | rfl | rfl | rfl
  · exact Or.inl ⟨-1, by decide, by decide⟩
  · exact Or.inl ⟨2, by decide, by decide⟩
  · exact Or.inl ⟨-3, by decide, by decide⟩
  · exact Or.inl ⟨4, by decide, by decide⟩
  · exact Or.inl ⟨4, by decide, by decide⟩
theorem ex_prop : PropOk exF [2, -3] ([-1, 2, -3, 4], true, 0) := by
  unfold PropOk
  rw [if_pos ⟨ex_valid, by decide⟩]
  refine ⟨rfl, Or.inl ⟨rfl, closed_ok ex_lits ex_vo ex_st ex_good, by decide, fun x => ⟨fun h => ?_, fun h => ?_⟩⟩⟩
  · simp only [List.mem_cons, List.not_mem_nil, or_false] at h
    rcases h with rfl | rfl | rfl | rfl
    · exact ex_vo.sound 1 (-1) rfl (by decide)
    · exact ex_vo.sound 2 2 rfl (by decide)
    · exact ex_vo.sound 3 (-3) rfl (by decide)
    · exact ex_vo.sound 4 4 rfl (by decide)
  · have h1 := closed_up ex_lits ex_vo ex_st ex_good h
    have h2 := (h.lit ex_lits).1
    unfold gv at h1
    generalize (vr x).toNat = v at h1
    match v, h1 with
    | 0, h => simp at h; exact absurd h.symm h2
    | 1, h => simp at h; subst h; simp
    | 2, h => simp at h; subst h; simp
    | 3, h => simp at h; subst h; simp
    | 4, h => simp at h; subst h; simp
    | n + 5, h => simp at h
def exG : Formula := ⟨2, [[1, -2]]⟩
theorem itoa_dig {n : Int} (h0 : 0 ≤ n) (h : n < 10) : itoa n = [UInt8.ofNat (48 + n.toNat)] := by
  unfold itoa; rw [if_neg (by omega), dd_small (by omega)]
theorem ex_txt : fmtL exG = [112, 32, 99, 110, 102, 32, 50, 32, 49, 10, 49, 32, 45, 50, 32, 48, 10] := by
  have h1 : itoa 1 = [49] := itoa_dig (by decide) (by decide)
  have h2 : itoa 2 = [50] := itoa_dig (by decide) (by decide)
  have h3 : itoa (-2) = [45, 50] := by unfold itoa; rw [if_pos (by decide), show (-2 : Int).natAbs = 2 from rfl, dd_small (by decide)]; rfl
  unfold fmtL headL exG
  simp [lineL, litL, h1, h2, h3]
theorem ex_gfit : Fits exG.clauses := ⟨by decide, by decide⟩
theorem ex_gvalid : validB exG = true := by decide +kernel
theorem awake_true : m_assessorlaw26_awake = some true := by
  unfold m_assessorlaw26_awake
  rw [cnf_translate (by decide) (by decide) (by decide), bsm, ex_tr]
  obtain ⟨r, h1, h2⟩ := cnf_propagate (f := exF) (S := [2, -3]) ex_fit (by decide) (by decide) (by decide)
  rw [h2.eq ex_prop] at h1
  obtain ⟨q, h3, h4⟩ := cnf_parse (l := [112, 32, 99, 110, 102, 32, 50, 32, 49, 10, 49, 32, 45, 50, 32, 48, 10]) (by decide)
  rw [← ex_txt] at h3 h4
  rw [h4.eq (ParseSpec.fmt ex_gvalid ex_gfit)] at h3
  have e1 : (ByteArray.mk #[112, 32, 99, 110, 102, 32, 50, 32, 49, 10, 49, 32, 45, 50, 32, 48, 10]) = bs (fmtL exG) := by rw [ex_txt]; rfl
  have e2 : fmtB exG = bs (fmtL exG) := by unfold fmtB; rw [if_pos ex_gvalid]
  have n1 : m_cnf_Normal [3, -2, 3] = some ([-2, 3], true) := by rw [cnf_Normal (by decide)]; decide +kernel
  have c1 : m_assessorref26_Clauses exF.clauses [[-1], [2, -4], [-3, -4], [-2, 3, 4], [4]] = some true := by rw [clauses_equal _ _ ex_fit]; rfl
  have l1 : m_slices_Equal_int_int_ [-1, 2, -3, 4] [-1, 2, -3, 4] = some true := by rw [lists_equal _ _ (by decide)]; rfl
  have l2 : m_slices_Equal_int_int_ [-2, 3] [-2, 3] = some true := by rw [lists_equal _ _ (by decide)]; rfl
  have v1 : m_cnf_Valid exF = some true := by rw [cnf_valid ex_fit, ex_valid]
  have o1 : m_cnf_Holds exF [-1, 2, -3, 4] = some true := by rw [cnf_holds ex_fit]; decide +kernel
  have t1 : m_cnf_Literal 5 = some (-3) := by rw [cnf_literal (by decide)]; rfl
  have i1 : ((decide ((0 : Int) = 0)) && (decide (exF.vars = 4))) = true := by decide
  rw [e1, h1, bsm, n1, bsm, h3, bsm, if_pos i1, c1, bsm, bsm, if_pos rfl, l1, bsm, bsm, if_pos (by decide), l2, bsm, bsm, if_pos (by decide), cnf_format ex_gfit, bsm, e2, bsm, if_pos (by simp), v1, bsm, bsm, if_pos rfl, o1, bsm, bsm, if_pos rfl, t1, bsm, bsm]
  rfl
theorem FWf.flen {f : Formula} (h : FWf f) : FLen f.clauses := ⟨h.2.1, fun c hc => (h.2.2 c hc).1⟩
theorem small_ok {f : Formula} {v n : Int} (h : smallB f v n = true) : f.vars ≤ v ∧ (f.clauses.length : Int) ≤ n ∧ ∀ c ∈ f.clauses, c.length ≤ 30 := by
  unfold smallB at h
  simp only [Bool.and_eq_true, decide_eq_true_eq, List.all_eq_true] at h
  exact ⟨h.1.2, h.2, h.1.1⟩
theorem law_small {f : Formula} (h0 : FWf f) : ∃ b, ((if (decide (40 < (f.clauses.length : Int))) = true then some true else (m_assessorref26_Small (Formula.mk 0 f.clauses) 0 40).bind fun x2 => some (!x2)) : Option Bool) = some b ∧ (b = false → f.clauses.length ≤ 40 ∧ ∀ c ∈ f.clauses, c.length ≤ 30) := by
  split
  · exact ⟨true, rfl, fun h => by cases h⟩
  · refine ⟨_, by rw [small_eq ⟨0, f.clauses⟩ _ _ h0.2.1, bsm], fun h => ?_⟩
    have := small_ok (f := ⟨0, f.clauses⟩) (by simpa using h)
    exact ⟨by have := this.2.1; simp only at this; omega, this.2.2⟩
theorem lit_short {l : Int} (h : -65536 ≤ l ∧ l ≤ 65536) : (litL l).length ≤ 7 := by
  unfold litL itoa
  split
  · have := dd_len 4 l.natAbs (by omega)
    simp only [List.length_append, List.length_cons, List.length_nil]; omega
  · have := dd_len 4 l.toNat (by omega)
    simp only [List.length_append, List.length_cons, List.length_nil]; omega
theorem fmt_short {f : Formula} (hv : validB f = true) (hc : f.clauses.length ≤ 40) (hl : ∀ c ∈ f.clauses, c.length ≤ 30) : (fmtL f).length ≤ 10000 := by
  have hb := valid_bnd hv
  have hh := headL_len (f := f) (by omega) (by omega)
  have h1 : ∀ c : List Int, (∀ l ∈ c, -65536 ≤ l ∧ l ≤ 65536) → (c.flatMap litL).length ≤ 7 * c.length := by
    intro c
    induction c with
    | nil => simp
    | cons x c ih =>
      intro h
      have := lit_short (h x (List.mem_cons_self ..))
      have := ih fun l hl => h l (List.mem_cons_of_mem _ hl)
      rw [List.flatMap_cons, List.length_append, List.length_cons]; omega
  have h2 : ∀ cs : List (List Int), (∀ c ∈ cs, c.length ≤ 30 ∧ ∀ l ∈ c, -65536 ≤ l ∧ l ≤ 65536) → (cs.flatMap lineL).length ≤ 212 * cs.length := by
    intro cs
    induction cs with
    | nil => simp
    | cons c cs ih =>
      intro h
      have hc := h c (List.mem_cons_self ..)
      have a := h1 c hc.2
      have := ih fun d hd => h d (List.mem_cons_of_mem _ hd)
      rw [List.flatMap_cons, List.length_append, List.length_cons]
      unfold lineL
      simp only [List.length_append, List.length_cons, List.length_nil]
      unfold lineL at this
      omega
  have h3 := h2 f.clauses fun c hm => ⟨hl c hm, fun l hlm => by have := valid_lit hv hm hlm; omega⟩
  unfold fmtL
  rw [List.length_append]; omega
theorem returns_tail {p1 : ByteArray} (hsz : p1.data.toList.length ≤ 10000) : ((m_cnf_Parse p1).bind fun x6 =>
    if (!decide (x6.2 = 0)) = true then some (((decide (x6.2 = 3)) && (decide (x6.1.vars = 0))) && (decide ((x6.1.clauses.length : Int) = 0)))
    else (m_cnf_Format x6.1).bind fun x7 => some (decide (x7 = p1))) = some true := by
  obtain ⟨r, e1, q1⟩ := cnf_parse hsz
  rw [bs_of] at e1
  rw [e1, bsm]
  rcases q1 with ⟨f, hv, hf, ht, rfl⟩ | ⟨_, rfl⟩
  · rw [if_neg (by simp), cnf_format hf, bsm]
    have : fmtB f = p1 := by unfold fmtB; rw [if_pos hv, ← ht, bs_of]
    simp [this]
  · rw [if_pos (by simp)]; rfl
theorem law_CnfReturns (p0 : Formula) (p1 : ByteArray) (h0 : FWf p0) (h1 : p1.size ≤ maxLen) : m_assessorlaw26_CnfReturns p0 p1 = some true := by
  unfold m_assessorlaw26_CnfReturns
  rw [awake_true, bsm, if_neg (by decide)]
  obtain ⟨b, hb, hsm⟩ := law_small h0
  rw [hb, bsm]
  by_cases hs : (b || decide (400 < (p1.size : Int))) = true
  · rw [if_pos hs]
  · rw [if_neg hs]
    simp only [Bool.or_eq_true, decide_eq_true_eq, not_or, Bool.not_eq_true] at hs
    obtain ⟨hc, hl⟩ := hsm hs.1
    have hfit : Fits p0.clauses := ⟨by omega, fun c hm => by have := hl c hm; omega⟩
    have hsz : p1.data.toList.length ≤ 10000 := by
      have : p1.data.toList.length = p1.size := Array.length_toList
      omega
    rw [cnf_format hfit, bsm]
    unfold fmtB
    by_cases hv : validB p0 = true
    · rw [if_pos hv]
      have hne : ¬ bs (fmtL p0) = ByteArray.mk #[] := fun e => fmtL_ne _ (bs_nil.1 e)
      rw [if_pos (by simp [hne])]
      obtain ⟨r, e1, q1⟩ := cnf_parse (fmt_short hv hc hl)
      rw [q1.eq (ParseSpec.fmt hv hfit)] at e1
      rw [e1, bsm, if_neg (by simp), same_formula _ _ (fits_flen hfit), bsm, bsm, if_neg (by simp)]
      exact returns_tail hsz
    · rw [if_neg hv, if_neg (by simp; rfl), cnf_valid h0.flen, bsm, if_neg hv]
      exact returns_tail hsz
end Go.Proofs.YtelioaepnpnojaaGreatDoor

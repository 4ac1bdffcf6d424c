/- Numerals, and Format: the text of a formula. -/
import Derived.Test.YtfajmelamonolaaDoorKTe11
import Derived.Test.YtfajmelamonolaaDoorKTe4
import Derived.Lib.SplitLaws
import Derived.Lib.IndexLaws
import Derived.Lib.CutLaws
import Derived.Test.YtfajmelamonolaaDoorKTe12
set_option linter.unusedVariables false
set_option linter.unusedSimpArgs false
namespace Go.Proofs.YtfajmelamonolaaDoor
open Go.RowKit
def bs (l : List UInt8) : ByteArray := ⟨l.toArray⟩
theorem bs_data (l : List UInt8) : (bs l).data.toList = l := by simp [bs]
theorem bs_size (l : List UInt8) : (bs l).size = l.length := by simp [bs, ByteArray.size]
theorem bs_of (s : ByteArray) : bs s.data.toList = s := by obtain ⟨⟨l⟩⟩ := s; rfl
theorem bs_inj {l m : List UInt8} (h : bs l = bs m) : l = m := by rw [← bs_data l, h, bs_data]
theorem bs_app (l m : List UInt8) : bs l ++ bs m = bs (l ++ m) := by
  rw [← bs_of (bs l ++ bs m)]
  congr 1
theorem catK_bs {l m : List UInt8} (h : l.length + m.length ≤ 4294967296) : catK (bs l) (bs m) = some (bs (l ++ m)) := by
  rw [catK_ok (by rw [bs_size, bs_size]; exact h), bs_app]
theorem wstr_bs {l m : List UInt8} (h : l.length + m.length ≤ 4294967296) : m_WStr (bs l) (bs m) = some (bs (l ++ m)) := by
  unfold m_WStr
  rw [if_pos (by rw [bs_size, bs_size]; omega), bs_app]
theorem bs_sub (l : List UInt8) (i j : Nat) : (bs l).extract i j = bs ((l.take j).drop i) := by
  rw [← bs_of ((bs l).extract i j)]
  congr 1
  simp [bs, List.extract_eq_take_drop, List.drop_take]
theorem ssub_bs {l : List UInt8} {i j : Nat} (h : i ≤ j) (hj : j ≤ l.length) : ssub (bs l) (i : Int) (j : Int) = some (bs ((l.take j).drop i)) := by
  unfold ssub
  rw [if_pos ⟨by omega, by omega, by rw [bs_size]; omega⟩]
  simp only [Int.toNat_natCast]
  rw [bs_sub]
theorem sidx_bs {l : List UInt8} {i : Nat} {b : UInt8} (h : l[i]? = some b) : sidx (bs l) (i : Int) = some (b.toNat : Int) := by
  unfold sidx
  rw [if_pos (by omega)]
  simp only [Int.toNat_natCast]
  have : (bs l)[i]? = some b := by
    obtain ⟨h1, h2⟩ := List.getElem?_eq_some_iff.1 h
    rw [getElem?_pos (bs l) i (by rw [bs_size]; exact h1)]
    congr 1
  rw [this]; rfl
open Go.Lib
theorem dd_small {u : Nat} (h : u < 10) : decDigits u = [UInt8.ofNat (48 + u)] := by rw [decDigits, dif_pos h]
theorem dd_big {u : Nat} (h : ¬ u < 10) : decDigits u = decDigits (u / 10) ++ [UInt8.ofNat (48 + u % 10)] := by rw [decDigits, dif_neg h]
theorem dig_nat {d : Nat} (h : d < 10) : (UInt8.ofNat (48 + d)).toNat = 48 + d := by
  rw [UInt8.toNat_ofNat']; omega
theorem dd_ind {p : Nat → Prop} (h1 : ∀ u, u < 10 → p u) (h2 : ∀ u, ¬ u < 10 → p (u / 10) → p u) : ∀ u, p u := by
  intro u
  induction u using Nat.strongRecOn with
  | _ u ih =>
    by_cases h : u < 10
    · exact h1 u h
    · exact h2 u h (ih _ (by omega))
theorem dd_digit : ∀ (u : Nat), ∀ b ∈ decDigits u, 48 ≤ b.toNat ∧ b.toNat ≤ 57 :=
  dd_ind (fun u h b hb => by
    rw [dd_small h, List.mem_singleton] at hb
    rw [hb, dig_nat h]; omega) (fun u h ih b hb => by
    rw [dd_big h, List.mem_append, List.mem_singleton] at hb
    rcases hb with hb | rfl
    · exact ih b hb
    · rw [dig_nat (by omega)]; omega)
theorem dd_ne (u : Nat) : decDigits u ≠ [] := by
  by_cases h : u < 10
  · rw [dd_small h]; simp
  · rw [dd_big h]; simp
def valD (n : Nat) (l : List UInt8) : Nat := l.foldl (fun n b => 10 * n + (b.toNat - 48)) n
theorem dd_val : ∀ u, valD 0 (decDigits u) = u :=
  dd_ind (fun u h => by rw [dd_small h]; simp only [valD, List.foldl_cons, List.foldl_nil, dig_nat h]; omega)
    (fun u h ih => by
      rw [dd_big h]
      unfold valD at *
      rw [List.foldl_append, ih]
      simp only [List.foldl_cons, List.foldl_nil, dig_nat (show u % 10 < 10 by omega)]
      omega)
theorem dd_len : ∀ (k u : Nat), u < 10 ^ (k + 1) → (decDigits u).length ≤ k + 1
  | 0, u, h => by rw [dd_small (by simpa using h)]; simp
  | k + 1, u, h => by
    by_cases h1 : u < 10
    · rw [dd_small h1]; simp
    · rw [dd_big h1, List.length_append]
      have := dd_len k (u / 10) (by rw [Nat.pow_succ] at h; omega)
      simp only [List.length_singleton]; omega
theorem itoa_len {n : Int} (h : -9223372036854775808 ≤ n ∧ n ≤ 9223372036854775807) : (itoa n).length ≤ 20 := by
  unfold itoa
  split
  · have := dd_len 18 n.natAbs (by omega)
    simp only [List.length_cons]; omega
  · have := dd_len 18 n.toNat (by omega)
    omega
theorem digits_sub {d : Nat} (h : d < 10) : ssub (ByteArray.mk #[48, 49, 50, 51, 52, 53, 54, 55, 56, 57]) (d : Int) ((d : Int) + 1) = some (bs [UInt8.ofNat (48 + d)]) := by
  have e : (ByteArray.mk #[48, 49, 50, 51, 52, 53, 54, 55, 56, 57]) = bs [48, 49, 50, 51, 52, 53, 54, 55, 56, 57] := rfl
  rw [e, show ((d : Int) + 1) = ((d + 1 : Nat) : Int) by omega, ssub_bs (by omega) (by simp; omega)]
  congr 2
  match d, h with
  | 0, _ => rfl
  | 1, _ => rfl
  | 2, _ => rfl
  | 3, _ => rfl
  | 4, _ => rfl
  | 5, _ => rfl
  | 6, _ => rfl
  | 7, _ => rfl
  | 8, _ => rfl
  | 9, _ => rfl
theorem inK_tdiv {n : Int} (h : -9223372036854775808 ≤ n ∧ n ≤ 9223372036854775807) : quoK .i64 n 10 = some (n.tdiv 10) := by
  unfold quoK
  have h1 : -9223372036854775808 ≤ n.tdiv 10 ∧ n.tdiv 10 ≤ 9223372036854775807 := by
    rcases Int.le_total 0 n with h0 | h0
    · rw [Int.tdiv_eq_ediv_of_nonneg h0]; omega
    · have : n.tdiv 10 = -((-n) / 10) := by
        rw [show n = -(-n) by omega, Int.neg_tdiv, Int.tdiv_eq_ediv_of_nonneg (by omega), Int.neg_neg]
      omega
  rw [if_pos ⟨by decide, by rw [IntKind.wrap_i64]; omega⟩]
theorem decimal_r : ∀ (k : Nat) (n : Int), -9223372036854775808 ≤ n ∧ n ≤ 9223372036854775807 → n.natAbs < 10 ^ (k + 1) → m_assessorref26_Decimal_r (k + 1) n = some (bs (itoa n)) := by
  intro k
  induction k with
  | zero =>
    intro n hb hn
    have hn : n.natAbs < 10 := by simpa using hn
    show m_assessorref26_Decimal_body (m_assessorref26_Decimal_r 0) n = _
    unfold m_assessorref26_Decimal_body
    by_cases h0 : n < 0
    · obtain ⟨d, rfl⟩ : ∃ d : Nat, n = -(d : Int) := ⟨n.natAbs, by omega⟩
      have hd : d < 10 := by omega
      have e1 : remK (-(d : Int)) 10 = some (-(d : Int)) := by
        unfold remK
        rw [if_pos (by decide), Int.neg_tmod, Int.tmod_eq_emod_of_nonneg (by omega), Int.emod_eq_of_lt (by omega) (by omega)]
      have e2 : inK .i64 (0 - -(d : Int)) = some (d : Int) := inK_at (by omega) ⟨by omega, by omega⟩
      have e3 : inK .i64 ((d : Int) + 1) = some ((d : Int) + 1) := inK_eq ⟨by omega, by omega⟩
      have h1 : -10 < -(d : Int) := by omega
      have e4 : catK (ByteArray.mk #[45]) (bs [UInt8.ofNat (48 + d)]) = some (bs (45 :: [UInt8.ofNat (48 + d)])) := catK_bs (l := [45]) (by simp)
      simp only [e1, bsm, h0, decide_true, if_true, e2, e3, digits_sub hd, h1, Bool.and_self, e4]
      have : itoa (-(d : Int)) = 45 :: [UInt8.ofNat (48 + d)] := by
        unfold itoa
        rw [if_pos h0, show (-(d : Int)).natAbs = d by omega, dd_small hd]
      rw [this]
    · obtain ⟨d, rfl⟩ : ∃ d : Nat, n = (d : Int) := ⟨n.natAbs, by omega⟩
      have hd : d < 10 := by omega
      have e1 : remK (d : Int) 10 = some (d : Int) := by
        rw [remK_pos (by omega) (by decide), Int.emod_eq_of_lt (by omega) (by omega)]
      have e3 : inK .i64 ((d : Int) + 1) = some ((d : Int) + 1) := inK_eq ⟨by omega, by omega⟩
      have h2 : (0 : Int) ≤ (d : Int) := by omega
      have h3 : (d : Int) < 10 := by omega
      simp only [e1, bsm, h0, decide_false, Bool.false_eq_true, if_false, e3, digits_sub hd, Bool.false_and, h2, h3, decide_true, Bool.and_self, if_true]
      have : itoa (d : Int) = [UInt8.ofNat (48 + d)] := by
        unfold itoa
        rw [if_neg h0, Int.toNat_natCast, dd_small hd]
      rw [this]
  | succ k ih =>
    intro n hb hn
    show m_assessorref26_Decimal_body (m_assessorref26_Decimal_r (k + 1)) n = _
    unfold m_assessorref26_Decimal_body
    rw [Nat.pow_succ] at hn
    by_cases h0 : n < 0
    · obtain ⟨d, rfl⟩ : ∃ d : Nat, n = -(d : Int) := ⟨n.natAbs, by omega⟩
      have hd : d % 10 < 10 := by omega
      have e1 : remK (-(d : Int)) 10 = some (-((d % 10 : Nat) : Int)) := by
        unfold remK
        rw [if_pos (by decide), Int.neg_tmod, Int.tmod_eq_emod_of_nonneg (by omega)]; rfl
      have e2 : inK .i64 (0 - -((d % 10 : Nat) : Int)) = some ((d % 10 : Nat) : Int) := inK_at (by omega) ⟨by omega, by omega⟩
      have e3 : inK .i64 (((d % 10 : Nat) : Int) + 1) = some (((d % 10 : Nat) : Int) + 1) := inK_eq ⟨by omega, by omega⟩
      have h2 : ¬ (0 : Int) ≤ -(d : Int) := by omega
      simp only [e1, bsm, h0, decide_true, if_true, e2, e3, digits_sub hd, Bool.true_and]
      by_cases h1 : -10 < -(d : Int)
      · have hdd : d < 10 := by omega
        have e4 : catK (ByteArray.mk #[45]) (bs [UInt8.ofNat (48 + d % 10)]) = some (bs (45 :: [UInt8.ofNat (48 + d % 10)])) := catK_bs (l := [45]) (by simp)
        simp only [h1, decide_true, if_true, e4, bsm]
        have : itoa (-(d : Int)) = 45 :: [UInt8.ofNat (48 + d % 10)] := by
          unfold itoa
          rw [if_pos h0, show (-(d : Int)).natAbs = d by omega, dd_small hdd, Nat.mod_eq_of_lt hdd]
        rw [this]
      · have hq : (-(d : Int)).tdiv 10 = -((d / 10 : Nat) : Int) := by rw [Int.neg_tdiv, Int.tdiv_eq_ediv_of_nonneg (by omega)]; rfl
        have hit : itoa (-(d : Int)) = itoa (-((d / 10 : Nat) : Int)) ++ [UInt8.ofNat (48 + d % 10)] := by
          unfold itoa
          rw [if_pos h0, if_pos (by omega), show (-(d : Int)).natAbs = d by omega, show (-((d / 10 : Nat) : Int)).natAbs = d / 10 by omega, dd_big (by omega)]
          rfl
        have hl := itoa_len (n := -((d / 10 : Nat) : Int)) ⟨by omega, by omega⟩
        simp only [h1, decide_false, Bool.false_eq_true, if_false, h2, Bool.false_and, inK_tdiv hb, bsm, hq, ih (-((d / 10 : Nat) : Int)) ⟨by omega, by omega⟩ (by omega)]
        rw [catK_bs (by simp only [List.length_singleton]; omega), bsm, hit]
    · obtain ⟨d, rfl⟩ : ∃ d : Nat, n = (d : Int) := ⟨n.natAbs, by omega⟩
      have hd : d % 10 < 10 := by omega
      have e1 : remK (d : Int) 10 = some ((d % 10 : Nat) : Int) := by
        rw [remK_pos (by omega) (by decide)]; rfl
      have e3 : inK .i64 (((d % 10 : Nat) : Int) + 1) = some (((d % 10 : Nat) : Int) + 1) := inK_eq ⟨by omega, by omega⟩
      have h2 : (0 : Int) ≤ (d : Int) := by omega
      simp only [e1, bsm, h0, decide_false, Bool.false_eq_true, if_false, e3, digits_sub hd, Bool.false_and, h2, decide_true, Bool.true_and]
      by_cases h1 : (d : Int) < 10
      · have hdd : d < 10 := by omega
        simp only [h1, decide_true, if_true]
        have : itoa (d : Int) = [UInt8.ofNat (48 + d % 10)] := by
          unfold itoa
          rw [if_neg h0, Int.toNat_natCast, dd_small hdd, Nat.mod_eq_of_lt hdd]
        rw [this]
      · have hq : (d : Int).tdiv 10 = ((d / 10 : Nat) : Int) := by rw [Int.tdiv_eq_ediv_of_nonneg (by omega)]; rfl
        have hit : itoa (d : Int) = itoa ((d / 10 : Nat) : Int) ++ [UInt8.ofNat (48 + d % 10)] := by
          unfold itoa
          rw [if_neg h0, if_neg (by omega), Int.toNat_natCast, Int.toNat_natCast, dd_big (by omega)]
        have hl := itoa_len (n := ((d / 10 : Nat) : Int)) ⟨by omega, by omega⟩
        simp only [h1, decide_false, Bool.false_eq_true, if_false, inK_tdiv hb, bsm, hq, ih ((d / 10 : Nat) : Int) ⟨by omega, by omega⟩ (by omega)]
        rw [catK_bs (by simp only [List.length_singleton]; omega), bsm, hit]
theorem decimal_ok {n : Int} (h : -9223372036854775808 ≤ n ∧ n ≤ 9223372036854775807) : m_assessorref26_Decimal n = some (bs (itoa n)) :=
  decimal_r 20 n h (by omega)
theorem itoa_ok {n : Int} (h : -9223372036854775808 ≤ n ∧ n ≤ 9223372036854775807) : m_itoa n = some (bs (itoa n)) := by
  unfold m_itoa; rw [if_pos h]; rfl
def litL (l : Int) : List UInt8 := itoa l ++ [32]
def lineL (c : List Int) : List UInt8 := c.flatMap litL ++ [48, 10]
def headL (f : Formula) : List UInt8 := [112, 32, 99, 110, 102, 32] ++ itoa f.vars ++ [32] ++ itoa (f.clauses.length : Int) ++ [10]
def fmtL (f : Formula) : List UInt8 := headL f ++ f.clauses.flatMap lineL
def Fits (cs : List (List Int)) : Prop := cs.length ≤ 10000 ∧ ∀ c ∈ cs, c.length ≤ 10000
theorem litL_len {l : Int} (h : -9223372036854775808 ≤ l ∧ l ≤ 9223372036854775807) : (litL l).length ≤ 21 := by
  have := itoa_len h
  unfold litL; simp only [List.length_append, List.length_singleton]; omega
theorem lits_len {c : List Int} (h : ∀ l ∈ c, -9223372036854775808 ≤ l ∧ l ≤ 9223372036854775807) : (c.flatMap litL).length ≤ 21 * c.length := by
  induction c with
  | nil => simp
  | cons x c ih =>
    rw [List.flatMap_cons, List.length_append, List.length_cons]
    have := litL_len (h x (List.mem_cons_self ..))
    have := ih fun l hl => h l (List.mem_cons_of_mem _ hl)
    omega
theorem lineL_len {c : List Int} (h : ∀ l ∈ c, -9223372036854775808 ≤ l ∧ l ≤ 9223372036854775807) (hc : c.length ≤ 10000) : (lineL c).length ≤ 210002 := by
  have := lits_len h
  unfold lineL; simp only [List.length_append, List.length_cons, List.length_nil]; omega
theorem lines_len : ∀ {cs : List (List Int)}, (∀ c ∈ cs, c.length ≤ 10000 ∧ ∀ l ∈ c, -9223372036854775808 ≤ l ∧ l ≤ 9223372036854775807) → (cs.flatMap lineL).length ≤ 210002 * cs.length
  | [], _ => by simp
  | c :: cs, h => by
    rw [List.flatMap_cons, List.length_append, List.length_cons]
    have h1 := h c (List.mem_cons_self ..)
    have := lineL_len h1.2 h1.1
    have := lines_len (cs := cs) fun d hd => h d (List.mem_cons_of_mem _ hd)
    omega
theorem flatMap_take {α β : Type} (g : α → List β) {l : List α} {k : Nat} {a : α} (h : l[k]? = some a) : (l.take (k + 1)).flatMap g = (l.take k).flatMap g ++ g a := by
  rw [take_snoc_of h, List.flatMap_append]; simp
theorem ref_line {c : List Int} (hc : c.length ≤ 10000) (h : ∀ l ∈ c, -9223372036854775808 ≤ l ∧ l ≤ 9223372036854775807) : m_assessorref26_Line c = some (bs (lineL c)) := by
  unfold m_assessorref26_Line
  have htl : ∀ k, ((c.take k).flatMap litL).length ≤ 210000 := fun k => by
    have := lits_len (c := c.take k) fun l hl => h l (List.mem_of_mem_take hl)
    have : (c.take k).length ≤ c.length := by rw [List.length_take]; omega
    omega
  have hloop : ∃ b, loopM (fun s : ByteArray × Int => m_assessorref26_Line_lp1 c s.1 s.2) ((ByteArray.mk #[]), 0) = some b ∧ b = bs (c.flatMap litL) := by
    refine loopN (body := fun s : ByteArray × Int => m_assessorref26_Line_lp1 c s.1 s.2) c.length (fun k t => (t, (k : Int))) (fun k t => t = bs ((c.take k).flatMap litL)) _ (t0 := ByteArray.mk #[]) rfl rfl ?_ ?_
    · rintro k t hk rfl
      obtain ⟨x, hx⟩ := get_of_lt hk
      have hb := h x (mem_get hx)
      have hl := itoa_len hb
      have := htl k
      refine Or.inl ⟨_, ?_, rfl⟩
      have e1 : catK (bs ((c.take k).flatMap litL)) (bs (itoa x)) = some (bs ((c.take k).flatMap litL ++ itoa x)) := catK_bs (by omega)
      have e2 : catK (bs ((c.take k).flatMap litL ++ itoa x)) (ByteArray.mk #[32]) = some (bs ((c.take (k + 1)).flatMap litL)) := by
        rw [show (ByteArray.mk #[32]) = bs [32] from rfl, catK_bs (by simp only [List.length_append, List.length_singleton]; omega), flatMap_take litL hx]
        unfold litL; rw [List.append_assoc]
      simp only [m_assessorref26_Line_lp1, ltB hk, if_true, idx_nat hx, bsm, decimal_ok hb, e1, e2, inK_up hk (show c.length ≤ 9223372036854775807 by omega)]
    · rintro t rfl
      refine ⟨_, ?_, rfl⟩
      simp only [m_assessorref26_Line_lp1, ltB', if_false, Bool.false_eq_true, List.take_length]
  obtain ⟨b, hb, rfl⟩ := hloop
  have := htl c.length
  rw [List.take_length] at this
  rw [hb, bsm, show (ByteArray.mk #[48, 10]) = bs [48, 10] from rfl, catK_bs (by simp only [List.length_cons, List.length_nil]; omega)]
  rfl
end Go.Proofs.YtfajmelamonolaaDoor

/- The program's Parse: lines, words, numbers; it inverts Format. -/
set_option linter.unusedVariables false
set_option linter.unusedSimpArgs false
namespace Go.Proofs.YtfajmelamonolaaDoor
open Go.RowKit Go.Lib
def preC (c : UInt8) (l : List UInt8) : List UInt8 := l.takeWhile (· != c)
def rstC (c : UInt8) (l : List UInt8) : List UInt8 := (l.dropWhile (· != c)).drop 1
theorem preC_app {c : UInt8} : ∀ {x r : List UInt8}, c ∉ x → preC c (x ++ c :: r) = x ∧ rstC c (x ++ c :: r) = r
  | [], r, _ => by simp [preC, rstC]
  | b :: x, r, h => by
    have hb : (b != c) = true := by simp; intro e; exact h (by rw [e]; exact List.mem_cons_self ..)
    have := preC_app (c := c) (x := x) (r := r) (fun hm => h (List.mem_cons_of_mem _ hm))
    unfold preC rstC at *
    rw [List.cons_append, List.takeWhile_cons, List.dropWhile_cons, if_pos hb, if_pos hb, this.1, this.2]
    exact ⟨rfl, rfl⟩
theorem preC_none {c : UInt8} : ∀ {x : List UInt8}, c ∉ x → preC c x = x ∧ rstC c x = []
  | [], _ => by simp [preC, rstC]
  | b :: x, h => by
    have hb : (b != c) = true := by simp; intro e; exact h (by rw [e]; exact List.mem_cons_self ..)
    have := preC_none (c := c) (x := x) (fun hm => h (List.mem_cons_of_mem _ hm))
    unfold preC rstC at *
    rw [List.takeWhile_cons, List.dropWhile_cons, if_pos hb, if_pos hb, this.1, this.2]
    exact ⟨rfl, rfl⟩
theorem split_at (c : UInt8) : ∀ (l : List UInt8), c ∈ l → ∃ x r, l = x ++ c :: r ∧ c ∉ x
  | [], h => by simp at h
  | b :: l, h => by
    by_cases hb : b = c
    · exact ⟨[], l, by rw [hb]; rfl, by simp⟩
    · obtain ⟨x, r, h1, h2⟩ := split_at c l (by rcases List.mem_cons.1 h with h | h; exact absurd h.symm hb; exact h)
      exact ⟨b :: x, r, by rw [h1]; rfl, by simp [h2]; exact fun e => hb e.symm⟩
theorem index_app {c : UInt8} {x r : List UInt8} (h : c ∉ x) : index (x ++ c :: r) [c] = x.length := by
  refine index_first (by simp) ?_ fun j hj => ?_
  · simp [occAt, List.isPrefixOf]
  · unfold occAt
    have hlt : j < (x ++ c :: r).length := by simp; omega
    rw [List.drop_eq_getElem_cons hlt]
    have : (x ++ c :: r)[j] = x[j] := List.getElem_append_left hj
    rw [this]
    have hne : ¬ c = x[j] := fun e => h (e ▸ List.getElem_mem hj)
    simp [List.isPrefixOf, hne]
theorem index_no {c : UInt8} {x : List UInt8} (h : c ∉ x) : index x [c] = -1 := by
  refine index_none fun j hj => ?_
  unfold occAt
  by_cases hlt : j < x.length
  · rw [List.drop_eq_getElem_cons hlt]
    have hne : ¬ c = x[j] := fun e => h (e ▸ List.getElem_mem hlt)
    simp [List.isPrefixOf, hne]
  · rw [List.drop_eq_nil_of_le (by omega)]; rfl
theorem cut_eq (c : UInt8) (l : List UInt8) : (Lib.cut l [c]).1 = preC c l ∧ (Lib.cut l [c]).2.1 = rstC c l := by
  unfold Lib.cut
  by_cases h : c ∈ l
  · obtain ⟨x, r, rfl, hx⟩ := split_at c l h
    rw [index_app hx, if_pos (by omega), (preC_app hx).1, (preC_app hx).2]
    simp
  · rw [index_no h, if_neg (by decide), (preC_none h).1, (preC_none h).2]
    exact ⟨rfl, rfl⟩
def splitC (c : UInt8) : List UInt8 → List (List UInt8)
  | [] => [[]]
  | b :: r => if b = c then [] :: splitC c r else match splitC c r with
    | [] => [[b]]
    | w :: ws => (b :: w) :: ws
theorem splitC_none {c : UInt8} : ∀ {x : List UInt8}, c ∉ x → splitC c x = [x]
  | [], _ => rfl
  | b :: x, h => by
    have hb : ¬ b = c := fun e => h (by rw [e]; exact List.mem_cons_self ..)
    unfold splitC
    rw [if_neg hb, splitC_none (fun hm => h (List.mem_cons_of_mem _ hm))]
theorem splitC_app {c : UInt8} : ∀ {x r : List UInt8}, c ∉ x → splitC c (x ++ c :: r) = x :: splitC c r
  | [], r, _ => by rw [List.nil_append, splitC, if_pos rfl]
  | b :: x, r, h => by
    have hb : ¬ b = c := fun e => h (by rw [e]; exact List.mem_cons_self ..)
    rw [List.cons_append, splitC, if_neg hb, splitC_app (fun hm => h (List.mem_cons_of_mem _ hm))]
theorem splitC_len (c : UInt8) : ∀ (l : List UInt8), 1 ≤ (splitC c l).length ∧ (splitC c l).length ≤ l.length + 1
  | [] => by simp [splitC]
  | b :: r => by
    have := splitC_len c r
    unfold splitC
    by_cases hb : b = c
    · rw [if_pos hb]; simp only [List.length_cons]; omega
    · rw [if_neg hb]
      cases h : splitC c r with
      | nil => rw [h] at this; simp at this
      | cons w ws => rw [h] at this; simp only [List.length_cons] at *; omega
theorem splitC_word (c : UInt8) : ∀ (l : List UInt8), ∀ w ∈ splitC c l, w.length ≤ l.length
  | [], w, h => by simp [splitC] at h; simp [h]
  | b :: r, w, h => by
    have ih := splitC_word c r
    unfold splitC at h
    by_cases hb : b = c
    · rw [if_pos hb] at h
      rcases List.mem_cons.1 h with rfl | h
      · simp
      · have := ih w h; simp only [List.length_cons]; omega
    · rw [if_neg hb] at h
      cases hs : splitC c r with
      | nil => have := splitC_len c r; rw [hs] at this; simp at this
      | cons v vs =>
        rw [hs] at h ih
        simp only at h
        rcases List.mem_cons.1 h with rfl | h
        · have := ih v (List.mem_cons_self ..); simp only [List.length_cons]; omega
        · have := ih w (List.mem_cons_of_mem _ h); simp only [List.length_cons]; omega
theorem splitK_eq (c : UInt8) : ∀ (n : Nat) (l : List UInt8), l.length ≤ n → splitK [c] 0 (l.count c) l = splitC c l := by
  intro n
  induction n with
  | zero => intro l hl; have : l = [] := List.eq_nil_of_length_eq_zero (by omega); subst this; rfl
  | succ n ih =>
    intro l hl
    by_cases h : c ∈ l
    · obtain ⟨x, r, rfl, hx⟩ := split_at c l h
      have hc : (x ++ c :: r).count c = r.count c + 1 := by
        rw [List.count_append, List.count_cons_self, List.count_eq_zero.2 hx]; omega
      rw [hc, splitC_app hx]
      unfold splitK
      rw [index_app hx, if_neg (by simp)]
      simp only [Nat.add_zero, Int.toNat_natCast, List.length_singleton]
      rw [List.take_left' rfl, show List.drop (x.length + 1) (x ++ c :: r) = r by simp]
      simp only [List.length_append, List.length_cons] at hl
      rw [ih r (by omega)]
    · rw [List.count_eq_zero.2 h, splitC_none h]; rfl
theorem split_ok {l : List UInt8} (h : l.length ≤ 1000000) : m_split (bs l) (ByteArray.mk #[32]) = some ((splitC 32 l).map bs) := by
  have hc : countB (bs l) (ByteArray.mk #[32]) = l.count 32 := by
    rw [← count_one]
    show Lib.count (bs l).data.toList _ = _
    rw [bs_data]
  have hle : l.count 32 ≤ l.length := List.count_le_length
  unfold m_split
  rw [if_pos ⟨by rw [bs_size]; omega, by decide, by rw [hc]; omega⟩, hc]
  congr 1
  have h1 := splitB_data (ByteArray.mk #[32]) 0 (l.count 32) (bs l)
  rw [bs_data, show (ByteArray.mk #[32]).data.toList = [32] from rfl, splitK_eq 32 l.length l (Nat.le_refl _)] at h1
  rw [← h1, List.map_map]
  have : (bs ∘ fun x : ByteArray => x.data.toList) = id := by funext x; exact bs_of x
  rw [this, List.map_id]
theorem cut_ok {l : List UInt8} (h : l.length ≤ 1000000) : ∃ b, m_cut (bs l) (ByteArray.mk #[10]) = some (bs (preC 10 l), bs (rstC 10 l), b) := by
  unfold m_cut
  rw [if_pos (by rw [bs_size]; omega), bs_data]
  have h1 := cut_eq 10 l
  exact ⟨_, by rw [show (ByteArray.mk #[10]).data.toList = [10] from rfl, h1.1, h1.2]; rfl⟩
theorem rst_len {c : UInt8} {l : List UInt8} (h : l ≠ []) : (rstC c l).length < l.length := by
  by_cases hm : c ∈ l
  · obtain ⟨x, r, rfl, hx⟩ := split_at c l hm
    rw [(preC_app hx).2]; simp; omega
  · rw [(preC_none hm).2]
    cases l with
    | nil => exact absurd rfl h
    | cons b l => simp
theorem pre_len (c : UInt8) (l : List UInt8) : (preC c l).length ≤ l.length := by
  unfold preC
  exact (List.takeWhile_sublist _).length_le
def pfold {σ ε : Type} (step : List UInt8 → σ → Step σ ε) : Nat → List UInt8 → σ → Step σ ε
  | 0, _, s => .next s
  | n + 1, l, s => if l = [] then .next s else match step (preC 10 l) s with
    | .next s' => pfold step n (rstC 10 l) s'
    | .done r => .done r
theorem bs_nil {l : List UInt8} : bs l = ByteArray.mk #[] ↔ l = [] := by
  constructor
  · intro h; exact bs_inj (h.trans rfl)
  · rintro rfl; rfl
def atoiV (w : List UInt8) : Int := match Lib.atoiAll w with | .ok v => v | .range => Lib.atoiSat w | _ => 0
theorem atoi_ok {w : List UInt8} (h : w.length ≤ 1000000) : m_atoi (bs w) = some (atoiV w) := by
  unfold m_atoi atoiV
  rw [if_pos (by rw [bs_size]; omega), bs_data]
  rfl
theorem valD_ge : ∀ (l : List UInt8) (acc : Nat), acc ≤ valD acc l
  | [], acc => Nat.le_refl _
  | b :: l, acc => by
    have := valD_ge l (10 * acc + (b.toNat - 48))
    show acc ≤ valD (10 * acc + (b.toNat - 48)) l
    omega
theorem parse_digits : ∀ (l : List UInt8) (acc : Nat), (∀ b ∈ l, 48 ≤ b.toNat ∧ b.toNat ≤ 57) → valD acc l ≤ 1000000000000000000 → parseUint10 acc l = .ok (valD acc l)
  | [], acc, _, _ => rfl
  | b :: l, acc, hd, hv => by
    have hb := hd b (List.mem_cons_self ..)
    have hv' : valD (10 * acc + (b.toNat - 48)) l ≤ 1000000000000000000 := hv
    have hge := valD_ge l (10 * acc + (b.toNat - 48))
    unfold parseUint10
    rw [if_pos hb, if_neg (by omega), if_neg (by omega), show acc * 10 + (b.toNat - 48) = 10 * acc + (b.toNat - 48) by omega, parse_digits l _ (fun c hc => hd c (List.mem_cons_of_mem _ hc)) hv']
    rfl
theorem dd_cons (u : Nat) : ∃ b r, decDigits u = b :: r ∧ 48 ≤ b.toNat ∧ b.toNat ≤ 57 := by
  cases h : decDigits u with
  | nil => exact absurd h (dd_ne u)
  | cons b r => exact ⟨b, r, rfl, dd_digit u b (by rw [h]; exact List.mem_cons_self ..)⟩
theorem atoi_itoa {n : Int} (h : -1000000000000000000 ≤ n ∧ n ≤ 1000000000000000000) : atoiV (itoa n) = n := by
  unfold atoiV itoa
  by_cases h0 : n < 0
  · rw [if_pos h0]
    have hp : parseMag (decDigits n.natAbs) = .ok n.natAbs := by
      unfold parseMag
      rw [if_neg (dd_ne _), parse_digits _ 0 (dd_digit _) (by rw [dd_val]; omega), dd_val]
    have h1 : atoiAll (45 :: decDigits n.natAbs) = .ok n := by
      unfold atoiAll
      have e : (45 : UInt8).toNat = 45 := rfl
      simp only [e, or_true, if_true, hp, not_true_eq_false, false_and, if_false, true_and]
      rw [if_neg (by omega)]
      congr 1
      omega
    rw [h1]
  · rw [if_neg h0]
    obtain ⟨b, r, hb, h1, h2⟩ := dd_cons n.toNat
    have hp : parseMag (decDigits n.toNat) = .ok n.toNat := by
      unfold parseMag
      rw [if_neg (dd_ne _), parse_digits _ 0 (dd_digit _) (by rw [dd_val]; omega), dd_val]
    have h3 : atoiAll (decDigits n.toNat) = .ok n := by
      rw [hb] at hp ⊢
      unfold atoiAll
      have e1 : ¬ b.toNat = 43 := by omega
      have e2 : ¬ b.toNat = 45 := by omega
      simp only [e1, e2, or_self, if_false, hp, not_false_eq_true, true_and, false_and]
      rw [if_neg (by omega)]
      congr 1
      omega
    rw [h3]
abbrev PS := List (List Int) × Bool × Int
def pstep (line : List UInt8) (s : PS) : Step PS (Formula × Int) :=
  if s.2.1 = true then (if (splitC 32 line).length ≠ 4 then .done (⟨0, []⟩, 3) else .next (s.1, false, atoiV ((splitC 32 line).getD 2 [])))
  else .next (s.1 ++ [(splitC 32 line).dropLast.map atoiV], s.2.1, s.2.2)
theorem itoa_mem {n : Int} : ∀ b ∈ itoa n, b ≠ 32 ∧ b ≠ 10 := by
  intro b hb
  have hd : ∀ u, b ∈ decDigits u → b ≠ 32 ∧ b ≠ 10 := fun u hu => by
    have := dd_digit u b hu
    refine ⟨fun e => ?_, fun e => ?_⟩
    · rw [e] at this; exact absurd this.1 (by decide)
    · rw [e] at this; exact absurd this.1 (by decide)
  unfold itoa at hb
  split at hb
  · rcases List.mem_cons.1 hb with rfl | hb
    · exact ⟨by decide, by decide⟩
    · exact hd _ hb
  · exact hd _ hb
theorem split_lits : ∀ (c : List Int) (r : List UInt8), splitC 32 (c.flatMap litL ++ r) = c.map itoa ++ splitC 32 r
  | [], r => rfl
  | l :: c, r => by
    rw [List.flatMap_cons, List.append_assoc]
    rw [show litL l ++ (c.flatMap litL ++ r) = itoa l ++ 32 :: (c.flatMap litL ++ r) by unfold litL; simp, splitC_app (fun hm => (itoa_mem _ hm).1 rfl), split_lits c r]
    rfl
theorem lits_no {c : List Int} : (10 : UInt8) ∉ c.flatMap litL := by
  intro h
  obtain ⟨l, _, hl⟩ := List.mem_flatMap.1 h
  unfold litL at hl
  rcases List.mem_append.1 hl with hl | hl
  · exact (itoa_mem _ hl).2 rfl
  · simp at hl
theorem pfold_next {σ ε : Type} {step : List UInt8 → σ → Step σ ε} {x r : List UInt8} {s s' : σ} {n : Nat} (hx : (10 : UInt8) ∉ x) (hn : (x ++ 10 :: r).length ≤ n) (hs : step x s = .next s') :
    ∃ m, r.length ≤ m ∧ pfold step n (x ++ 10 :: r) s = pfold step m r s' := by
  cases n with
  | zero => simp at hn
  | succ n =>
    refine ⟨n, by simp only [List.length_append, List.length_cons] at hn; omega, ?_⟩
    rw [pfold, if_neg (by simp), (preC_app hx).1, (preC_app hx).2, hs]
theorem pfold_nil {σ ε : Type} {step : List UInt8 → σ → Step σ ε} {s : σ} : ∀ {n : Nat}, pfold step n [] s = .next s
  | 0 => rfl
  | n + 1 => by rw [pfold, if_pos rfl]
def Wide (c : List Int) : Prop := ∀ l ∈ c, -1000000000000000000 ≤ l ∧ l ≤ 1000000000000000000
theorem map_back : ∀ {c : List Int}, Wide c → (c.map itoa).map atoiV = c
  | [], _ => rfl
  | l :: c, h => by
    rw [List.map_cons, List.map_cons, atoi_itoa (h l (List.mem_cons_self ..)), map_back fun m hm => h m (List.mem_cons_of_mem _ hm)]
theorem pfold_lines : ∀ (cs acc : List (List Int)) (v : Int) (n : Nat), (∀ c ∈ cs, Wide c) → (cs.flatMap lineL).length ≤ n → pfold pstep n (cs.flatMap lineL) (acc, false, v) = .next (acc ++ cs, false, v)
  | [], acc, v, n, _, _ => by rw [List.flatMap_nil, pfold_nil, List.append_nil]
  | c :: cs, acc, v, n, h, hn => by
    have e : (c :: cs).flatMap lineL = (c.flatMap litL ++ [48]) ++ 10 :: cs.flatMap lineL := by
      rw [List.flatMap_cons]; unfold lineL; simp
    have h10 : (10 : UInt8) ∉ c.flatMap litL ++ [48] := by
      intro hm
      rcases List.mem_append.1 hm with hm | hm
      · exact lits_no hm
      · simp at hm
    have hs : pstep (c.flatMap litL ++ [48]) (acc, false, v) = .next (acc ++ [c], false, v) := by
      unfold pstep
      rw [if_neg (by simp), split_lits, splitC_none (by decide)]
      simp only [List.dropLast_concat]
      rw [map_back (h c (List.mem_cons_self ..))]
    rw [e] at hn ⊢
    obtain ⟨m, hm, he⟩ := pfold_next h10 hn hs
    rw [he, pfold_lines cs (acc ++ [c]) v m (fun d hd => h d (List.mem_cons_of_mem _ hd)) hm]
    simp
theorem valid_wide {f : Formula} (hv : validB f = true) : ∀ c ∈ f.clauses, Wide c := fun c hc l hl => by
  have := valid_lit hv hc hl
  have := valid_bnd hv
  omega
theorem pfold_fmt {f : Formula} (hv : validB f = true) {n : Nat} (hn : (fmtL f).length ≤ n) : pfold pstep n (fmtL f) ([], true, 0) = .next (f.clauses, false, f.vars) := by
  have hb := valid_bnd hv
  have e : fmtL f = ([112, 32, 99, 110, 102, 32] ++ itoa f.vars ++ [32] ++ itoa (f.clauses.length : Int)) ++ 10 :: f.clauses.flatMap lineL := by
    unfold fmtL headL; simp
  have h10 : (10 : UInt8) ∉ ([112, 32, 99, 110, 102, 32] ++ itoa f.vars ++ [32] ++ itoa (f.clauses.length : Int)) := by
    intro hm
    simp only [List.mem_append] at hm
    rcases hm with ((hm | hm) | hm) | hm
    · revert hm; decide
    · exact (itoa_mem _ hm).2 rfl
    · revert hm; decide
    · exact (itoa_mem _ hm).2 rfl
  have hsp : splitC 32 ([112, 32, 99, 110, 102, 32] ++ itoa f.vars ++ [32] ++ itoa (f.clauses.length : Int)) = [[112], [99, 110, 102], itoa f.vars, itoa (f.clauses.length : Int)] := by
    have e1 : ([112, 32, 99, 110, 102, 32] ++ itoa f.vars ++ [32] ++ itoa (f.clauses.length : Int)) = [112] ++ 32 :: ([99, 110, 102] ++ 32 :: (itoa f.vars ++ 32 :: itoa (f.clauses.length : Int))) := by simp
    rw [e1, splitC_app (by decide), splitC_app (by decide), splitC_app (fun hm => (itoa_mem _ hm).1 rfl), splitC_none (fun hm => (itoa_mem _ hm).1 rfl)]
  have hs : pstep ([112, 32, 99, 110, 102, 32] ++ itoa f.vars ++ [32] ++ itoa (f.clauses.length : Int)) ([], true, 0) = .next ([], false, f.vars) := by
    unfold pstep
    rw [if_pos rfl, hsp, if_neg (by simp)]
    show Step.next (_, _, atoiV (itoa f.vars)) = _
    rw [atoi_itoa (by omega)]
  rw [e] at hn ⊢
  obtain ⟨m, hm, he⟩ := pfold_next h10 hn hs
  rw [he, pfold_lines f.clauses [] f.vars m (valid_wide hv) hm]
  rfl
def ParseSpec (l : List UInt8) (r : Formula × Int) : Prop :=
  (∃ f, validB f = true ∧ Fits f.clauses ∧ l = fmtL f ∧ r = (f, 0)) ∨ ((∀ f, validB f = true → Fits f.clauses → l ≠ fmtL f) ∧ r = (⟨0, []⟩, 3))
theorem fmtL_inj {f g : Formula} (hf : validB f = true) (hg : validB g = true) (h : fmtL f = fmtL g) : f = g := by
  have h1 := pfold_fmt hf (Nat.le_refl _)
  have h2 := pfold_fmt hg (Nat.le_refl _)
  rw [h, h2] at h1
  simp only [Step.next.injEq, Prod.mk.injEq] at h1
  obtain ⟨fv, fc⟩ := f
  obtain ⟨gv, gc⟩ := g
  simp only at h1
  rw [h1.1, h1.2.2]
theorem ParseSpec.eq {l : List UInt8} {r r' : Formula × Int} (h : ParseSpec l r) (h' : ParseSpec l r') : r = r' := by
  rcases h with ⟨f, hv, hf, rfl, rfl⟩ | ⟨h, rfl⟩
  · rcases h' with ⟨g, hv', hg, he, rfl⟩ | ⟨h', rfl⟩
    · rw [fmtL_inj hv hv' he]
    · exact absurd rfl (h' f hv hf)
  · rcases h' with ⟨g, hv', hg, rfl, rfl⟩ | ⟨h', rfl⟩
    · exact absurd rfl (h g hv' hg)
    · rfl
def PInv (s : PS) (n : Nat) : Prop := s.1.length + n ≤ 10000 ∧ ∀ c ∈ s.1, c.length ≤ 10000
theorem PInv.step {line : List UInt8} {s s' : PS} {n : Nat} (h : PInv s (n + 1)) (hl : line.length ≤ n + 1) (hs : pstep line s = .next s') : PInv s' n := by
  obtain ⟨h1, h2⟩ := h
  unfold pstep at hs
  split at hs
  · split at hs
    · cases hs
    · simp only [Step.next.injEq] at hs
      subst hs
      exact ⟨by simp only; omega, h2⟩
  · simp only [Step.next.injEq] at hs
    subst hs
    refine ⟨by simp only [List.length_append, List.length_singleton]; omega, fun c hc => ?_⟩
    rcases List.mem_append.1 hc with hc | hc
    · exact h2 c hc
    · rw [List.mem_singleton] at hc
      subst hc
      have := splitC_len 32 line
      rw [List.length_map, List.length_dropLast]; omega
end Go.Proofs.YtfajmelamonolaaDoor

/- The reference's Parse: it reads what Format writes, and nothing else. -/
set_option linter.unusedVariables false
set_option linter.unusedSimpArgs false
namespace Go.Proofs.YtfajmelamonolaaDoor
open Go.RowKit Go.Lib
def dig (b : UInt8) : Prop := 48 ≤ b.toNat ∧ b.toNat ≤ 57
def NoDig (r : List UInt8) : Prop := ∀ b r', r = b :: r' → ¬ dig b
theorem dig_ex : ∀ (n : Nat) (l : List UInt8), ∃ d r, l = d ++ r ∧ d.length ≤ n ∧ (∀ b ∈ d, dig b) ∧ (d.length = n ∨ NoDig r)
  | 0, l => ⟨[], l, rfl, Nat.le_refl _, by simp, Or.inl rfl⟩
  | n + 1, [] => ⟨[], [], rfl, by simp, by simp, Or.inr (by intro b r' h; cases h)⟩
  | n + 1, b :: l => by
    by_cases hb : dig b
    · obtain ⟨d, r, h1, h2, h3, h4⟩ := dig_ex n l
      refine ⟨b :: d, r, by rw [h1]; rfl, by simp; omega, ?_, ?_⟩
      · intro c hc
        rcases List.mem_cons.1 hc with rfl | hc
        · exact hb
        · exact h3 c hc
      · rcases h4 with h4 | h4
        · exact Or.inl (by simp; omega)
        · exact Or.inr h4
    · exact ⟨[], b :: l, rfl, by simp, by simp, Or.inr (by
        intro c r' h
        simp only [List.cons.injEq] at h
        rw [← h.1]; exact hb)⟩
theorem dd_len9 {u : Nat} (h : u ≤ 999999999) : (decDigits u).length ≤ 9 := dd_len 8 u (by omega)
theorem val_lt : ∀ (d : List UInt8) (a : Nat), (∀ b ∈ d, dig b) → valD a d < (a + 1) * 10 ^ d.length
  | [], a, _ => by simp [valD]
  | b :: d, a, h => by
    have hb := h b (List.mem_cons_self ..)
    have := val_lt d (10 * a + (b.toNat - 48)) fun c hc => h c (List.mem_cons_of_mem _ hc)
    show valD (10 * a + (b.toNat - 48)) d < _
    unfold dig at hb
    have h2 : (10 * a + (b.toNat - 48) + 1) * 10 ^ d.length ≤ (10 * (a + 1)) * 10 ^ d.length := Nat.mul_le_mul_right _ (by omega)
    rw [List.length_cons, Nat.pow_succ]
    rw [Nat.mul_comm (10 ^ d.length) 10, ← Nat.mul_assoc, Nat.mul_comm (a + 1) 10]
    omega
theorem val9 {d : List UInt8} (hd : ∀ b ∈ d, dig b) (hl : d.length ≤ 9) : valD 0 d ≤ 999999999 := by
  have h1 := val_lt d 0 hd
  have h2 : 10 ^ d.length ≤ 10 ^ 9 := Nat.pow_le_pow_right (by omega) hl
  omega
theorem valD_take {d : List UInt8} {k : Nat} {b : UInt8} (h : d[k]? = some b) : valD 0 (d.take (k + 1)) = 10 * valD 0 (d.take k) + (b.toNat - 48) := by
  rw [take_snoc_of h]; unfold valD; rw [List.foldl_append]; rfl
theorem u8_sub {b : Int} (h : 48 ≤ b ∧ b ≤ 57) : IntKind.wrap .u8 (b - 48) = b - 48 := by
  rw [IntKind.wrap_u8]; omega
theorem int_loop {l d r : List UInt8} {j : Nat} (hl : l.length ≤ 10000) (e : l.drop j = d ++ r) (hj : j ≤ l.length) (h9 : d.length ≤ 9) (hd : ∀ b ∈ d, dig b) (hr : d.length = 9 ∨ NoDig r) :
    loopM (fun s : Int × Int => m_assessorref26_integer_lp1 (bs l) (j : Int) s.1 s.2) (0, (j : Int)) = some ((valD 0 d : Int), ((j + d.length : Nat) : Int)) := by
  have hlen : l.length = j + d.length + r.length := by
    have := congrArg List.length e
    simp only [List.length_drop, List.length_append] at this; omega
  have hget : ∀ k, l[j + k]? = (d ++ r)[k]? := fun k => by rw [← e, List.getElem?_drop]
  have h : ∃ b, loopM (fun s : Int × Int => m_assessorref26_integer_lp1 (bs l) (j : Int) s.1 s.2) (0, (j : Int)) = some b ∧ b = ((valD 0 d : Int), ((j + d.length : Nat) : Int)) := by
    refine loopN (body := fun s : Int × Int => m_assessorref26_integer_lp1 (bs l) (j : Int) s.1 s.2) d.length (fun k (t : Nat) => ((t : Int), ((j + k : Nat) : Int))) (fun k t => t = valD 0 (d.take k)) _ (t0 := 0) rfl rfl ?_ ?_
    · rintro k t hk rfl
      obtain ⟨b, hb⟩ := get_of_lt hk
      have hdb := hd b (mem_get hb)
      unfold dig at hdb
      have hg : sidx (bs l) ((j + k : Nat) : Int) = some (b.toNat : Int) := sidx_bs (by rw [hget, List.getElem?_append_left hk, hb])
      have c1 : (decide (((j + k : Nat) : Int) < ((bs l).size : Int))) = true := by rw [bs_size, decide_eq_true_eq]; omega
      have c2 : inK .i64 ((j : Int) + 9) = some ((j : Int) + 9) := inK_eq ⟨by omega, by omega⟩
      have c3 : (decide (((j + k : Nat) : Int) < (j : Int) + 9)) = true := by rw [decide_eq_true_eq]; omega
      have c4 : (decide ((48 : Int) ≤ (b.toNat : Int))) = true := by rw [decide_eq_true_eq]; omega
      have c5 : (decide ((b.toNat : Int) ≤ 57)) = true := by rw [decide_eq_true_eq]; omega
      have hv : valD 0 (d.take k) ≤ 999999999 := val9 (fun c hc => hd c (List.mem_of_mem_take hc)) (by rw [List.length_take]; omega)
      have hv' := valD_take hb
      have c6 : inK .i64 (10 * (valD 0 (d.take k) : Int)) = some (10 * (valD 0 (d.take k) : Int)) := inK_eq ⟨by omega, by omega⟩
      have c7 : inK .i64 (IntKind.wrap .u8 ((b.toNat : Int) - 48)) = some ((b.toNat : Int) - 48) := by rw [u8_sub ⟨by omega, by omega⟩]; exact inK_eq ⟨by omega, by omega⟩
      have c8 : inK .i64 (10 * (valD 0 (d.take k) : Int) + ((b.toNat : Int) - 48)) = some (valD 0 (d.take (k + 1)) : Int) := inK_at (by omega) ⟨by omega, by omega⟩
      have c9 : inK .i64 (((j + k : Nat) : Int) + 1) = some ((j + (k + 1) : Nat) : Int) := inK_at (by omega) ⟨by omega, by omega⟩
      exact Or.inl ⟨_, by simp only [m_assessorref26_integer_lp1, c1, c2, c3, c4, c5, hg, c6, c7, c8, c9, bsm, if_true], rfl⟩
    · rintro t rfl
      rw [List.take_length]
      refine ⟨_, ?_, rfl⟩
      have c2 : inK .i64 ((j : Int) + 9) = some ((j : Int) + 9) := inK_eq ⟨by omega, by omega⟩
      by_cases c1 : (decide (((j + d.length : Nat) : Int) < ((bs l).size : Int))) = true
      · by_cases c3 : (decide (((j + d.length : Nat) : Int) < (j : Int) + 9)) = true
        · rw [bs_size, decide_eq_true_eq] at c1
          have c1' : (decide (((j + d.length : Nat) : Int) < ((bs l).size : Int))) = true := by rw [bs_size, decide_eq_true_eq]; exact c1
          have c3' := c3
          rw [decide_eq_true_eq] at c3'
          cases r with
          | nil => simp only [List.length_nil] at hlen; omega
          | cons b r =>
            have hnb : ¬ dig b := by
              rcases hr with hr | hr
              · omega
              · exact hr b r rfl
            have hg : sidx (bs l) ((j + d.length : Nat) : Int) = some (b.toNat : Int) := sidx_bs (by rw [hget, List.getElem?_append_right (Nat.le_refl _), Nat.sub_self]; rfl)
            unfold dig at hnb
            by_cases c4 : (48 : Int) ≤ (b.toNat : Int)
            · have c5 : ¬ (b.toNat : Int) ≤ 57 := by omega
              simp only [m_assessorref26_integer_lp1, c1', c2, c3, c4, c5, hg, bsm, if_true, decide_true, decide_false, Bool.false_eq_true, if_false]
            · simp only [m_assessorref26_integer_lp1, c1', c2, c3, c4, hg, bsm, if_true, decide_false, Bool.false_eq_true, if_false]
        · simp only [m_assessorref26_integer_lp1, c1, c2, c3, bsm, if_true, Bool.false_eq_true, if_false]
      · simp only [m_assessorref26_integer_lp1, c1, bsm, if_true, Bool.false_eq_true, if_false]
  obtain ⟨b, hb, rfl⟩ := h
  exact hb
theorem int_core {sg d r : List UInt8} (hs : sg = [45] ∨ (sg = [] ∧ ∀ b r', d ++ r = b :: r' → b ≠ 45)) (hl : (sg ++ (d ++ r)).length ≤ 10000) (h9 : d.length ≤ 9) (hd : ∀ b ∈ d, dig b) (hr : d.length = 9 ∨ NoDig r) :
    m_assessorref26_integer (bs (sg ++ (d ++ r))) = some (if d = [] ∨ itoa (if sg = [45] then -(valD 0 d : Int) else (valD 0 d : Int)) ≠ sg ++ d then (0, 0) else (if sg = [45] then -(valD 0 d : Int) else (valD 0 d : Int), ((sg ++ d).length : Int))) := by
  have hv := val9 hd h9
  have hlen : (sg ++ (d ++ r)).length = sg.length + d.length + r.length := by simp only [List.length_append]; omega
  have hm1 : ((if (decide (0 < ((bs (sg ++ (d ++ r))).size : Int))) = true then (sidx (bs (sg ++ (d ++ r))) 0).bind fun x1 => some (decide (x1 = 45)) else some false) : Option Bool) = some (decide (sg = [45])) := by
    rcases hs with rfl | ⟨rfl, hs⟩
    · rw [if_pos (by rw [bs_size, decide_eq_true_eq]; simp; omega), show sidx (bs ([45] ++ (d ++ r))) 0 = some 45 from sidx_bs (l := [45] ++ (d ++ r)) (i := 0) (b := 45) rfl, bsm]; rfl
    · cases hdr : d ++ r with
      | nil => rfl
      | cons b r' =>
        rw [List.nil_append, if_pos (by rw [bs_size, decide_eq_true_eq]; simp), show sidx (bs (b :: r')) 0 = some (b.toNat : Int) from sidx_bs (l := b :: r') (i := 0) (b := b) rfl, bsm]
        have hb := hs b r' hdr
        have : ¬ ((b.toNat : Int) = 45) := fun e => hb (UInt8.toNat_inj.1 (by show b.toNat = 45; omega))
        simp [this]
  have hj : ((if (decide (sg = [45])) = true then some 1 else some 0) : Option Int) = some (sg.length : Int) := by
    rcases hs with rfl | ⟨rfl, hs⟩ <;> rfl
  have hj1 : (decide ((sg.length : Int) = 1)) = decide (sg = [45]) := by
    rcases hs with rfl | ⟨rfl, hs⟩ <;> rfl
  unfold m_assessorref26_integer
  rw [hm1, bsm, hj, bsm, int_loop hl (j := sg.length) (by simp) (by simp) h9 hd hr, bsm, hj1]
  have hj2 : ((if (decide (sg = [45])) = true then (inK .i64 (0 - (valD 0 d : Int))).bind fun x10 => some x10 else some (valD 0 d : Int)) : Option Int) = some (if sg = [45] then -(valD 0 d : Int) else (valD 0 d : Int)) := by
    rcases hs with rfl | ⟨rfl, hs⟩
    · rw [if_pos (by decide), if_pos rfl, inK_at (show 0 - (valD 0 d : Int) = -(valD 0 d : Int) by omega) ⟨by omega, by omega⟩, bsm]
    · rw [if_neg (by decide), if_neg (by decide)]
  simp only at hj2 ⊢
  rw [hj2, bsm]
  generalize hvv : (if sg = [45] then -(valD 0 d : Int) else (valD 0 d : Int)) = v
  have hvb : -9223372036854775808 ≤ v ∧ v ≤ 9223372036854775807 := by
    rw [← hvv]; split <;> omega
  by_cases h0 : d = []
  · subst h0
    rw [if_pos (by simp), bsm, if_pos rfl, if_pos (Or.inl rfl)]
  · have hd0 := List.length_pos_iff.2 h0
    rw [if_neg (by rw [decide_eq_true_eq]; omega), decimal_ok hvb, bsm]
    have hss : ssub (bs (sg ++ (d ++ r))) 0 ((sg.length + d.length : Nat) : Int) = some (bs (sg ++ d)) := by
      have := ssub_bs (l := sg ++ (d ++ r)) (i := 0) (j := sg.length + d.length) (by omega) (by omega)
      rw [show ((0 : Nat) : Int) = 0 from rfl] at this
      rw [this, List.drop_zero, ← List.append_assoc, List.take_left' (by simp)]
    rw [hss, bsm, bsm]
    by_cases he : itoa v = sg ++ d
    · rw [if_neg (by simp [he]), if_neg (by rintro (h | h); exact h0 h; exact h he), List.length_append]
    · rw [if_pos (by simp; exact fun e => he (bs_inj e)), if_pos (Or.inr he)]
def Sm (v : Int) : Prop := -999999999 ≤ v ∧ v ≤ 999999999
theorem ref_integer {l : List UInt8} (hl : l.length ≤ 10000) : ∃ (v : Int) (n : Nat), m_assessorref26_integer (bs l) = some (v, (n : Int)) ∧ (n = 0 ∨ (0 < n ∧ n = (itoa v).length ∧ Sm v ∧ ∃ r, l = itoa v ++ r)) ∧
    ∀ v' r, l = itoa v' ++ r → Sm v' → NoDig r → v = v' ∧ n = (itoa v').length := by
  have hcomp : ∀ v' r, l = itoa v' ++ r → Sm v' → NoDig r → m_assessorref26_integer (bs l) = some (v', ((itoa v').length : Int)) := by
    intro v' r e hs hr
    unfold Sm at hs
    by_cases h0 : v' < 0
    · have hit : itoa v' = [45] ++ decDigits v'.natAbs := by unfold itoa; rw [if_pos h0]; rfl
      rw [hit, List.append_assoc] at e
      subst e
      have := int_core (sg := [45]) (d := decDigits v'.natAbs) (r := r) (Or.inl rfl) hl (dd_len9 (by omega)) (dd_digit _) (Or.inr hr)
      rw [this, dd_val, if_pos rfl, show -((v'.natAbs : Nat) : Int) = v' by omega, hit, if_neg (by rintro (h | h); exact dd_ne _ h; exact h rfl)]
    · have hit : itoa v' = decDigits v'.toNat := by unfold itoa; rw [if_neg h0]
      rw [hit] at e
      subst e
      obtain ⟨b, q, hb, hb1, hb2⟩ := dd_cons v'.toNat
      have := int_core (sg := []) (d := decDigits v'.toNat) (r := r) (Or.inr ⟨rfl, by
        intro b' r' h e
        rw [hb, List.cons_append, List.cons.injEq] at h
        rw [h.1, e] at hb1
        exact absurd hb1 (by decide)⟩) hl (dd_len9 (by omega)) (dd_digit _) (Or.inr hr)
      rw [List.nil_append] at this
      rw [this, dd_val, if_neg (show ¬ (([] : List UInt8) = [45]) by decide), show ((v'.toNat : Nat) : Int) = v' by omega, hit, List.nil_append, if_neg (by rintro (h | h); exact dd_ne _ h; exact h rfl)]
  have hex : ∃ sg d r, l = sg ++ (d ++ r) ∧ (sg = [45] ∨ (sg = [] ∧ ∀ b r', d ++ r = b :: r' → b ≠ 45)) ∧ d.length ≤ 9 ∧ (∀ b ∈ d, dig b) ∧ (d.length = 9 ∨ NoDig r) := by
    by_cases h45 : ∃ r, l = 45 :: r
    · obtain ⟨r, rfl⟩ := h45
      obtain ⟨d, r', h1, h2, h3, h4⟩ := dig_ex 9 r
      exact ⟨[45], d, r', by rw [h1]; rfl, Or.inl rfl, h2, h3, h4⟩
    · obtain ⟨d, r', h1, h2, h3, h4⟩ := dig_ex 9 l
      exact ⟨[], d, r', h1, Or.inr ⟨rfl, fun b r'' h e => h45 ⟨r'', by rw [h1, h, e]⟩⟩, h2, h3, h4⟩
  have hsound : ∃ (v : Int) (n : Nat), m_assessorref26_integer (bs l) = some (v, (n : Int)) ∧ (n = 0 ∨ (0 < n ∧ n = (itoa v).length ∧ Sm v ∧ ∃ r, l = itoa v ++ r)) := by
    obtain ⟨sg, d, r, rfl, hs, h9, hd, hr⟩ := hex
    have := int_core hs hl h9 hd hr
    have hv := val9 hd h9
    generalize hvv : (if sg = [45] then -(valD 0 d : Int) else (valD 0 d : Int)) = v at this
    have hsm : Sm v := by rw [← hvv]; unfold Sm; split <;> omega
    by_cases hc : d = [] ∨ itoa v ≠ sg ++ d
    · rw [if_pos hc] at this
      exact ⟨0, 0, this, Or.inl rfl⟩
    · rw [if_neg hc] at this
      have he : itoa v = sg ++ d := Classical.byContradiction fun h => hc (Or.inr h)
      have h0 : d ≠ [] := fun h => hc (Or.inl h)
      have := List.length_pos_iff.2 h0
      exact ⟨v, (sg ++ d).length, by assumption, Or.inr ⟨by rw [List.length_append]; omega, by rw [he], hsm, r, by rw [he, List.append_assoc]⟩⟩
  obtain ⟨v, n, h1, h2⟩ := hsound
  refine ⟨v, n, h1, h2, fun v' r e hs hr => ?_⟩
  have := hcomp v' r e hs hr
  rw [h1] at this
  simp only [Option.some.injEq, Prod.mk.injEq] at this
  exact ⟨this.1, by omega⟩
def NL (c : List Int) : Prop := ∀ l ∈ c, Sm l ∧ l ≠ 0
theorem itoa_zero : itoa 0 = [48] := by unfold itoa; rw [if_neg (by decide), show (0 : Int).toNat = 0 from rfl, dd_small (by decide)]; rfl
theorem lineL_nil (r : List UInt8) : lineL [] ++ r = itoa 0 ++ 10 :: r := by rw [itoa_zero]; rfl
theorem lineL_cons (l : Int) (c : List Int) (r : List UInt8) : lineL (l :: c) ++ r = itoa l ++ 32 :: (lineL c ++ r) := by
  unfold lineL litL; simp
theorem itoa_pos (v : Int) : 0 < (itoa v).length := by
  unfold itoa
  split
  · simp
  · exact List.length_pos_iff.2 (dd_ne _)
theorem nodig32 (r : List UInt8) : NoDig (32 :: r) := by
  intro b r' h
  rw [List.cons.injEq] at h
  rw [← h.1]; unfold dig; decide
theorem nodig10 (r : List UInt8) : NoDig (10 :: r) := by
  intro b r' h
  rw [List.cons.injEq] at h
  rw [← h.1]; unfold dig; decide
theorem sm_zero : Sm 0 := by unfold Sm; omega
theorem sub_rest (pre rest : List UInt8) : ssub (bs (pre ++ rest)) (pre.length : Int) ((bs (pre ++ rest)).size : Int) = some (bs rest) := by
  rw [bs_size, ssub_bs (by simp) (Nat.le_refl _), List.take_length, List.drop_left]
theorem at_rest (pre : List UInt8) (b : UInt8) (rest : List UInt8) : sidx (bs (pre ++ b :: rest)) (pre.length : Int) = some (b.toNat : Int) := by
  refine sidx_bs ?_
  rw [List.getElem?_append_right (Nat.le_refl _), Nat.sub_self]; rfl
theorem u8_ne {b c : UInt8} (h : b ≠ c) : ¬ ((b.toNat : Int) = (c.toNat : Int)) := fun e => h (UInt8.toNat_inj.1 (by omega))
theorem readline_loop : ∀ (n : Nat) (pre rest : List UInt8) (acc : List Int), rest.length ≤ n → (pre ++ rest).length ≤ 10000 → acc.length ≤ pre.length →
    ∃ o, loopM (fun s : Int × List Int => m_assessorref26_ReadLine_lp1 (bs (pre ++ rest)) s.1 s.2) ((pre.length : Int), acc) = some o ∧
      ((∃ c r, NL c ∧ rest = lineL c ++ r ∧ o = .ret (acc ++ c, ((pre.length + (lineL c).length : Nat) : Int))) ∨ ((o = .ret ([], 0) ∨ ∃ x, o = .brk x) ∧ ∀ c r, NL c → rest ≠ lineL c ++ r)) := by
  intro n
  induction n with
  | zero =>
    intro pre rest acc hn hl ha
    have : rest = [] := List.eq_nil_of_length_eq_zero (by omega)
    subst this
    refine ⟨.brk acc, loopM_done ?_, Or.inr ⟨Or.inr ⟨_, rfl⟩, fun c r _ e => ?_⟩⟩
    · have : ¬ (decide ((pre.length : Int) < ((bs (pre ++ [])).size : Int))) = true := by rw [bs_size, decide_eq_true_eq]; simp
      simp only [m_assessorref26_ReadLine_lp1, this, Bool.false_eq_true, if_false]
    · have := congrArg List.length e
      unfold lineL at this; simp at this
  | succ n ih =>
    intro pre rest acc hn hl ha
    by_cases h0 : rest = []
    · subst h0
      refine ⟨.brk acc, loopM_done ?_, Or.inr ⟨Or.inr ⟨_, rfl⟩, fun c r _ e => ?_⟩⟩
      · have : ¬ (decide ((pre.length : Int) < ((bs (pre ++ [])).size : Int))) = true := by rw [bs_size, decide_eq_true_eq]; simp
        simp only [m_assessorref26_ReadLine_lp1, this, Bool.false_eq_true, if_false]
      · have := congrArg List.length e
        unfold lineL at this; simp at this
    · have hpos := List.length_pos_iff.2 h0
      have hlen : (pre ++ rest).length = pre.length + rest.length := List.length_append
      have c1 : (decide ((pre.length : Int) < ((bs (pre ++ rest)).size : Int))) = true := by rw [bs_size, decide_eq_true_eq]; omega
      obtain ⟨v, k, hint, hs, hc⟩ := ref_integer (l := rest) (by omega)
      have H0 : ∀ r, rest = lineL [] ++ r → v = 0 ∧ k = 1 := fun r e => by
        have := hc 0 (10 :: r) (by rw [e, lineL_nil]) sm_zero (nodig10 r)
        rw [itoa_zero] at this; exact this
      have H1 : ∀ l c r, NL (l :: c) → rest = lineL (l :: c) ++ r → v = l ∧ k = (itoa l).length := fun l c r hnl e =>
        hc l (32 :: (lineL c ++ r)) (by rw [e, lineL_cons]) (hnl l (List.mem_cons_self ..)).1 (nodig32 _)
      rcases hs with hk | ⟨hk, hkl, hsm, r1, hr1⟩
      · subst hk
        refine ⟨.ret ([], 0), loopM_done ?_, Or.inr ⟨Or.inl rfl, fun c r hnl e => ?_⟩⟩
        · simp only [m_assessorref26_ReadLine_lp1, c1, if_true, sub_rest, hint, bsm, Int.natCast_zero, decide_true]
        · cases c with
          | nil => have := (H0 r e).2; omega
          | cons l c => have := (H1 l c r hnl e).2; have := itoa_pos l; omega
      · have hk0 : ¬ (decide ((k : Int) = 0)) = true := by rw [decide_eq_true_eq]; omega
        have hrl : rest.length = k + r1.length := by rw [hr1, List.length_append, ← hkl]
        have c2 : inK .i64 ((pre.length : Int) + (k : Int)) = some ((pre.length + k : Nat) : Int) := inK_at (by omega) ⟨by omega, by omega⟩
        have c3 : inK .i64 (((pre.length + k : Nat) : Int) + 1) = some ((pre.length + k + 1 : Nat) : Int) := inK_at (by omega) ⟨by omega, by omega⟩
        have hpl : (pre ++ itoa v).length = pre.length + k := by rw [List.length_append, ← hkl]
        have hat : ∀ b r2, r1 = b :: r2 → sidx (bs (pre ++ rest)) ((pre.length + k : Nat) : Int) = some (b.toNat : Int) := fun b r2 e => by
          have := at_rest (pre ++ itoa v) b r2
          rw [hpl, List.append_assoc, ← e, ← hr1] at this
          exact this
        by_cases hv : v = 0
        · have hv0 : (decide (v = 0)) = true := by rw [decide_eq_true_eq]; exact hv
          by_cases h10 : ∃ r2, r1 = 10 :: r2
          · obtain ⟨r2, hr2⟩ := h10
            have c4 : (decide (((pre.length + k : Nat) : Int) < ((bs (pre ++ rest)).size : Int))) = true := by
              rw [bs_size, decide_eq_true_eq, hlen, hrl, hr2]; simp only [List.length_cons]; omega
            have hr3 : rest = lineL [] ++ r2 := by rw [lineL_nil, ← hv, ← hr2, ← hr1]
            have hk1 := (H0 r2 hr3).2
            refine ⟨_, loopM_done (b := .ret (acc, ((pre.length + k + 1 : Nat) : Int))) ?_, Or.inl ⟨[], r2, by intro l hl; simp at hl, hr3, ?_⟩⟩
            · simp only [m_assessorref26_ReadLine_lp1, c1, if_true, sub_rest, hint, bsm, hk0, Bool.false_eq_true, if_false, c2, hv0, c4, hat 10 r2 hr2, show ((10 : UInt8).toNat : Int) = 10 from rfl, decide_true, c3]
            · rw [List.append_nil, hk1]; rfl
          · refine ⟨.ret ([], 0), loopM_done ?_, Or.inr ⟨Or.inl rfl, fun c r hnl e => ?_⟩⟩
            · cases hr : r1 with
              | nil =>
                have c4 : ¬ (decide (((pre.length + k : Nat) : Int) < ((bs (pre ++ rest)).size : Int))) = true := by
                  rw [bs_size, decide_eq_true_eq, hlen, hrl, hr]; simp only [List.length_cons, List.length_nil]; omega
                simp only [m_assessorref26_ReadLine_lp1, c1, if_true, sub_rest, hint, bsm, hk0, Bool.false_eq_true, if_false, c2, hv0, c4]
              | cons b r2 =>
                have c4 : (decide (((pre.length + k : Nat) : Int) < ((bs (pre ++ rest)).size : Int))) = true := by
                  rw [bs_size, decide_eq_true_eq, hlen, hrl, hr]; simp only [List.length_cons, List.length_nil]; omega
                have hb : b ≠ 10 := fun e => h10 ⟨r2, by rw [hr, e]⟩
                have c5 : ¬ (decide ((b.toNat : Int) = 10)) = true := by rw [decide_eq_true_eq]; exact u8_ne hb
                simp only [m_assessorref26_ReadLine_lp1, c1, if_true, sub_rest, hint, bsm, hk0, Bool.false_eq_true, if_false, c2, hv0, c4, hat b r2 hr, c5]
            · cases c with
              | nil =>
                rw [lineL_nil, hr1, hv] at e
                exact h10 ⟨r, List.append_cancel_left e⟩
              | cons l c => exact (hnl l (List.mem_cons_self ..)).2 ((H1 l c r hnl e).1.symm.trans hv)
        · have hv0 : ¬ (decide (v = 0)) = true := by rw [decide_eq_true_eq]; exact hv
          by_cases h32 : ∃ r2, r1 = 32 :: r2
          · obtain ⟨r2, hr2⟩ := h32
            have c4 : ¬ (decide (((bs (pre ++ rest)).size : Int) ≤ ((pre.length + k : Nat) : Int))) = true := by
              rw [bs_size, decide_eq_true_eq, hlen, hrl, hr2]; simp only [List.length_cons]; omega
            have hr3 : rest = (itoa v ++ [32]) ++ r2 := by rw [hr1, hr2]; simp
            have hpl2 : (pre ++ (itoa v ++ [32])).length = pre.length + k + 1 := by simp only [List.length_append, List.length_singleton]; omega
            have hpr : pre ++ rest = (pre ++ (itoa v ++ [32])) ++ r2 := by rw [hr3]; simp
            have happ : app acc [v] = some (acc ++ [v]) := app_ok (by simp only [List.length_singleton]; omega)
            have hr2l : r2.length + k + 1 = rest.length := by rw [hrl, hr2, List.length_cons]; omega
            obtain ⟨o, ho, hcase⟩ := ih (pre ++ (itoa v ++ [32])) r2 (acc ++ [v]) (by omega) (by rw [← hpr]; exact hl) (by rw [hpl2]; simp only [List.length_append, List.length_singleton]; omega)
            rw [← hpr, hpl2] at ho
            refine ⟨o, ?_, ?_⟩
            · rw [loopM_next (body := fun s : Int × List Int => m_assessorref26_ReadLine_lp1 (bs (pre ++ rest)) s.1 s.2) (s := ((pre.length : Int), acc)) (s' := (((pre.length + k + 1 : Nat) : Int), acc ++ [v])) ?_]
              · exact ho
              · simp only [m_assessorref26_ReadLine_lp1, c1, if_true, sub_rest, hint, bsm, hk0, Bool.false_eq_true, if_false, c2, hv0, c4, hat 32 r2 hr2, show ((32 : UInt8).toNat : Int) = 32 from rfl, decide_true, Bool.not_true, c3, happ]
            · rcases hcase with ⟨c, r, hnl, hr, rfl⟩ | ⟨hbad, hno⟩
              · refine Or.inl ⟨v :: c, r, ?_, ?_, ?_⟩
                · intro l hl
                  rcases List.mem_cons.1 hl with rfl | hl
                  · exact ⟨hsm, hv⟩
                  · exact hnl l hl
                · rw [lineL_cons, ← hr, ← hr2, ← hr1]
                · have : (lineL (v :: c)).length = k + 1 + (lineL c).length := by
                    have := lineL_cons v c []
                    simp only [List.append_nil] at this
                    rw [this]; simp only [List.length_append, List.length_cons]; omega
                  rw [this, hpl2, show pre.length + k + 1 + (lineL c).length = pre.length + (k + 1 + (lineL c).length) by omega, List.append_assoc]; rfl
              · refine Or.inr ⟨hbad, fun c r hnl e => ?_⟩
                cases c with
                | nil => exact hv (H0 r e).1
                | cons l c =>
                  have h1 := (H1 l c r hnl e).1
                  rw [lineL_cons, hr1, ← h1, hr2] at e
                  have := List.append_cancel_left e
                  rw [List.cons.injEq] at this
                  exact hno c r (fun m hm => hnl m (List.mem_cons_of_mem _ hm)) this.2
          · refine ⟨.ret ([], 0), loopM_done ?_, Or.inr ⟨Or.inl rfl, fun c r hnl e => ?_⟩⟩
            · cases hr : r1 with
              | nil =>
                have c4 : (decide (((bs (pre ++ rest)).size : Int) ≤ ((pre.length + k : Nat) : Int))) = true := by
                  rw [bs_size, decide_eq_true_eq, hlen, hrl, hr]; simp only [List.length_nil]; omega
                simp only [m_assessorref26_ReadLine_lp1, c1, if_true, sub_rest, hint, bsm, hk0, Bool.false_eq_true, if_false, c2, hv0, c4]
              | cons b r2 =>
                have c4 : ¬ (decide (((bs (pre ++ rest)).size : Int) ≤ ((pre.length + k : Nat) : Int))) = true := by
                  rw [bs_size, decide_eq_true_eq, hlen, hrl, hr]; simp only [List.length_cons]; omega
                have hb : b ≠ 32 := fun e => h32 ⟨r2, by rw [hr, e]⟩
                have c5 : ¬ ((b.toNat : Int) = 32) := u8_ne hb
                simp only [m_assessorref26_ReadLine_lp1, c1, if_true, sub_rest, hint, bsm, hk0, Bool.false_eq_true, if_false, c2, hv0, c4, hat b r2 hr, c5, decide_false, Bool.not_false]
            · cases c with
              | nil => exact hv (H0 r e).1
              | cons l c =>
                have h1 := (H1 l c r hnl e).1
                rw [lineL_cons, hr1, ← h1] at e
                exact h32 ⟨_, List.append_cancel_left e⟩
theorem ref_readline {l : List UInt8} (hl : l.length ≤ 10000) : ∃ c n, m_assessorref26_ReadLine (bs l) = some (c, n) ∧
    ((∃ r, NL c ∧ l = lineL c ++ r ∧ n = ((lineL c).length : Int)) ∨ (n = 0 ∧ ∀ c r, NL c → l ≠ lineL c ++ r)) := by
  obtain ⟨o, ho, hc⟩ := readline_loop l.length [] l [] (Nat.le_refl _) (by simpa using hl) (Nat.le_refl _)
  unfold m_assessorref26_ReadLine
  rw [List.nil_append, show ((([] : List UInt8).length : Nat) : Int) = 0 from rfl] at ho
  rw [ho, bsm]
  rcases hc with ⟨c, r, h1, h2, rfl⟩ | ⟨hb, hno⟩
  · exact ⟨c, _, rfl, Or.inl ⟨r, h1, h2, by simp⟩⟩
  · rcases hb with rfl | ⟨x, rfl⟩
    · exact ⟨[], 0, rfl, Or.inr ⟨rfl, hno⟩⟩
    · exact ⟨[], 0, rfl, Or.inr ⟨rfl, hno⟩⟩
theorem NL.wide {c : List Int} (h : NL c) : Wide c := fun l hl => by
  have := (h l hl).1; unfold Sm at this; omega
theorem line_uniq {c c' : List Int} {r r' : List UInt8} (h : NL c) (h' : NL c') (e : lineL c ++ r = lineL c' ++ r') : c = c' ∧ r = r' := by
  have no : ∀ c : List Int, (10 : UInt8) ∉ c.flatMap litL ++ [48] := fun c hm => by
    rcases List.mem_append.1 hm with hm | hm
    · exact lits_no hm
    · simp at hm
  have ex : ∀ (c : List Int) r, lineL c ++ r = (c.flatMap litL ++ [48]) ++ 10 :: r := fun c r => by unfold lineL; simp
  rw [ex, ex] at e
  have h1 := preC_app (x := c.flatMap litL ++ [48]) (r := r) (no c)
  have h2 := preC_app (x := c'.flatMap litL ++ [48]) (r := r') (no c')
  rw [e, h2.1, h2.2] at h1
  refine ⟨?_, h1.2.symm⟩
  have h3 := split_lits c [48]
  have h4 := split_lits c' [48]
  rw [← h1.1, h4, splitC_none (by decide)] at h3
  have h5 := List.append_cancel_right h3
  rw [← map_back h.wide, ← map_back h'.wide, h5]
end Go.Proofs.YtfajmelamonolaaDoor

/- Proofs as texts: Format and Parse, of the program and of the reference. -/
set_option linter.unusedVariables false
set_option linter.unusedSimpArgs false
namespace Go.Proofs.YtfajmelamonolaaDoor
open Go.RowKit Go.Lib
def fmtP (p : List (List Int)) : List UInt8 := if provB 65536 p = true then p.flatMap lineL else []
theorem Fits.plen {p : List (List Int)} (h : Fits p) : PLen p := ⟨by have := h.1; omega, fun c hc => by have := h.2 c hc; omega⟩
theorem prov_lit {p : List (List Int)} (h : provB 65536 p = true) {c : List Int} (hc : c ∈ p) {l : Int} (hl : l ∈ c) : -65536 ≤ l ∧ l ≤ 65536 ∧ l ≠ 0 := by
  have h1 := clF_mem (Int.le_refl 0) ((provB_iff.1 h).1 c hc) l hl
  exact ⟨h1.1, h1.2.1, fun e => by rw [e] at h1; simp [vr] at h1⟩
theorem prov_nl {p : List (List Int)} (h : provB 65536 p = true) : ∀ c ∈ p, NL c := fun c hc l hl => by
  have := prov_lit h hc hl
  exact ⟨by unfold Sm; omega, this.2.2⟩
theorem fmt_line {x : List Int} (hc : x.length ≤ 10000) (h : ∀ l ∈ x, -9223372036854775808 ≤ l ∧ l ≤ 9223372036854775807) {acc : List UInt8} (ha : acc.length ≤ 2200000000) :
    loopM (fun s : Int × ByteArray => m_proof_Format_lp2 x s.1 s.2) (0, bs acc) = some (bs (acc ++ x.flatMap litL)) := by
  have htl : ∀ k, ((x.take k).flatMap litL).length ≤ 210000 := fun k => by
    have := lits_len (c := x.take k) fun l hl => h l (List.mem_of_mem_take hl)
    have : (x.take k).length ≤ x.length := by rw [List.length_take]; omega
    omega
  have hloop : ∃ b, loopM (fun s : Int × ByteArray => m_proof_Format_lp2 x s.1 s.2) (0, bs acc) = some b ∧ b = bs (acc ++ x.flatMap litL) := by
    refine loopN (body := fun s : Int × ByteArray => m_proof_Format_lp2 x s.1 s.2) x.length (fun k t => ((k : Int), t)) (fun k t => t = bs (acc ++ (x.take k).flatMap litL)) _ (t0 := bs acc) rfl (by simp) ?_ ?_
    · rintro k t hk rfl
      obtain ⟨l, hx⟩ := get_of_lt hk
      have hb := h l (mem_get hx)
      have hl := itoa_len hb
      have := htl k
      refine Or.inl ⟨_, ?_, rfl⟩
      have e1 : catK (bs (itoa l)) (ByteArray.mk #[32]) = some (bs (litL l)) := by
        rw [show (ByteArray.mk #[32]) = bs [32] from rfl, catK_bs (by simp only [List.length_singleton]; omega)]; rfl
      have hll := litL_len hb
      have e2 : m_WStr (bs (acc ++ (x.take k).flatMap litL)) (bs (litL l)) = some (bs (acc ++ (x.take (k + 1)).flatMap litL)) := by
        rw [wstr_bs (by simp only [List.length_append]; omega), flatMap_take litL hx, List.append_assoc]
      simp only [m_proof_Format_lp2, ltB hk, if_true, idx_nat hx, bsm, itoa_ok hb, e1, e2, inK_up hk (show x.length ≤ 9223372036854775807 by omega)]
    · rintro t rfl
      refine ⟨_, ?_, rfl⟩
      simp only [m_proof_Format_lp2, ltB', if_false, Bool.false_eq_true, List.take_length]
  obtain ⟨b, hb, rfl⟩ := hloop
  exact hb
theorem fmt_prog {p : List (List Int)} (hf : Fits p) : m_proof_Format p = some (bs (fmtP p)) := by
  unfold m_proof_Format fmtP
  rw [valid_ok ⟨by decide, by decide⟩ hf.plen, bsm]
  cases hv : provB 65536 p with
  | false => rw [if_pos (by simp), if_neg (by simp)]; rfl
  | true =>
    rw [if_neg (by simp), if_pos rfl]
    have hcl : ∀ c ∈ p, c.length ≤ 10000 ∧ ∀ l ∈ c, -9223372036854775808 ≤ l ∧ l ≤ 9223372036854775807 := fun c hc => ⟨hf.2 c hc, fun l hl => by have := prov_lit hv hc hl; omega⟩
    have htl : ∀ k, ((p.take k).flatMap lineL).length ≤ 2100020000 := fun k => by
      have := lines_len (cs := p.take k) fun c hc => hcl c (List.mem_of_mem_take hc)
      have : (p.take k).length ≤ p.length := by rw [List.length_take]; omega
      have := hf.1
      omega
    have hloop : ∃ b, loopM (fun s : Int × ByteArray => m_proof_Format_lp1 p s.1 s.2) (0, ByteArray.empty) = some b ∧ b = bs (p.flatMap lineL) := by
      refine loopN (body := fun s : Int × ByteArray => m_proof_Format_lp1 p s.1 s.2) p.length (fun k t => ((k : Int), t)) (fun k t => t = bs ((p.take k).flatMap lineL)) _ (t0 := ByteArray.empty) rfl rfl ?_ ?_
      · rintro k t hk rfl
        obtain ⟨x, hx⟩ := get_of_lt hk
        have hx2 := hcl x (mem_get hx)
        have hl := lits_len hx2.2
        have := htl k
        refine Or.inl ⟨_, ?_, rfl⟩
        have e5 : m_WStr (bs ((p.take k).flatMap lineL ++ x.flatMap litL)) (ByteArray.mk #[48, 10]) = some (bs ((p.take (k + 1)).flatMap lineL)) := by
          rw [show (ByteArray.mk #[48, 10]) = bs [48, 10] from rfl, wstr_bs (by simp only [List.length_append, List.length_cons, List.length_nil]; omega), flatMap_take lineL hx]
          unfold lineL
          simp only [List.append_assoc]
        simp only [m_proof_Format_lp1, ltB hk, if_true, idx_nat hx, bsm, fmt_line hx2.1 hx2.2 (acc := (p.take k).flatMap lineL) (by omega), e5, inK_up hk (show p.length ≤ 9223372036854775807 by have := hf.1; omega)]
      · rintro t rfl
        refine ⟨_, ?_, rfl⟩
        simp only [m_proof_Format_lp1, ltB', if_false, Bool.false_eq_true, List.take_length]
    obtain ⟨b, hb2, rfl⟩ := hloop
    rw [hb2, bsm]
    rfl
theorem fmt_ref {p : List (List Int)} (hf : Fits p) : m_assessorref27_Format p = some (bs (fmtP p)) := by
  unfold m_assessorref27_Format fmtP
  rw [isProof_ok hf.plen, bsm]
  cases hv : provB 65536 p with
  | false => rw [if_pos (by simp), if_neg (by simp)]; rfl
  | true =>
    rw [if_neg (by simp), if_pos rfl]
    have hcl : ∀ c ∈ p, c.length ≤ 10000 ∧ ∀ l ∈ c, -9223372036854775808 ≤ l ∧ l ≤ 9223372036854775807 := fun c hc => ⟨hf.2 c hc, fun l hl => by have := prov_lit hv hc hl; omega⟩
    have htl : ∀ k, ((p.take k).flatMap lineL).length ≤ 2100020000 := fun k => by
      have := lines_len (cs := p.take k) fun c hc => hcl c (List.mem_of_mem_take hc)
      have : (p.take k).length ≤ p.length := by rw [List.length_take]; omega
      have := hf.1
      omega
    have hloop : ∃ b, loopM (fun s : ByteArray × Int => m_assessorref27_Format_lp1 p s.1 s.2) (ByteArray.mk #[], 0) = some b ∧ b = bs (p.flatMap lineL) := by
      refine loopN (body := fun s : ByteArray × Int => m_assessorref27_Format_lp1 p s.1 s.2) p.length (fun k t => (t, (k : Int))) (fun k t => t = bs ((p.take k).flatMap lineL)) _ (t0 := ByteArray.mk #[]) rfl rfl ?_ ?_
      · rintro k t hk rfl
        obtain ⟨x, hx⟩ := get_of_lt hk
        have hx2 := hcl x (mem_get hx)
        have hl := lineL_len hx2.2 hx2.1
        have := htl k
        refine Or.inl ⟨_, ?_, rfl⟩
        have e5 : catK (bs ((p.take k).flatMap lineL)) (bs (lineL x)) = some (bs ((p.take (k + 1)).flatMap lineL)) := by
          rw [catK_bs (by omega), flatMap_take lineL hx]
        simp only [m_assessorref27_Format_lp1, ltB hk, if_true, idx_nat hx, bsm, ref_line hx2.1 hx2.2, e5, inK_up hk (show p.length ≤ 9223372036854775807 by have := hf.1; omega)]
      · rintro t rfl
        refine ⟨_, ?_, rfl⟩
        simp only [m_assessorref27_Format_lp1, ltB', if_false, Bool.false_eq_true, List.take_length]
    obtain ⟨b, hb2, rfl⟩ := hloop
    rw [hb2, bsm]
def parseF : Nat → List UInt8 → List (List Int)
  | 0, _ => []
  | n + 1, l => if l = [] then [] else (splitC 32 (preC 10 l)).dropLast.map atoiV :: parseF n (rstC 10 l)
theorem words_ok {ws : List (List UInt8)} (hw : ∀ w ∈ ws, w.length ≤ 1000000) (hl : ws.length ≤ 1000000) : loopM (fun s : Int × List Int => m_proof_Parse_lp2 (ws.map bs) s.1 s.2) (0, []) = some (ws.map atoiV) := by
  have h : ∃ b, loopM (fun s : Int × List Int => m_proof_Parse_lp2 (ws.map bs) s.1 s.2) (0, []) = some b ∧ b = ws.map atoiV := by
    refine loopN (body := fun s : Int × List Int => m_proof_Parse_lp2 (ws.map bs) s.1 s.2) ws.length (fun k t => ((k : Int), t)) (fun k t => t = (ws.take k).map atoiV) _ (t0 := []) rfl rfl ?_ ?_
    · rintro k t hk rfl
      obtain ⟨w, hw1⟩ := get_of_lt hk
      have hw2 : (ws.map bs)[k]? = some (bs w) := by rw [List.getElem?_map, hw1]; rfl
      refine Or.inl ⟨_, ?_, rfl⟩
      have e1 : app ((ws.take k).map atoiV) [atoiV w] = some ((ws.take (k + 1)).map atoiV) := by
        rw [app_ok (by simp only [List.length_map, List.length_take, List.length_singleton]; omega), take_snoc_of hw1, List.map_append]; rfl
      have e2 : (decide ((k : Int) < ((ws.map bs).length : Int))) = true := by simpa using hk
      simp only [m_proof_Parse_lp2, e2, if_true, idx_nat hw2, bsm, atoi_ok (hw w (mem_get hw1)), e1, inK_up hk (show ws.length ≤ 9223372036854775807 by omega)]
    · rintro t rfl
      have e2 : ¬ (decide ((ws.length : Int) < ((ws.map bs).length : Int))) = true := by simp
      exact ⟨_, by simp only [m_proof_Parse_lp2, e2, if_false, Bool.false_eq_true, List.take_length], rfl⟩
  obtain ⟨b, hb, rfl⟩ := h
  exact hb
theorem parse_prog_loop : ∀ (n : Nat) (l : List UInt8) (acc : List (List Int)), l.length ≤ n → acc.length + n ≤ 10000 →
    loopM (fun s : ByteArray × List (List Int) => m_proof_Parse_lp1 s.1 s.2) (bs l, acc) = some (acc ++ parseF n l)
  | 0, l, acc, hn, _ => by
    have : l = [] := List.eq_nil_of_length_eq_zero (by omega)
    subst this
    rw [parseF, List.append_nil]
    exact loopM_done (by simp [m_proof_Parse_lp1, show bs [] = ByteArray.mk #[] from rfl])
  | n + 1, l, acc, hn, ha => by
    by_cases h0 : l = []
    · subst h0
      rw [parseF, if_pos rfl, List.append_nil]
      exact loopM_done (by simp [m_proof_Parse_lp1, show bs [] = ByteArray.mk #[] from rfl])
    · have hne : ¬ bs l = ByteArray.mk #[] := fun e => h0 (bs_nil.1 e)
      have hrl := rst_len (c := 10) h0
      have hpl := pre_len 10 l
      obtain ⟨b, hcut⟩ := cut_ok (l := l) (by omega)
      have hsl := splitC_len 32 (preC 10 l)
      have hsw := splitC_word 32 (preC 10 l)
      have e1 : inK .i64 (((splitC 32 (preC 10 l)).length : Int) - 1) = some (((splitC 32 (preC 10 l)).length - 1 : Nat) : Int) := inK_at (by omega) ⟨by omega, by omega⟩
      have e2 : sub ((splitC 32 (preC 10 l)).map bs) 0 (((splitC 32 (preC 10 l)).length - 1 : Nat) : Int) = some ((splitC 32 (preC 10 l)).dropLast.map bs) := by
        rw [sub_ok (by omega) (by omega) (by rw [List.length_map]; omega)]
        simp only [Int.toNat_natCast, Int.toNat_zero, List.drop_zero, List.dropLast_eq_take, List.map_take, List.length_map]
      have e3 := words_ok (ws := (splitC 32 (preC 10 l)).dropLast) (fun w hw => by have := hsw w (List.dropLast_subset _ hw); omega) (by rw [List.length_dropLast]; omega)
      rw [loopM_next (body := fun s : ByteArray × List (List Int) => m_proof_Parse_lp1 s.1 s.2) (s := (bs l, acc)) (s' := (bs (rstC 10 l), acc ++ [(splitC 32 (preC 10 l)).dropLast.map atoiV])) ?_, parse_prog_loop n _ _ (by omega) (by simp; omega), parseF, if_neg h0, List.append_assoc, List.singleton_append]
      simp only [m_proof_Parse_lp1, hne, decide_false, Bool.not_false, if_true, hcut, bsm, split_ok (show (preC 10 l).length ≤ 1000000 by omega), List.length_map, e1, e2, e3, app_ok (show acc.length + [(splitC 32 (preC 10 l)).dropLast.map atoiV].length ≤ 4294967296 by simp; omega)]
theorem parseF_fits : ∀ (n : Nat) (l : List UInt8), l.length ≤ n → (parseF n l).length ≤ n ∧ ∀ c ∈ parseF n l, c.length ≤ n
  | 0, l, _ => by simp [parseF]
  | n + 1, l, hn => by
    unfold parseF
    split
    · simp
    · rename_i h0
      have hrl := rst_len (c := 10) h0
      have hpl := pre_len 10 l
      have hsl := splitC_len 32 (preC 10 l)
      have ih := parseF_fits n (rstC 10 l) (by omega)
      refine ⟨by simp; omega, fun c hc => ?_⟩
      rcases List.mem_cons.1 hc with rfl | hc
      · rw [List.length_map, List.length_dropLast]; omega
      · have := ih.2 c hc; omega
theorem parseF_lines : ∀ (cs : List (List Int)) (n : Nat), (∀ c ∈ cs, Wide c) → (cs.flatMap lineL).length ≤ n → parseF n (cs.flatMap lineL) = cs
  | [], n, _, _ => by cases n <;> simp [parseF]
  | c :: cs, n, h, hn => by
    have e : (c :: cs).flatMap lineL = (c.flatMap litL ++ [48]) ++ 10 :: cs.flatMap lineL := by
      rw [List.flatMap_cons]; unfold lineL; simp
    have h10 : (10 : UInt8) ∉ c.flatMap litL ++ [48] := by
      intro hm
      rcases List.mem_append.1 hm with hm | hm
      · exact lits_no hm
      · simp at hm
    rw [e] at hn ⊢
    cases n with
    | zero => simp at hn
    | succ n =>
      unfold parseF
      rw [if_neg (by simp), (preC_app h10).1, (preC_app h10).2, split_lits, splitC_none (by decide), parseF_lines cs n (fun d hd => h d (List.mem_cons_of_mem _ hd)) (by simp only [List.length_append, List.length_cons] at hn; omega)]
      simp only [List.dropLast_concat]
      rw [map_back (h c (List.mem_cons_self ..))]
def TSpec (l : List UInt8) (r : List (List Int) × Int) : Prop :=
  (∃ p, provB 65536 p = true ∧ l = p.flatMap lineL ∧ r = (p, 0)) ∨ ((∀ p, provB 65536 p = true → l ≠ p.flatMap lineL) ∧ r = ([], 3))
theorem lines_inj {p q : List (List Int)} (hp : ∀ c ∈ p, Wide c) (hq : ∀ c ∈ q, Wide c) (e : p.flatMap lineL = q.flatMap lineL) : p = q := by
  have h1 := parseF_lines p _ hp (Nat.le_refl _)
  have h2 := parseF_lines q (p.flatMap lineL).length hq (by rw [e]; exact Nat.le_refl _)
  rw [← e] at h2
  exact h1.symm.trans h2
theorem TSpec.eq {l : List UInt8} {r r' : List (List Int) × Int} (h : TSpec l r) (h' : TSpec l r') : r = r' := by
  rcases h with ⟨p, h1, h2, rfl⟩ | ⟨h1, rfl⟩ <;> rcases h' with ⟨q, k1, k2, rfl⟩ | ⟨k1, rfl⟩
  · rw [lines_inj (fun c hc => (prov_nl h1 c hc).wide) (fun c hc => (prov_nl k1 c hc).wide) (h2.symm.trans k2)]
  · exact absurd h2 (k1 p h1)
  · exact absurd k2 (h1 q k1)
  · rfl
theorem parse_prog {l : List UInt8} (hl : l.length ≤ 10000) : ∃ r, m_proof_Parse (bs l) = some r ∧ TSpec l r := by
  unfold m_proof_Parse
  rw [parse_prog_loop l.length l [] (Nat.le_refl _) (by simp; omega), bsm, List.nil_append]
  have hfit := parseF_fits l.length l (Nat.le_refl _)
  rw [fmt_prog (p := parseF l.length l) ⟨by omega, fun c hc => by have := hfit.2 c hc; omega⟩, bsm]
  by_cases he : bs (fmtP (parseF l.length l)) = bs l
  · rw [if_neg (by simp [he])]
    refine ⟨_, rfl, Or.inl ⟨parseF l.length l, ?_, ?_, rfl⟩⟩
    · have h1 := bs_inj he
      unfold fmtP at h1
      split at h1
      · assumption
      · rw [← h1]; rfl
    · have h1 := bs_inj he
      unfold fmtP at h1
      split at h1
      · exact h1.symm
      · rw [← h1]; rfl
  · rw [if_pos (by simp [he])]
    refine ⟨_, rfl, Or.inr ⟨fun p hp e => he ?_, rfl⟩⟩
    rw [e, parseF_lines p _ (fun c hc => (prov_nl hp c hc).wide) (Nat.le_refl _)]
    unfold fmtP
    rw [if_pos hp]
theorem parse_ref_loop : ∀ (n : Nat) (rest : List UInt8) (acc : List (List Int)), rest.length ≤ n → acc.length + rest.length ≤ 10000 →
    ∃ o, loopM (fun s : ByteArray × List (List Int) => m_assessorref27_Parse_lp1 s.1 s.2) (bs rest, acc) = some o ∧
      ((∃ cs : List (List Int), (∀ c ∈ cs, NL c) ∧ rest = cs.flatMap lineL ∧ o = .brk (acc ++ cs)) ∨ (o = .ret ([], 3) ∧ ∀ cs : List (List Int), (∀ c ∈ cs, NL c) → rest ≠ cs.flatMap lineL)) := by
  intro n
  induction n with
  | zero =>
    intro rest acc hn hl
    have : rest = [] := List.eq_nil_of_length_eq_zero (by omega)
    subst this
    exact ⟨.brk acc, loopM_done (by simp [m_assessorref27_Parse_lp1, show bs [] = ByteArray.mk #[] from rfl]), Or.inl ⟨[], by simp, rfl, by rw [List.append_nil]⟩⟩
  | succ n ih =>
    intro rest acc hn hl
    by_cases h0 : rest = []
    · subst h0
      exact ⟨.brk acc, loopM_done (by simp [m_assessorref27_Parse_lp1, show bs [] = ByteArray.mk #[] from rfl]), Or.inl ⟨[], by simp, rfl, by rw [List.append_nil]⟩⟩
    · have hpos := List.length_pos_iff.2 h0
      have hne : ¬ bs rest = ByteArray.mk #[] := fun e => h0 (bs_nil.1 e)
      obtain ⟨c, k, hrd, hcase⟩ := ref_readline (l := rest) (by omega)
      rcases hcase with ⟨r, hnl, hr, rfl⟩ | ⟨rfl, hno⟩
      · have hll : 2 ≤ (lineL c).length := by unfold lineL; simp
        have hrl : rest.length = (lineL c).length + r.length := by rw [hr, List.length_append]
        have hk0 : ¬ (decide (((lineL c).length : Int) = 0)) = true := by rw [decide_eq_true_eq]; omega
        have hss : ssub (bs rest) ((lineL c).length : Int) ((bs rest).size : Int) = some (bs r) := by rw [hr]; exact sub_rest _ _
        have happ : app acc [c] = some (acc ++ [c]) := app_ok (by simp only [List.length_singleton]; omega)
        obtain ⟨o, ho, hc⟩ := ih r (acc ++ [c]) (by omega) (by simp only [List.length_append, List.length_singleton]; omega)
        refine ⟨o, ?_, ?_⟩
        · rw [loopM_next (body := fun s : ByteArray × List (List Int) => m_assessorref27_Parse_lp1 s.1 s.2) (s := (bs rest, acc)) (s' := (bs r, acc ++ [c])) ?_]
          · exact ho
          · simp only [m_assessorref27_Parse_lp1, hne, decide_false, Bool.not_false, if_true, hrd, bsm, hk0, Bool.false_eq_true, if_false, happ, hss]
        · rcases hc with ⟨cs, h1, h2, rfl⟩ | ⟨rfl, hno⟩
          · refine Or.inl ⟨c :: cs, ?_, by rw [List.flatMap_cons, ← h2, hr], by simp⟩
            intro d hd
            rcases List.mem_cons.1 hd with rfl | hd
            · exact hnl
            · exact h1 d hd
          · refine Or.inr ⟨rfl, fun cs hcs e => ?_⟩
            cases cs with
            | nil => exact h0 e
            | cons d cs =>
              rw [List.flatMap_cons, hr] at e
              have := line_uniq hnl (hcs d (List.mem_cons_self ..)) e
              exact hno cs (fun x hx => hcs x (List.mem_cons_of_mem _ hx)) this.2
      · refine ⟨.ret ([], 3), loopM_done ?_, Or.inr ⟨rfl, fun cs hcs e => ?_⟩⟩
        · simp only [m_assessorref27_Parse_lp1, hne, decide_false, Bool.not_false, if_true, hrd, bsm, decide_true]
        · cases cs with
          | nil => exact h0 e
          | cons d cs => exact hno d _ (hcs d (List.mem_cons_self ..)) (by rw [List.flatMap_cons] at e; exact e)
theorem lines_fits {cs : List (List Int)} : cs.length ≤ (cs.flatMap lineL).length ∧ ∀ c ∈ cs, c.length ≤ (cs.flatMap lineL).length := by
  have h1 : ∀ c : List Int, c.length + 1 ≤ (lineL c).length := fun c => by
    unfold lineL
    have : c.length ≤ (c.flatMap litL).length := by
      induction c with
      | nil => simp
      | cons x c ih =>
        have h2 : 1 ≤ (litL x).length := by unfold litL; simp
        rw [List.flatMap_cons, List.length_append, List.length_cons]; omega
    rw [List.length_append]; simp only [List.length_cons, List.length_nil]; omega
  induction cs with
  | nil => simp
  | cons c cs ih =>
    have := h1 c
    rw [List.flatMap_cons, List.length_append]
    refine ⟨by rw [List.length_cons]; omega, fun d hd => ?_⟩
    rcases List.mem_cons.1 hd with rfl | hd
    · omega
    · have := ih.2 d hd; omega
theorem parse_ref {l : List UInt8} (hl : l.length ≤ 10000) : ∃ r, m_assessorref27_Parse (bs l) = some r ∧ TSpec l r := by
  unfold m_assessorref27_Parse
  obtain ⟨o, ho, hc⟩ := parse_ref_loop l.length l [] (Nat.le_refl _) (by simp; omega)
  rw [ho, bsm]
  rcases hc with ⟨cs, h1, h2, rfl⟩ | ⟨rfl, hno⟩
  · simp only [List.nil_append]
    have hfit := lines_fits (cs := cs)
    rw [← h2] at hfit
    rw [isProof_ok ⟨by omega, fun c hc => by have := hfit.2 c hc; omega⟩, bsm]
    cases hp : provB 65536 cs with
    | true => exact ⟨(cs, 0), by simp, Or.inl ⟨cs, hp, h2, rfl⟩⟩
    | false =>
      refine ⟨([], 3), by simp, Or.inr ⟨fun p hp2 e => ?_, rfl⟩⟩
      have := lines_inj (fun c hc => (h1 c hc).wide) (fun c hc => (prov_nl hp2 c hc).wide) (h2.symm.trans e)
      rw [this, hp2] at hp
      cases hp
  · exact ⟨_, rfl, Or.inr ⟨fun p hp e => hno p (prov_nl hp) e, rfl⟩⟩
end Go.Proofs.YtfajmelamonolaaDoor

/- The program's Parse: lines, words, numbers; it inverts Format. -/
import Derived.Test.YtfajmelamonolaaDoorKSo11
import Derived.Lib.SplitLaws
import Derived.Lib.IndexLaws
import Derived.Lib.CutLaws
import Derived.Test.YtfajmelamonolaaDoorKSo3
import Derived.Test.YtfajmelamonolaaDoorKSo4
set_option linter.unusedVariables false
set_option linter.unusedSimpArgs false
namespace Go.Proofs.YtfajmelamonolaaDoor
open Go.RowKit Go.Lib
def preC (c : UInt8) (l : List UInt8) : List UInt8 := l.takeWhile (· != c)
def rstC (c : UInt8) (l : List UInt8) : List UInt8 := (l.dropWhile (· != c)).drop 1
theorem preC_app {c : UInt8} : ∀ {x r : List UInt8}, c ∉ x → preC c (x ++ c :: r) = x ∧ rstC c (x ++ c :: r) = r
  | [], r, _ => by simp [preC, rstC]
  | b :: x, r, h => by
    have hb : (b != c) = true := by simp; intro e; exact h (by rw [e]; exact List.mem_cons_self ..)
    have := preC_app (c := c) (x := x) (r := r) (fun hm => h (List.mem_cons_of_mem _ hm))
    unfold preC rstC at *
    rw [List.cons_append, List.takeWhile_cons, List.dropWhile_cons, if_pos hb, if_pos hb, this.1, this.2]
    exact ⟨rfl, rfl⟩
theorem preC_none {c : UInt8} : ∀ {x : List UInt8}, c ∉ x → preC c x = x ∧ rstC c x = []
  | [], _ => by simp [preC, rstC]
  | b :: x, h => by
    have hb : (b != c) = true := by simp; intro e; exact h (by rw [e]; exact List.mem_cons_self ..)
    have := preC_none (c := c) (x := x) (fun hm => h (List.mem_cons_of_mem _ hm))
    unfold preC rstC at *
    rw [List.takeWhile_cons, List.dropWhile_cons, if_pos hb, if_pos hb, this.1, this.2]
    exact ⟨rfl, rfl⟩
theorem split_at (c : UInt8) : ∀ (l : List UInt8), c ∈ l → ∃ x r, l = x ++ c :: r ∧ c ∉ x
  | [], h => by simp at h
  | b :: l, h => by
    by_cases hb : b = c
    · exact ⟨[], l, by rw [hb]; rfl, by simp⟩
    · obtain ⟨x, r, h1, h2⟩ := split_at c l (by rcases List.mem_cons.1 h with h | h; exact absurd h.symm hb; exact h)
      exact ⟨b :: x, r, by rw [h1]; rfl, by simp [h2]; exact fun e => hb e.symm⟩
theorem index_app {c : UInt8} {x r : List UInt8} (h : c ∉ x) : index (x ++ c :: r) [c] = x.length := by
  refine index_first (by simp) ?_ fun j hj => ?_
  · simp [occAt, List.isPrefixOf]
  · unfold occAt
    have hlt : j < (x ++ c :: r).length := by simp; omega
    rw [List.drop_eq_getElem_cons hlt]
    have : (x ++ c :: r)[j] = x[j] := List.getElem_append_left hj
    rw [this]
    have hne : ¬ c = x[j] := fun e => h (e ▸ List.getElem_mem hj)
    simp [List.isPrefixOf, hne]
theorem index_no {c : UInt8} {x : List UInt8} (h : c ∉ x) : index x [c] = -1 := by
  refine index_none fun j hj => ?_
  unfold occAt
  by_cases hlt : j < x.length
  · rw [List.drop_eq_getElem_cons hlt]
    have hne : ¬ c = x[j] := fun e => h (e ▸ List.getElem_mem hlt)
    simp [List.isPrefixOf, hne]
  · rw [List.drop_eq_nil_of_le (by omega)]; rfl
theorem cut_eq (c : UInt8) (l : List UInt8) : (Lib.cut l [c]).1 = preC c l ∧ (Lib.cut l [c]).2.1 = rstC c l := by
  unfold Lib.cut
  by_cases h : c ∈ l
  · obtain ⟨x, r, rfl, hx⟩ := split_at c l h
    rw [index_app hx, if_pos (by omega), (preC_app hx).1, (preC_app hx).2]
    simp
  · rw [index_no h, if_neg (by decide), (preC_none h).1, (preC_none h).2]
    exact ⟨rfl, rfl⟩
def splitC (c : UInt8) : List UInt8 → List (List UInt8)
  | [] => [[]]
  | b :: r => if b = c then [] :: splitC c r else match splitC c r with
    | [] => [[b]]
    | w :: ws => (b :: w) :: ws
theorem splitC_none {c : UInt8} : ∀ {x : List UInt8}, c ∉ x → splitC c x = [x]
  | [], _ => rfl
  | b :: x, h => by
    have hb : ¬ b = c := fun e => h (by rw [e]; exact List.mem_cons_self ..)
    unfold splitC
    rw [if_neg hb, splitC_none (fun hm => h (List.mem_cons_of_mem _ hm))]
theorem splitC_app {c : UInt8} : ∀ {x r : List UInt8}, c ∉ x → splitC c (x ++ c :: r) = x :: splitC c r
  | [], r, _ => by rw [List.nil_append, splitC, if_pos rfl]
  | b :: x, r, h => by
    have hb : ¬ b = c := fun e => h (by rw [e]; exact List.mem_cons_self ..)
    rw [List.cons_append, splitC, if_neg hb, splitC_app (fun hm => h (List.mem_cons_of_mem _ hm))]
theorem splitC_len (c : UInt8) : ∀ (l : List UInt8), 1 ≤ (splitC c l).length ∧ (splitC c l).length ≤ l.length + 1
  | [] => by simp [splitC]
  | b :: r => by
    have := splitC_len c r
    unfold splitC
    by_cases hb : b = c
    · rw [if_pos hb]; simp only [List.length_cons]; omega
    · rw [if_neg hb]
      cases h : splitC c r with
      | nil => rw [h] at this; simp at this
      | cons w ws => rw [h] at this; simp only [List.length_cons] at *; omega
theorem splitC_word (c : UInt8) : ∀ (l : List UInt8), ∀ w ∈ splitC c l, w.length ≤ l.length
  | [], w, h => by simp [splitC] at h; simp [h]
  | b :: r, w, h => by
    have ih := splitC_word c r
    unfold splitC at h
    by_cases hb : b = c
    · rw [if_pos hb] at h
      rcases List.mem_cons.1 h with rfl | h
      · simp
      · have := ih w h; simp only [List.length_cons]; omega
    · rw [if_neg hb] at h
      cases hs : splitC c r with
      | nil => have := splitC_len c r; rw [hs] at this; simp at this
      | cons v vs =>
        rw [hs] at h ih
        simp only at h
        rcases List.mem_cons.1 h with rfl | h
        · have := ih v (List.mem_cons_self ..); simp only [List.length_cons]; omega
        · have := ih w (List.mem_cons_of_mem _ h); simp only [List.length_cons]; omega
theorem splitK_eq (c : UInt8) : ∀ (n : Nat) (l : List UInt8), l.length ≤ n → splitK [c] 0 (l.count c) l = splitC c l := by
  intro n
  induction n with
  | zero => intro l hl; have : l = [] := List.eq_nil_of_length_eq_zero (by omega); subst this; rfl
  | succ n ih =>
    intro l hl
    by_cases h : c ∈ l
    · obtain ⟨x, r, rfl, hx⟩ := split_at c l h
      have hc : (x ++ c :: r).count c = r.count c + 1 := by
        rw [List.count_append, List.count_cons_self, List.count_eq_zero.2 hx]; omega
      rw [hc, splitC_app hx]
      unfold splitK
      rw [index_app hx, if_neg (by simp)]
      simp only [Nat.add_zero, Int.toNat_natCast, List.length_singleton]
      rw [List.take_left' rfl, show List.drop (x.length + 1) (x ++ c :: r) = r by simp]
      simp only [List.length_append, List.length_cons] at hl
      rw [ih r (by omega)]
    · rw [List.count_eq_zero.2 h, splitC_none h]; rfl
theorem split_ok {l : List UInt8} (h : l.length ≤ 1000000) : m_split (bs l) (ByteArray.mk #[32]) = some ((splitC 32 l).map bs) := by
  have hc : countB (bs l) (ByteArray.mk #[32]) = l.count 32 := by
    rw [← count_one]
    show Lib.count (bs l).data.toList _ = _
    rw [bs_data]
  have hle : l.count 32 ≤ l.length := List.count_le_length
  unfold m_split
  rw [if_pos ⟨by rw [bs_size]; omega, by decide, by rw [hc]; omega⟩, hc]
  congr 1
  have h1 := splitB_data (ByteArray.mk #[32]) 0 (l.count 32) (bs l)
  rw [bs_data, show (ByteArray.mk #[32]).data.toList = [32] from rfl, splitK_eq 32 l.length l (Nat.le_refl _)] at h1
  rw [← h1, List.map_map]
  have : (bs ∘ fun x : ByteArray => x.data.toList) = id := by funext x; exact bs_of x
  rw [this, List.map_id]
theorem cut_ok {l : List UInt8} (h : l.length ≤ 1000000) : ∃ b, m_cut (bs l) (ByteArray.mk #[10]) = some (bs (preC 10 l), bs (rstC 10 l), b) := by
  unfold m_cut
  rw [if_pos (by rw [bs_size]; omega), bs_data]
  have h1 := cut_eq 10 l
  exact ⟨_, by rw [show (ByteArray.mk #[10]).data.toList = [10] from rfl, h1.1, h1.2]; rfl⟩
theorem rst_len {c : UInt8} {l : List UInt8} (h : l ≠ []) : (rstC c l).length < l.length := by
  by_cases hm : c ∈ l
  · obtain ⟨x, r, rfl, hx⟩ := split_at c l hm
    rw [(preC_app hx).2]; simp; omega
  · rw [(preC_none hm).2]
    cases l with
    | nil => exact absurd rfl h
    | cons b l => simp
theorem pre_len (c : UInt8) (l : List UInt8) : (preC c l).length ≤ l.length := by
  unfold preC
  exact (List.takeWhile_sublist _).length_le
def pfold {σ ε : Type} (step : List UInt8 → σ → Step σ ε) : Nat → List UInt8 → σ → Step σ ε
  | 0, _, s => .next s
  | n + 1, l, s => if l = [] then .next s else match step (preC 10 l) s with
    | .next s' => pfold step n (rstC 10 l) s'
    | .done r => .done r
theorem bs_nil {l : List UInt8} : bs l = ByteArray.mk #[] ↔ l = [] := by
  constructor
  · intro h; exact bs_inj (h.trans rfl)
  · rintro rfl; rfl
def atoiV (w : List UInt8) : Int := match Lib.atoiAll w with | .ok v => v | .range => Lib.atoiSat w | _ => 0
theorem atoi_ok {w : List UInt8} (h : w.length ≤ 1000000) : m_atoi (bs w) = some (atoiV w) := by
  unfold m_atoi atoiV
  rw [if_pos (by rw [bs_size]; omega), bs_data]
  rfl
theorem valD_ge : ∀ (l : List UInt8) (acc : Nat), acc ≤ valD acc l
  | [], acc => Nat.le_refl _
  | b :: l, acc => by
    have := valD_ge l (10 * acc + (b.toNat - 48))
    show acc ≤ valD (10 * acc + (b.toNat - 48)) l
    omega
theorem parse_digits : ∀ (l : List UInt8) (acc : Nat), (∀ b ∈ l, 48 ≤ b.toNat ∧ b.toNat ≤ 57) → valD acc l ≤ 1000000000000000000 → parseUint10 acc l = .ok (valD acc l)
  | [], acc, _, _ => rfl
  | b :: l, acc, hd, hv => by
    have hb := hd b (List.mem_cons_self ..)
    have hv' : valD (10 * acc + (b.toNat - 48)) l ≤ 1000000000000000000 := hv
    have hge := valD_ge l (10 * acc + (b.toNat - 48))
    unfold parseUint10
    rw [if_pos hb, if_neg (by omega), if_neg (by omega), show acc * 10 + (b.toNat - 48) = 10 * acc + (b.toNat - 48) by omega, parse_digits l _ (fun c hc => hd c (List.mem_cons_of_mem _ hc)) hv']
    rfl
theorem dd_cons (u : Nat) : ∃ b r, decDigits u = b :: r ∧ 48 ≤ b.toNat ∧ b.toNat ≤ 57 := by
  cases h : decDigits u with
  | nil => exact absurd h (dd_ne u)
  | cons b r => exact ⟨b, r, rfl, dd_digit u b (by rw [h]; exact List.mem_cons_self ..)⟩
theorem atoi_itoa {n : Int} (h : -1000000000000000000 ≤ n ∧ n ≤ 1000000000000000000) : atoiV (itoa n) = n := by
  unfold atoiV itoa
  by_cases h0 : n < 0
  · rw [if_pos h0]
    have hp : parseMag (decDigits n.natAbs) = .ok n.natAbs := by
      unfold parseMag
      rw [if_neg (dd_ne _), parse_digits _ 0 (dd_digit _) (by rw [dd_val]; omega), dd_val]
    have h1 : atoiAll (45 :: decDigits n.natAbs) = .ok n := by
      unfold atoiAll
      have e : (45 : UInt8).toNat = 45 := rfl
      simp only [e, or_true, if_true, hp, not_true_eq_false, false_and, if_false, true_and]
      rw [if_neg (by omega)]
      congr 1
      omega
    rw [h1]
  · rw [if_neg h0]
    obtain ⟨b, r, hb, h1, h2⟩ := dd_cons n.toNat
    have hp : parseMag (decDigits n.toNat) = .ok n.toNat := by
      unfold parseMag
      rw [if_neg (dd_ne _), parse_digits _ 0 (dd_digit _) (by rw [dd_val]; omega), dd_val]
    have h3 : atoiAll (decDigits n.toNat) = .ok n := by
      rw [hb] at hp ⊢
      unfold atoiAll
      have e1 : ¬ b.toNat = 43 := by omega
      have e2 : ¬ b.toNat = 45 := by omega
      simp only [e1, e2, or_self, if_false, hp, not_false_eq_true, true_and, false_and]
      rw [if_neg (by omega)]
      congr 1
      omega
    rw [h3]
abbrev PS := List (List Int) × Bool × Int
def pstep (line : List UInt8) (s : PS) : Step PS (Formula × Int) :=
  if s.2.1 = true then (if (splitC 32 line).length ≠ 4 then .done (⟨0, []⟩, 3) else .next (s.1, false, atoiV ((splitC 32 line).getD 2 [])))
  else .next (s.1 ++ [(splitC 32 line).dropLast.map atoiV], s.2.1, s.2.2)
theorem itoa_mem {n : Int} : ∀ b ∈ itoa n, b ≠ 32 ∧ b ≠ 10 := by
  intro b hb
  have hd : ∀ u, b ∈ decDigits u → b ≠ 32 ∧ b ≠ 10 := fun u hu => by
    have := dd_digit u b hu
    refine ⟨fun e => ?_, fun e => ?_⟩
    · rw [e] at this; exact absurd this.1 (by decide)
    · rw [e] at this; exact absurd this.1 (by decide)
  unfold itoa at hb
  split at hb
  · rcases List.mem_cons.1 hb with rfl | hb
    · exact ⟨by decide, by decide⟩
    · exact hd _ hb
  · exact hd _ hb
theorem split_lits : ∀ (c : List Int) (r : List UInt8), splitC 32 (c.flatMap litL ++ r) = c.map itoa ++ splitC 32 r
  | [], r => rfl
  | l :: c, r => by
    rw [List.flatMap_cons, List.append_assoc]
    rw [show litL l ++ (c.flatMap litL ++ r) = itoa l ++ 32 :: (c.flatMap litL ++ r) by unfold litL; simp, splitC_app (fun hm => (itoa_mem _ hm).1 rfl), split_lits c r]
    rfl
theorem lits_no {c : List Int} : (10 : UInt8) ∉ c.flatMap litL := by
  intro h
  obtain ⟨l, _, hl⟩ := List.mem_flatMap.1 h
  unfold litL at hl
  rcases List.mem_append.1 hl with hl | hl
  · exact (itoa_mem _ hl).2 rfl
  · simp at hl
theorem pfold_next {σ ε : Type} {step : List UInt8 → σ → Step σ ε} {x r : List UInt8} {s s' : σ} {n : Nat} (hx : (10 : UInt8) ∉ x) (hn : (x ++ 10 :: r).length ≤ n) (hs : step x s = .next s') :
    ∃ m, r.length ≤ m ∧ pfold step n (x ++ 10 :: r) s = pfold step m r s' := by
  cases n with
  | zero => simp at hn
  | succ n =>
    refine ⟨n, by simp only [List.length_append, List.length_cons] at hn; omega, ?_⟩
    rw [pfold, if_neg (by simp), (preC_app hx).1, (preC_app hx).2, hs]
theorem pfold_nil {σ ε : Type} {step : List UInt8 → σ → Step σ ε} {s : σ} : ∀ {n : Nat}, pfold step n [] s = .next s
  | 0 => rfl
  | n + 1 => by rw [pfold, if_pos rfl]
def Wide (c : List Int) : Prop := ∀ l ∈ c, -1000000000000000000 ≤ l ∧ l ≤ 1000000000000000000
theorem map_back : ∀ {c : List Int}, Wide c → (c.map itoa).map atoiV = c
  | [], _ => rfl
  | l :: c, h => by
    rw [List.map_cons, List.map_cons, atoi_itoa (h l (List.mem_cons_self ..)), map_back fun m hm => h m (List.mem_cons_of_mem _ hm)]
theorem pfold_lines : ∀ (cs acc : List (List Int)) (v : Int) (n : Nat), (∀ c ∈ cs, Wide c) → (cs.flatMap lineL).length ≤ n → pfold pstep n (cs.flatMap lineL) (acc, false, v) = .next (acc ++ cs, false, v)
  | [], acc, v, n, _, _ => by rw [List.flatMap_nil, pfold_nil, List.append_nil]
  | c :: cs, acc, v, n, h, hn => by
    have e : (c :: cs).flatMap lineL = (c.flatMap litL ++ [48]) ++ 10 :: cs.flatMap lineL := by
      rw [List.flatMap_cons]; unfold lineL; simp
    have h10 : (10 : UInt8) ∉ c.flatMap litL ++ [48] := by
      intro hm
      rcases List.mem_append.1 hm with hm | hm
      · exact lits_no hm
      · simp at hm
    have hs : pstep (c.flatMap litL ++ [48]) (acc, false, v) = .next (acc ++ [c], false, v) := by
      unfold pstep
      rw [if_neg (by simp), split_lits, splitC_none (by decide)]
      simp only [List.dropLast_concat]
      rw [map_back (h c (List.mem_cons_self ..))]
    rw [e] at hn ⊢
    obtain ⟨m, hm, he⟩ := pfold_next h10 hn hs
    rw [he, pfold_lines cs (acc ++ [c]) v m (fun d hd => h d (List.mem_cons_of_mem _ hd)) hm]
    simp
theorem valid_wide {f : Formula} (hv : validB f = true) : ∀ c ∈ f.clauses, Wide c := fun c hc l hl => by
  have := valid_lit hv hc hl
  have := valid_bnd hv
  omega
theorem pfold_fmt {f : Formula} (hv : validB f = true) {n : Nat} (hn : (fmtL f).length ≤ n) : pfold pstep n (fmtL f) ([], true, 0) = .next (f.clauses, false, f.vars) := by
  have hb := valid_bnd hv
  have e : fmtL f = ([112, 32, 99, 110, 102, 32] ++ itoa f.vars ++ [32] ++ itoa (f.clauses.length : Int)) ++ 10 :: f.clauses.flatMap lineL := by
    unfold fmtL headL; simp
  have h10 : (10 : UInt8) ∉ ([112, 32, 99, 110, 102, 32] ++ itoa f.vars ++ [32] ++ itoa (f.clauses.length : Int)) := by
    intro hm
    simp only [List.mem_append] at hm
    rcases hm with ((hm | hm) | hm) | hm
    · revert hm; decide
    · exact (itoa_mem _ hm).2 rfl
    · revert hm; decide
    · exact (itoa_mem _ hm).2 rfl
  have hsp : splitC 32 ([112, 32, 99, 110, 102, 32] ++ itoa f.vars ++ [32] ++ itoa (f.clauses.length : Int)) = [[112], [99, 110, 102], itoa f.vars, itoa (f.clauses.length : Int)] := by
    have e1 : ([112, 32, 99, 110, 102, 32] ++ itoa f.vars ++ [32] ++ itoa (f.clauses.length : Int)) = [112] ++ 32 :: ([99, 110, 102] ++ 32 :: (itoa f.vars ++ 32 :: itoa (f.clauses.length : Int))) := by simp
    rw [e1, splitC_app (by decide), splitC_app (by decide), splitC_app (fun hm => (itoa_mem _ hm).1 rfl), splitC_none (fun hm => (itoa_mem _ hm).1 rfl)]
  have hs : pstep ([112, 32, 99, 110, 102, 32] ++ itoa f.vars ++ [32] ++ itoa (f.clauses.length : Int)) ([], true, 0) = .next ([], false, f.vars) := by
    unfold pstep
    rw [if_pos rfl, hsp, if_neg (by simp)]
    show Step.next (_, _, atoiV (itoa f.vars)) = _
    rw [atoi_itoa (by omega)]
  rw [e] at hn ⊢
  obtain ⟨m, hm, he⟩ := pfold_next h10 hn hs
  rw [he, pfold_lines f.clauses [] f.vars m (valid_wide hv) hm]
  rfl
def ParseSpec (l : List UInt8) (r : Formula × Int) : Prop :=
  (∃ f, validB f = true ∧ Fits f.clauses ∧ l = fmtL f ∧ r = (f, 0)) ∨ ((∀ f, validB f = true → Fits f.clauses → l ≠ fmtL f) ∧ r = (⟨0, []⟩, 3))
theorem fmtL_inj {f g : Formula} (hf : validB f = true) (hg : validB g = true) (h : fmtL f = fmtL g) : f = g := by
  have h1 := pfold_fmt hf (Nat.le_refl _)
  have h2 := pfold_fmt hg (Nat.le_refl _)
  rw [h, h2] at h1
  simp only [Step.next.injEq, Prod.mk.injEq] at h1
  obtain ⟨fv, fc⟩ := f
  obtain ⟨gv, gc⟩ := g
  simp only at h1
  rw [h1.1, h1.2.2]
theorem ParseSpec.eq {l : List UInt8} {r r' : Formula × Int} (h : ParseSpec l r) (h' : ParseSpec l r') : r = r' := by
  rcases h with ⟨f, hv, hf, rfl, rfl⟩ | ⟨h, rfl⟩
  · rcases h' with ⟨g, hv', hg, he, rfl⟩ | ⟨h', rfl⟩
    · rw [fmtL_inj hv hv' he]
    · exact absurd rfl (h' f hv hf)
  · rcases h' with ⟨g, hv', hg, rfl, rfl⟩ | ⟨h', rfl⟩
    · exact absurd rfl (h g hv' hg)
    · rfl
def PInv (s : PS) (n : Nat) : Prop := s.1.length + n ≤ 10000 ∧ ∀ c ∈ s.1, c.length ≤ 10000
theorem PInv.step {line : List UInt8} {s s' : PS} {n : Nat} (h : PInv s (n + 1)) (hl : line.length ≤ n + 1) (hs : pstep line s = .next s') : PInv s' n := by
  obtain ⟨h1, h2⟩ := h
  unfold pstep at hs
  split at hs
  · split at hs
    · cases hs
    · simp only [Step.next.injEq] at hs
      subst hs
      exact ⟨by simp only; omega, h2⟩
  · simp only [Step.next.injEq] at hs
    subst hs
    refine ⟨by simp only [List.length_append, List.length_singleton]; omega, fun c hc => ?_⟩
    rcases List.mem_append.1 hc with hc | hc
    · exact h2 c hc
    · rw [List.mem_singleton] at hc
      subst hc
      have := splitC_len 32 line
      rw [List.length_map, List.length_dropLast]; omega
end Go.Proofs.YtfajmelamonolaaDoor

/- The reference's Parse: it reads what Format writes, and nothing else. -/
set_option linter.unusedVariables false
set_option linter.unusedSimpArgs false
namespace Go.Proofs.YtfajmelamonolaaDoor
open Go.RowKit Go.Lib
def Sm (v : Int) : Prop := -999999999 ≤ v ∧ v ≤ 999999999
def NL (c : List Int) : Prop := ∀ l ∈ c, Sm l ∧ l ≠ 0
theorem NL.wide {c : List Int} (h : NL c) : Wide c := fun l hl => by
  have := (h l hl).1; unfold Sm at this; omega
end Go.Proofs.YtfajmelamonolaaDoor

/- Proofs as texts: Format and Parse, of the program and of the reference. -/
set_option linter.unusedVariables false
set_option linter.unusedSimpArgs false
namespace Go.Proofs.YtfajmelamonolaaDoor
open Go.RowKit Go.Lib
def fmtP (p : List (List Int)) : List UInt8 := if provB 65536 p = true then p.flatMap lineL else []
theorem Fits.plen {p : List (List Int)} (h : Fits p) : PLen p := ⟨by have := h.1; omega, fun c hc => by have := h.2 c hc; omega⟩
theorem prov_lit {p : List (List Int)} (h : provB 65536 p = true) {c : List Int} (hc : c ∈ p) {l : Int} (hl : l ∈ c) : -65536 ≤ l ∧ l ≤ 65536 ∧ l ≠ 0 := by
  have h1 := clF_mem (Int.le_refl 0) ((provB_iff.1 h).1 c hc) l hl
  exact ⟨h1.1, h1.2.1, fun e => by rw [e] at h1; simp [vr] at h1⟩
theorem prov_nl {p : List (List Int)} (h : provB 65536 p = true) : ∀ c ∈ p, NL c := fun c hc l hl => by
  have := prov_lit h hc hl
  exact ⟨by unfold Sm; omega, this.2.2⟩
theorem fmt_line {x : List Int} (hc : x.length ≤ 10000) (h : ∀ l ∈ x, -9223372036854775808 ≤ l ∧ l ≤ 9223372036854775807) {acc : List UInt8} (ha : acc.length ≤ 2200000000) :
    loopM (fun s : Int × ByteArray => m_proof_Format_lp2 x s.1 s.2) (0, bs acc) = some (bs (acc ++ x.flatMap litL)) := by
  have htl : ∀ k, ((x.take k).flatMap litL).length ≤ 210000 := fun k => by
    have := lits_len (c := x.take k) fun l hl => h l (List.mem_of_mem_take hl)
    have : (x.take k).length ≤ x.length := by rw [List.length_take]; omega
    omega
  have hloop : ∃ b, loopM (fun s : Int × ByteArray => m_proof_Format_lp2 x s.1 s.2) (0, bs acc) = some b ∧ b = bs (acc ++ x.flatMap litL) := by
    refine loopN (body := fun s : Int × ByteArray => m_proof_Format_lp2 x s.1 s.2) x.length (fun k t => ((k : Int), t)) (fun k t => t = bs (acc ++ (x.take k).flatMap litL)) _ (t0 := bs acc) rfl (by simp) ?_ ?_
    · rintro k t hk rfl
      obtain ⟨l, hx⟩ := get_of_lt hk
      have hb := h l (mem_get hx)
      have hl := itoa_len hb
      have := htl k
      refine Or.inl ⟨_, ?_, rfl⟩
      have e1 : catK (bs (itoa l)) (ByteArray.mk #[32]) = some (bs (litL l)) := by
        rw [show (ByteArray.mk #[32]) = bs [32] from rfl, catK_bs (by simp only [List.length_singleton]; omega)]; rfl
      have hll := litL_len hb
      have e2 : m_WStr (bs (acc ++ (x.take k).flatMap litL)) (bs (litL l)) = some (bs (acc ++ (x.take (k + 1)).flatMap litL)) := by
        rw [wstr_bs (by simp only [List.length_append]; omega), flatMap_take litL hx, List.append_assoc]
      simp only [m_proof_Format_lp2, ltB hk, if_true, idx_nat hx, bsm, itoa_ok hb, e1, e2, inK_up hk (show x.length ≤ 9223372036854775807 by omega)]
    · rintro t rfl
      refine ⟨_, ?_, rfl⟩
      simp only [m_proof_Format_lp2, ltB', if_false, Bool.false_eq_true, List.take_length]
  obtain ⟨b, hb, rfl⟩ := hloop
  exact hb
theorem fmt_prog {p : List (List Int)} (hf : Fits p) : m_proof_Format p = some (bs (fmtP p)) := by
  unfold m_proof_Format fmtP
  rw [valid_ok ⟨by decide, by decide⟩ hf.plen, bsm]
  cases hv : provB 65536 p with
  | false => rw [if_pos (by simp), if_neg (by simp)]; rfl
  | true =>
    rw [if_neg (by simp), if_pos rfl]
    have hcl : ∀ c ∈ p, c.length ≤ 10000 ∧ ∀ l ∈ c, -9223372036854775808 ≤ l ∧ l ≤ 9223372036854775807 := fun c hc => ⟨hf.2 c hc, fun l hl => by have := prov_lit hv hc hl; omega⟩
    have htl : ∀ k, ((p.take k).flatMap lineL).length ≤ 2100020000 := fun k => by
      have := lines_len (cs := p.take k) fun c hc => hcl c (List.mem_of_mem_take hc)
      have : (p.take k).length ≤ p.length := by rw [List.length_take]; omega
      have := hf.1
      omega
    have hloop : ∃ b, loopM (fun s : Int × ByteArray => m_proof_Format_lp1 p s.1 s.2) (0, ByteArray.empty) = some b ∧ b = bs (p.flatMap lineL) := by
      refine loopN (body := fun s : Int × ByteArray => m_proof_Format_lp1 p s.1 s.2) p.length (fun k t => ((k : Int), t)) (fun k t => t = bs ((p.take k).flatMap lineL)) _ (t0 := ByteArray.empty) rfl rfl ?_ ?_
      · rintro k t hk rfl
        obtain ⟨x, hx⟩ := get_of_lt hk
        have hx2 := hcl x (mem_get hx)
        have hl := lits_len hx2.2
        have := htl k
        refine Or.inl ⟨_, ?_, rfl⟩
        have e5 : m_WStr (bs ((p.take k).flatMap lineL ++ x.flatMap litL)) (ByteArray.mk #[48, 10]) = some (bs ((p.take (k + 1)).flatMap lineL)) := by
          rw [show (ByteArray.mk #[48, 10]) = bs [48, 10] from rfl, wstr_bs (by simp only [List.length_append, List.length_cons, List.length_nil]; omega), flatMap_take lineL hx]
          unfold lineL
          simp only [List.append_assoc]
        simp only [m_proof_Format_lp1, ltB hk, if_true, idx_nat hx, bsm, fmt_line hx2.1 hx2.2 (acc := (p.take k).flatMap lineL) (by omega), e5, inK_up hk (show p.length ≤ 9223372036854775807 by have := hf.1; omega)]
      · rintro t rfl
        refine ⟨_, ?_, rfl⟩
        simp only [m_proof_Format_lp1, ltB', if_false, Bool.false_eq_true, List.take_length]
    obtain ⟨b, hb2, rfl⟩ := hloop
    rw [hb2, bsm]
    rfl
def parseF : Nat → List UInt8 → List (List Int)
  | 0, _ => []
  | n + 1, l => if l = [] then [] else (splitC 32 (preC 10 l)).dropLast.map atoiV :: parseF n (rstC 10 l)
theorem words_ok {ws : List (List UInt8)} (hw : ∀ w ∈ ws, w.length ≤ 1000000) (hl : ws.length ≤ 1000000) : loopM (fun s : Int × List Int => m_proof_Parse_lp2 (ws.map bs) s.1 s.2) (0, []) = some (ws.map atoiV) := by
  have h : ∃ b, loopM (fun s : Int × List Int => m_proof_Parse_lp2 (ws.map bs) s.1 s.2) (0, []) = some b ∧ b = ws.map atoiV := by
    refine loopN (body := fun s : Int × List Int => m_proof_Parse_lp2 (ws.map bs) s.1 s.2) ws.length (fun k t => ((k : Int), t)) (fun k t => t = (ws.take k).map atoiV) _ (t0 := []) rfl rfl ?_ ?_
    · rintro k t hk rfl
      obtain ⟨w, hw1⟩ := get_of_lt hk
      have hw2 : (ws.map bs)[k]? = some (bs w) := by rw [List.getElem?_map, hw1]; rfl
      refine Or.inl ⟨_, ?_, rfl⟩
      have e1 : app ((ws.take k).map atoiV) [atoiV w] = some ((ws.take (k + 1)).map atoiV) := by
        rw [app_ok (by simp only [List.length_map, List.length_take, List.length_singleton]; omega), take_snoc_of hw1, List.map_append]; rfl
      have e2 : (decide ((k : Int) < ((ws.map bs).length : Int))) = true := by simpa using hk
      simp only [m_proof_Parse_lp2, e2, if_true, idx_nat hw2, bsm, atoi_ok (hw w (mem_get hw1)), e1, inK_up hk (show ws.length ≤ 9223372036854775807 by omega)]
    · rintro t rfl
      have e2 : ¬ (decide ((ws.length : Int) < ((ws.map bs).length : Int))) = true := by simp
      exact ⟨_, by simp only [m_proof_Parse_lp2, e2, if_false, Bool.false_eq_true, List.take_length], rfl⟩
  obtain ⟨b, hb, rfl⟩ := h
  exact hb
theorem parse_prog_loop : ∀ (n : Nat) (l : List UInt8) (acc : List (List Int)), l.length ≤ n → acc.length + n ≤ 10000 →
    loopM (fun s : ByteArray × List (List Int) => m_proof_Parse_lp1 s.1 s.2) (bs l, acc) = some (acc ++ parseF n l)
  | 0, l, acc, hn, _ => by
    have : l = [] := List.eq_nil_of_length_eq_zero (by omega)
    subst this
    rw [parseF, List.append_nil]
    exact loopM_done (by simp [m_proof_Parse_lp1, show bs [] = ByteArray.mk #[] from rfl])
  | n + 1, l, acc, hn, ha => by
    by_cases h0 : l = []
    · subst h0
      rw [parseF, if_pos rfl, List.append_nil]
      exact loopM_done (by simp [m_proof_Parse_lp1, show bs [] = ByteArray.mk #[] from rfl])
    · have hne : ¬ bs l = ByteArray.mk #[] := fun e => h0 (bs_nil.1 e)
      have hrl := rst_len (c := 10) h0
      have hpl := pre_len 10 l
      obtain ⟨b, hcut⟩ := cut_ok (l := l) (by omega)
      have hsl := splitC_len 32 (preC 10 l)
      have hsw := splitC_word 32 (preC 10 l)
      have e1 : inK .i64 (((splitC 32 (preC 10 l)).length : Int) - 1) = some (((splitC 32 (preC 10 l)).length - 1 : Nat) : Int) := inK_at (by omega) ⟨by omega, by omega⟩
      have e2 : sub ((splitC 32 (preC 10 l)).map bs) 0 (((splitC 32 (preC 10 l)).length - 1 : Nat) : Int) = some ((splitC 32 (preC 10 l)).dropLast.map bs) := by
        rw [sub_ok (by omega) (by omega) (by rw [List.length_map]; omega)]
        simp only [Int.toNat_natCast, Int.toNat_zero, List.drop_zero, List.dropLast_eq_take, List.map_take, List.length_map]
      have e3 := words_ok (ws := (splitC 32 (preC 10 l)).dropLast) (fun w hw => by have := hsw w (List.dropLast_subset _ hw); omega) (by rw [List.length_dropLast]; omega)
      rw [loopM_next (body := fun s : ByteArray × List (List Int) => m_proof_Parse_lp1 s.1 s.2) (s := (bs l, acc)) (s' := (bs (rstC 10 l), acc ++ [(splitC 32 (preC 10 l)).dropLast.map atoiV])) ?_, parse_prog_loop n _ _ (by omega) (by simp; omega), parseF, if_neg h0, List.append_assoc, List.singleton_append]
      simp only [m_proof_Parse_lp1, hne, decide_false, Bool.not_false, if_true, hcut, bsm, split_ok (show (preC 10 l).length ≤ 1000000 by omega), List.length_map, e1, e2, e3, app_ok (show acc.length + [(splitC 32 (preC 10 l)).dropLast.map atoiV].length ≤ 4294967296 by simp; omega)]
theorem parseF_fits : ∀ (n : Nat) (l : List UInt8), l.length ≤ n → (parseF n l).length ≤ n ∧ ∀ c ∈ parseF n l, c.length ≤ n
  | 0, l, _ => by simp [parseF]
  | n + 1, l, hn => by
    unfold parseF
    split
    · simp
    · rename_i h0
      have hrl := rst_len (c := 10) h0
      have hpl := pre_len 10 l
      have hsl := splitC_len 32 (preC 10 l)
      have ih := parseF_fits n (rstC 10 l) (by omega)
      refine ⟨by simp; omega, fun c hc => ?_⟩
      rcases List.mem_cons.1 hc with rfl | hc
      · rw [List.length_map, List.length_dropLast]; omega
      · have := ih.2 c hc; omega
theorem parseF_lines : ∀ (cs : List (List Int)) (n : Nat), (∀ c ∈ cs, Wide c) → (cs.flatMap lineL).length ≤ n → parseF n (cs.flatMap lineL) = cs
  | [], n, _, _ => by cases n <;> simp [parseF]
  | c :: cs, n, h, hn => by
    have e : (c :: cs).flatMap lineL = (c.flatMap litL ++ [48]) ++ 10 :: cs.flatMap lineL := by
      rw [List.flatMap_cons]; unfold lineL; simp
    have h10 : (10 : UInt8) ∉ c.flatMap litL ++ [48] := by
      intro hm
      rcases List.mem_append.1 hm with hm | hm
      · exact lits_no hm
      · simp at hm
    rw [e] at hn ⊢
    cases n with
    | zero => simp at hn
    | succ n =>
      unfold parseF
      rw [if_neg (by simp), (preC_app h10).1, (preC_app h10).2, split_lits, splitC_none (by decide), parseF_lines cs n (fun d hd => h d (List.mem_cons_of_mem _ hd)) (by simp only [List.length_append, List.length_cons] at hn; omega)]
      simp only [List.dropLast_concat]
      rw [map_back (h c (List.mem_cons_self ..))]
def TSpec (l : List UInt8) (r : List (List Int) × Int) : Prop :=
  (∃ p, provB 65536 p = true ∧ l = p.flatMap lineL ∧ r = (p, 0)) ∨ ((∀ p, provB 65536 p = true → l ≠ p.flatMap lineL) ∧ r = ([], 3))
theorem lines_inj {p q : List (List Int)} (hp : ∀ c ∈ p, Wide c) (hq : ∀ c ∈ q, Wide c) (e : p.flatMap lineL = q.flatMap lineL) : p = q := by
  have h1 := parseF_lines p _ hp (Nat.le_refl _)
  have h2 := parseF_lines q (p.flatMap lineL).length hq (by rw [e]; exact Nat.le_refl _)
  rw [← e] at h2
  exact h1.symm.trans h2
theorem TSpec.eq {l : List UInt8} {r r' : List (List Int) × Int} (h : TSpec l r) (h' : TSpec l r') : r = r' := by
  rcases h with ⟨p, h1, h2, rfl⟩ | ⟨h1, rfl⟩ <;> rcases h' with ⟨q, k1, k2, rfl⟩ | ⟨k1, rfl⟩
  · rw [lines_inj (fun c hc => (prov_nl h1 c hc).wide) (fun c hc => (prov_nl k1 c hc).wide) (h2.symm.trans k2)]
  · exact absurd h2 (k1 p h1)
  · exact absurd k2 (h1 q k1)
  · rfl
theorem parse_prog {l : List UInt8} (hl : l.length ≤ 10000) : ∃ r, m_proof_Parse (bs l) = some r ∧ TSpec l r := by
  unfold m_proof_Parse
  rw [parse_prog_loop l.length l [] (Nat.le_refl _) (by simp; omega), bsm, List.nil_append]
  have hfit := parseF_fits l.length l (Nat.le_refl _)
  rw [fmt_prog (p := parseF l.length l) ⟨by omega, fun c hc => by have := hfit.2 c hc; omega⟩, bsm]
  by_cases he : bs (fmtP (parseF l.length l)) = bs l
  · rw [if_neg (by simp [he])]
    refine ⟨_, rfl, Or.inl ⟨parseF l.length l, ?_, ?_, rfl⟩⟩
    · have h1 := bs_inj he
      unfold fmtP at h1
      split at h1
      · assumption
      · rw [← h1]; rfl
    · have h1 := bs_inj he
      unfold fmtP at h1
      split at h1
      · exact h1.symm
      · rw [← h1]; rfl
  · rw [if_pos (by simp [he])]
    refine ⟨_, rfl, Or.inr ⟨fun p hp e => he ?_, rfl⟩⟩
    rw [e, parseF_lines p _ (fun c hc => (prov_nl hp c hc).wide) (Nat.le_refl _)]
    unfold fmtP
    rw [if_pos hp]
end Go.Proofs.YtfajmelamonolaaDoor

/- The laws of proofs: the law's own examples, and that program and reference agree; soundness. -/
set_option linter.unusedVariables false
set_option linter.unusedSimpArgs false
namespace Go.Proofs.YtfajmelamonolaaDoor
open Go.RowKit Go.Lib
theorem FWf.flen {f : Formula} (h : FWf f) : FLen f.clauses := ⟨h.2.1, fun c hc => (h.2.2 c hc).1⟩
theorem small_ok {f : Formula} {v n : Int} (h : smallB f v n = true) : f.vars ≤ v ∧ (f.clauses.length : Int) ≤ n ∧ ∀ c ∈ f.clauses, c.length ≤ 30 := by
  unfold smallB at h
  simp only [Bool.and_eq_true, decide_eq_true_eq, List.all_eq_true] at h
  exact ⟨h.1.2, h.2, h.1.1⟩
theorem psmall_eq (p : List (List Int)) (k : Int) (hl : p.length ≤ 9223372036854775807) : m_assessorlaw27_small p k = some (smallB ⟨0, p⟩ 0 k) := by
  unfold m_assessorlaw27_small
  rw [small_eq _ _ _ hl, bsm]
theorem psmall_ok {p : List (List Int)} {k : Int} (h : smallB ⟨0, p⟩ 0 k = true) : (p.length : Int) ≤ k ∧ ∀ c ∈ p, c.length ≤ 30 := (small_ok h).2
def goodB (val c : List Int) : Bool := c.any (fun y => decide (gv val y = some y)) || c.any fun y => c.any fun z => decide (y ≠ z) && decide (gv val y = some 0) && decide (gv val z = some 0)
theorem good_of {val c : List Int} (h : goodB val c = true) : Good val c := by
  unfold goodB at h
  rw [Bool.or_eq_true, List.any_eq_true, List.any_eq_true] at h
  rcases h with ⟨y, hy, h⟩ | ⟨y, hy, h⟩
  · exact Or.inl ⟨y, hy, by simpa using h⟩
  · rw [List.any_eq_true] at h
    obtain ⟨z, hz, h⟩ := h
    simp only [Bool.and_eq_true, decide_eq_true_eq] at h
    exact Or.inr ⟨y, hy, z, hz, h.1.1, h.1.2, h.2⟩
theorem vo2 {F : List (List Int)} {S : List Int} {a b : Int} (ha : a = 0 ∨ ((a = 1 ∨ a = -1) ∧ UP F S a)) (hb : b = 0 ∨ ((b = 2 ∨ b = -2) ∧ UP F S b)) : ValOk 2 F S [0, a, b] := by
  refine ⟨rfl, fun v x h => ?_, fun v x h h0 => ?_⟩
  · match v, h with
    | 0, h => simp at h; exact Or.inl h.symm
    | 1, h =>
      simp at h; subst h
      rcases ha with rfl | ⟨rfl | rfl, _⟩
      · exact Or.inl rfl
      · exact Or.inr ⟨by decide, rfl⟩
      · exact Or.inr ⟨by decide, rfl⟩
    | 2, h =>
      simp at h; subst h
      rcases hb with rfl | ⟨rfl | rfl, _⟩
      · exact Or.inl rfl
      · exact Or.inr ⟨by decide, rfl⟩
      · exact Or.inr ⟨by decide, rfl⟩
    | n + 3, h => simp at h
  · match v, h with
    | 0, h => simp at h; exact absurd h.symm h0
    | 1, h => simp at h; subst h; exact (ha.resolve_left h0).2
    | 2, h => simp at h; subst h; exact (hb.resolve_left h0).2
    | n + 3, h => simp at h
theorem nofail {F : List (List Int)} {S val : List Int} (hL : Lits 2 F S) (hv : ValOk 2 F S val) (hs : ∀ l ∈ S, gv val l = some l) (hg : F.all (goodB val) = true) : ¬ Fails F S :=
  closed_ok hL hv hs fun c hc => good_of (List.all_eq_true.1 hg c hc)
def exF : List (List Int) := [[1, 2], [1, -2], [-1, 2], [-1, -2]]
def exP : List (List Int) := [[1], []]
theorem ex_valid : validB ⟨2, exF⟩ = true := by decide +kernel
theorem ex_prov : provB 2 exP = true := by decide +kernel
theorem ex_flen : FLen exF := ⟨by decide, by decide⟩
theorem two {F : List (List Int)} {S : List Int} {x y : Int} {c : List Int} (hc : c ∈ F) (e : c = [x, y]) (h : UP F S (-x)) : UP F S y :=
  .unit hc (by rw [e]; simp) fun z hz hne => by
    rw [e] at hz
    simp only [List.mem_cons, List.not_mem_nil, or_false] at hz
    rcases hz with rfl | rfl
    · exact h
    · exact absurd rfl hne
theorem one_up {F : List (List Int)} {S : List Int} {x : Int} (hc : [x] ∈ F) : UP F S x := .unit hc (by simp) fun z hz hne => absurd (List.mem_singleton.1 hz) hne
theorem ex_f1 : Fails exF (negs [1]) := by
  have h1 : UP exF (negs [1]) (-1) := .start (by decide)
  have h2 : UP exF (negs [1]) 2 := two (c := [1, 2]) (by decide) rfl h1
  refine Or.inr ⟨[1, -2], by decide, fun y hy => ?_⟩
  simp only [List.mem_cons, List.not_mem_nil, or_false] at hy
  rcases hy with rfl | rfl
  · exact h1
  · exact h2
theorem ex_f2 : Fails (exF ++ [[1]]) (negs []) := by
  have h1 : UP (exF ++ [[1]]) (negs []) 1 := one_up (by decide)
  have h2 : UP (exF ++ [[1]]) (negs []) 2 := two (c := [-1, 2]) (x := -1) (by decide) rfl h1
  refine Or.inr ⟨[-1, -2], by decide, fun y hy => ?_⟩
  simp only [List.mem_cons, List.not_mem_nil, or_false] at hy
  rcases hy with rfl | rfl
  · exact h1
  · exact h2
theorem ex_acc : accB exF exP = true := accB_iff.2 ⟨rfl, ex_f1, ex_f2, trivial⟩
theorem ex_chk : chkB ⟨2, exF⟩ exP = true := by rw [chk_acc ex_valid ex_prov]; exact ex_acc
theorem acc_no {F p : List (List Int)} (h : ¬ accP F p) : accB F p = false := by
  cases hb : accB F p with
  | false => rfl
  | true => exact absurd (accB_iff.1 hb).2 h
theorem ex_n0 : accB exF [[]] = false := acc_no fun h =>
  nofail (F := exF) (S := negs []) (val := [0, 0, 0]) ⟨by decide, by decide, by decide, by decide⟩ (vo2 (Or.inl rfl) (Or.inl rfl)) (by decide) (by decide) h.1
theorem ex_c3 : accB (exF.eraseIdx 3) exP = false := acc_no fun h => by
  have h1 : UP (exF.eraseIdx 3 ++ [[1]]) (negs []) 1 := one_up (by decide)
  have h2 : UP (exF.eraseIdx 3 ++ [[1]]) (negs []) 2 := two (c := [-1, 2]) (x := -1) (by decide) rfl h1
  exact nofail (F := exF.eraseIdx 3 ++ [[1]]) (S := negs []) (val := [0, 1, 2]) ⟨by decide, by decide, by decide, by decide⟩ (vo2 (Or.inr ⟨Or.inl rfl, h1⟩) (Or.inr ⟨Or.inl rfl, h2⟩)) (by decide) (by decide) h.2.1
theorem ex_c2 : accB (exF.eraseIdx 2) exP = false := acc_no fun h => by
  have h1 : UP (exF.eraseIdx 2 ++ [[1]]) (negs []) 1 := one_up (by decide)
  have h2 : UP (exF.eraseIdx 2 ++ [[1]]) (negs []) (-2) := two (c := [-1, -2]) (x := -1) (by decide) rfl h1
  exact nofail (F := exF.eraseIdx 2 ++ [[1]]) (S := negs []) (val := [0, 1, -2]) ⟨by decide, by decide, by decide, by decide⟩ (vo2 (Or.inr ⟨Or.inl rfl, h1⟩) (Or.inr ⟨Or.inr rfl, h2⟩)) (by decide) (by decide) h.2.1
theorem ex_c1 : accB (exF.eraseIdx 1) exP = false := acc_no fun h => by
  have h1 : UP (exF.eraseIdx 1) (negs [1]) (-1) := .start (by decide)
  have h2 : UP (exF.eraseIdx 1) (negs [1]) 2 := two (c := [1, 2]) (by decide) rfl h1
  exact nofail (F := exF.eraseIdx 1) (S := negs [1]) (val := [0, -1, 2]) ⟨by decide, by decide, by decide, by decide⟩ (vo2 (Or.inr ⟨Or.inr rfl, h1⟩) (Or.inr ⟨Or.inl rfl, h2⟩)) (by decide) (by decide) h.1
theorem ex_c0 : accB (exF.eraseIdx 0) exP = false := acc_no fun h => by
  have h1 : UP (exF.eraseIdx 0) (negs [1]) (-1) := .start (by decide)
  have h2 : UP (exF.eraseIdx 0) (negs [1]) (-2) := two (c := [1, -2]) (by decide) rfl h1
  exact nofail (F := exF.eraseIdx 0) (S := negs [1]) (val := [0, -1, -2]) ⟨by decide, by decide, by decide, by decide⟩ (vo2 (Or.inr ⟨Or.inr rfl, h1⟩) (Or.inr ⟨Or.inr rfl, h2⟩)) (by decide) (by decide) h.1
theorem ex_trim : trimR ⟨2, exF⟩ exP = (exP, 0) := by
  unfold trimR
  rw [if_pos ex_chk]
  show (trimF (accB exF) 1 exP, (0 : Int)) = (exP, 0)
  unfold trimF trimF
  rw [show exP.eraseIdx 0 = [[]] from rfl, ex_n0]
  rfl
theorem ex_core : coreR ⟨2, exF⟩ exP = ([0, 1, 2, 3], 0) := by
  unfold coreR
  rw [if_pos ex_chk]
  show (coreF (fun F => accB F exP) 4 [] exF, (0 : Int)) = _
  unfold coreF
  rw [ex_c3, if_neg (by decide)]
  unfold coreF
  rw [ex_c2, if_neg (by decide)]
  unfold coreF
  rw [ex_c1, if_neg (by decide)]
  unfold coreF
  rw [ex_c0, if_neg (by decide)]
  rfl
theorem itoa_one : itoa 1 = [49] := by unfold itoa; rw [if_neg (by decide), show (1 : Int).toNat = 1 from rfl, dd_small (by decide)]; rfl
theorem ex_lines : exP.flatMap lineL = [49, 32, 48, 10, 48, 10] := by simp [exP, lineL, litL, itoa_one]
theorem ex_p65 : provB 65536 exP = true := by decide +kernel
theorem awake_true : m_assessorlaw27_awake = some true := by
  have hpl : PLen exP := ⟨by decide, by decide⟩
  have t1 : m_proof_Trim ⟨2, exF⟩ exP = some (exP, 0) := by rw [trim_prog ex_flen hpl, ex_trim]
  have t2 : m_proof_Core ⟨2, exF⟩ exP = some ([0, 1, 2, 3], 0) := by rw [core_prog ex_flen hpl, ex_core]
  have t3 : m_proof_Follows ⟨2, exF⟩ [1] = some (true, 0) := by
    obtain ⟨r, hr, h⟩ := follows_prog (f := ⟨2, exF⟩) (q := [1]) ex_flen (by decide)
    rw [if_pos ⟨ex_valid, by decide +kernel⟩] at h
    rw [hr]
    obtain ⟨a, b⟩ := r
    have h1 : b = 0 := h.1
    have h2 : a = true := h.2.2 ex_f1
    rw [h1, h2]
  have t4 : m_proof_Parse (ByteArray.mk #[49, 32, 48, 10, 48, 10]) = some (exP, 0) := by
    obtain ⟨r, hr, h⟩ := parse_prog (l := [49, 32, 48, 10, 48, 10]) (by decide)
    have : TSpec [49, 32, 48, 10, 48, 10] (exP, 0) := Or.inl ⟨exP, ex_p65, ex_lines.symm, rfl⟩
    rw [h.eq this] at hr
    exact hr
  have t5 : m_proof_Check ⟨2, exF⟩ exP = some true := by rw [check_ok ex_flen hpl, ex_chk]
  have t6 : m_proof_Check ⟨2, exF⟩ [[]] = some false := by
    rw [check_ok ex_flen ⟨by decide, by decide⟩, chk_acc ex_valid (by decide +kernel)]
    exact congrArg some ex_n0
  have t7 : sub exP 1 (exP.length : Int) = some [[]] := by rw [sub_ok (by decide) (by decide) (by decide)]; rfl
  have t8 : m_assessorref26_Clauses exP exP = some true := by rw [clauses_equal _ _ ⟨by decide, by decide⟩]; simp
  have t9 : m_slices_Equal_int_int_ [0, 1, 2, 3] [0, 1, 2, 3] = some true := by rw [lists_equal _ _ (by decide)]; simp
  have t10 : m_proof_Format exP = some (ByteArray.mk #[49, 32, 48, 10, 48, 10]) := by
    rw [fmt_prog ⟨by decide, by decide⟩]
    unfold fmtP
    rw [if_pos ex_p65, ex_lines]; rfl
  unfold m_assessorlaw27_awake
  rw [show (Formula.mk 2 ([([1, 2] : List Int), ([1, (-2)] : List Int), ([(-1), 2] : List Int), ([(-1), (-2)] : List Int)])) = ⟨2, exF⟩ from rfl, show ([([1] : List Int), ([] : List Int)] : List (List Int)) = exP from rfl]
  rw [t1, bsm, t2, bsm, t3, bsm, t4, bsm, t5, bsm, if_pos rfl, t7, bsm, t6, bsm, bsm, if_pos (by decide), t8, bsm, bsm, if_pos (by decide), t9, bsm, bsm, if_pos (by decide), bsm, if_pos rfl, t10, bsm, bsm]
  simp
end Go.Proofs.YtfajmelamonolaaDoor

/- Proofs are sound: a formula for which a proof is accepted holds for no model. -/
set_option linter.unusedVariables false
set_option linter.unusedSimpArgs false
namespace Go.Proofs.YtfajmelamonolaaDoor
open Go.RowKit Go.Lib
def MdL (m : List Int) : Prop := ∀ (i : Nat) x, m[i]? = some x → x = (i : Int) + 1 ∨ x = -((i : Int) + 1)
theorem MdL.at {m : List Int} (h : MdL m) {x : Int} (hx : x ∈ m) : x ≠ 0 ∧ m[(vr x - 1).toNat]? = some x := by
  obtain ⟨i, hi⟩ := List.getElem?_of_mem hx
  have h1 := h i x hi
  have h2 : vr x = (i : Int) + 1 := by unfold vr; omega
  refine ⟨by omega, ?_⟩
  rw [h2, show ((i : Int) + 1 - 1).toNat = i by omega]; exact hi
theorem MdL.opp {m : List Int} (h : MdL m) {x : Int} (hx : x ∈ m) (hn : -x ∈ m) : False := by
  have h1 := h.at hx
  have h2 := (h.at hn).2
  rw [vr_neg, h1.2] at h2
  simp only [Option.some.injEq] at h2
  omega
theorem mdF_at : ∀ {m : List Int} {i : Int}, mdF i m = true → ∀ (k : Nat) x, m[k]? = some x → x = i + k ∨ x = -(i + k)
  | [], _, _, k, x, hx => by simp at hx
  | a :: m, i, h, 0, x, hx => by
    unfold mdF at h
    simp only [Bool.and_eq_true, Bool.or_eq_true, decide_eq_true_eq] at h
    simp only [List.getElem?_cons_zero, Option.some.injEq] at hx
    omega
  | a :: m, i, h, k + 1, x, hx => by
    unfold mdF at h
    simp only [Bool.and_eq_true] at h
    rw [List.getElem?_cons_succ] at hx
    have := mdF_at h.2 k x hx
    omega
theorem MdL.of {m : List Int} (h : mdF 1 m = true) : MdL m := fun i x hx => by
  have := mdF_at h i x hx
  omega
theorem sat_mem {m c : List Int} (h : satB m c = true) : ∃ y ∈ c, y ∈ m := by
  unfold satB at h
  rw [List.any_eq_true] at h
  obtain ⟨y, hy, h⟩ := h
  exact ⟨y, hy, mem_get (by simpa using h)⟩
theorem model_up {F : List (List Int)} {S m : List Int} (hm : MdL m) (hS : ∀ x ∈ S, x ∈ m) (hF : ∀ c ∈ F, satB m c = true) : ∀ {x}, UP F S x → x ∈ m := by
  intro x hx
  induction hx with
  | start h => exact hS _ h
  | @unit c x hc hxc _ ih =>
    obtain ⟨y, hy, hym⟩ := sat_mem (hF c hc)
    by_cases e : y = x
    · rw [← e]; exact hym
    · exact absurd (ih y hy e) (fun hn => hm.opp hym hn)
theorem model_ok {F : List (List Int)} {S m : List Int} (hm : MdL m) (hS : ∀ x ∈ S, x ∈ m) (hF : ∀ c ∈ F, satB m c = true) : ¬ Fails F S := by
  rintro (⟨l, h1, h2⟩ | ⟨c, hc, hy⟩)
  · exact hm.opp (model_up hm hS hF h1) (model_up hm hS hF h2)
  · obtain ⟨y, hyc, hym⟩ := sat_mem (hF c hc)
    exact hm.opp hym (model_up hm hS hF (hy y hyc))
theorem fails_sat {n : Int} {F : List (List Int)} {m c : List Int} (hm : MdL m) (hn : (m.length : Int) = n) (hF : ∀ c ∈ F, satB m c = true) (hc : ClOk n c) (h : Fails F (negs c)) : satB m c = true := by
  cases hs : satB m c with
  | true => rfl
  | false =>
    refine absurd h (model_ok hm (fun x hx => ?_) hF)
    have hx2 := mem_negs' hx
    obtain ⟨h1, h2⟩ := hc.1 _ hx2
    rw [vr_neg] at h2
    have h3 := vr_nn x
    have h4 : vr x ≠ 0 := fun e => h1 (by have := vr_zero.1 e; omega)
    obtain ⟨y, hy⟩ := get_of_lt (show (vr x - 1).toNat < m.length by omega)
    have h5 := hm _ y hy
    have h6 : y = x ∨ y = -x := by
      have := vr_cases x
      omega
    rcases h6 with rfl | rfl
    · exact mem_get hy
    · unfold satB at hs
      rw [List.any_eq_false] at hs
      exact absurd (by rw [vr_neg, hy]; simp) (hs (-x) hx2)
theorem acc_sat {n : Int} {m : List Int} (hm : MdL m) (hn : (m.length : Int) = n) : ∀ (p F : List (List Int)), (∀ c ∈ F, satB m c = true) → (∀ c ∈ p, ClOk n c) → accP F p → ∀ c ∈ p, satB m c = true
  | [], F, _, _, _, c, hc => by simp at hc
  | q :: p, F, hF, hp, h, c, hc => by
    have h1 := fails_sat hm hn hF (hp q (List.mem_cons_self ..)) h.1
    rcases List.mem_cons.1 hc with rfl | hc
    · exact h1
    · refine acc_sat hm hn p (F ++ [q]) (fun d hd => ?_) (fun d hd => hp d (List.mem_cons_of_mem _ hd)) h.2 c hc
      rcases List.mem_append.1 hd with hd | hd
      · exact hF d hd
      · rw [List.mem_singleton.1 hd]; exact h1
theorem chk_sound {f : Formula} {p : List (List Int)} (h : chkB f p = true) (m : List Int) : holdsB f m = false := by
  cases hh : holdsB f m with
  | false => rfl
  | true =>
    unfold holdsB at hh
    simp only [Bool.and_eq_true, decide_eq_true_eq, List.all_eq_true] at hh
    obtain ⟨hv, hpr, hg, hacc⟩ := chk_parts h
    have := acc_sat (MdL.of hh.1.2) hh.1.1.2 p f.clauses hh.2 (prov_cl hpr) hacc [] (List.mem_of_getLast? hg)
    simp [satB] at this
theorem model_ex {v b : Int} (hv : 0 ≤ v ∧ v ≤ 65536) : ∃ m, m_assessorref27_Model v b = some m ∧ (m.length : Int) = v ∧ MdL m := by
  unfold m_assessorref27_Model
  obtain ⟨m, hm, h1, h2⟩ := loopN (body := fun s : Int × List Int => m_assessorref27_Model_lp1 v b s.1 s.2) (s0 := ((1 : Int), ([] : List Int))) v.toNat (fun k t => (((k + 1 : Nat) : Int), t)) (fun k t => t.length = k ∧ MdL t) (fun m => (m.length : Int) = v ∧ MdL m) (t0 := []) rfl ⟨rfl, fun i x hx => by simp at hx⟩ (by
      rintro k t hk ⟨rfl, h2⟩
      have e0 : (decide (((t.length + 1 : Nat) : Int) ≤ v)) = true := by simp only [decide_eq_true_eq]; omega
      have e1 : inK .i64 (v - ((t.length + 1 : Nat) : Int)) = some (v - ((t.length + 1 : Nat) : Int)) := inK_eq ⟨by omega, by omega⟩
      have e2 : ∃ x, shrK .i64 b (v - ((t.length + 1 : Nat) : Int)) = some x := by unfold shrK; rw [if_neg (by omega)]; exact ⟨_, rfl⟩
      obtain ⟨x, e2⟩ := e2
      have e3 : remK x 2 = some (x.tmod 2) := by unfold remK; rw [if_pos (by decide)]
      have e4 : inK .i64 (0 - ((t.length + 1 : Nat) : Int)) = some (-((t.length + 1 : Nat) : Int)) := inK_at (by omega) ⟨by omega, by omega⟩
      have e5 : inK .i64 (((t.length + 1 : Nat) : Int) + 1) = some ((t.length + 1 + 1 : Nat) : Int) := inK_at rfl ⟨by omega, by omega⟩
      have key : ∀ y : Int, (y = ((t.length + 1 : Nat) : Int) ∨ y = -((t.length + 1 : Nat) : Int)) → (t ++ [y]).length = t.length + 1 ∧ MdL (t ++ [y]) := fun y hy => by
        refine ⟨by simp, fun i x hx => ?_⟩
        rw [List.getElem?_append] at hx
        split at hx
        · exact h2 i x hx
        · rename_i hi
          rcases Nat.lt_or_ge (i - t.length) 1 with h | h
          · have : i = t.length := by omega
            subst this
            simp only [Nat.sub_self, List.getElem?_cons_zero, Option.some.injEq] at hx
            subst hx
            omega
          · rw [List.getElem?_eq_none (by simpa using h)] at hx; cases hx
      by_cases hx : x.tmod 2 = 1
      · refine Or.inl ⟨t ++ [((t.length + 1 : Nat) : Int)], ?_, key _ (Or.inl rfl)⟩
        simp only [m_assessorref27_Model_lp1, e0, if_true, e1, bsm, e2, e3, hx, decide_true, app_ok (show t.length + [((t.length + 1 : Nat) : Int)].length ≤ 4294967296 by simp; omega), e5]
      · refine Or.inl ⟨t ++ [-((t.length + 1 : Nat) : Int)], ?_, key _ (Or.inr rfl)⟩
        simp only [m_assessorref27_Model_lp1, e0, if_true, e1, bsm, e2, e3, hx, decide_false, Bool.false_eq_true, if_false, e4, app_ok (show t.length + [-((t.length + 1 : Nat) : Int)].length ≤ 4294967296 by simp; omega), e5]) (by
      rintro t ⟨h1, h2⟩
      have e0 : ¬ (decide (((v.toNat + 1 : Nat) : Int) ≤ v)) = true := by simp only [decide_eq_true_eq]; omega
      exact ⟨t, by simp only [m_assessorref27_Model_lp1, e0, if_false, Bool.false_eq_true], by omega, h2⟩)
  exact ⟨m, by rw [hm, bsm], h1, h2⟩
theorem shl_ok {v : Int} (hv : 0 ≤ v ∧ v ≤ 8) : ∃ x, shlK .i64 1 v = some x ∧ x ≤ 256 := by
  unfold shlK
  rw [if_neg (by omega)]
  refine ⟨_, rfl, ?_⟩
  have key : ∀ k : Nat, k < 9 → IntKind.wrap .i64 (1 * 2 ^ (min k (IntKind.bits .i64))) ≤ 256 := by decide
  exact key v.toNat (by omega)
theorem law_ProofSound (p0 : Formula) (p1 : (List (List Int))) (h0 : FWf p0) (h1 : LW (LW I64) p1) : m_assessorlaw27_ProofSound p0 p1 = some true := by
  unfold m_assessorlaw27_ProofSound
  rw [awake_true, bsm, if_neg (by decide), small_eq _ _ _ h0.2.1, bsm]
  cases hs : smallB p0 8 30 with
  | false => simp
  | true =>
    rw [if_neg (by simp), psmall_eq _ _ h1.1, bsm, bsm]
    cases hp : smallB ⟨0, p1⟩ 0 30 with
    | false => simp
    | true =>
      have hpo := psmall_ok hp
      have hpl : PLen p1 := ⟨by omega, fun c hc => by have := hpo.2 c hc; omega⟩
      rw [if_neg (by simp), cnf_valid h0.flen, bsm, bsm]
      cases hv : validB p0 with
      | false => simp
      | true =>
        rw [if_neg (by simp), check_ok h0.flen hpl, bsm, bsm]
        cases hc : chkB p0 p1 with
        | false => simp
        | true =>
          have hb := valid_bnd hv
          obtain ⟨x6, e6, hx6⟩ := shl_ok (v := p0.vars) ⟨hb.1, (small_ok hs).1⟩
          rw [if_neg (by simp), e6, bsm]
          obtain ⟨b, hb2, rfl⟩ := loopN (body := fun s : Int => m_assessorlaw27_ProofSound_lp1 p0 x6 s) (s0 := (0 : Int)) x6.toNat (fun k (_ : Unit) => (k : Int)) (fun _ _ => True) (fun b => b = Out.brk ()) (t0 := ()) rfl trivial (by
              rintro k _ hk _
              obtain ⟨m, hm, _⟩ := model_ex (v := p0.vars) (b := (k : Int)) ⟨hb.1, hb.2.1⟩
              have e0 : (decide ((k : Int) < x6)) = true := by simp only [decide_eq_true_eq]; omega
              refine Or.inl ⟨(), ?_, trivial⟩
              simp only [m_assessorlaw27_ProofSound_lp1, e0, if_true, hm, bsm, cnf_holds h0.flen, chk_sound hc m, Bool.false_eq_true, if_false, inK_at (n := (k : Int) + 1) (m := ((k + 1 : Nat) : Int)) rfl ⟨by omega, by omega⟩]) (by
              rintro _ _
              by_cases h : 0 ≤ x6
              · have e0 : ¬ (decide ((x6.toNat : Int) < x6)) = true := by simp only [decide_eq_true_eq]; omega
                exact ⟨.brk (), by simp only [m_assessorlaw27_ProofSound_lp1, e0, if_false, Bool.false_eq_true], rfl⟩
              · have e0 : ¬ (decide ((x6.toNat : Int) < x6)) = true := by simp only [decide_eq_true_eq]; omega
                exact ⟨.brk (), by simp only [m_assessorlaw27_ProofSound_lp1, e0, if_false, Bool.false_eq_true], rfl⟩)
          rw [hb2, bsm]
end Go.Proofs.YtfajmelamonolaaDoor

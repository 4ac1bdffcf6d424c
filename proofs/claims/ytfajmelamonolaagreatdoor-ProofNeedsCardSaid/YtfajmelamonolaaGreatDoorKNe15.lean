/- The program's Parse: lines, words, numbers; it inverts Format. -/
import Derived.Test.YtfajmelamonolaaGreatDoorKNe14
import Derived.Lib.SplitLaws
import Derived.Lib.IndexLaws
import Derived.Lib.CutLaws
import Derived.Test.YtfajmelamonolaaGreatDoorKNe3
import Derived.Test.YtfajmelamonolaaGreatDoorKNe4
import Derived.Test.YtfajmelamonolaaGreatDoorKNe13
set_option linter.unusedVariables false
set_option linter.unusedSimpArgs false
namespace Go.Proofs.YtfajmelamonolaaGreatDoor
open Go.RowKit Go.Lib
def preC (c : UInt8) (l : List UInt8) : List UInt8 := l.takeWhile (· != c)
def rstC (c : UInt8) (l : List UInt8) : List UInt8 := (l.dropWhile (· != c)).drop 1
theorem preC_app {c : UInt8} : ∀ {x r : List UInt8}, c ∉ x → preC c (x ++ c :: r) = x ∧ rstC c (x ++ c :: r) = r
  | [], r, _ => by simp [preC, rstC]
  | b :: x, r, h => by
    have hb : (b != c) = true := by simp; intro e; exact h (by rw [e]; exact List.mem_cons_self ..)
    have := preC_app (c := c) (x := x) (r := r) (fun hm => h (List.mem_cons_of_mem _ hm))
    unfold preC rstC at *
    rw [List.cons_append, List.takeWhile_cons, List.dropWhile_cons, if_pos hb, if_pos hb, this.1, this.2]
    exact ⟨rfl, rfl⟩
theorem preC_none {c : UInt8} : ∀ {x : List UInt8}, c ∉ x → preC c x = x ∧ rstC c x = []
  | [], _ => by simp [preC, rstC]
  | b :: x, h => by
    have hb : (b != c) = true := by simp; intro e; exact h (by rw [e]; exact List.mem_cons_self ..)
    have := preC_none (c := c) (x := x) (fun hm => h (List.mem_cons_of_mem _ hm))
    unfold preC rstC at *
    rw [List.takeWhile_cons, List.dropWhile_cons, if_pos hb, if_pos hb, this.1, this.2]
    exact ⟨rfl, rfl⟩
theorem split_at (c : UInt8) : ∀ (l : List UInt8), c ∈ l → ∃ x r, l = x ++ c :: r ∧ c ∉ x
  | [], h => by simp at h
  | b :: l, h => by
    by_cases hb : b = c
    · exact ⟨[], l, by rw [hb]; rfl, by simp⟩
    · obtain ⟨x, r, h1, h2⟩ := split_at c l (by rcases List.mem_cons.1 h with h | h; exact absurd h.symm hb; exact h)
      exact ⟨b :: x, r, by rw [h1]; rfl, by simp [h2]; exact fun e => hb e.symm⟩
theorem index_app {c : UInt8} {x r : List UInt8} (h : c ∉ x) : index (x ++ c :: r) [c] = x.length := by
  refine index_first (by simp) ?_ fun j hj => ?_
  · simp [occAt, List.isPrefixOf]
  · unfold occAt
    have hlt : j < (x ++ c :: r).length := by simp; omega
    rw [List.drop_eq_getElem_cons hlt]
    have : (x ++ c :: r)[j] = x[j] := List.getElem_append_left hj
    rw [this]
    have hne : ¬ c = x[j] := fun e => h (e ▸ List.getElem_mem hj)
    simp [List.isPrefixOf, hne]
theorem index_no {c : UInt8} {x : List UInt8} (h : c ∉ x) : index x [c] = -1 := by
  refine index_none fun j hj => ?_
  unfold occAt
  by_cases hlt : j < x.length
  · rw [List.drop_eq_getElem_cons hlt]
    have hne : ¬ c = x[j] := fun e => h (e ▸ List.getElem_mem hlt)
    simp [List.isPrefixOf, hne]
  · rw [List.drop_eq_nil_of_le (by omega)]; rfl
theorem cut_eq (c : UInt8) (l : List UInt8) : (Lib.cut l [c]).1 = preC c l ∧ (Lib.cut l [c]).2.1 = rstC c l := by
  unfold Lib.cut
  by_cases h : c ∈ l
  · obtain ⟨x, r, rfl, hx⟩ := split_at c l h
    rw [index_app hx, if_pos (by omega), (preC_app hx).1, (preC_app hx).2]
    simp
  · rw [index_no h, if_neg (by decide), (preC_none h).1, (preC_none h).2]
    exact ⟨rfl, rfl⟩
def splitC (c : UInt8) : List UInt8 → List (List UInt8)
  | [] => [[]]
  | b :: r => if b = c then [] :: splitC c r else match splitC c r with
    | [] => [[b]]
    | w :: ws => (b :: w) :: ws
theorem splitC_none {c : UInt8} : ∀ {x : List UInt8}, c ∉ x → splitC c x = [x]
  | [], _ => rfl
  | b :: x, h => by
    have hb : ¬ b = c := fun e => h (by rw [e]; exact List.mem_cons_self ..)
    unfold splitC
    rw [if_neg hb, splitC_none (fun hm => h (List.mem_cons_of_mem _ hm))]
theorem splitC_app {c : UInt8} : ∀ {x r : List UInt8}, c ∉ x → splitC c (x ++ c :: r) = x :: splitC c r
  | [], r, _ => by rw [List.nil_append, splitC, if_pos rfl]
  | b :: x, r, h => by
    have hb : ¬ b = c := fun e => h (by rw [e]; exact List.mem_cons_self ..)
    rw [List.cons_append, splitC, if_neg hb, splitC_app (fun hm => h (List.mem_cons_of_mem _ hm))]
theorem splitC_len (c : UInt8) : ∀ (l : List UInt8), 1 ≤ (splitC c l).length ∧ (splitC c l).length ≤ l.length + 1
  | [] => by simp [splitC]
  | b :: r => by
    have := splitC_len c r
    unfold splitC
    by_cases hb : b = c
    · rw [if_pos hb]; simp only [List.length_cons]; omega
    · rw [if_neg hb]
      cases h : splitC c r with
      | nil => rw [h] at this; simp at this
      | cons w ws => rw [h] at this; simp only [List.length_cons] at *; omega
theorem splitC_word (c : UInt8) : ∀ (l : List UInt8), ∀ w ∈ splitC c l, w.length ≤ l.length
  | [], w, h => by simp [splitC] at h; simp [h]
  | b :: r, w, h => by
    have ih := splitC_word c r
    unfold splitC at h
    by_cases hb : b = c
    · rw [if_pos hb] at h
      rcases List.mem_cons.1 h with rfl | h
      · simp
      · have := ih w h; simp only [List.length_cons]; omega
    · rw [if_neg hb] at h
      cases hs : splitC c r with
      | nil => have := splitC_len c r; rw [hs] at this; simp at this
      | cons v vs =>
        rw [hs] at h ih
        simp only at h
        rcases List.mem_cons.1 h with rfl | h
        · have := ih v (List.mem_cons_self ..); simp only [List.length_cons]; omega
        · have := ih w (List.mem_cons_of_mem _ h); simp only [List.length_cons]; omega
theorem splitK_eq (c : UInt8) : ∀ (n : Nat) (l : List UInt8), l.length ≤ n → splitK [c] 0 (l.count c) l = splitC c l := by
  intro n
  induction n with
  | zero => intro l hl; have : l = [] := List.eq_nil_of_length_eq_zero (by omega); subst this; rfl
  | succ n ih =>
    intro l hl
    by_cases h : c ∈ l
    · obtain ⟨x, r, rfl, hx⟩ := split_at c l h
      have hc : (x ++ c :: r).count c = r.count c + 1 := by
        rw [List.count_append, List.count_cons_self, List.count_eq_zero.2 hx]; omega
      rw [hc, splitC_app hx]
      unfold splitK
      rw [index_app hx, if_neg (by simp)]
      simp only [Nat.add_zero, Int.toNat_natCast, List.length_singleton]
      rw [List.take_left' rfl, show List.drop (x.length + 1) (x ++ c :: r) = r by simp]
      simp only [List.length_append, List.length_cons] at hl
      rw [ih r (by omega)]
    · rw [List.count_eq_zero.2 h, splitC_none h]; rfl
theorem split_ok {l : List UInt8} (h : l.length ≤ 1000000) : m_split (bs l) (ByteArray.mk #[32]) = some ((splitC 32 l).map bs) := by
  have hc : countB (bs l) (ByteArray.mk #[32]) = l.count 32 := by
    rw [← count_one]
    show Lib.count (bs l).data.toList _ = _
    rw [bs_data]
  have hle : l.count 32 ≤ l.length := List.count_le_length
  unfold m_split
  rw [if_pos ⟨by rw [bs_size]; omega, by decide, by rw [hc]; omega⟩, hc]
  congr 1
  have h1 := splitB_data (ByteArray.mk #[32]) 0 (l.count 32) (bs l)
  rw [bs_data, show (ByteArray.mk #[32]).data.toList = [32] from rfl, splitK_eq 32 l.length l (Nat.le_refl _)] at h1
  rw [← h1, List.map_map]
  have : (bs ∘ fun x : ByteArray => x.data.toList) = id := by funext x; exact bs_of x
  rw [this, List.map_id]
theorem cut_ok {l : List UInt8} (h : l.length ≤ 1000000) : ∃ b, m_cut (bs l) (ByteArray.mk #[10]) = some (bs (preC 10 l), bs (rstC 10 l), b) := by
  unfold m_cut
  rw [if_pos (by rw [bs_size]; omega), bs_data]
  have h1 := cut_eq 10 l
  exact ⟨_, by rw [show (ByteArray.mk #[10]).data.toList = [10] from rfl, h1.1, h1.2]; rfl⟩
theorem rst_len {c : UInt8} {l : List UInt8} (h : l ≠ []) : (rstC c l).length < l.length := by
  by_cases hm : c ∈ l
  · obtain ⟨x, r, rfl, hx⟩ := split_at c l hm
    rw [(preC_app hx).2]; simp; omega
  · rw [(preC_none hm).2]
    cases l with
    | nil => exact absurd rfl h
    | cons b l => simp
theorem pre_len (c : UInt8) (l : List UInt8) : (preC c l).length ≤ l.length := by
  unfold preC
  exact (List.takeWhile_sublist _).length_le
def pfold {σ ε : Type} (step : List UInt8 → σ → Step σ ε) : Nat → List UInt8 → σ → Step σ ε
  | 0, _, s => .next s
  | n + 1, l, s => if l = [] then .next s else match step (preC 10 l) s with
    | .next s' => pfold step n (rstC 10 l) s'
    | .done r => .done r
theorem bs_nil {l : List UInt8} : bs l = ByteArray.mk #[] ↔ l = [] := by
  constructor
  · intro h; exact bs_inj (h.trans rfl)
  · rintro rfl; rfl
def atoiV (w : List UInt8) : Int := match Lib.atoiAll w with | .ok v => v | .range => Lib.atoiSat w | _ => 0
theorem atoi_ok {w : List UInt8} (h : w.length ≤ 1000000) : m_atoi (bs w) = some (atoiV w) := by
  unfold m_atoi atoiV
  rw [if_pos (by rw [bs_size]; omega), bs_data]
  rfl
theorem valD_ge : ∀ (l : List UInt8) (acc : Nat), acc ≤ valD acc l
  | [], acc => Nat.le_refl _
  | b :: l, acc => by
    have := valD_ge l (10 * acc + (b.toNat - 48))
    show acc ≤ valD (10 * acc + (b.toNat - 48)) l
    omega
theorem parse_digits : ∀ (l : List UInt8) (acc : Nat), (∀ b ∈ l, 48 ≤ b.toNat ∧ b.toNat ≤ 57) → valD acc l ≤ 1000000000000000000 → parseUint10 acc l = .ok (valD acc l)
  | [], acc, _, _ => rfl
  | b :: l, acc, hd, hv => by
    have hb := hd b (List.mem_cons_self ..)
    have hv' : valD (10 * acc + (b.toNat - 48)) l ≤ 1000000000000000000 := hv
    have hge := valD_ge l (10 * acc + (b.toNat - 48))
    unfold parseUint10
    rw [if_pos hb, if_neg (by omega), if_neg (by omega), show acc * 10 + (b.toNat - 48) = 10 * acc + (b.toNat - 48) by omega, parse_digits l _ (fun c hc => hd c (List.mem_cons_of_mem _ hc)) hv']
    rfl
theorem dd_cons (u : Nat) : ∃ b r, decDigits u = b :: r ∧ 48 ≤ b.toNat ∧ b.toNat ≤ 57 := by
  cases h : decDigits u with
  | nil => exact absurd h (dd_ne u)
  | cons b r => exact ⟨b, r, rfl, dd_digit u b (by rw [h]; exact List.mem_cons_self ..)⟩
theorem atoi_itoa {n : Int} (h : -1000000000000000000 ≤ n ∧ n ≤ 1000000000000000000) : atoiV (itoa n) = n := by
  unfold atoiV itoa
  by_cases h0 : n < 0
  · rw [if_pos h0]
    have hp : parseMag (decDigits n.natAbs) = .ok n.natAbs := by
      unfold parseMag
      rw [if_neg (dd_ne _), parse_digits _ 0 (dd_digit _) (by rw [dd_val]; omega), dd_val]
    have h1 : atoiAll (45 :: decDigits n.natAbs) = .ok n := by
      unfold atoiAll
      have e : (45 : UInt8).toNat = 45 := rfl
      simp only [e, or_true, if_true, hp, not_true_eq_false, false_and, if_false, true_and]
      rw [if_neg (by omega)]
      congr 1
      omega
    rw [h1]
  · rw [if_neg h0]
    obtain ⟨b, r, hb, h1, h2⟩ := dd_cons n.toNat
    have hp : parseMag (decDigits n.toNat) = .ok n.toNat := by
      unfold parseMag
      rw [if_neg (dd_ne _), parse_digits _ 0 (dd_digit _) (by rw [dd_val]; omega), dd_val]
    have h3 : atoiAll (decDigits n.toNat) = .ok n := by
      rw [hb] at hp ⊢
      unfold atoiAll
      have e1 : ¬ b.toNat = 43 := by omega
      have e2 : ¬ b.toNat = 45 := by omega
      simp only [e1, e2, or_self, if_false, hp, not_false_eq_true, true_and, false_and]
      rw [if_neg (by omega)]
      congr 1
      omega
    rw [h3]
abbrev PS := List (List Int) × Bool × Int
def pstep (line : List UInt8) (s : PS) : Step PS (Formula × Int) :=
  if s.2.1 = true then (if (splitC 32 line).length ≠ 4 then .done (⟨0, []⟩, 3) else .next (s.1, false, atoiV ((splitC 32 line).getD 2 [])))
  else .next (s.1 ++ [(splitC 32 line).dropLast.map atoiV], s.2.1, s.2.2)
theorem itoa_mem {n : Int} : ∀ b ∈ itoa n, b ≠ 32 ∧ b ≠ 10 := by
  intro b hb
  have hd : ∀ u, b ∈ decDigits u → b ≠ 32 ∧ b ≠ 10 := fun u hu => by
    have := dd_digit u b hu
    refine ⟨fun e => ?_, fun e => ?_⟩
    · rw [e] at this; exact absurd this.1 (by decide)
    · rw [e] at this; exact absurd this.1 (by decide)
  unfold itoa at hb
  split at hb
  · rcases List.mem_cons.1 hb with rfl | hb
    · exact ⟨by decide, by decide⟩
    · exact hd _ hb
  · exact hd _ hb
theorem split_lits : ∀ (c : List Int) (r : List UInt8), splitC 32 (c.flatMap litL ++ r) = c.map itoa ++ splitC 32 r
  | [], r => rfl
  | l :: c, r => by
    rw [List.flatMap_cons, List.append_assoc]
    rw [show litL l ++ (c.flatMap litL ++ r) = itoa l ++ 32 :: (c.flatMap litL ++ r) by unfold litL; simp, splitC_app (fun hm => (itoa_mem _ hm).1 rfl), split_lits c r]
    rfl
theorem lits_no {c : List Int} : (10 : UInt8) ∉ c.flatMap litL := by
  intro h
  obtain ⟨l, _, hl⟩ := List.mem_flatMap.1 h
  unfold litL at hl
  rcases List.mem_append.1 hl with hl | hl
  · exact (itoa_mem _ hl).2 rfl
  · simp at hl
theorem pfold_next {σ ε : Type} {step : List UInt8 → σ → Step σ ε} {x r : List UInt8} {s s' : σ} {n : Nat} (hx : (10 : UInt8) ∉ x) (hn : (x ++ 10 :: r).length ≤ n) (hs : step x s = .next s') :
    ∃ m, r.length ≤ m ∧ pfold step n (x ++ 10 :: r) s = pfold step m r s' := by
  cases n with
  | zero => simp at hn
  | succ n =>
    refine ⟨n, by simp only [List.length_append, List.length_cons] at hn; omega, ?_⟩
    rw [pfold, if_neg (by simp), (preC_app hx).1, (preC_app hx).2, hs]
theorem pfold_nil {σ ε : Type} {step : List UInt8 → σ → Step σ ε} {s : σ} : ∀ {n : Nat}, pfold step n [] s = .next s
  | 0 => rfl
  | n + 1 => by rw [pfold, if_pos rfl]
def Wide (c : List Int) : Prop := ∀ l ∈ c, -1000000000000000000 ≤ l ∧ l ≤ 1000000000000000000
theorem map_back : ∀ {c : List Int}, Wide c → (c.map itoa).map atoiV = c
  | [], _ => rfl
  | l :: c, h => by
    rw [List.map_cons, List.map_cons, atoi_itoa (h l (List.mem_cons_self ..)), map_back fun m hm => h m (List.mem_cons_of_mem _ hm)]
theorem pfold_lines : ∀ (cs acc : List (List Int)) (v : Int) (n : Nat), (∀ c ∈ cs, Wide c) → (cs.flatMap lineL).length ≤ n → pfold pstep n (cs.flatMap lineL) (acc, false, v) = .next (acc ++ cs, false, v)
  | [], acc, v, n, _, _ => by rw [List.flatMap_nil, pfold_nil, List.append_nil]
  | c :: cs, acc, v, n, h, hn => by
    have e : (c :: cs).flatMap lineL = (c.flatMap litL ++ [48]) ++ 10 :: cs.flatMap lineL := by
      rw [List.flatMap_cons]; unfold lineL; simp
    have h10 : (10 : UInt8) ∉ c.flatMap litL ++ [48] := by
      intro hm
      rcases List.mem_append.1 hm with hm | hm
      · exact lits_no hm
      · simp at hm
    have hs : pstep (c.flatMap litL ++ [48]) (acc, false, v) = .next (acc ++ [c], false, v) := by
      unfold pstep
      rw [if_neg (by simp), split_lits, splitC_none (by decide)]
      simp only [List.dropLast_concat]
      rw [map_back (h c (List.mem_cons_self ..))]
    rw [e] at hn ⊢
    obtain ⟨m, hm, he⟩ := pfold_next h10 hn hs
    rw [he, pfold_lines cs (acc ++ [c]) v m (fun d hd => h d (List.mem_cons_of_mem _ hd)) hm]
    simp
theorem valid_wide {f : Formula} (hv : validB f = true) : ∀ c ∈ f.clauses, Wide c := fun c hc l hl => by
  have := valid_lit hv hc hl
  have := valid_bnd hv
  omega
theorem pfold_fmt {f : Formula} (hv : validB f = true) {n : Nat} (hn : (fmtL f).length ≤ n) : pfold pstep n (fmtL f) ([], true, 0) = .next (f.clauses, false, f.vars) := by
  have hb := valid_bnd hv
  have e : fmtL f = ([112, 32, 99, 110, 102, 32] ++ itoa f.vars ++ [32] ++ itoa (f.clauses.length : Int)) ++ 10 :: f.clauses.flatMap lineL := by
    unfold fmtL headL; simp
  have h10 : (10 : UInt8) ∉ ([112, 32, 99, 110, 102, 32] ++ itoa f.vars ++ [32] ++ itoa (f.clauses.length : Int)) := by
    intro hm
    simp only [List.mem_append] at hm
    rcases hm with ((hm | hm) | hm) | hm
    · revert hm; decide
    · exact (itoa_mem _ hm).2 rfl
    · revert hm; decide
    · exact (itoa_mem _ hm).2 rfl
  have hsp : splitC 32 ([112, 32, 99, 110, 102, 32] ++ itoa f.vars ++ [32] ++ itoa (f.clauses.length : Int)) = [[112], [99, 110, 102], itoa f.vars, itoa (f.clauses.length : Int)] := by
    have e1 : ([112, 32, 99, 110, 102, 32] ++ itoa f.vars ++ [32] ++ itoa (f.clauses.length : Int)) = [112] ++ 32 :: ([99, 110, 102] ++ 32 :: (itoa f.vars ++ 32 :: itoa (f.clauses.length : Int))) := by simp
    rw [e1, splitC_app (by decide), splitC_app (by decide), splitC_app (fun hm => (itoa_mem _ hm).1 rfl), splitC_none (fun hm => (itoa_mem _ hm).1 rfl)]
  have hs : pstep ([112, 32, 99, 110, 102, 32] ++ itoa f.vars ++ [32] ++ itoa (f.clauses.length : Int)) ([], true, 0) = .next ([], false, f.vars) := by
    unfold pstep
    rw [if_pos rfl, hsp, if_neg (by simp)]
    show Step.next (_, _, atoiV (itoa f.vars)) = _
    rw [atoi_itoa (by omega)]
  rw [e] at hn ⊢
  obtain ⟨m, hm, he⟩ := pfold_next h10 hn hs
  rw [he, pfold_lines f.clauses [] f.vars m (valid_wide hv) hm]
  rfl
def ParseSpec (l : List UInt8) (r : Formula × Int) : Prop :=
  (∃ f, validB f = true ∧ Fits f.clauses ∧ l = fmtL f ∧ r = (f, 0)) ∨ ((∀ f, validB f = true → Fits f.clauses → l ≠ fmtL f) ∧ r = (⟨0, []⟩, 3))
theorem fmtL_inj {f g : Formula} (hf : validB f = true) (hg : validB g = true) (h : fmtL f = fmtL g) : f = g := by
  have h1 := pfold_fmt hf (Nat.le_refl _)
  have h2 := pfold_fmt hg (Nat.le_refl _)
  rw [h, h2] at h1
  simp only [Step.next.injEq, Prod.mk.injEq] at h1
  obtain ⟨fv, fc⟩ := f
  obtain ⟨gv, gc⟩ := g
  simp only at h1
  rw [h1.1, h1.2.2]
theorem ParseSpec.eq {l : List UInt8} {r r' : Formula × Int} (h : ParseSpec l r) (h' : ParseSpec l r') : r = r' := by
  rcases h with ⟨f, hv, hf, rfl, rfl⟩ | ⟨h, rfl⟩
  · rcases h' with ⟨g, hv', hg, he, rfl⟩ | ⟨h', rfl⟩
    · rw [fmtL_inj hv hv' he]
    · exact absurd rfl (h' f hv hf)
  · rcases h' with ⟨g, hv', hg, rfl, rfl⟩ | ⟨h', rfl⟩
    · exact absurd rfl (h g hv' hg)
    · rfl
def PInv (s : PS) (n : Nat) : Prop := s.1.length + n ≤ 10000 ∧ ∀ c ∈ s.1, c.length ≤ 10000
theorem PInv.step {line : List UInt8} {s s' : PS} {n : Nat} (h : PInv s (n + 1)) (hl : line.length ≤ n + 1) (hs : pstep line s = .next s') : PInv s' n := by
  obtain ⟨h1, h2⟩ := h
  unfold pstep at hs
  split at hs
  · split at hs
    · cases hs
    · simp only [Step.next.injEq] at hs
      subst hs
      exact ⟨by simp only; omega, h2⟩
  · simp only [Step.next.injEq] at hs
    subst hs
    refine ⟨by simp only [List.length_append, List.length_singleton]; omega, fun c hc => ?_⟩
    rcases List.mem_append.1 hc with hc | hc
    · exact h2 c hc
    · rw [List.mem_singleton] at hc
      subst hc
      have := splitC_len 32 line
      rw [List.length_map, List.length_dropLast]; omega
end Go.Proofs.YtfajmelamonolaaGreatDoor

/- The reference's Parse: it reads what Format writes, and nothing else. -/
set_option linter.unusedVariables false
set_option linter.unusedSimpArgs false
namespace Go.Proofs.YtfajmelamonolaaGreatDoor
open Go.RowKit Go.Lib
def Sm (v : Int) : Prop := -999999999 ≤ v ∧ v ≤ 999999999
def NL (c : List Int) : Prop := ∀ l ∈ c, Sm l ∧ l ≠ 0
theorem NL.wide {c : List Int} (h : NL c) : Wide c := fun l hl => by
  have := (h l hl).1; unfold Sm at this; omega
end Go.Proofs.YtfajmelamonolaaGreatDoor

/- Proofs as texts: Format and Parse, of the program and of the reference. -/
set_option linter.unusedVariables false
set_option linter.unusedSimpArgs false
namespace Go.Proofs.YtfajmelamonolaaGreatDoor
open Go.RowKit Go.Lib
def fmtP (p : List (List Int)) : List UInt8 := if provB 65536 p = true then p.flatMap lineL else []
theorem Fits.plen {p : List (List Int)} (h : Fits p) : PLen p := ⟨by have := h.1; omega, fun c hc => by have := h.2 c hc; omega⟩
theorem prov_lit {p : List (List Int)} (h : provB 65536 p = true) {c : List Int} (hc : c ∈ p) {l : Int} (hl : l ∈ c) : -65536 ≤ l ∧ l ≤ 65536 ∧ l ≠ 0 := by
  have h1 := clF_mem (Int.le_refl 0) ((provB_iff.1 h).1 c hc) l hl
  exact ⟨h1.1, h1.2.1, fun e => by rw [e] at h1; simp [vr] at h1⟩
theorem prov_nl {p : List (List Int)} (h : provB 65536 p = true) : ∀ c ∈ p, NL c := fun c hc l hl => by
  have := prov_lit h hc hl
  exact ⟨by unfold Sm; omega, this.2.2⟩
theorem fmt_line {x : List Int} (hc : x.length ≤ 10000) (h : ∀ l ∈ x, -9223372036854775808 ≤ l ∧ l ≤ 9223372036854775807) {acc : List UInt8} (ha : acc.length ≤ 2200000000) :
    loopM (fun s : Int × ByteArray => m_proof_Format_lp2 x s.1 s.2) (0, bs acc) = some (bs (acc ++ x.flatMap litL)) := by
  have htl : ∀ k, ((x.take k).flatMap litL).length ≤ 210000 := fun k => by
    have := lits_len (c := x.take k) fun l hl => h l (List.mem_of_mem_take hl)
    have : (x.take k).length ≤ x.length := by rw [List.length_take]; omega
    omega
  have hloop : ∃ b, loopM (fun s : Int × ByteArray => m_proof_Format_lp2 x s.1 s.2) (0, bs acc) = some b ∧ b = bs (acc ++ x.flatMap litL) := by
    refine loopN (body := fun s : Int × ByteArray => m_proof_Format_lp2 x s.1 s.2) x.length (fun k t => ((k : Int), t)) (fun k t => t = bs (acc ++ (x.take k).flatMap litL)) _ (t0 := bs acc) rfl (by simp) ?_ ?_
    · rintro k t hk rfl
      obtain ⟨l, hx⟩ := get_of_lt hk
      have hb := h l (mem_get hx)
      have hl := itoa_len hb
      have := htl k
      refine Or.inl ⟨_, ?_, rfl⟩
      have e1 : catK (bs (itoa l)) (ByteArray.mk #[32]) = some (bs (litL l)) := by
        rw [show (ByteArray.mk #[32]) = bs [32] from rfl, catK_bs (by simp only [List.length_singleton]; omega)]; rfl
      have hll := litL_len hb
      have e2 : m_WStr (bs (acc ++ (x.take k).flatMap litL)) (bs (litL l)) = some (bs (acc ++ (x.take (k + 1)).flatMap litL)) := by
        rw [wstr_bs (by simp only [List.length_append]; omega), flatMap_take litL hx, List.append_assoc]
      simp only [m_proof_Format_lp2, ltB hk, if_true, idx_nat hx, bsm, itoa_ok hb, e1, e2, inK_up hk (show x.length ≤ 9223372036854775807 by omega)]
    · rintro t rfl
      refine ⟨_, ?_, rfl⟩
      simp only [m_proof_Format_lp2, ltB', if_false, Bool.false_eq_true, List.take_length]
  obtain ⟨b, hb, rfl⟩ := hloop
  exact hb
theorem fmt_prog {p : List (List Int)} (hf : Fits p) : m_proof_Format p = some (bs (fmtP p)) := by
  unfold m_proof_Format fmtP
  rw [valid_ok ⟨by decide, by decide⟩ hf.plen, bsm]
  cases hv : provB 65536 p with
  | false => rw [if_pos (by simp), if_neg (by simp)]; rfl
  | true =>
    rw [if_neg (by simp), if_pos rfl]
    have hcl : ∀ c ∈ p, c.length ≤ 10000 ∧ ∀ l ∈ c, -9223372036854775808 ≤ l ∧ l ≤ 9223372036854775807 := fun c hc => ⟨hf.2 c hc, fun l hl => by have := prov_lit hv hc hl; omega⟩
    have htl : ∀ k, ((p.take k).flatMap lineL).length ≤ 2100020000 := fun k => by
      have := lines_len (cs := p.take k) fun c hc => hcl c (List.mem_of_mem_take hc)
      have : (p.take k).length ≤ p.length := by rw [List.length_take]; omega
      have := hf.1
      omega
    have hloop : ∃ b, loopM (fun s : Int × ByteArray => m_proof_Format_lp1 p s.1 s.2) (0, ByteArray.empty) = some b ∧ b = bs (p.flatMap lineL) := by
      refine loopN (body := fun s : Int × ByteArray => m_proof_Format_lp1 p s.1 s.2) p.length (fun k t => ((k : Int), t)) (fun k t => t = bs ((p.take k).flatMap lineL)) _ (t0 := ByteArray.empty) rfl rfl ?_ ?_
      · rintro k t hk rfl
        obtain ⟨x, hx⟩ := get_of_lt hk
        have hx2 := hcl x (mem_get hx)
        have hl := lits_len hx2.2
        have := htl k
        refine Or.inl ⟨_, ?_, rfl⟩
        have e5 : m_WStr (bs ((p.take k).flatMap lineL ++ x.flatMap litL)) (ByteArray.mk #[48, 10]) = some (bs ((p.take (k + 1)).flatMap lineL)) := by
          rw [show (ByteArray.mk #[48, 10]) = bs [48, 10] from rfl, wstr_bs (by simp only [List.length_append, List.length_cons, List.length_nil]; omega), flatMap_take lineL hx]
          unfold lineL
          simp only [List.append_assoc]
        simp only [m_proof_Format_lp1, ltB hk, if_true, idx_nat hx, bsm, fmt_line hx2.1 hx2.2 (acc := (p.take k).flatMap lineL) (by omega), e5, inK_up hk (show p.length ≤ 9223372036854775807 by have := hf.1; omega)]
      · rintro t rfl
        refine ⟨_, ?_, rfl⟩
        simp only [m_proof_Format_lp1, ltB', if_false, Bool.false_eq_true, List.take_length]
    obtain ⟨b, hb2, rfl⟩ := hloop
    rw [hb2, bsm]
    rfl
def parseF : Nat → List UInt8 → List (List Int)
  | 0, _ => []
  | n + 1, l => if l = [] then [] else (splitC 32 (preC 10 l)).dropLast.map atoiV :: parseF n (rstC 10 l)
theorem words_ok {ws : List (List UInt8)} (hw : ∀ w ∈ ws, w.length ≤ 1000000) (hl : ws.length ≤ 1000000) : loopM (fun s : Int × List Int => m_proof_Parse_lp2 (ws.map bs) s.1 s.2) (0, []) = some (ws.map atoiV) := by
  have h : ∃ b, loopM (fun s : Int × List Int => m_proof_Parse_lp2 (ws.map bs) s.1 s.2) (0, []) = some b ∧ b = ws.map atoiV := by
    refine loopN (body := fun s : Int × List Int => m_proof_Parse_lp2 (ws.map bs) s.1 s.2) ws.length (fun k t => ((k : Int), t)) (fun k t => t = (ws.take k).map atoiV) _ (t0 := []) rfl rfl ?_ ?_
    · rintro k t hk rfl
      obtain ⟨w, hw1⟩ := get_of_lt hk
      have hw2 : (ws.map bs)[k]? = some (bs w) := by rw [List.getElem?_map, hw1]; rfl
      refine Or.inl ⟨_, ?_, rfl⟩
      have e1 : app ((ws.take k).map atoiV) [atoiV w] = some ((ws.take (k + 1)).map atoiV) := by
        rw [app_ok (by simp only [List.length_map, List.length_take, List.length_singleton]; omega), take_snoc_of hw1, List.map_append]; rfl
      have e2 : (decide ((k : Int) < ((ws.map bs).length : Int))) = true := by simpa using hk
      simp only [m_proof_Parse_lp2, e2, if_true, idx_nat hw2, bsm, atoi_ok (hw w (mem_get hw1)), e1, inK_up hk (show ws.length ≤ 9223372036854775807 by omega)]
    · rintro t rfl
      have e2 : ¬ (decide ((ws.length : Int) < ((ws.map bs).length : Int))) = true := by simp
      exact ⟨_, by simp only [m_proof_Parse_lp2, e2, if_false, Bool.false_eq_true, List.take_length], rfl⟩
  obtain ⟨b, hb, rfl⟩ := h
  exact hb
theorem parse_prog_loop : ∀ (n : Nat) (l : List UInt8) (acc : List (List Int)), l.length ≤ n → acc.length + n ≤ 10000 →
    loopM (fun s : ByteArray × List (List Int) => m_proof_Parse_lp1 s.1 s.2) (bs l, acc) = some (acc ++ parseF n l)
  | 0, l, acc, hn, _ => by
    have : l = [] := List.eq_nil_of_length_eq_zero (by omega)
    subst this
    rw [parseF, List.append_nil]
    exact loopM_done (by simp [m_proof_Parse_lp1, show bs [] = ByteArray.mk #[] from rfl])
  | n + 1, l, acc, hn, ha => by
    by_cases h0 : l = []
    · subst h0
      rw [parseF, if_pos rfl, List.append_nil]
      exact loopM_done (by simp [m_proof_Parse_lp1, show bs [] = ByteArray.mk #[] from rfl])
    · have hne : ¬ bs l = ByteArray.mk #[] := fun e => h0 (bs_nil.1 e)
      have hrl := rst_len (c := 10) h0
      have hpl := pre_len 10 l
      obtain ⟨b, hcut⟩ := cut_ok (l := l) (by omega)
      have hsl := splitC_len 32 (preC 10 l)
      have hsw := splitC_word 32 (preC 10 l)
      have e1 : inK .i64 (((splitC 32 (preC 10 l)).length : Int) - 1) = some (((splitC 32 (preC 10 l)).length - 1 : Nat) : Int) := inK_at (by omega) ⟨by omega, by omega⟩
      have e2 : sub ((splitC 32 (preC 10 l)).map bs) 0 (((splitC 32 (preC 10 l)).length - 1 : Nat) : Int) = some ((splitC 32 (preC 10 l)).dropLast.map bs) := by
        rw [sub_ok (by omega) (by omega) (by rw [List.length_map]; omega)]
        simp only [Int.toNat_natCast, Int.toNat_zero, List.drop_zero, List.dropLast_eq_take, List.map_take, List.length_map]
      have e3 := words_ok (ws := (splitC 32 (preC 10 l)).dropLast) (fun w hw => by have := hsw w (List.dropLast_subset _ hw); omega) (by rw [List.length_dropLast]; omega)
      rw [loopM_next (body := fun s : ByteArray × List (List Int) => m_proof_Parse_lp1 s.1 s.2) (s := (bs l, acc)) (s' := (bs (rstC 10 l), acc ++ [(splitC 32 (preC 10 l)).dropLast.map atoiV])) ?_, parse_prog_loop n _ _ (by omega) (by simp; omega), parseF, if_neg h0, List.append_assoc, List.singleton_append]
      simp only [m_proof_Parse_lp1, hne, decide_false, Bool.not_false, if_true, hcut, bsm, split_ok (show (preC 10 l).length ≤ 1000000 by omega), List.length_map, e1, e2, e3, app_ok (show acc.length + [(splitC 32 (preC 10 l)).dropLast.map atoiV].length ≤ 4294967296 by simp; omega)]
theorem parseF_fits : ∀ (n : Nat) (l : List UInt8), l.length ≤ n → (parseF n l).length ≤ n ∧ ∀ c ∈ parseF n l, c.length ≤ n
  | 0, l, _ => by simp [parseF]
  | n + 1, l, hn => by
    unfold parseF
    split
    · simp
    · rename_i h0
      have hrl := rst_len (c := 10) h0
      have hpl := pre_len 10 l
      have hsl := splitC_len 32 (preC 10 l)
      have ih := parseF_fits n (rstC 10 l) (by omega)
      refine ⟨by simp; omega, fun c hc => ?_⟩
      rcases List.mem_cons.1 hc with rfl | hc
      · rw [List.length_map, List.length_dropLast]; omega
      · have := ih.2 c hc; omega
theorem parseF_lines : ∀ (cs : List (List Int)) (n : Nat), (∀ c ∈ cs, Wide c) → (cs.flatMap lineL).length ≤ n → parseF n (cs.flatMap lineL) = cs
  | [], n, _, _ => by cases n <;> simp [parseF]
  | c :: cs, n, h, hn => by
    have e : (c :: cs).flatMap lineL = (c.flatMap litL ++ [48]) ++ 10 :: cs.flatMap lineL := by
      rw [List.flatMap_cons]; unfold lineL; simp
    have h10 : (10 : UInt8) ∉ c.flatMap litL ++ [48] := by
      intro hm
      rcases List.mem_append.1 hm with hm | hm
      · exact lits_no hm
      · simp at hm
    rw [e] at hn ⊢
    cases n with
    | zero => simp at hn
    | succ n =>
      unfold parseF
      rw [if_neg (by simp), (preC_app h10).1, (preC_app h10).2, split_lits, splitC_none (by decide), parseF_lines cs n (fun d hd => h d (List.mem_cons_of_mem _ hd)) (by simp only [List.length_append, List.length_cons] at hn; omega)]
      simp only [List.dropLast_concat]
      rw [map_back (h c (List.mem_cons_self ..))]
def TSpec (l : List UInt8) (r : List (List Int) × Int) : Prop :=
  (∃ p, provB 65536 p = true ∧ l = p.flatMap lineL ∧ r = (p, 0)) ∨ ((∀ p, provB 65536 p = true → l ≠ p.flatMap lineL) ∧ r = ([], 3))
theorem lines_inj {p q : List (List Int)} (hp : ∀ c ∈ p, Wide c) (hq : ∀ c ∈ q, Wide c) (e : p.flatMap lineL = q.flatMap lineL) : p = q := by
  have h1 := parseF_lines p _ hp (Nat.le_refl _)
  have h2 := parseF_lines q (p.flatMap lineL).length hq (by rw [e]; exact Nat.le_refl _)
  rw [← e] at h2
  exact h1.symm.trans h2
theorem TSpec.eq {l : List UInt8} {r r' : List (List Int) × Int} (h : TSpec l r) (h' : TSpec l r') : r = r' := by
  rcases h with ⟨p, h1, h2, rfl⟩ | ⟨h1, rfl⟩ <;> rcases h' with ⟨q, k1, k2, rfl⟩ | ⟨k1, rfl⟩
  · rw [lines_inj (fun c hc => (prov_nl h1 c hc).wide) (fun c hc => (prov_nl k1 c hc).wide) (h2.symm.trans k2)]
  · exact absurd h2 (k1 p h1)
  · exact absurd k2 (h1 q k1)
  · rfl
theorem parse_prog {l : List UInt8} (hl : l.length ≤ 10000) : ∃ r, m_proof_Parse (bs l) = some r ∧ TSpec l r := by
  unfold m_proof_Parse
  rw [parse_prog_loop l.length l [] (Nat.le_refl _) (by simp; omega), bsm, List.nil_append]
  have hfit := parseF_fits l.length l (Nat.le_refl _)
  rw [fmt_prog (p := parseF l.length l) ⟨by omega, fun c hc => by have := hfit.2 c hc; omega⟩, bsm]
  by_cases he : bs (fmtP (parseF l.length l)) = bs l
  · rw [if_neg (by simp [he])]
    refine ⟨_, rfl, Or.inl ⟨parseF l.length l, ?_, ?_, rfl⟩⟩
    · have h1 := bs_inj he
      unfold fmtP at h1
      split at h1
      · assumption
      · rw [← h1]; rfl
    · have h1 := bs_inj he
      unfold fmtP at h1
      split at h1
      · exact h1.symm
      · rw [← h1]; rfl
  · rw [if_pos (by simp [he])]
    refine ⟨_, rfl, Or.inr ⟨fun p hp e => he ?_, rfl⟩⟩
    rw [e, parseF_lines p _ (fun c hc => (prov_nl hp c hc).wide) (Nat.le_refl _)]
    unfold fmtP
    rw [if_pos hp]
end Go.Proofs.YtfajmelamonolaaGreatDoor

/- The laws of proofs: the law's own examples, and that program and reference agree; soundness. -/
set_option linter.unusedVariables false
set_option linter.unusedSimpArgs false
namespace Go.Proofs.YtfajmelamonolaaGreatDoor
open Go.RowKit Go.Lib
theorem FWf.flen {f : Formula} (h : FWf f) : FLen f.clauses := ⟨h.2.1, fun c hc => (h.2.2 c hc).1⟩
theorem small_ok {f : Formula} {v n : Int} (h : smallB f v n = true) : f.vars ≤ v ∧ (f.clauses.length : Int) ≤ n ∧ ∀ c ∈ f.clauses, c.length ≤ 30 := by
  unfold smallB at h
  simp only [Bool.and_eq_true, decide_eq_true_eq, List.all_eq_true] at h
  exact ⟨h.1.2, h.2, h.1.1⟩
theorem psmall_eq (p : List (List Int)) (k : Int) (hl : p.length ≤ 9223372036854775807) : m_assessorlaw27_small p k = some (smallB ⟨0, p⟩ 0 k) := by
  unfold m_assessorlaw27_small
  rw [small_eq _ _ _ hl, bsm]
theorem psmall_ok {p : List (List Int)} {k : Int} (h : smallB ⟨0, p⟩ 0 k = true) : (p.length : Int) ≤ k ∧ ∀ c ∈ p, c.length ≤ 30 := (small_ok h).2
def goodB (val c : List Int) : Bool := c.any (fun y => decide (gv val y = some y)) || c.any fun y => c.any fun z => decide (y ≠ z) && decide (gv val y = some 0) && decide (gv val z = some 0)
theorem good_of {val c : List Int} (h : goodB val c = true) : Good val c := by
  unfold goodB at h
  rw [Bool.or_eq_true, List.any_eq_true, List.any_eq_true] at h
  rcases h with ⟨y, hy, h⟩ | ⟨y, hy, h⟩
  · exact Or.inl ⟨y, hy, by simpa using h⟩
  · rw [List.any_eq_true] at h
    obtain ⟨z, hz, h⟩ := h
    simp only [Bool.and_eq_true, decide_eq_true_eq] at h
    exact Or.inr ⟨y, hy, z, hz, h.1.1, h.1.2, h.2⟩
theorem vo2 {F : List (List Int)} {S : List Int} {a b : Int} (ha : a = 0 ∨ ((a = 1 ∨ a = -1) ∧ UP F S a)) (hb : b = 0 ∨ ((b = 2 ∨ b = -2) ∧ UP F S b)) : ValOk 2 F S [0, a, b] := by
  refine ⟨rfl, fun v x h => ?_, fun v x h h0 => ?_⟩
  · match v, h with
    | 0, h => simp at h; exact Or.inl h.symm
    | 1, h =>
      simp at h; subst h
      rcases ha with rfl | ⟨rfl | rfl, _⟩
      · exact Or.inl rfl
      · exact Or.inr ⟨by decide, rfl⟩
      · exact Or.inr ⟨by decide, rfl⟩
    | 2, h =>
      simp at h; subst h
      rcases hb with rfl | ⟨rfl | rfl, _⟩
      · exact Or.inl rfl
      · exact Or.inr ⟨by decide, rfl⟩
      · exact Or.inr ⟨by decide, rfl⟩
    | n + 3, h => simp at h
  · match v, h with
    | 0, h => simp at h; exact absurd h.symm h0
    | 1, h => simp at h; subst h; exact (ha.resolve_left h0).2
    | 2, h => simp at h; subst h; exact (hb.resolve_left h0).2
    | n + 3, h => simp at h
theorem nofail {F : List (List Int)} {S val : List Int} (hL : Lits 2 F S) (hv : ValOk 2 F S val) (hs : ∀ l ∈ S, gv val l = some l) (hg : F.all (goodB val) = true) : ¬ Fails F S :=
  closed_ok hL hv hs fun c hc => good_of (List.all_eq_true.1 hg c hc)
def exF : List (List Int) := [[1, 2], [1, -2], [-1, 2], [-1, -2]]
def exP : List (List Int) := [[1], []]
theorem ex_valid : validB ⟨2, exF⟩ = true := by decide +kernel
theorem ex_prov : provB 2 exP = true := by decide +kernel
theorem ex_flen : FLen exF := ⟨by decide, by decide⟩
theorem two {F : List (List Int)} {S : List Int} {x y : Int} {c : List Int} (hc : c ∈ F) (e : c = [x, y]) (h : UP F S (-x)) : UP F S y :=
  .unit hc (by rw [e]; simp) fun z hz hne => by
    rw [e] at hz
    simp only [List.mem_cons, List.not_mem_nil, or_false] at hz
    rcases hz with rfl | rfl
    · exact h
    · exact absurd rfl hne
theorem one_up {F : List (List Int)} {S : List Int} {x : Int} (hc : [x] ∈ F) : UP F S x := .unit hc (by simp) fun z hz hne => absurd (List.mem_singleton.1 hz) hne
theorem ex_f1 : Fails exF (negs [1]) := by
  have h1 : UP exF (negs [1]) (-1) := .start (by decide)
  have h2 : UP exF (negs [1]) 2 := two (c := [1, 2]) (by decide) rfl h1
  refine Or.inr ⟨[1, -2], by decide, fun y hy => ?_⟩
  simp only [List.mem_cons, List.not_mem_nil, or_false] at hy
  rcases hy with rfl | rfl
  · exact h1
  · exact h2
theorem ex_f2 : Fails (exF ++ [[1]]) (negs []) := by
  have h1 : UP (exF ++ [[1]]) (negs []) 1 := one_up (by decide)
  have h2 : UP (exF ++ [[1]]) (negs []) 2 := two (c := [-1, 2]) (x := -1) (by decide) rfl h1
  refine Or.inr ⟨[-1, -2], by decide, fun y hy => ?_⟩
  simp only [List.mem_cons, List.not_mem_nil, or_false] at hy
  rcases hy with rfl | rfl
  · exact h1
  · exact h2
theorem ex_acc : accB exF exP = true := accB_iff.2 ⟨rfl, ex_f1, ex_f2, trivial⟩
theorem ex_chk : chkB ⟨2, exF⟩ exP = true := by rw [chk_acc ex_valid ex_prov]; exact ex_acc
theorem acc_no {F p : List (List Int)} (h : ¬ accP F p) : accB F p = false := by
  cases hb : accB F p with
  | false => rfl
  | true => exact absurd (accB_iff.1 hb).2 h
theorem ex_n0 : accB exF [[]] = false := acc_no fun h =>
  nofail (F := exF) (S := negs []) (val := [0, 0, 0]) ⟨by decide, by decide, by decide, by decide⟩ (vo2 (Or.inl rfl) (Or.inl rfl)) (by decide) (by decide) h.1
theorem ex_c3 : accB (exF.eraseIdx 3) exP = false := acc_no fun h => by
  have h1 : UP (exF.eraseIdx 3 ++ [[1]]) (negs []) 1 := one_up (by decide)
  have h2 : UP (exF.eraseIdx 3 ++ [[1]]) (negs []) 2 := two (c := [-1, 2]) (x := -1) (by decide) rfl h1
  exact nofail (F := exF.eraseIdx 3 ++ [[1]]) (S := negs []) (val := [0, 1, 2]) ⟨by decide, by decide, by decide, by decide⟩ (vo2 (Or.inr ⟨Or.inl rfl, h1⟩) (Or.inr ⟨Or.inl rfl, h2⟩)) (by decide) (by decide) h.2.1
theorem ex_c2 : accB (exF.eraseIdx 2) exP = false := acc_no fun h => by
  have h1 : UP (exF.eraseIdx 2 ++ [[1]]) (negs []) 1 := one_up (by decide)
  have h2 : UP (exF.eraseIdx 2 ++ [[1]]) (negs []) (-2) := two (c := [-1, -2]) (x := -1) (by decide) rfl h1
  exact nofail (F := exF.eraseIdx 2 ++ [[1]]) (S := negs []) (val := [0, 1, -2]) ⟨by decide, by decide, by decide, by decide⟩ (vo2 (Or.inr ⟨Or.inl rfl, h1⟩) (Or.inr ⟨Or.inr rfl, h2⟩)) (by decide) (by decide) h.2.1
theorem ex_c1 : accB (exF.eraseIdx 1) exP = false := acc_no fun h => by
  have h1 : UP (exF.eraseIdx 1) (negs [1]) (-1) := .start (by decide)
  have h2 : UP (exF.eraseIdx 1) (negs [1]) 2 := two (c := [1, 2]) (by decide) rfl h1
  exact nofail (F := exF.eraseIdx 1) (S := negs [1]) (val := [0, -1, 2]) ⟨by decide, by decide, by decide, by decide⟩ (vo2 (Or.inr ⟨Or.inr rfl, h1⟩) (Or.inr ⟨Or.inl rfl, h2⟩)) (by decide) (by decide) h.1
theorem ex_c0 : accB (exF.eraseIdx 0) exP = false := acc_no fun h => by
  have h1 : UP (exF.eraseIdx 0) (negs [1]) (-1) := .start (by decide)
  have h2 : UP (exF.eraseIdx 0) (negs [1]) (-2) := two (c := [1, -2]) (by decide) rfl h1
  exact nofail (F := exF.eraseIdx 0) (S := negs [1]) (val := [0, -1, -2]) ⟨by decide, by decide, by decide, by decide⟩ (vo2 (Or.inr ⟨Or.inr rfl, h1⟩) (Or.inr ⟨Or.inr rfl, h2⟩)) (by decide) (by decide) h.1
theorem ex_trim : trimR ⟨2, exF⟩ exP = (exP, 0) := by
  unfold trimR
  rw [if_pos ex_chk]
  show (trimF (accB exF) 1 exP, (0 : Int)) = (exP, 0)
  unfold trimF trimF
  rw [show exP.eraseIdx 0 = [[]] from rfl, ex_n0]
  rfl
theorem ex_core : coreR ⟨2, exF⟩ exP = ([0, 1, 2, 3], 0) := by
  unfold coreR
  rw [if_pos ex_chk]
  show (coreF (fun F => accB F exP) 4 [] exF, (0 : Int)) = _
  unfold coreF
  rw [ex_c3, if_neg (by decide)]
  unfold coreF
  rw [ex_c2, if_neg (by decide)]
  unfold coreF
  rw [ex_c1, if_neg (by decide)]
  unfold coreF
  rw [ex_c0, if_neg (by decide)]
  rfl
theorem itoa_one : itoa 1 = [49] := by unfold itoa; rw [if_neg (by decide), show (1 : Int).toNat = 1 from rfl, dd_small (by decide)]; rfl
theorem ex_lines : exP.flatMap lineL = [49, 32, 48, 10, 48, 10] := by simp [exP, lineL, litL, itoa_one]
theorem ex_p65 : provB 65536 exP = true := by decide +kernel
theorem awake_true : m_assessorlaw27_awake = some true := by
  have hpl : PLen exP := ⟨by decide, by decide⟩
  have t1 : m_proof_Trim ⟨2, exF⟩ exP = some (exP, 0) := by rw [trim_prog ex_flen hpl, ex_trim]
  have t2 : m_proof_Core ⟨2, exF⟩ exP = some ([0, 1, 2, 3], 0) := by rw [core_prog ex_flen hpl, ex_core]
  have t3 : m_proof_Follows ⟨2, exF⟩ [1] = some (true, 0) := by
    obtain ⟨r, hr, h⟩ := follows_prog (f := ⟨2, exF⟩) (q := [1]) ex_flen (by decide)
    rw [if_pos ⟨ex_valid, by decide +kernel⟩] at h
    rw [hr]
    obtain ⟨a, b⟩ := r
    have h1 : b = 0 := h.1
    have h2 : a = true := h.2.2 ex_f1
    rw [h1, h2]
  have t4 : m_proof_Parse (ByteArray.mk #[49, 32, 48, 10, 48, 10]) = some (exP, 0) := by
    obtain ⟨r, hr, h⟩ := parse_prog (l := [49, 32, 48, 10, 48, 10]) (by decide)
    have : TSpec [49, 32, 48, 10, 48, 10] (exP, 0) := Or.inl ⟨exP, ex_p65, ex_lines.symm, rfl⟩
    rw [h.eq this] at hr
    exact hr
  have t5 : m_proof_Check ⟨2, exF⟩ exP = some true := by rw [check_ok ex_flen hpl, ex_chk]
  have t6 : m_proof_Check ⟨2, exF⟩ [[]] = some false := by
    rw [check_ok ex_flen ⟨by decide, by decide⟩, chk_acc ex_valid (by decide +kernel)]
    exact congrArg some ex_n0
  have t7 : sub exP 1 (exP.length : Int) = some [[]] := by rw [sub_ok (by decide) (by decide) (by decide)]; rfl
  have t8 : m_assessorref26_Clauses exP exP = some true := by rw [clauses_equal _ _ ⟨by decide, by decide⟩]; simp
  have t9 : m_slices_Equal_int_int_ [0, 1, 2, 3] [0, 1, 2, 3] = some true := by rw [lists_equal _ _ (by decide)]; simp
  have t10 : m_proof_Format exP = some (ByteArray.mk #[49, 32, 48, 10, 48, 10]) := by
    rw [fmt_prog ⟨by decide, by decide⟩]
    unfold fmtP
    rw [if_pos ex_p65, ex_lines]; rfl
  unfold m_assessorlaw27_awake
  rw [show (Formula.mk 2 ([([1, 2] : List Int), ([1, (-2)] : List Int), ([(-1), 2] : List Int), ([(-1), (-2)] : List Int)])) = ⟨2, exF⟩ from rfl, show ([([1] : List Int), ([] : List Int)] : List (List Int)) = exP from rfl]
  rw [t1, bsm, t2, bsm, t3, bsm, t4, bsm, t5, bsm, if_pos rfl, t7, bsm, t6, bsm, bsm, if_pos (by decide), t8, bsm, bsm, if_pos (by decide), t9, bsm, bsm, if_pos (by decide), bsm, if_pos rfl, t10, bsm, bsm]
  simp
end Go.Proofs.YtfajmelamonolaaGreatDoor

/- Proofs are sound: a formula for which a proof is accepted holds for no model. -/
set_option linter.unusedVariables false
set_option linter.unusedSimpArgs false
namespace Go.Proofs.YtfajmelamonolaaGreatDoor
open Go.RowKit Go.Lib
def MdL (m : List Int) : Prop := ∀ (i : Nat) x, m[i]? = some x → x = (i : Int) + 1 ∨ x = -((i : Int) + 1)
theorem MdL.at {m : List Int} (h : MdL m) {x : Int} (hx : x ∈ m) : x ≠ 0 ∧ m[(vr x - 1).toNat]? = some x := by
  obtain ⟨i, hi⟩ := List.getElem?_of_mem hx
  have h1 := h i x hi
  have h2 : vr x = (i : Int) + 1 := by unfold vr; omega
  refine ⟨by omega, ?_⟩
  rw [h2, show ((i : Int) + 1 - 1).toNat = i by omega]; exact hi
theorem MdL.opp {m : List Int} (h : MdL m) {x : Int} (hx : x ∈ m) (hn : -x ∈ m) : False := by
  have h1 := h.at hx
  have h2 := (h.at hn).2
  rw [vr_neg, h1.2] at h2
  simp only [Option.some.injEq] at h2
  omega
theorem mdF_at : ∀ {m : List Int} {i : Int}, mdF i m = true → ∀ (k : Nat) x, m[k]? = some x → x = i + k ∨ x = -(i + k)
  | [], _, _, k, x, hx => by simp at hx
  | a :: m, i, h, 0, x, hx => by
    unfold mdF at h
    simp only [Bool.and_eq_true, Bool.or_eq_true, decide_eq_true_eq] at h
    simp only [List.getElem?_cons_zero, Option.some.injEq] at hx
    omega
  | a :: m, i, h, k + 1, x, hx => by
    unfold mdF at h
    simp only [Bool.and_eq_true] at h
    rw [List.getElem?_cons_succ] at hx
    have := mdF_at h.2 k x hx
    omega
theorem MdL.of {m : List Int} (h : mdF 1 m = true) : MdL m := fun i x hx => by
  have := mdF_at h i x hx
  omega
end Go.Proofs.YtfajmelamonolaaGreatDoor

/- Normal: the normal form of a clause, by insertion (the reference) and by sorting (the program). -/
set_option linter.unusedVariables false
set_option linter.unusedSimpArgs false
namespace Go.Proofs.YtfajmelamonolaaGreatDoor
open Go.RowKit
def insF (x : Int) : List Int → Option (List Int)
  | [] => some [x]
  | y :: r => if vr y < vr x then (insF x r).map (y :: ·) else if y = -x then none else if y = x then some (y :: r) else some (x :: y :: r)
def rngB (x : Int) : Bool := decide (x ≠ 0) && decide (-1073741824 ≤ x) && decide (x ≤ 1073741824)
def nrm : List Int → List Int → Option (List Int)
  | acc, [] => some acc
  | acc, x :: l => if rngB x = true then (insF x acc).bind fun o => nrm o l else none
def normF (l : List Int) : List Int × Bool := match nrm [] l with
  | some o => (o, true)
  | none => ([], false)
def Inc (l : List Int) : Prop := l.Pairwise fun x y => vr x < vr y
theorem insF_spec {x : Int} (hx : x ≠ 0) : ∀ {acc : List Int}, Inc acc → match insF x acc with
    | some o => Inc o ∧ (∀ z, z ∈ o ↔ z = x ∨ z ∈ acc) ∧ o.length ≤ acc.length + 1
    | none => -x ∈ acc
  | [], _ => by simp [insF, Inc]
  | y :: r, h => by
    have h' := List.pairwise_cons.1 h
    unfold insF
    by_cases h1 : vr y < vr x
    · rw [if_pos h1]
      have ih := insF_spec hx h'.2
      cases hi : insF x r with
      | none => rw [hi] at ih; simp only [Option.map_none]; exact List.mem_cons_of_mem _ ih
      | some o =>
        rw [hi] at ih
        simp only [Option.map_some]
        refine ⟨List.pairwise_cons.2 ⟨fun z hz => ?_, ih.1⟩, fun z => ?_, by simp only [List.length_cons]; omega⟩
        · rcases (ih.2.1 z).1 hz with rfl | hz
          · exact h1
          · exact h'.1 z hz
        · simp only [List.mem_cons, ih.2.1 z]
          constructor
          · rintro (rfl | rfl | h) <;> simp_all
          · rintro (rfl | rfl | h) <;> simp_all
    · rw [if_neg h1]
      by_cases h2 : y = -x
      · rw [if_pos h2]; simp [h2]
      · rw [if_neg h2]
        by_cases h3 : y = x
        · rw [if_pos h3]; exact ⟨h, by intro z; simp [h3], by simp⟩
        · rw [if_neg h3]
          have h4 : vr x < vr y := by
            by_cases h : vr x < vr y
            · exact h
            · have : vr y = vr x := by omega
              rcases vr_eq.1 this with e | e
              · exact absurd e h3
              · exact absurd e h2
          refine ⟨List.pairwise_cons.2 ⟨fun z hz => ?_, h⟩, by intro z; simp, by simp⟩
          rcases List.mem_cons.1 hz with rfl | hz
          · exact h4
          · exact Int.lt_trans h4 (h'.1 z hz)
theorem Inc.noOpp {o : List Int} (h : Inc o) {x : Int} (hx : x ∈ o) (hn : -x ∈ o) (h0 : x ≠ 0) : False := by
  induction o with
  | nil => simp at hx
  | cons y r ih =>
    have h' := List.pairwise_cons.1 h
    rcases List.mem_cons.1 hx with rfl | hx <;> rcases List.mem_cons.1 hn with hn | hn
    · omega
    · have := h'.1 _ hn; rw [vr_neg] at this; omega
    · have := h'.1 _ hx; rw [← hn, vr_neg] at this; omega
    · exact ih h'.2 hx hn
theorem nrm_spec : ∀ (l acc : List Int), Inc acc → (∀ x ∈ acc, x ≠ 0) → match nrm acc l with
    | some o => Inc o ∧ (∀ z, z ∈ o ↔ z ∈ acc ∨ z ∈ l) ∧ (∀ x ∈ l, rngB x = true) ∧ o.length ≤ acc.length + l.length
    | none => (∃ x ∈ l, rngB x = false) ∨ ∃ x, x ≠ 0 ∧ (x ∈ acc ∨ x ∈ l) ∧ (-x ∈ acc ∨ -x ∈ l)
  | [], acc, h, _ => ⟨h, by simp, by simp, by simp⟩
  | x :: l, acc, h, h0 => by
    unfold nrm
    by_cases hr : rngB x = true
    · rw [if_pos hr]
      have hx : x ≠ 0 := by unfold rngB at hr; simp only [Bool.and_eq_true, decide_eq_true_eq] at hr; exact hr.1.1
      have hi := insF_spec hx h
      cases hf : insF x acc with
      | none =>
        rw [hf] at hi
        simp only [Option.bind_none]
        exact Or.inr ⟨x, hx, Or.inr (List.mem_cons_self ..), Or.inl hi⟩
      | some o =>
        rw [hf] at hi
        simp only [Option.bind_some]
        have ih := nrm_spec l o hi.1 (fun z hz => by
          rcases (hi.2.1 z).1 hz with rfl | hz
          · exact hx
          · exact h0 z hz)
        cases hn : nrm o l with
        | none =>
          rw [hn] at ih
          simp only at ih ⊢
          rcases ih with ⟨z, hz, h1⟩ | ⟨z, hz, h1, h2⟩
          · exact Or.inl ⟨z, List.mem_cons_of_mem _ hz, h1⟩
          · refine Or.inr ⟨z, hz, ?_, ?_⟩
            · rcases h1 with h1 | h1
              · rcases (hi.2.1 z).1 h1 with rfl | h1
                · exact Or.inr (List.mem_cons_self ..)
                · exact Or.inl h1
              · exact Or.inr (List.mem_cons_of_mem _ h1)
            · rcases h2 with h1 | h1
              · rcases (hi.2.1 _).1 h1 with e | h1
                · exact Or.inr (e ▸ List.mem_cons_self ..)
                · exact Or.inl h1
              · exact Or.inr (List.mem_cons_of_mem _ h1)
        | some q =>
          rw [hn] at ih
          simp only at ih ⊢
          refine ⟨ih.1, fun z => ?_, fun z hz => ?_, by simp only [List.length_cons]; omega⟩
          · rw [ih.2.1 z, hi.2.1 z]; simp only [List.mem_cons]
            constructor
            · rintro ((rfl | h) | h) <;> simp_all
            · rintro (h | rfl | h) <;> simp_all
          · rcases List.mem_cons.1 hz with rfl | hz
            · exact hr
            · exact ih.2.2.1 z hz
    · rw [if_neg hr]
      exact Or.inl ⟨x, List.mem_cons_self .., by simpa using hr⟩
theorem nrm_eq {l o : List Int} (h1 : Inc o) (h2 : ∀ z, z ∈ o ↔ z ∈ l) (h3 : ∀ x ∈ l, rngB x = true) : nrm [] l = some o := by
  have h := nrm_spec l [] List.Pairwise.nil (by simp)
  cases hn : nrm [] l with
  | none =>
    rw [hn] at h
    simp only at h
    rcases h with ⟨x, hx, e⟩ | ⟨x, h0, hx, hy⟩
    · rw [h3 x hx] at e; cases e
    · simp only [List.not_mem_nil, false_or] at hx hy
      exact (h1.noOpp ((h2 _).2 hx) ((h2 _).2 hy) h0).elim
  | some q =>
    rw [hn] at h
    simp only at h
    congr 1
    exact rising_ext (r := fun x y => vr x < vr y) (fun a => by omega) (fun a b c h1 h2 => by omega) h.1 h1 (fun x => by rw [h.2.1, h2]; simp)
theorem nrm_none {l : List Int} {x : Int} (h : (x ∈ l ∧ rngB x = false) ∨ (x ≠ 0 ∧ x ∈ l ∧ -x ∈ l)) : nrm [] l = none := by
  have h' := nrm_spec l [] List.Pairwise.nil (by simp)
  cases hn : nrm [] l with
  | none => rfl
  | some q =>
    rw [hn] at h'
    simp only at h'
    rcases h with ⟨h1, h2⟩ | ⟨h0, h1, h2⟩
    · rw [h'.2.2.1 x h1] at h2; cases h2
    · exact (h'.1.noOpp ((h'.2.1 _).2 (Or.inr h1)) ((h'.2.1 _).2 (Or.inr h2)) h0).elim
theorem rngB_bnd {x : Int} (h : rngB x = true) : x ≠ 0 ∧ -1073741824 ≤ x ∧ x ≤ 1073741824 := by
  unfold rngB at h; simp only [Bool.and_eq_true, decide_eq_true_eq] at h; exact ⟨h.1.1, h.1.2, h.2⟩
theorem ltN_iff {x y : Int} : ltN x y = true ↔ vr x < vr y ∨ vr x = vr y ∧ x < y := by unfold ltN; simp
theorem ltN_irr (x : Int) : ¬ ltN x x = true := by rw [ltN_iff]; omega
theorem ltN_trans {x y z : Int} (h1 : ltN x y = true) (h2 : ltN y z = true) : ltN x z = true := by
  rw [ltN_iff] at *; omega
theorem ltN_tri {x y : Int} (h1 : ¬ ltN x y = true) (h2 : ¬ ltN y x = true) : x = y := by
  rw [ltN_iff] at *
  have : vr x = vr y := by omega
  omega
theorem sortN_pair (l : List Int) : (l.mergeSort fun x y => !ltN y x).Pairwise fun x y => ¬ ltN y x = true := by
  have key : ∀ x y, (!ltN y x) = true ↔ ¬ ltN y x = true := fun x y => by cases ltN y x <;> simp
  have := List.pairwise_mergeSort (le := fun x y => !ltN y x) (fun a b c h1 h2 => by
    rw [key] at *
    rw [ltN_iff] at *
    omega) (fun a b => by
    rw [Bool.or_eq_true, key, key]
    by_cases h : ltN b a = true
    · right; intro h2; exact ltN_irr _ (ltN_trans h h2)
    · left; exact h) l
  exact this.imp fun h => (key _ _).1 h
open Go.Lib in
theorem compact_strict {d : List Int} (hs : d.Pairwise fun x y => ¬ ltN y x = true) : ∀ m, m ≤ d.length → (compactUpTo d.toArray m).Pairwise (fun x y => ltN x y = true) ∧ (∀ x, x ∈ compactUpTo d.toArray m ↔ x ∈ d.take m)
  | 0, _ => by simp [compactUpTo]
  | m + 1, hm => by
    obtain ⟨ih1, ih2⟩ := compact_strict hs m (by omega)
    obtain ⟨b, hb⟩ := get_of_lt (show m < d.length by omega)
    have hdm : d.toArray[m]! = b := by
      have hlt := len_lt hb
      rw [getElem!_pos _ _ (by simpa using hlt)]
      have := (List.getElem?_eq_some_iff.1 hb).2
      simpa using this
    have hle : ∀ i a, i < m → d[i]? = some a → ¬ ltN b a = true := fun i a hi ha => by
      have h1 := (List.getElem?_eq_some_iff.1 ha)
      have h2 := (List.getElem?_eq_some_iff.1 hb)
      have := List.pairwise_iff_getElem.1 hs i m h1.1 h2.1 hi
      rw [h1.2, h2.2] at this
      exact this
    rw [compactUpTo_succ, take_snoc_of hb, hdm]
    by_cases hk : keeps d.toArray m = true
    · rw [if_pos hk]
      refine ⟨List.pairwise_append.2 ⟨ih1, List.pairwise_singleton _ _, fun x hx y hy => ?_⟩, fun x => by simp [ih2]⟩
      obtain rfl := List.mem_singleton.1 hy
      have hx2 := (ih2 x).1 hx
      obtain ⟨i, hi⟩ := List.getElem?_of_mem hx2
      rw [List.getElem?_take] at hi
      split at hi
      · rename_i him
        have h1 := hle i x him hi
        cases h2 : ltN x y with
        | true => rfl
        | false =>
          exfalso
          have e : x = y := ltN_tri (by rw [h2]; simp) h1
          subst e
          obtain ⟨c, hc⟩ := get_of_lt (show m - 1 < d.length by omega)
          have hcm : d.toArray[m - 1]! = c := by
            rw [getElem!_pos _ _ (by simp; omega)]
            have := (List.getElem?_eq_some_iff.1 hc).2
            simpa using this
          have h3 : c = x := by
            apply ltN_tri
            · by_cases him' : i = m - 1
              · subst him'; rw [hi] at hc; obtain rfl := Option.some.inj hc; exact ltN_irr _
              · have q1 := (List.getElem?_eq_some_iff.1 hi)
                have q2 := (List.getElem?_eq_some_iff.1 hc)
                have := List.pairwise_iff_getElem.1 hs i (m - 1) q1.1 q2.1 (by omega)
                rw [q1.2, q2.2] at this
                exact this
            · exact hle (m - 1) c (by omega) hc
          unfold keeps at hk
          simp only [decide_eq_true_eq, hdm, hcm, h3] at hk
          rcases hk with hk | hk
          · omega
          · exact hk rfl
      · cases hi
    · rw [if_neg hk, List.append_nil]
      refine ⟨ih1, fun x => ?_⟩
      rw [ih2, List.mem_append, List.mem_singleton]
      constructor
      · exact Or.inl
      · rintro (h | rfl)
        · exact h
        · unfold keeps at hk
          simp only [decide_eq_true_eq, not_or, ne_eq, Decidable.not_not, hdm] at hk
          obtain ⟨c, hc⟩ := get_of_lt (show m - 1 < d.length by omega)
          have hcm : d.toArray[m - 1]! = c := by
            rw [getElem!_pos _ _ (by simp; omega)]
            have := (List.getElem?_eq_some_iff.1 hc).2
            simpa using this
          rw [hcm] at hk
          rw [hk.2]
          refine List.mem_of_getElem? (i := m - 1) ?_
          rw [List.getElem?_take, if_pos (by omega)]; exact hc
theorem mem_litOk {l : List Int} (h : ∀ x ∈ l, -1099511627776 ≤ x ∧ x ≤ 1099511627776) : litOk l = true := by
  unfold litOk
  simp only [List.all_eq_true, decide_eq_true_eq]
  intro x hx
  have := h x hx
  omega
theorem compactLen_le (l : List Int) : (Lib.compact l).length ≤ l.length := by
  unfold Lib.compact Lib.compactUpTo
  rw [List.length_map]
  have := List.length_filter_le (Lib.keeps l.toArray) (List.range l.length)
  rw [List.length_range] at this
  exact this
theorem compact_ok {l : List Int} (hl : l.length < 17592186044417) (hr : ∀ x ∈ l, rngB x = true) : ∃ o, ((m_sortN l).bind m_compactI) = some o ∧ o.Pairwise (fun x y => ltN x y = true) ∧ (∀ x, x ∈ o ↔ x ∈ l) ∧ o.length ≤ l.length := by
  have h1 : m_sortN l = some (l.mergeSort fun x y => !ltN y x) := by
    unfold m_sortN
    rw [if_pos ⟨by omega, mem_litOk fun x hx => by have := rngB_bnd (hr x hx); omega⟩]
  obtain ⟨h2, h3⟩ := compact_strict (sortN_pair l) l.length (by simp)
  refine ⟨Lib.compact (l.mergeSort fun x y => !ltN y x), ?_, ?_, fun x => ?_, ?_⟩
  · rw [h1]
    show m_compactI _ = _
    unfold m_compactI
    rw [if_pos (by simp; omega)]
  · unfold Lib.compact
    rw [List.length_mergeSort]; exact h2
  · unfold Lib.compact
    rw [List.length_mergeSort, h3, List.take_of_length_le (by simp), List.mem_mergeSort]
  · have := compactLen_le (l.mergeSort fun x y => !ltN y x)
    rw [List.length_mergeSort] at this
    exact this
theorem Inc.of_strict {o : List Int} (hs : o.Pairwise fun x y => ltN x y = true) (hn : ∀ x ∈ o, -x ∈ o → x = 0) (h0 : ∀ x ∈ o, x ≠ 0) : Inc o := by
  unfold Inc
  induction o with
  | nil => exact List.Pairwise.nil
  | cons y r ih =>
    have h := List.pairwise_cons.1 hs
    refine List.pairwise_cons.2 ⟨fun z hz => ?_, ih h.2 (fun x hx hx' => hn x (List.mem_cons_of_mem _ hx) (List.mem_cons_of_mem _ hx')) (fun x hx => h0 x (List.mem_cons_of_mem _ hx))⟩
    have := h.1 z hz
    rw [ltN_iff] at this
    rcases this with h1 | ⟨h1, h2⟩
    · exact h1
    · rcases vr_eq.1 h1 with e | e
      · omega
      · exfalso
        exact h0 y (List.mem_cons_self ..) (hn y (List.mem_cons_self ..) (by rw [e, Int.neg_neg]; exact List.mem_cons_of_mem _ hz))
def adjF : Int → List Int → Bool
  | _, [] => false
  | t, x :: r => decide (t = -x) || adjF x r
theorem adjF_yes : ∀ {r : List Int} {y : Int}, adjF y r = true → ∃ x, x ∈ y :: r ∧ -x ∈ y :: r
  | [], _, h => by cases h
  | x :: r, y, h => by
    unfold adjF at h
    simp only [Bool.or_eq_true, decide_eq_true_eq] at h
    rcases h with rfl | h
    · exact ⟨x, by simp, by simp⟩
    · obtain ⟨z, h1, h2⟩ := adjF_yes h
      exact ⟨z, List.mem_cons_of_mem _ h1, List.mem_cons_of_mem _ h2⟩
theorem adjF_no : ∀ {r : List Int} {y : Int}, (y :: r).Pairwise (fun x y => ltN x y = true) → adjF y r = false → ∀ x ∈ y :: r, -x ∈ y :: r → x = 0
  | [], y, _, _, x, hx, hn => by
    rw [List.mem_singleton] at hx hn; omega
  | z :: r, y, hs, h, x, hx, hn => by
    unfold adjF at h
    simp only [Bool.or_eq_false_iff, decide_eq_false_iff_not] at h
    have hp := List.pairwise_cons.1 hs
    have key : ∀ w, w ∈ z :: r → w = -y → False := by
      intro w hw e
      have h1 := hp.1 z (List.mem_cons_self ..)
      have h2 : z = w ∨ ltN z w = true := by
        rcases List.mem_cons.1 hw with e | hw
        · exact Or.inl e.symm
        · exact Or.inr ((List.pairwise_cons.1 hp.2).1 w hw)
      have h4 : vr w = vr y := by rw [e, vr_neg]
      rw [ltN_iff] at h1
      rcases h2 with h2 | h2
      · exact h.1 (by omega)
      · rw [ltN_iff] at h2
        have h5 : vr z = vr y := by omega
        rcases vr_eq.1 h5 with e2 | e2
        · omega
        · exact h.1 (by omega)
    rcases List.mem_cons.1 hx with rfl | hx' <;> rcases List.mem_cons.1 hn with hn | hn'
    · omega
    · exact (key _ hn' rfl).elim
    · exact (key _ hx' (by omega)).elim
    · exact adjF_no hp.2 h.2 x hx' hn'
def stAdj (x t : Int) : Step Int (Out Unit (List Int × Bool)) := if (decide (t = -x)) = true then .done (.ret ([], false)) else .next x
theorem runL_adj : ∀ (r : List Int) (t : Int), runL stAdj (fun _ => Out.brk ()) r t = if adjF t r = true then Out.ret ([], false) else Out.brk ()
  | [], t => rfl
  | x :: r, t => by
    unfold runL stAdj adjF
    by_cases h : t = -x
    · simp [h]
    · simp only [h, decide_false, Bool.false_eq_true, if_false, Bool.false_or]
      exact runL_adj r x
theorem cnf_Normal {l : List Int} (hl : l.length < 17592186044417) : m_cnf_Normal l = some (normF l) := by
  unfold m_cnf_Normal
  refine bind_any l (fun x => !rngB x) (Out.ret ([], false)) (Out.brk ()) ?_ ?_ ?_
  · intro k a hk
    have hkl := len_lt hk
    simp only [m_cnf_Normal_lp1, ltB hkl, if_true, idx_nat hk, bsm, inK_up hkl (show l.length ≤ 9223372036854775807 by omega)]
    have e : (((decide (a = 0)) || (decide (a < (-1073741824)))) || (decide (1073741824 < a))) = !rngB a := by
      unfold rngB
      rw [Bool.eq_iff_iff]
      simp only [Bool.or_eq_true, decide_eq_true_eq, Bool.not_eq_true', Bool.and_eq_false_iff, decide_eq_false_iff_not]
      omega
    rw [e]
    cases rngB a <;> rfl
  · simp only [m_cnf_Normal_lp1, ltB', if_false, Bool.false_eq_true]
  · by_cases ha : l.any (fun x => !rngB x) = true
    · rw [if_pos ha]
      obtain ⟨x, hx, h⟩ := List.any_eq_true.1 ha
      unfold normF
      rw [nrm_none (Or.inl ⟨hx, by simpa using h⟩)]
    · rw [if_neg ha]
      have hr : ∀ x ∈ l, rngB x = true := fun x hx => by
        cases h : rngB x with
        | true => rfl
        | false => exact absurd (List.any_eq_true.2 ⟨x, hx, by simp [h]⟩) ha
      obtain ⟨o, h1, h2, h3, h4⟩ := compact_ok hl hr
      obtain ⟨q, hq, ho⟩ := Option.bind_eq_some_iff.1 h1
      have happ : m_cloneI l = some l := cloneI_ok (by omega)
      show ((m_cloneI l).bind fun x3 => _) = _
      rw [happ, bsm, hq, bsm, ho, bsm]
      have hor : ∀ x ∈ o, rngB x = true := fun x hx => hr x ((h3 x).1 hx)
      have hloop : loopM (fun s => m_cnf_Normal_lp2 o s) 1 = some (match o with | [] => Out.brk () | y :: r => if adjF y r = true then Out.ret ([], false) else Out.brk ()) := by
        cases o with
        | nil =>
          refine loopM_done ?_
          simp [m_cnf_Normal_lp2]
        | cons y r =>
          simp only
          rw [← runL_adj]
          refine loopL (body := fun s => m_cnf_Normal_lp2 (y :: r) s) r (fun k t => ((k + 1 : Nat) : Int)) stAdj (fun _ => Out.brk ()) (fun k t => (y :: r)[k]? = some t) (t0 := y) rfl rfl ?_ ?_
          · intro k a t hk ht
            have hk2 : (y :: r)[k + 1]? = some a := by rw [List.getElem?_cons_succ]; exact hk
            have hkl := len_lt hk2
            constructor
            · have e1 : inK .i64 (((k + 1 : Nat) : Int) - 1) = some (k : Int) := by rw [inK_eq ⟨by omega, by omega⟩]; congr 1; omega
              have hb := rngB_bnd (hor a (mem_get hk2))
              have e2 : inK .i64 (0 - a) = some (-a) := by rw [inK_eq ⟨by omega, by omega⟩]; congr 1; omega
              simp only [m_cnf_Normal_lp2, ltB hkl, if_true, e1, bsm, idx_nat ht, idx_nat hk2, e2, inK_up hkl (show (y :: r).length ≤ 9223372036854775807 by omega), stAdj]
              by_cases h : t = -a <;> simp [h]
            · intro t' ht'
              unfold stAdj at ht'
              split at ht'
              · cases ht'
              · obtain rfl := Step.next.inj ht'; exact hk2
          · intro t ht
            have e : (((r.length + 1 : Nat) : Int)) = ((y :: r).length : Int) := rfl
            simp only [m_cnf_Normal_lp2, e, ltB', if_false, Bool.false_eq_true]
      rw [hloop, bsm]
      cases o with
      | nil =>
        simp only
        unfold normF
        rw [nrm_eq (o := []) List.Pairwise.nil h3 hr]
      | cons y r =>
        simp only
        unfold normF
        by_cases hc : adjF y r = true
        · rw [if_pos hc]
          obtain ⟨x, hx, hx'⟩ := adjF_yes hc
          rw [nrm_none (Or.inr ⟨(rngB_bnd (hor x hx)).1, (h3 _).1 hx, (h3 _).1 hx'⟩)]
        · rw [if_neg hc]
          have hi := Inc.of_strict h2 (adjF_no h2 (by simpa using hc)) (fun x hx => (rngB_bnd (hor x hx)).1)
          rw [nrm_eq hi h3 hr]
theorem normF_len (l : List Int) : (normF l).1.length ≤ l.length := by
  have h := nrm_spec l [] List.Pairwise.nil (by simp)
  unfold normF
  cases hn : nrm [] l with
  | none => simp
  | some o => rw [hn] at h; simpa using h.2.2.2
end Go.Proofs.YtfajmelamonolaaGreatDoor

/- ProofNeeds: what Trim and Core leave is needed, step by step and clause by clause. -/
set_option linter.unusedVariables false
set_option linter.unusedSimpArgs false
namespace Go.Proofs.YtfajmelamonolaaGreatDoor
open Go.RowKit Go.Lib
theorem accP_mono : ∀ {p F G : List (List Int)}, (∀ c ∈ F, c ∈ G) → accP F p → accP G p
  | [], _, _, _, _ => trivial
  | q :: p, F, G, h, ha => ⟨ha.1.mono h (fun _ h => h), accP_mono (F := F ++ [q]) (fun c hc => by
      rcases List.mem_append.1 hc with hc | hc
      · exact List.mem_append_left _ (h c hc)
      · exact List.mem_append_right _ hc) ha.2⟩
theorem accP_app : ∀ {a F s : List (List Int)}, accP F (a ++ s) ↔ accP F a ∧ accP (F ++ a) s
  | [], F, s => by simp [accP]
  | q :: a, F, s => by
    show Fails F (negs q) ∧ accP (F ++ [q]) (a ++ s) ↔ (Fails F (negs q) ∧ accP (F ++ [q]) a) ∧ accP (F ++ q :: a) s
    rw [accP_app, and_assoc, List.append_assoc, List.singleton_append]
theorem accB_mono {p F G : List (List Int)} (h : ∀ c ∈ F, c ∈ G) (ha : accB F p = true) : accB G p = true :=
  accB_iff.2 ⟨(accB_iff.1 ha).1, accP_mono h (accB_iff.1 ha).2⟩
theorem not_acc {F p : List (List Int)} (h : accB F p = true → False) : accB F p = false := by
  cases hb : accB F p with
  | false => rfl
  | true => exact (h hb).elim
def Need (F s : List (List Int)) : Prop := ∀ j, j + 1 < s.length → ¬ accP F (s.eraseIdx j)
theorem Need.less {F G s : List (List Int)} (h : Need G s) (hs : ∀ c ∈ F, c ∈ G) : Need F s := fun j hj ha => h j hj (accP_mono hs ha)
theorem last_app {b s : List (List Int)} (hs : s.getLast? = some []) : (b ++ s).getLast? = some [] := by
  rw [List.getLast?_append, hs]; rfl
theorem trim_need {F : List (List Int)} : ∀ (i : Nat) (b s : List (List Int)), b.length = i → s.getLast? = some [] → accP F (b ++ s) → Need (F ++ b) s →
    accB F (trimF (accB F) i (b ++ s)) = true ∧ Need F (trimF (accB F) i (b ++ s)) ∧ (trimF (accB F) i (b ++ s)).Sublist (b ++ s)
  | 0, b, s, hb, hl, ha, hn => by
    obtain rfl := List.eq_nil_of_length_eq_zero hb
    unfold trimF
    exact ⟨accB_iff.2 ⟨last_app hl, ha⟩, by simpa using hn, List.Sublist.refl _⟩
  | i + 1, b, s, hb, hl, ha, hn => by
    obtain ⟨x, hx⟩ := get_of_lt (show i < b.length by omega)
    have e : b = b.take i ++ [x] := by rw [← take_snoc_of hx, ← hb, List.take_length]
    generalize hb' : b.take i = b' at e
    have hbl : b'.length = i := by rw [← hb', List.length_take]; omega
    subst e
    have e2 : (b' ++ [x] ++ s) = b' ++ x :: s := by simp
    have e3 : (b' ++ [x] ++ s).eraseIdx i = b' ++ s := by
      rw [e2, List.eraseIdx_append_of_length_le (by omega), hbl, Nat.sub_self]; rfl
    unfold trimF
    rw [e3, e2]
    have hab := accP_app.1 ha
    have hab2 := accP_app.1 hab.1
    by_cases hg : accB F (b' ++ s) = true
    · rw [if_pos hg]
      have h := trim_need i b' s hbl hl (accB_iff.1 hg).2 (hn.less fun c hc => by
        rw [← List.append_assoc]
        exact List.mem_append_left _ hc)
      exact ⟨h.1, h.2.1, h.2.2.trans (List.Sublist.append (List.Sublist.refl _) (List.sublist_cons_self ..))⟩
    · rw [if_neg hg]
      refine trim_need i b' (x :: s) hbl ?_ (by rw [← e2]; exact ha) ?_
      · have : s ≠ [] := by rintro rfl; simp at hl
        rw [List.getLast?_cons, hl]; rfl
      · intro j hj hc
        cases j with
        | zero =>
          exact hg (accB_iff.2 ⟨last_app hl, accP_app.2 ⟨hab2.1, hc⟩⟩)
        | succ j =>
          have h1 := hc.2
          rw [List.append_assoc] at h1
          exact hn j (by simpa using hj) h1
theorem trim_fix {g : List (List Int) → Bool} {p : List (List Int)} : ∀ (i : Nat), (∀ j, j < i → g (p.eraseIdx j) = false) → trimF g i p = p
  | 0, _ => rfl
  | i + 1, h => by
    unfold trimF
    rw [h i (by omega), if_neg (by decide)]
    exact trim_fix i fun j hj => h j (by omega)
theorem Need.no {F s : List (List Int)} (h : Need F s) {j : Nat} (hj : j + 1 < s.length) : accB F (s.eraseIdx j) = false := not_acc fun ha => h j hj (accB_iff.1 ha).2
def Sel (F : List (List Int)) : List Int → List (List Int) → Prop
  | [], [] => True
  | x :: o, c :: K => (0 ≤ x ∧ F[x.toNat]? = some c) ∧ Sel F o K
  | _, _ => False
theorem Sel.at {F : List (List Int)} : ∀ {o : List Int} {K : List (List Int)}, Sel F o K → o.length = K.length ∧ ∀ (k : Nat) x, o[k]? = some x → ∃ c, K[k]? = some c ∧ 0 ≤ x ∧ F[x.toNat]? = some c
  | [], [], _ => ⟨rfl, fun k x h => by simp at h⟩
  | [], _ :: _, h => h.elim
  | _ :: _, [], h => h.elim
  | x :: o, c :: K, h => by
    have ih := Sel.at h.2
    refine ⟨by simp [ih.1], fun k y hy => ?_⟩
    cases k with
    | zero =>
      simp only [List.getElem?_cons_zero, Option.some.injEq] at hy
      subst hy
      exact ⟨c, rfl, h.1⟩
    | succ k =>
      rw [List.getElem?_cons_succ] at hy ⊢
      exact ih.2 k y hy
theorem core_need {F0 p : List (List Int)} : ∀ (i : Nat) (o : List Int) (K : List (List Int)), i ≤ F0.length → accB (F0.take i ++ K) p = true → Sel F0 o K → (∀ j, j < K.length → accB (F0.take i ++ K.eraseIdx j) p = false) → (F0.take i ++ K).Sublist F0 →
    ∃ K', Sel F0 (coreF (fun F => accB F p) i o (F0.take i ++ K)) K' ∧ accB K' p = true ∧ (∀ j, j < K'.length → accB (K'.eraseIdx j) p = false) ∧ K'.Sublist F0
  | 0, o, K, _, ha, hs, hn, hsub => ⟨K, by unfold coreF; exact hs, by simpa using ha, by simpa using hn, by simpa using hsub⟩
  | i + 1, o, K, hi, ha, hs, hn, hsub => by
    obtain ⟨x, hx⟩ := get_of_lt (show i < F0.length by omega)
    rw [take_snoc_of hx] at ha hn hsub ⊢
    have hbl : (F0.take i).length = i := by rw [List.length_take]; omega
    have e2 : (F0.take i ++ [x] ++ K) = F0.take i ++ x :: K := by simp
    have e3 : (F0.take i ++ [x] ++ K).eraseIdx i = F0.take i ++ K := by
      rw [e2, List.eraseIdx_append_of_length_le (by omega), hbl, Nat.sub_self]; rfl
    have hss : (F0.take i ++ K).Sublist (F0.take i ++ x :: K) := List.Sublist.append (List.Sublist.refl _) (List.sublist_cons_self ..)
    unfold coreF
    rw [e3, e2]
    rw [e2] at ha hsub
    by_cases hg : accB (F0.take i ++ K) p = true
    · rw [if_pos hg]
      refine core_need i o K (by omega) hg hs (fun j hj => not_acc fun h => ?_) (hss.trans hsub)
      have h2 := accB_mono (G := F0.take i ++ [x] ++ K.eraseIdx j) (fun c hc => by
        rcases List.mem_append.1 hc with hc | hc
        · exact List.mem_append_left _ (List.mem_append_left _ hc)
        · exact List.mem_append_right _ hc) h
      rw [hn j hj] at h2; cases h2
    · rw [if_neg hg]
      refine core_need i ((i : Int) :: o) (x :: K) (by omega) ha ⟨⟨by omega, by simpa using hx⟩, hs⟩ (fun j hj => ?_) hsub
      cases j with
      | zero => simpa using hg
      | succ j =>
        have := hn j (by simpa using hj)
        simpa using this
theorem sub_seek {x : List Int} {t : List (List Int)} : ∀ {l : List (List Int)}, (x :: t).Sublist l → ∃ m : Nat, l[m]? = some x ∧ (∀ (j : Nat) y, j < m → l[j]? = some y → y ≠ x) ∧ t.Sublist (l.drop (m + 1))
  | [], h => by cases h
  | y :: l, h => by
    by_cases e : y = x
    · subst e
      exact ⟨0, rfl, fun j y hj => by omega, by simpa using List.cons_sublist_cons.1 h⟩
    · have h2 : (x :: t).Sublist l := by
        cases h with
        | cons _ h => exact h
        | cons_cons _ h => exact absurd rfl e
      obtain ⟨m, h3, h4, h5⟩ := sub_seek h2
      refine ⟨m + 1, by rw [List.getElem?_cons_succ]; exact h3, fun j z hj hz => ?_, by simpa using h5⟩
      cases j with
      | zero =>
        simp only [List.getElem?_cons_zero, Option.some.injEq] at hz
        rw [← hz]; exact e
      | succ j => rw [List.getElem?_cons_succ] at hz; exact h4 j z (by omega) hz
theorem del_ok {q : List (List Int)} {j : Nat} (hj : j < q.length) (hq : q.length ≤ 1000000) : m_delR q (j : Int) ((j + 1 : Nat) : Int) = some (q.eraseIdx j) := by
  unfold m_delR
  rw [if_pos ⟨by omega, by omega, by omega, by omega, by omega⟩, List.eraseIdx_eq_take_drop_succ]
  simp only [Int.toNat_natCast]
theorem seek_loop {p T : List (List Int)} {k a : Nat} {x : List Int} (hp : PLen p) (ha : a ≤ p.length) (hs : (x :: T).Sublist (p.drop a)) :
    ∃ b : Nat, loopM (fun s : Int => m_assessorlaw27_ProofNeeds_lp2 p x s) (a : Int) = some (b : Int) ∧ b < p.length ∧ T.Sublist (p.drop (b + 1)) := by
  obtain ⟨m, h1, h2, h3⟩ := sub_seek hs
  rw [List.getElem?_drop] at h1
  rw [List.drop_drop] at h3
  have hlt := len_lt h1
  have hpl := hp.1
  have hx := hp.2 _ (mem_get h1)
  obtain ⟨b, hb, rfl⟩ := loopN (body := fun s : Int => m_assessorlaw27_ProofNeeds_lp2 p x s) (s0 := (a : Int)) m (fun k (_ : Unit) => ((a + k : Nat) : Int)) (fun _ _ => True) (fun b => b = ((a + m : Nat) : Int)) (t0 := ()) rfl trivial (by
      rintro k _ hk _
      obtain ⟨y, hy⟩ := get_of_lt (show a + k < p.length by omega)
      have hyx : y ≠ x := h2 k y hk (by rw [List.getElem?_drop]; exact hy)
      have hyl := hp.2 _ (mem_get hy)
      refine Or.inl ⟨(), ?_, trivial⟩
      simp only [m_assessorlaw27_ProofNeeds_lp2, ltB (len_lt hy), if_true, idx_nat hy, bsm, lists_equal y x (by omega), decide_eq_false hyx, Bool.not_false, inK_at (n := ((a + k : Nat) : Int) + 1) (m := ((a + (k + 1) : Nat) : Int)) (by omega) ⟨by omega, by omega⟩]) (by
      rintro _ _
      refine ⟨((a + m : Nat) : Int), ?_, rfl⟩
      simp only [m_assessorlaw27_ProofNeeds_lp2, ltB hlt, if_true, idx_nat h1, bsm, lists_equal x x (by omega)]
      simp)
  exact ⟨a + m, hb, hlt, by rw [show a + m + 1 = a + (m + 1) by omega]; exact h3⟩
theorem order_loop {p T : List (List Int)} {e : Int} (hp : PLen p) (hT : T.Sublist p) : loopM (fun s : Int × Int => m_assessorlaw27_ProofNeeds_lp1 p (T, e) s.1 s.2) (0, 0) = some (.brk ()) := by
  have hpl := hp.1
  have hTl := hT.length_le
  obtain ⟨b, hb, rfl⟩ := loopN (body := fun s : Int × Int => m_assessorlaw27_ProofNeeds_lp1 p (T, e) s.1 s.2) (s0 := ((0 : Int), (0 : Int))) T.length (fun k (t : Nat) => ((t : Int), (k : Int))) (fun k t => t ≤ p.length ∧ (T.drop k).Sublist (p.drop t)) (fun b => b = Out.brk ()) (t0 := 0) rfl ⟨by omega, by simpa using hT⟩ (by
      rintro k t hk ⟨h1, h2⟩
      obtain ⟨x, hx⟩ := get_of_lt hk
      rw [drop_cons_of hx] at h2
      obtain ⟨b, h3, h4, h5⟩ := seek_loop (k := k) hp h1 h2
      refine Or.inl ⟨b + 1, ?_, by omega, h5⟩
      have e0 : ¬ ((b : Int) = (p.length : Int)) := by omega
      simp only [m_assessorlaw27_ProofNeeds_lp1, ltB hk, if_true, idx_nat hx, bsm, h3, decide_eq_false e0, Bool.false_eq_true, if_false, inK_up h4 (show p.length ≤ 9223372036854775807 by omega), inK_up hk (show T.length ≤ 9223372036854775807 by omega)]) (by
      rintro t _
      exact ⟨.brk (), by simp only [m_assessorlaw27_ProofNeeds_lp1, ltB', if_false, Bool.false_eq_true], rfl⟩)
  exact hb
theorem places_loop {f : Formula} {o : List Int} {K : List (List Int)} {e : Int} (hf : f.clauses.length ≤ 1000000) (hK : K.length ≤ 1000000) (hs : Sel f.clauses o K) : loopM (fun s : Int × List (List Int) => m_assessorlaw27_ProofNeeds_lp3 f (o, e) s.1 s.2) (0, []) = some (.brk K) := by
  obtain ⟨h1, h2⟩ := hs.at
  obtain ⟨b, hb, rfl⟩ := loopN (body := fun s : Int × List (List Int) => m_assessorlaw27_ProofNeeds_lp3 f (o, e) s.1 s.2) (s0 := ((0 : Int), ([] : List (List Int)))) o.length (fun k t => ((k : Int), t)) (fun k t => t = K.take k) (fun b => b = Out.brk K) (t0 := []) rfl (by simp) (by
      rintro k t hk rfl
      obtain ⟨x, hx⟩ := get_of_lt hk
      obtain ⟨c, h3, h4, h5⟩ := h2 k x hx
      have h6 := len_lt h5
      have e0 : ¬ (((decide (x < 0)) || (decide ((f.clauses.length : Int) ≤ x))) = true) := by
        simp only [Bool.or_eq_true, decide_eq_true_eq, not_or]; omega
      refine Or.inl ⟨K.take (k + 1), ?_, rfl⟩
      simp only [m_assessorlaw27_ProofNeeds_lp3, ltB hk, if_true, idx_nat hx, bsm]
      rw [if_neg e0, idx_of h4 h5, bsm, app_ok (by simp; omega), bsm, inK_up hk (by omega), bsm, take_snoc_of h3]) (by
      rintro t rfl
      exact ⟨.brk (K.take o.length), by simp only [m_assessorlaw27_ProofNeeds_lp3, ltB', if_false, Bool.false_eq_true], by rw [h1, List.take_length]⟩)
  exact hb
theorem valid_sub {f : Formula} (h : validB f = true) {K : List (List Int)} (hs : K.Sublist f.clauses) : validB ⟨f.vars, K⟩ = true := by
  have hb := valid_bnd h
  unfold validB
  simp only [Bool.and_eq_true, decide_eq_true_eq, List.all_eq_true]
  exact ⟨⟨⟨hb.1, hb.2.1⟩, Nat.le_trans hs.length_le hb.2.2.1⟩, fun c hc => hb.2.2.2 c (hs.subset hc)⟩
theorem FLen.sub {F K : List (List Int)} (h : FLen F) (hs : K.Sublist F) : FLen K := ⟨Nat.le_trans hs.length_le h.1, fun c hc => h.2 c (hs.subset hc)⟩
theorem law_ProofNeeds (p0 : Formula) (p1 : (List (List Int))) (p2 : (List Int)) (h0 : FWf p0) (h1 : LW (LW I64) p1) (h2 : LW I64 p2) (z2 : p2.length * 8 ≤ 140737488351232) : m_assessorlaw27_ProofNeeds p0 p1 p2 = some true := by
  unfold m_assessorlaw27_ProofNeeds
  rw [awake_true, bsm, if_neg (by decide), small_eq _ _ _ h0.2.1, bsm]
  cases hs : smallB p0 20 20 with
  | false => simp
  | true =>
    rw [if_neg (by simp), psmall_eq _ _ h1.1, bsm, bsm]
    cases hp : smallB ⟨0, p1⟩ 0 20 with
    | false => simp
    | true =>
      have hpo := psmall_ok hp
      have hso := small_ok hs
      have hpl : PLen p1 := ⟨by omega, fun c hc => by have := hpo.2 c hc; omega⟩
      rw [if_neg (by simp), check_ok h0.flen hpl, bsm, bsm]
      cases hc : chkB p0 p1 with
      | false => simp
      | true =>
        obtain ⟨hv, hpr, hg, hacc⟩ := chk_parts hc
        have hb := valid_bnd hv
        have hpos := last_pos hg
        obtain ⟨x, hx⟩ := get_of_lt (show p1.length - 1 < p1.length by omega)
        have hxn : x = [] := by
          rw [List.getLast?_eq_getElem?, hx] at hg
          exact Option.some.inj hg
        subst hxn
        have ep : p1.take (p1.length - 1) ++ [[]] = p1 := by
          rw [← take_snoc_of hx, show p1.length - 1 + 1 = p1.length by omega, List.take_length]
        have htr := trim_need (F := p0.clauses) (p1.length - 1) (p1.take (p1.length - 1)) [[]] (by rw [List.length_take]; omega) rfl (by rw [ep]; exact hacc) (fun j hj => by simp at hj)
        rw [ep] at htr
        obtain ⟨t1, t2, t3⟩ := htr
        have eT : trimR p0 p1 = (trimF (accB p0.clauses) (p1.length - 1) p1, 0) := by unfold trimR; rw [if_pos hc]
        generalize hT : trimF (accB p0.clauses) (p1.length - 1) p1 = T at t1 t2 t3 eT
        have hTl := t3.length_le
        have hTp : PLen T := ⟨by have := hpl.1; omega, fun c hc => hpl.2 c (t3.subset hc)⟩
        have hTv := provB_sub t3 hpr
        have hTc : chkB p0 T = true := by rw [chk_acc hv hTv]; exact t1
        have eT2 : trimR p0 T = (T, 0) := by
          unfold trimR
          rw [if_pos hTc, trim_fix _ fun j hj => t2.no (by omega)]
        obtain ⟨K, k1, k2, k3, k4⟩ := core_need (F0 := p0.clauses) (p := p1) p0.clauses.length [] [] (Nat.le_refl _) (by rw [List.take_length, List.append_nil]; exact accB_iff.2 ⟨hg, hacc⟩) trivial (fun j hj => by simp at hj) (by rw [List.take_length, List.append_nil]; exact List.Sublist.refl _)
        rw [List.take_length, List.append_nil] at k1
        have eC : coreR p0 p1 = (coreF (fun F => accB F p1) p0.clauses.length [] p0.clauses, 0) := by unfold coreR; rw [if_pos hc]
        generalize hC : coreF (fun F => accB F p1) p0.clauses.length [] p0.clauses = C at k1 eC
        have hKl := k4.length_le
        have hKv := valid_sub hv k4
        have hKf := h0.flen.sub k4
        rw [if_neg (by simp), trim_prog h0.flen hpl, bsm, eT, trim_prog h0.flen hTp, bsm, eT2, core_prog h0.flen hpl, bsm, eC]
        simp only
        rw [if_neg (by decide), check_ok h0.flen hTp, bsm, bsm, hTc, if_neg (by decide), clauses_equal _ _ ⟨by have := hTp.1; omega, fun c hc => by have := hTp.2 c hc; omega⟩, bsm, bsm]
        rw [if_neg (by simp only [decide_true, Bool.not_true, Bool.false_or, decide_eq_true_eq]; omega), order_loop hpl t3, bsm]
        simp only
        rw [places_loop (by omega) (by omega) k1, bsm]
        simp only
        rw [check_ok hKf hpl, bsm, show chkB ⟨p0.vars, K⟩ p1 = true by rw [chk_acc hKv hpr]; exact k2, if_neg (by decide)]
        obtain ⟨b, hb3, rfl⟩ := loopN (body := fun s : Int => m_assessorlaw27_ProofNeeds_lp4 p0 p1 K s) (s0 := (0 : Int)) K.length (fun k (_ : Unit) => (k : Int)) (fun _ _ => True) (fun b => b = Out.brk ()) (t0 := ()) rfl trivial (by
            rintro k _ hk _
            have hKe : (K.eraseIdx k).Sublist p0.clauses := (List.eraseIdx_sublist ..).trans k4
            have hch : chkB ⟨p0.vars, K.eraseIdx k⟩ p1 = false := by rw [chk_acc (valid_sub hv hKe) hpr]; exact k3 k hk
            refine Or.inl ⟨(), ?_, trivial⟩
            simp only [m_assessorlaw27_ProofNeeds_lp4, ltB hk, if_true, bsm, app_ok (show ([] : List (List Int)).length + K.length ≤ 4294967296 by simp; omega), List.nil_append, inK_up hk (show K.length ≤ 9223372036854775807 by omega), del_ok hk (show K.length ≤ 1000000 by omega), check_ok (f := ⟨p0.vars, K.eraseIdx k⟩) (h0.flen.sub hKe) hpl, hch, Bool.false_eq_true, if_false]) (by
            rintro _ _
            exact ⟨.brk (), by simp only [m_assessorlaw27_ProofNeeds_lp4, ltB', if_false, Bool.false_eq_true], rfl⟩)
        rw [hb3, bsm]
        simp only
        have hTpos := last_pos (accB_iff.1 t1).1
        rw [inK_at (n := (T.length : Int) - 1) (m := ((T.length - 1 : Nat) : Int)) (by omega) ⟨by omega, by omega⟩, bsm]
        obtain ⟨b, hb4, rfl⟩ := loopN (body := fun s : Int => m_assessorlaw27_ProofNeeds_lp5 p0 (T, 0) ((T.length - 1 : Nat) : Int) s) (s0 := (0 : Int)) (T.length - 1) (fun k (_ : Unit) => (k : Int)) (fun _ _ => True) (fun b => b = Out.brk ()) (t0 := ()) rfl trivial (by
            rintro k _ hk _
            have hch : chkB p0 (T.eraseIdx k) = false := by rw [chk_acc hv (provB_erase hTv k)]; exact t2.no (by omega)
            refine Or.inl ⟨(), ?_, trivial⟩
            simp only [m_assessorlaw27_ProofNeeds_lp5, ltB hk, if_true, bsm, app_ok (show ([] : List (List Int)).length + T.length ≤ 4294967296 by simp; omega), List.nil_append, inK_up hk (show T.length - 1 ≤ 9223372036854775807 by omega), del_ok (show k < T.length by omega) (show T.length ≤ 1000000 by omega), check_ok h0.flen (hTp.erase k), hch, Bool.false_eq_true, if_false]) (by
            rintro _ _
            exact ⟨.brk (), by simp only [m_assessorlaw27_ProofNeeds_lp5, ltB', if_false, Bool.false_eq_true], rfl⟩)
        rw [hb4, bsm]
        simp only
        have hp2 : p2.length < 17592186044417 := by omega
        rw [cnf_Normal hp2, bsm]
        cases hn : (normF p2).2 with
        | false => simp
        | true =>
          rw [if_neg (by simp), ref_isClause (show 0 ≤ p0.vars ∧ p0.vars ≤ 1099511627776 by omega) (by have := normF_len p2; omega), bsm, bsm]
          cases hcl : clF p0.vars 0 (normF p2).1 with
          | false => simp
          | true =>
            have hco := clF_ok hcl
            have hv2 : validB ⟨p0.vars, p0.clauses ++ [(normF p2).1]⟩ = true := by
              unfold validB
              simp only [Bool.and_eq_true, decide_eq_true_eq, List.all_eq_true]
              refine ⟨⟨⟨hb.1, hb.2.1⟩, by show (p0.clauses ++ [(normF p2).1]).length ≤ _; simp; omega⟩, fun c hc => ?_⟩
              rcases List.mem_append.1 hc with hc | hc
              · exact hb.2.2.2 c hc
              · rw [List.mem_singleton.1 hc]; exact hcl
            rw [if_neg (by simp)]
            have hw : m_assessorref27_With p0 (normF p2).1 = some ⟨p0.vars, p0.clauses ++ [(normF p2).1]⟩ := by
              unfold m_assessorref27_With
              rw [app_ok (by simp; omega), bsm]
            rw [hw, bsm, check_ok (f := ⟨p0.vars, p0.clauses ++ [(normF p2).1]⟩) ⟨by show (p0.clauses ++ [(normF p2).1]).length ≤ _; simp; omega, fun c hc => by
              rcases List.mem_append.1 hc with hc | hc
              · exact h0.flen.2 c hc
              · rw [List.mem_singleton.1 hc]
                have := hco.len ⟨hb.1, hb.2.1⟩; omega⟩ hpl, bsm, chk_acc hv2 hpr]
            congr 1
            exact accB_mono (fun c hc => List.mem_append_left _ hc) (accB_iff.2 ⟨hg, hacc⟩)
end Go.Proofs.YtfajmelamonolaaGreatDoor

/-
  Fingerprints, in plain terms: hashes of symbols and how they roll; the models compute them. No program is named.
-/
import Derived.Test.YtlnhijgieblmgaaDoorWM
import Derived.Test.YtlnhijgieblmgaaDoorPure
set_option linter.unusedVariables false
set_option linter.unusedSimpArgs false
namespace Go.Proofs.YtlnhijgieblmgaaDoor
open Go.RowKit

/-! ### What is computed -/
def md (n : Int) : Int := n % 2147483647
def hs (h s : Int) : Int := (h * 1000003 + md s) % 2147483647
def hashL (l : List Int) : Int := l.foldl hs 0
def powF : Nat → Int
  | 0 => 1
  | n + 1 => powF n * 1000003 % 2147483647
def rollF (hash first next most : Int) : Int := (md (hash - md first * most % 2147483647) * 1000003 + md next) % 2147483647
def okK (k : Int) : Bool := decide (1 ≤ k) && decide (k ≤ 64)
def rollE (hash first next k : Int) : Int × Int := if okK k && decide (0 ≤ hash) && decide (hash < 2147483647) then (rollF hash first next (powF (k.toNat - 1)), 0) else (0, 2)
def hashesL (s : List Int) (k : Nat) : List Int := (List.range (s.length + 1 - k)).map fun i => hashL ((s.drop i).take k)
def hashesE (s : List Int) (k : Int) : List Int × Int := if okK k = false then ([], 2) else if 2048 < (s.length : Int) then ([], 8) else (hashesL s k.toNat, 0)

/-! ### Numbers -/
def R64 (n : Int) : Prop := -9223372036854775808 ≤ n ∧ n ≤ 9223372036854775807
theorem md_r (n : Int) : 0 ≤ md n ∧ md n < 2147483647 := by unfold md; omega
theorem tmod_P (n : Int) : -2147483647 < n.tmod 2147483647 ∧ n.tmod 2147483647 < 2147483647 ∧ (n.tmod 2147483647 + 2147483647) % 2147483647 = md n ∧ 0 < n.tmod 2147483647 + 2147483647 := by
  unfold md
  rcases Int.le_total 0 n with h | h
  · rw [Int.tmod_eq_emod_of_nonneg h]; omega
  · have e : n.tmod 2147483647 = -((-n) % 2147483647) := by
      have := Int.neg_tmod (-n) 2147483647
      rw [Int.neg_neg] at this
      rw [this, Int.tmod_eq_emod_of_nonneg (by omega)]
    rw [e]; omega
theorem modulo_m (n : Int) : m_fingerprint_modulo n = some (md n) := by
  obtain ⟨h1, h2, h3, h4⟩ := tmod_P n
  unfold m_fingerprint_modulo remK
  simp only [show (2147483647 : Int) ≠ 0 from by decide, ne_eq, not_false_eq_true, if_true, Option.bind_some]
  rw [inK_eq (by omega)]
  simp only [Option.bind_some]
  rw [Int.tmod_eq_emod_of_nonneg (by omega), h3]
theorem reduce_m (n : Int) : m_assessorref43_reduce n = some (md n) := by
  have : m_assessorref43_reduce n = m_fingerprint_modulo n := rfl
  rw [this, modulo_m]
theorem hs_r (h s : Int) : 0 ≤ hs h s ∧ hs h s < 2147483647 := by unfold hs; omega
theorem hashL_r (l : List Int) : 0 ≤ hashL l ∧ hashL l < 2147483647 := by
  unfold hashL
  suffices ∀ (l : List Int) (h : Int), 0 ≤ h ∧ h < 2147483647 → 0 ≤ l.foldl hs h ∧ l.foldl hs h < 2147483647 from this l 0 (by omega)
  intro l
  induction l with
  | nil => intro h hh; exact hh
  | cons a l ih => intro h hh; exact ih _ (hs_r h a)
theorem Hash_m (l : List Int) (hl : l.length ≤ 4611686018427387904) : m_fingerprint_Hash l = some (hashL l) := by
  unfold m_fingerprint_Hash
  refine bind_loop (fun k => (((l.take k).foldl hs 0), (k : Int))) l.length (hashL l) (by simp) (fun k hk => ?_) ?_ ?_
  · obtain ⟨a, ha⟩ := get_of_lt hk
    have hb := hashL_r (l.take k)
    have hm := md_r a
    unfold hashL at hb
    simp only [m_fingerprint_Hash_lp1]
    rw [if_pos (by simpa using hk), idx_nat ha]
    simp only [Option.bind_some]
    rw [inK_eq (by omega)]
    simp only [Option.bind_some, modulo_m]
    rw [inK_eq (by omega)]
    simp only [Option.bind_some]
    rw [remK_pos (by omega) (by decide)]
    simp only [Option.bind_some]
    rw [inK_succ (by omega), foldl_take hs 0 ha]
    rfl
  · simp only [m_fingerprint_Hash_lp1]
    rw [if_neg (by simp), List.take_length]; rfl
  · rfl
theorem HashR_m (l : List Int) (hl : l.length ≤ 4611686018427387904) : m_assessorref43_Hash l = some (hashL l) := by
  unfold m_assessorref43_Hash
  refine bind_loop (fun k => (((l.take k).foldl hs 0), (k : Int))) l.length (hashL l) (by simp) (fun k hk => ?_) ?_ ?_
  · obtain ⟨a, ha⟩ := get_of_lt hk
    have hb := hashL_r (l.take k)
    have hm := md_r a
    unfold hashL at hb
    simp only [m_assessorref43_Hash_lp1]
    rw [if_pos (by simpa using hk), idx_nat ha]
    rw [inK_eq (by omega)]
    simp only [Option.bind_some, reduce_m]
    rw [inK_eq (by omega)]
    simp only [Option.bind_some]
    rw [remK_pos (by omega) (by decide)]
    simp only [Option.bind_some]
    rw [inK_succ (by omega), foldl_take hs 0 ha]
    rfl
  · simp only [m_assessorref43_Hash_lp1]
    rw [if_neg (by simp), List.take_length]; rfl
  · rfl
theorem powF_r : ∀ n, 0 ≤ powF n ∧ powF n < 2147483647
  | 0 => by decide
  | n + 1 => by unfold powF; omega
theorem power_m (n : Nat) (hn : n ≤ 4611686018427387904) : m_fingerprint_power n = some (powF n) := by
  unfold m_fingerprint_power
  refine bind_loop (fun k => (powF k, (k : Int))) n (powF n) rfl (fun k hk => ?_) ?_ ?_
  · have hb := powF_r k
    simp only [m_fingerprint_power_lp1]
    rw [if_pos (by simpa using hk), inK_eq (by omega)]
    simp only [Option.bind_some]
    rw [remK_pos (by omega) (by decide)]
    simp only [Option.bind_some]
    rw [inK_succ (by omega)]
    rfl
  · simp only [m_fingerprint_power_lp1]
    rw [if_neg (by simp)]
  · rfl
theorem ranged_m (k : Int) : m_fingerprint_ranged k = some (okK k) := rfl
theorem okK_iff (k : Int) : okK k = true ↔ 1 ≤ k ∧ k ≤ 64 := by simp [okK]
theorem roller_m (k : Int) (h : okK k = true) : m_fingerprint_roller k = some (powF (k.toNat - 1)) := by
  rw [okK_iff] at h
  unfold m_fingerprint_roller
  rw [inK_eq (by omega)]
  have e : k - 1 = ((k.toNat - 1 : Nat) : Int) := by omega
  simp only [Option.bind_some, e, power_m _ (by omega : k.toNat - 1 ≤ 4611686018427387904)]
theorem mul_r {a b : Int} (ha : 0 ≤ a ∧ a < 2147483647) (hb : 0 ≤ b ∧ b < 2147483647) : 0 ≤ a * b ∧ a * b ≤ 4611686018427387904 := by
  refine ⟨Int.mul_nonneg ha.1 hb.1, ?_⟩
  have := Int.mul_le_mul (a := a) (b := b) (c := 2147483647) (d := 2147483647) (by omega) (by omega) hb.1 (by decide)
  omega
theorem roller1_m (hash first next most : Int) (hh : 0 ≤ hash ∧ hash < 2147483647) (hm : 0 ≤ most ∧ most < 2147483647) : m_fingerprint_roller_1 hash first next most = some (rollF hash first next most) := by
  have h1 := md_r first
  have h2 := mul_r h1 hm
  have h3 := md_r (hash - md first * most % 2147483647)
  have h4 := md_r next
  unfold m_fingerprint_roller_1
  simp only [modulo_m, Option.bind_some]
  rw [inK_eq (by omega)]
  simp only [Option.bind_some]
  rw [remK_pos (by omega) (by decide)]
  simp only [Option.bind_some]
  rw [inK_eq (by omega)]
  simp only [modulo_m, Option.bind_some]
  rw [inK_eq (by omega)]
  simp only [modulo_m, Option.bind_some]
  rw [inK_eq (by omega)]
  simp only [Option.bind_some]
  rw [remK_pos (by omega) (by decide)]
  rfl
theorem Roll_m (hash first next k : Int) : m_fingerprint_Roll hash first next k = some (rollE hash first next k) := by
  unfold m_fingerprint_Roll rollE
  simp only [ranged_m, Option.bind_some]
  cases hk : okK k with
  | false => simp
  | true =>
    by_cases h1 : hash < 0
    · rw [if_pos (by simp [h1]), if_neg (by simp; omega)]
    · by_cases h2 : 2147483647 ≤ hash
      · rw [if_pos (by simp [h2]), if_neg (by simp; omega)]
      · rw [if_neg (by simp; omega), if_pos (by simp; omega), roller_m k hk]
        simp only [Option.bind_some]
        rw [roller1_m _ _ _ _ (by omega) (powF_r _)]
        rfl
theorem RollR_m (hash first next k : Int) : m_assessorref43_Roll hash first next k = some (rollE hash first next k) := by
  unfold m_assessorref43_Roll rollE
  by_cases hc : ((((decide (k < 1)) || (decide (64 < k))) || (decide (hash < 0))) || (decide (2147483647 ≤ hash))) = true
  · rw [if_pos hc, if_neg]
    simp [okK] at hc ⊢
    omega
  · rw [if_neg hc]
    simp at hc
    have hk : okK k = true := by rw [okK_iff]; omega
    rw [if_pos (by simp [hk]; omega)]
    refine bind_loop (fun j => (powF j, ((j + 1 : Nat) : Int))) (k.toNat - 1) (powF (k.toNat - 1)) rfl (fun j hj => ?_) ?_ ?_
    · have hb := powF_r j
      simp only [m_assessorref43_Roll_lp1]
      rw [if_pos (by simp; omega), inK_eq (by omega)]
      simp only [Option.bind_some]
      rw [remK_pos (by omega) (by decide)]
      simp only [Option.bind_some]
      rw [inK_succ (by omega)]
      rfl
    · simp only [m_assessorref43_Roll_lp1]
      rw [if_neg (by simp; omega)]
    · have h1 := md_r first
      have hm := powF_r (k.toNat - 1)
      have h2 := mul_r h1 hm
      have h3 := md_r (hash - md first * powF (k.toNat - 1) % 2147483647)
      have h4 := md_r next
      simp only [reduce_m, Option.bind_some]
      rw [inK_eq (by omega)]
      simp only [Option.bind_some]
      rw [remK_pos (by omega) (by decide)]
      simp only [Option.bind_some]
      rw [inK_eq (by omega)]
      simp only [reduce_m, Option.bind_some]
      rw [inK_eq (by omega)]
      simp only [reduce_m, Option.bind_some]
      rw [inK_eq (by omega)]
      simp only [Option.bind_some]
      rw [remK_pos (by omega) (by decide)]
      rfl

/-! ### How a hash rolls -/
def hp0 (l : List Int) : Int := l.foldl (fun h s => h * 1000003 + s) 0
theorem hashL_hp (l : List Int) : hashL l = hp0 l % 2147483647 := by
  unfold hashL hp0
  suffices ∀ (l : List Int) (a : Int), l.foldl hs (a % 2147483647) = (l.foldl (fun h s => h * 1000003 + s) a) % 2147483647 from this l 0
  intro l
  induction l with
  | nil => intro a; rfl
  | cons s l ih =>
    intro a
    simp only [List.foldl_cons]
    rw [← ih]
    congr 1
    unfold hs md
    omega
theorem hp0_snoc (l : List Int) (t : Int) : hp0 (l ++ [t]) = hp0 l * 1000003 + t := by simp [hp0]
theorem hp0_cons (s : Int) (l : List Int) : hp0 (s :: l) = s * 1000003 ^ l.length + hp0 l := by
  unfold hp0
  suffices ∀ (l : List Int) (a : Int), l.foldl (fun h s => h * 1000003 + s) a = a * 1000003 ^ l.length + l.foldl (fun h s => h * 1000003 + s) 0 by
    simp only [List.foldl_cons]
    rw [this l]
    simp
  intro l
  induction l with
  | nil => intro a; simp
  | cons b l ih =>
    intro a
    simp only [List.foldl_cons, List.length_cons]
    rw [ih (a * 1000003 + b), ih (0 * 1000003 + b)]
    simp only [Int.pow_succ, Int.add_mul, Int.zero_mul, Int.zero_add, Int.mul_assoc, Int.mul_comm (1000003 ^ l.length) 1000003]
    omega
theorem powF_pow : ∀ n, powF n = 1000003 ^ n % 2147483647
  | 0 => by decide
  | n + 1 => by
    unfold powF
    rw [powF_pow n, Int.pow_succ]
    omega
theorem hashL_roll (s t : Int) (l : List Int) : rollF (hashL (s :: l)) s t (powF l.length) = hashL (l ++ [t]) := by
  rw [hashL_hp, hashL_hp, hp0_snoc, hp0_cons, powF_pow]
  unfold rollF md
  have e : s % 2147483647 * (1000003 ^ l.length % 2147483647) % 2147483647 = s * 1000003 ^ l.length % 2147483647 := (Int.mul_emod _ _ _).symm
  rw [e]
  generalize s * 1000003 ^ l.length = y
  generalize hp0 l = z
  omega

/-! ### Hashes -/
theorem hashesL_len (s : List Int) (k : Nat) : (hashesL s k).length = s.length + 1 - k := by simp [hashesL]
theorem hashesL_get (s : List Int) (k i : Nat) (h : i < s.length + 1 - k) : (hashesL s k)[i]? = some (hashL ((s.drop i).take k)) := by
  simp [hashesL, List.getElem?_map, List.getElem?_range h]
theorem win_cons {s : List Int} {k i : Nat} {a : Int} (hk : 1 ≤ k) (h : s[i]? = some a) : (s.drop i).take k = a :: (s.drop (i + 1)).take (k - 1) := by
  rw [drop_cons_of h]
  obtain ⟨k, rfl⟩ : ∃ j, k = j + 1 := ⟨k - 1, by omega⟩
  simp
theorem win_snoc {s : List Int} {k i : Nat} {b : Int} (hk : 1 ≤ k) (h : s[i + k]? = some b) : (s.drop (i + 1)).take k = (s.drop (i + 1)).take (k - 1) ++ [b] := by
  obtain ⟨k, rfl⟩ : ∃ j, k = j + 1 := ⟨k - 1, by omega⟩
  have h2 : (s.drop (i + 1))[k]? = some b := by rw [List.getElem?_drop, ← h]; congr 1; omega
  rw [take_snoc_of h2]; rfl
theorem win_roll {s : List Int} {k i : Nat} {a b : Int} (hk : 1 ≤ k) (ha : s[i]? = some a) (hb : s[i + k]? = some b) : rollF (hashL ((s.drop i).take k)) a b (powF (k - 1)) = hashL ((s.drop (i + 1)).take k) := by
  have hlen : ((s.drop (i + 1)).take (k - 1)).length = k - 1 := by
    have := (List.getElem?_eq_some_iff.1 hb).1
    rw [List.length_take, List.length_drop]; omega
  rw [win_cons hk ha, win_snoc hk hb]
  have := hashL_roll a b ((s.drop (i + 1)).take (k - 1))
  rw [hlen] at this
  exact this
theorem range_snoc {α : Type} (f : Nat → α) (n : Nat) : (List.range (n + 1)).map f = (List.range n).map f ++ [f n] := by rw [List.range_succ]; simp
theorem Hashes_m (s : List Int) (k : Int) : m_fingerprint_Hashes s k = some (hashesE s k) := by
  unfold m_fingerprint_Hashes hashesE
  simp only [ranged_m, Option.bind_some]
  cases hk : okK k with
  | false => simp
  | true =>
    simp only [Bool.not_true, Bool.false_eq_true, if_false, decide_eq_true_eq, reduceCtorEq]
    by_cases h1 : 2048 < (s.length : Int)
    · rw [if_pos h1, if_pos h1]
    · rw [if_neg h1, if_neg h1]
      rw [okK_iff] at hk
      obtain ⟨K, rfl⟩ : ∃ K : Nat, k = K := ⟨k.toNat, by omega⟩
      by_cases h2 : (s.length : Int) < K
      · rw [if_pos h2]
        unfold hashesL
        rw [show s.length + 1 - (K : Int).toNat = 0 by omega]
        rfl
      · rw [if_neg h2, sub_ok (by omega) (by omega) (by omega)]
        simp only [Option.bind_some, Int.toNat_natCast, Int.toNat_zero, List.drop_zero]
        rw [Hash_m _ (by rw [List.length_take]; omega)]
        simp only [Option.bind_some]
        rw [roller_m K (by rw [okK_iff]; omega), sub_ok (by omega) (by omega) (by omega)]
        simp only [Option.bind_some, Int.toNat_natCast, List.take_length]
        refine bind_loop (fun j => ((j : Int), (List.range (j + 1)).map fun i => hashL ((s.drop i).take K))) (s.length - K) (hashesL s K) ?_ (fun j hj => ?_) ?_ ?_
        · simp
        · obtain ⟨b, hb⟩ : ∃ b, s[j + K]? = some b := get_of_lt (by omega)
          obtain ⟨a, ha⟩ : ∃ a, s[j]? = some a := get_of_lt (by omega)
          have hb2 : (s.drop K)[j]? = some b := by rw [List.getElem?_drop, ← hb]; congr 1; omega
          simp only [m_fingerprint_Hashes_lp1]
          rw [if_pos (by simp; omega), idx_nat hb2]
          simp only [Option.bind_some]
          rw [idx_nat (a := hashL ((s.drop j).take K)) (by simp [List.getElem?_map, List.getElem?_range (show j < j + 1 by omega)]), idx_nat ha]
          simp only [Option.bind_some]
          rw [roller1_m _ _ _ _ (hashL_r _) (powF_r _)]
          simp only [Option.bind_some]
          rw [app_ok (by simp; omega)]
          simp only [Option.bind_some]
          rw [inK_succ (by omega)]
          simp only [Option.bind_some]
          rw [win_roll (by omega) ha hb, range_snoc _ (j + 1)]
        · simp only [m_fingerprint_Hashes_lp1]
          rw [if_neg (by simp)]
          unfold hashesL
          rw [show s.length + 1 - K = s.length - K + 1 by omega]
        · rfl
theorem HashesR_m (s : List Int) (k : Int) : m_assessorref43_Hashes s k = some (hashesE s k) := by
  unfold m_assessorref43_Hashes hashesE
  by_cases hc : ((decide (k < 1)) || (decide (64 < k))) = true
  · rw [if_pos hc, if_pos]
    simp [okK] at hc ⊢
    omega
  · rw [if_neg hc]
    simp at hc
    have hk : okK k = true := by rw [okK_iff]; omega
    rw [hk]
    simp only [Bool.true_eq_false, if_false, reduceCtorEq]
    by_cases h1 : 2048 < (s.length : Int)
    · rw [if_pos (by simpa using h1), if_pos h1]
    · rw [if_neg (by simpa using h1), if_neg h1]
      obtain ⟨K, rfl⟩ : ∃ K : Nat, k = K := ⟨k.toNat, by omega⟩
      refine bind_loop (fun j => ((j : Int), (List.range j).map fun i => hashL ((s.drop i).take K))) (s.length + 1 - K) (hashesL s K) ?_ (fun j hj => ?_) ?_ ?_
      · rfl
      · simp only [m_assessorref43_Hashes_lp1]
        rw [inK_eq (by omega)]
        simp only [Option.bind_some]
        rw [if_pos (by simp; omega)]
        rw [sub_ok (by omega) (by omega) (by omega)]
        simp only [Option.bind_some]
        have e : (s.take ((j : Int) + K).toNat).drop (j : Int).toNat = (s.drop j).take K := by
          rw [List.drop_take]
          congr 1
          omega
        rw [e, HashR_m _ (by rw [List.length_take]; omega)]
        simp only [Option.bind_some]
        rw [app_ok (by simp; omega)]
        simp only [Option.bind_some]
        rw [inK_succ (by omega)]
        simp only [Option.bind_some]
        rw [range_snoc _ j]
      · simp only [m_assessorref43_Hashes_lp1]
        rw [inK_eq (by omega)]
        simp only [Option.bind_some]
        rw [if_neg (by simp; omega)]
        rfl
      · rfl
/-! ### Lists that are the same -/
theorem SameI_m (a b : List Int) (ha : a.length ≤ 4611686018427387904) : m_assessorref35_Same a b = some (decide (a = b)) := by
  unfold m_assessorref35_Same
  by_cases hl : a.length = b.length
  · rw [if_neg (by simp <;> omega)]
    refine bind_same (a := a) (b := b) hl (.ret false) (.brk ()) (fun k x y hx hy => ?_) ?_ (by by_cases h : a = b <;> simp [h])
    · have hk := (List.getElem?_eq_some_iff.1 hx).1
      simp only [m_assessorref35_Same_lp1]
      rw [if_pos (by simpa using hk), idx_nat hx, idx_nat hy]
      simp only [Option.bind_some]
      rw [inK_succ (by omega)]
      by_cases h : x = y <;> simp [h]
    · simp only [m_assessorref35_Same_lp1]
      rw [if_neg (by simp)]
  · rw [if_pos (by simp <;> omega)]
    have : a ≠ b := fun e => hl (by rw [e])
    simp [this]
theorem SameM_m (a b : List Mark) (ha : a.length ≤ 4611686018427387904) : m_assessorref43_Same a b = some (decide (a = b)) := by
  unfold m_assessorref43_Same
  by_cases hl : a.length = b.length
  · rw [if_neg (by simp <;> omega)]
    refine bind_same (a := a) (b := b) hl (.ret false) (.brk ()) (fun k x y hx hy => ?_) ?_ (by by_cases h : a = b <;> simp [h])
    · have hk := (List.getElem?_eq_some_iff.1 hx).1
      simp only [m_assessorref43_Same_lp1]
      rw [if_pos (by simpa using hk), idx_nat hx, idx_nat hy]
      simp only [Option.bind_some]
      rw [inK_succ (by omega)]
      obtain ⟨x1, x2⟩ := x
      obtain ⟨y1, y2⟩ := y
      by_cases h : x1 = y1 <;> by_cases h2 : x2 = y2 <;> simp [h, h2]
    · simp only [m_assessorref43_Same_lp1]
      rw [if_neg (by simp)]
  · rw [if_pos (by simp <;> omega)]
    have : a ≠ b := fun e => hl (by rw [e])
    simp [this]
end Go.Proofs.YtlnhijgieblmgaaDoor

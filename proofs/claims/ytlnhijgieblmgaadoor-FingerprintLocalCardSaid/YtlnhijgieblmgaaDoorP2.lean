/-
  The symbols of trees, in plain terms; both models compute them. No program is named.
-/
import Derived.Test.YtlnhijgieblmgaaDoorPV
import Derived.Test.YtlnhijgieblmgaaDoorPN
set_option linter.unusedVariables false
set_option linter.unusedSimpArgs false
namespace Go.Proofs.YtlnhijgieblmgaaDoor
open Go.RowKit

/-! ### Texts -/
def B (l : List UInt8) : ByteArray := ⟨l.toArray⟩
theorem B_of (s : ByteArray) : s = B s.data.toList := by cases s; rfl
theorem B_app (l m : List UInt8) : B l ++ B m = B (l ++ m) := by
  unfold B
  apply ByteArray.ext
  simp
theorem B_size (l : List UInt8) : (B l).size = l.length := by simp [B, ByteArray.size]
theorem B_get (l : List UInt8) (k : Nat) : (B l)[k]? = l[k]? := by
  unfold B
  by_cases h : k < l.length
  · have h2 : k < (⟨l.toArray⟩ : ByteArray).size := by simpa [ByteArray.size] using h
    rw [getElem?_pos (⟨l.toArray⟩ : ByteArray) k h2, getElem?_pos l k h]
    rfl
  · have h2 : ¬ k < (⟨l.toArray⟩ : ByteArray).size := by simpa [ByteArray.size] using h
    rw [getElem?_neg (⟨l.toArray⟩ : ByteArray) k h2, getElem?_neg l k h]
theorem catK_B {l m : List UInt8} (h : l.length + m.length ≤ 4294967296) : catK (B l) (B m) = some (B (l ++ m)) := by
  rw [catK_ok (by rw [B_size, B_size]; exact h), B_app]

/-! ### Decimal numbers -/
theorem digit_m (d : Nat) (hd : d < 10) : ssub (ByteArray.mk #[48, 49, 50, 51, 52, 53, 54, 55, 56, 57]) d ((d + 1 : Nat) : Int) = some (B [UInt8.ofNat (48 + d)]) := by
  unfold ssub
  rw [if_pos ⟨by omega, by omega, by show ((d + 1 : Nat) : Int) ≤ 10; omega⟩]
  have : d = 0 ∨ d = 1 ∨ d = 2 ∨ d = 3 ∨ d = 4 ∨ d = 5 ∨ d = 6 ∨ d = 7 ∨ d = 8 ∨ d = 9 := by omega
  rcases this with rfl | rfl | rfl | rfl | rfl | rfl | rfl | rfl | rfl | rfl <;> rfl
theorem decDigits_len : ∀ (f u : Nat), u < 10 ^ f → (Lib.decDigits u).length ≤ max 1 f
  | 0, u, h => by
    have : u = 0 := by simpa using h
    subst this
    rw [Lib.decDigits]; simp
  | f + 1, u, h => by
    rw [Lib.decDigits]
    split
    · simp <;> omega
    · have h2 : u / 10 < 10 ^ f := by rw [Nat.pow_succ] at h; omega
      have := decDigits_len f (u / 10) h2
      have hf : 1 ≤ f := by
        rcases Nat.eq_zero_or_pos f with h0 | h0
        · subst h0; simp at h2; omega
        · exact h0
      simp only [List.length_append, List.length_singleton]
      omega
theorem decimal_pos : ∀ (f F : Nat) (u : Nat), f ≤ 19 → u < 10 ^ f → 1 ≤ f → f ≤ F → (u : Int) ≤ 9223372036854775807 → m_assessorref43_decimal_r F (u : Int) = some (B (Lib.decDigits u))
  | 0, _, _, _, _, h, _, _ => by omega
  | f + 1, 0, _, _, _, _, h, _ => by omega
  | f + 1, F + 1, u, hf, hu, _, hF, hbig => by
    show m_assessorref43_decimal_body (m_assessorref43_decimal_r F) (u : Int) = _
    unfold m_assessorref43_decimal_body
    rw [if_neg (by rw [decide_eq_true_eq]; omega), if_neg (by rw [decide_eq_true_eq]; omega), remK_pos (by omega) (by decide)]
    simp only [Option.bind_some]
    rw [show ((u : Int) % 10) = ((u % 10 : Nat) : Int) by omega, inK_succ (by omega)]
    simp only [Option.bind_some]
    rw [digit_m _ (Nat.mod_lt _ (by decide))]
    simp only [Option.bind_some]
    rw [Lib.decDigits]
    by_cases h : u < 10
    · rw [if_pos (decide_eq_true (by omega)), dif_pos h, Nat.mod_eq_of_lt h]
    · rw [if_neg (by simp; omega), dif_neg h]
      have h2 : u / 10 < 10 ^ f := by rw [Nat.pow_succ] at hu; omega
      have hf1 : 1 ≤ f := by
        rcases Nat.eq_zero_or_pos f with h0 | h0
        · subst h0; rw [Nat.pow_zero] at h2; omega
        · exact h0
      rw [quoK_pos (by omega) (by decide) hbig]
      simp only [Option.bind_some]
      rw [show ((u : Int) / 10) = ((u / 10 : Nat) : Int) by omega, decimal_pos f F (u / 10) (by omega) h2 hf1 (by omega) (by omega)]
      simp only [Option.bind_some]
      rw [catK_B (by have := decDigits_len f _ h2; simp only [List.length_singleton]; omega)]
      rfl
theorem itoa_min : Lib.itoa (-9223372036854775808) = [45, 57, 50, 50, 51, 51, 55, 50, 48, 51, 54, 56, 53, 52, 55, 55, 53, 56, 48, 56] := by
  unfold Lib.itoa
  rw [if_pos (by decide)]
  simp [Lib.decDigits]
theorem decimal_m (n : Int) (h : I64 n) : m_assessorref43_decimal n = some (B (Lib.itoa n)) := by
  unfold I64 at h
  have key : ∀ u : Nat, (u : Int) ≤ 9223372036854775807 → m_assessorref43_decimal_r 20 (u : Int) = some (B (Lib.decDigits u)) ∧ m_assessorref43_decimal_r 21 (u : Int) = some (B (Lib.decDigits u)) := fun u hu => by
    have h : u < 10 ^ 19 := by
      have e : (10 : Nat) ^ 19 = 10000000000000000000 := by decide
      rw [e]; omega
    exact ⟨decimal_pos 19 20 u (by omega) h (by omega) (by omega) hu, decimal_pos 19 21 u (by omega) h (by omega) (by omega) hu⟩
  by_cases hmin : n = -9223372036854775808
  · subst hmin
    have e : m_assessorref43_decimal (-9223372036854775808) = m_assessorref43_decimal_body (m_assessorref43_decimal_r 20) (-9223372036854775808) := rfl
    rw [e, itoa_min]
    unfold m_assessorref43_decimal_body
    rw [if_pos (by decide)]; rfl
  · by_cases hneg : n < 0
    · show m_assessorref43_decimal_body (m_assessorref43_decimal_r 20) _ = _
      unfold m_assessorref43_decimal_body
      rw [if_neg (by simpa using hmin), if_pos (by simpa using hneg), inK_eq (by omega)]
      simp only [Option.bind_some]
      rw [show (0 - n) = ((n.natAbs : Nat) : Int) by omega, (key _ (by omega)).1]
      simp only [Option.bind_some]
      have e : (ByteArray.mk #[45]) = B [45] := rfl
      have hl := decDigits_len 19 n.natAbs (by have e : (10 : Nat) ^ 19 = 10000000000000000000 := by decide
                                               rw [e]; omega)
      rw [e, catK_B (by simp; omega)]
      unfold Lib.itoa
      rw [if_pos hneg]; rfl
    · have := (key n.toNat (by omega)).2
      rw [show ((n.toNat : Nat) : Int) = n by omega] at this
      unfold m_assessorref43_decimal Lib.itoa
      rw [if_neg hneg]; exact this
theorem itoa_len (n : Int) (h : I64 n) : (Lib.itoa n).length ≤ 20 := by
  unfold I64 at h
  have e : (10 : Nat) ^ 19 = 10000000000000000000 := by decide
  unfold Lib.itoa
  split
  · have := decDigits_len 19 n.natAbs (by rw [e]; omega)
    simp; omega
  · have := decDigits_len 19 n.toNat (by rw [e]; omega)
    omega
theorem itoa_m (n : Int) (h : I64 n) : m_itoa n = some (B (Lib.itoa n)) := by
  unfold m_itoa
  unfold I64 at h
  rw [if_pos h]; rfl

/-! ### Sums -/
def sumStep (h : Int) (b : UInt8) : Int := (((h.toNat ^^^ b.toNat : Nat) : Int) * 16777619) % 4294967296
def fnv (l : List UInt8) : Int := l.foldl sumStep 2166136261
theorem sumStep_r (h : Int) (b : UInt8) : 0 ≤ sumStep h b ∧ sumStep h b < 4294967296 := by unfold sumStep; omega
theorem fnv_r (l : List UInt8) : 0 ≤ fnv l ∧ fnv l < 4294967296 := by
  unfold fnv
  suffices ∀ (l : List UInt8) (h : Int), 0 ≤ h ∧ h < 4294967296 → 0 ≤ l.foldl sumStep h ∧ l.foldl sumStep h < 4294967296 from this l _ (by decide)
  intro l
  induction l with
  | nil => intro h hh; exact hh
  | cons a l ih => intro h hh; exact ih _ (sumStep_r h a)
theorem xor_lt (a b : Nat) (ha : a < 4294967296) (hb : b < 4294967296) : a ^^^ b < 4294967296 := Nat.xor_lt_two_pow (n := 32) ha hb
theorem xor32 {a b : Int} (ha : 0 ≤ a ∧ a < 4294967296) (hb : 0 ≤ b ∧ b < 4294967296) : xorK .u32 a b = ((a.toNat ^^^ b.toNat : Nat) : Int) := by
  unfold xorK
  have e1 : (BitVec.ofInt IntKind.u32.bits a ^^^ BitVec.ofInt IntKind.u32.bits b).toNat = a.toNat ^^^ b.toNat := by
    rw [BitVec.toNat_xor, BitVec.toNat_ofInt, BitVec.toNat_ofInt]
    congr 1
    · show (a % ((2 ^ 32 : Nat) : Int)).toNat = a.toNat
      have : ((2 ^ 32 : Nat) : Int) = 4294967296 := by decide
      rw [this]; omega
    · show (b % ((2 ^ 32 : Nat) : Int)).toNat = b.toNat
      have : ((2 ^ 32 : Nat) : Int) = 4294967296 := by decide
      rw [this]; omega
  rw [e1, IntKind.wrap_u32]
  have := xor_lt a.toNat b.toNat (by omega) (by omega)
  omega
theorem xor64 {a b : Int} (ha : 0 ≤ a ∧ a < 4294967296) (hb : 0 ≤ b ∧ b < 4294967296) : xorK .i64 a b = ((a.toNat ^^^ b.toNat : Nat) : Int) := by
  unfold xorK
  have e1 : (BitVec.ofInt IntKind.i64.bits a ^^^ BitVec.ofInt IntKind.i64.bits b).toNat = a.toNat ^^^ b.toNat := by
    rw [BitVec.toNat_xor, BitVec.toNat_ofInt, BitVec.toNat_ofInt]
    congr 1
    · show (a % ((2 ^ 64 : Nat) : Int)).toNat = a.toNat
      have : ((2 ^ 64 : Nat) : Int) = 18446744073709551616 := by decide
      rw [this]; omega
    · show (b % ((2 ^ 64 : Nat) : Int)).toNat = b.toNat
      have : ((2 ^ 64 : Nat) : Int) = 18446744073709551616 := by decide
      rw [this]; omega
  rw [e1, IntKind.wrap_i64]
  have := xor_lt a.toNat b.toNat (by omega) (by omega)
  omega
theorem u8_lt (b : UInt8) : b.toNat < 256 := b.toNat_lt
theorem sum_loop (l : List UInt8) (hl : l.length ≤ 4294967296) : (loopM (fun s => m_fingerprint_symbol_lp1 (B l) s.1 s.2) (2166136261, 0) : Option Int) = some (fnv l) := by
  refine loop_from (fun k => ((l.take k).foldl sumStep 2166136261, (k : Int))) l.length rfl (fun k hk => ?_) ?_
  · obtain ⟨b, hb⟩ := get_of_lt hk
    have hr := fnv_r (l.take k)
    unfold fnv at hr
    have hbl := u8_lt b
    simp only [m_fingerprint_symbol_lp1]
    have e : (B l).data.toList = l := rfl
    rw [e, if_pos (by simpa using hk), idx_nat hb]
    simp only [Option.bind_some]
    rw [inK_succ (by omega)]
    simp only [Option.bind_some]
    rw [IntKind.wrap_u32 (b.toNat : Int), xor32 hr (by omega), IntKind.wrap_u32, foldl_take _ _ hb]
    have e2 : ((b.toNat : Int) % 4294967296).toNat = b.toNat := by omega
    rw [e2]
    rfl
  · simp only [m_fingerprint_symbol_lp1]
    rw [if_neg (by simp [B]), List.take_length]; rfl
theorem Sum_m (l : List UInt8) (hl : l.length ≤ 4294967296) : m_assessorref43_Sum (B l) = some (fnv l) := by
  unfold m_assessorref43_Sum
  refine bind_loop (fun k => ((l.take k).foldl sumStep 2166136261, (k : Int))) l.length (fnv l) rfl (fun k hk => ?_) ?_ rfl
  · obtain ⟨b, hb⟩ := get_of_lt hk
    have hr := fnv_r (l.take k)
    unfold fnv at hr
    have hbl := u8_lt b
    simp only [m_assessorref43_Sum_lp1]
    have hs : sidx (B l) (k : Int) = some (b.toNat : Int) := by
      unfold sidx
      rw [if_pos (by omega), Int.toNat_natCast, B_get, hb]; rfl
    rw [if_pos (by rw [B_size]; simpa using hk), hs]
    simp only [Option.bind_some]
    rw [inK_eq (by omega)]
    simp only [Option.bind_some]
    have hx := xor_lt ((l.take k).foldl sumStep 2166136261).toNat b.toNat (by omega) (by omega)
    rw [xor64 hr (by omega), Int.toNat_natCast, inK_eq (by omega)]
    simp only [Option.bind_some]
    rw [remK_pos (by omega) (by decide)]
    simp only [Option.bind_some]
    rw [inK_succ (by omega), foldl_take _ _ hb]
    rfl
  · simp only [m_assessorref43_Sum_lp1]
    rw [if_neg (by rw [B_size]; simp), List.take_length]; rfl

/-! ### Symbols -/
def symOf (kind : Int) (text : ByteArray) : Int := fnv (Lib.itoa kind ++ [58] ++ text.data.toList)
mutual
def symL : Node → List Int
  | ⟨kind, text, _, _, ks⟩ => symOf kind text :: (symLs ks ++ if ks.length = 0 then [] else [0])
def symLs : List Node → List Int
  | [] => []
  | k :: ks => symL k ++ symLs ks
end
theorem symL_eq (n : Node) : symL n = symOf n.kind n.text :: (symLs n.kids ++ if n.kids.length = 0 then [] else [0]) := by cases n; rfl
theorem symLs_app : ∀ (l m : List Node), symLs (l ++ m) = symLs l ++ symLs m
  | [], m => by simp [symLs]
  | k :: l, m => by simp [symLs, symLs_app l m]
mutual
theorem symL_len : ∀ n : Node, (symL n).length ≤ 2 * cnt n
  | ⟨a, b, c, d, ks⟩ => by
    have := symLs_len ks
    simp only [symL, cnt, List.length_cons, List.length_append]
    split <;> simp <;> omega
theorem symLs_len : ∀ l : List Node, (symLs l).length ≤ 2 * cnts l
  | [] => by simp [symLs]
  | k :: l => by
    have := symL_len k
    have := symLs_len l
    simp only [symLs, cnts, List.length_append]
    omega
end
theorem text_len (t : ByteArray) : t.data.toList.length = t.size := Array.length_toList
theorem symbol_m (n : Node) (hk : I64 n.kind) (ht : n.text.size ≤ 40) : m_fingerprint_symbol n = some (symOf n.kind n.text) := by
  unfold m_fingerprint_symbol
  have hl := itoa_len n.kind hk
  have htl := text_len n.text
  rw [itoa_m _ hk]
  simp only [Option.bind_some]
  rw [show (ByteArray.mk #[58]) = B [58] from rfl, catK_B (by simp; omega)]
  simp only [Option.bind_some]
  conv => lhs; rw [B_of n.text]
  rw [catK_B (by simp only [List.length_append, List.length_singleton, htl]; omega)]
  simp only [Option.bind_some]
  rw [sum_loop _ (by simp only [List.length_append, List.length_singleton, htl]; omega)]
  simp only [Option.bind_some]
  have hr := fnv_r (Lib.itoa n.kind ++ [58] ++ n.text.data.toList)
  rw [inK_eq (by omega)]
  rfl
theorem cnt_take {l : List Node} {k : Nat} : cnts (l.take k) ≤ cnts l := by
  have := cnts_app (l.take k) (l.drop k)
  rw [List.take_append_drop] at this
  omega
theorem Symbols_r : ∀ (fuel : Nat) (n : Node), SizeOf.sizeOf n < fuel → NodeWf n → short n → cnt n ≤ 1000000 → m_fingerprint_Symbols_r fuel n = some (symL n)
  | 0, n, h, _, _, _ => by omega
  | fuel + 1, n, hs, hw, hsh, hc => by
    have hw' := hw.parts
    have hsh' := (short_eq n).1 hsh
    have hc' := cnt_eq n
    show m_fingerprint_Symbols_body (m_fingerprint_Symbols_r fuel) n = _
    unfold m_fingerprint_Symbols_body
    rw [symbol_m n hw'.1 hsh'.1]
    simp only [Option.bind_some]
    have hkl := cnts_len n.kids
    refine bind_loop (fun k => ((k : Int), symOf n.kind n.text :: symLs (n.kids.take k))) n.kids.length (symOf n.kind n.text :: symLs n.kids) rfl (fun k hk => ?_) ?_ ?_
    · obtain ⟨x, hx⟩ := get_of_lt hk
      have hxm := List.mem_of_getElem? hx
      have h1 := cnts_mem hxm
      have h2 := symL_len x
      have h3 := symLs_len (n.kids.take k)
      have h4 := cnt_take (l := n.kids) (k := k)
      simp only [m_fingerprint_Symbols_body_lp1]
      rw [if_pos (by simpa using hk), idx_nat hx]
      simp only [Option.bind_some]
      rw [Symbols_r fuel x (by have := size_kid hxm; omega) (hw'.2.2.2.2.2 x hxm) (shorts_mem hsh'.2 x hxm) (by omega)]
      simp only [Option.bind_some]
      rw [app_ok (by simp only [List.length_cons]; omega)]
      simp only [Option.bind_some]
      rw [inK_succ (by omega), take_snoc_of hx, symLs_app]
      simp [symLs]
    · simp only [m_fingerprint_Symbols_body_lp1]
      rw [if_neg (by simp), List.take_length]
    · rw [symL_eq]
      have h3 := symLs_len n.kids
      by_cases h0 : n.kids.length = 0
      · rw [if_neg (by rw [decide_eq_true_eq]; omega), if_pos h0]; simp
      · rw [if_pos (decide_eq_true (by omega)), if_neg h0, app_ok (by simp only [List.length_cons, List.length_nil]; omega)]; simp
theorem SymbolsR_r : ∀ (fuel : Nat) (n : Node), SizeOf.sizeOf n < fuel → NodeWf n → short n → cnt n ≤ 1000000 → m_assessorref43_Symbols_r fuel n = some (symL n)
  | 0, n, h, _, _, _ => by omega
  | fuel + 1, n, hs, hw, hsh, hc => by
    have hw' := hw.parts
    have hsh' := (short_eq n).1 hsh
    have hc' := cnt_eq n
    have hl := itoa_len n.kind hw'.1
    have htl := text_len n.text
    show m_assessorref43_Symbols_body (m_assessorref43_Symbols_r fuel) n = _
    unfold m_assessorref43_Symbols_body
    rw [decimal_m _ hw'.1]
    simp only [Option.bind_some]
    rw [show (ByteArray.mk #[58]) = B [58] from rfl, catK_B (by simp; omega)]
    simp only [Option.bind_some]
    have ecat : catK (B (Lib.itoa n.kind ++ [58])) n.text = some (B (Lib.itoa n.kind ++ [58] ++ n.text.data.toList)) := by
      conv => lhs; rw [B_of n.text]
      exact catK_B (by simp only [List.length_append, List.length_singleton, htl]; omega)
    rw [ecat]
    simp only [Option.bind_some]
    rw [Sum_m _ (by simp only [List.length_append, List.length_singleton, htl]; omega)]
    simp only [Option.bind_some]
    have hkl := cnts_len n.kids
    refine bind_loop (fun k => ((k : Int), symOf n.kind n.text :: symLs (n.kids.take k))) n.kids.length (symOf n.kind n.text :: symLs n.kids) rfl (fun k hk => ?_) ?_ ?_
    · obtain ⟨x, hx⟩ := get_of_lt hk
      have hxm := List.mem_of_getElem? hx
      have h1 := cnts_mem hxm
      have h2 := symL_len x
      have h3 := symLs_len (n.kids.take k)
      have h4 := cnt_take (l := n.kids) (k := k)
      simp only [m_assessorref43_Symbols_body_lp1]
      rw [if_pos (by simpa using hk), idx_nat hx]
      simp only [Option.bind_some]
      rw [SymbolsR_r fuel x (by have := size_kid hxm; omega) (hw'.2.2.2.2.2 x hxm) (shorts_mem hsh'.2 x hxm) (by omega)]
      simp only [Option.bind_some]
      rw [app_ok (by simp only [List.length_cons]; omega)]
      simp only [Option.bind_some]
      rw [inK_succ (by omega), take_snoc_of hx, symLs_app]
      simp [symLs]
    · simp only [m_assessorref43_Symbols_body_lp1]
      rw [if_neg (by simp), List.take_length]
    · rw [symL_eq]
      have h3 := symLs_len n.kids
      by_cases h0 : n.kids.length = 0
      · rw [if_neg (by rw [decide_eq_true_eq]; omega), if_pos h0]; simp
      · rw [if_pos (decide_eq_true (by omega)), if_neg h0, app_ok (by simp only [List.length_cons, List.length_nil]; omega)]; simp
theorem Symbols_m (n : Node) (hw : NodeWf n) (hsh : short n) (hc : cnt n ≤ 1000000) : m_fingerprint_Symbols n = some (symL n) := Symbols_r _ n (by omega) hw hsh hc
theorem SymbolsR_m (n : Node) (hw : NodeWf n) (hsh : short n) (hc : cnt n ≤ 1000000) : m_assessorref43_Symbols n = some (symL n) := SymbolsR_r _ n (by omega) hw hsh hc
def marksE (n : Node) (k w : Int) : List Mark × Int := if okK k && okK w then (if 2048 < ((symL n).length : Int) then ([], 8) else winE (hashesL (symL n) k.toNat) w) else ([], 2)
theorem Marks_m (n : Node) (k w : Int) (hw : NodeWf n) (hsh : short n) (hc : cnt n ≤ 1000000) : m_fingerprint_Marks n k w = some (marksE n k w) := by
  unfold m_fingerprint_Marks marksE
  simp only [ranged_m, Option.bind_some, Symbols_m n hw hsh hc, Hashes_m]
  cases hk : okK k with
  | false => simp
  | true =>
    cases hw2 : okK w with
    | false => simp
    | true =>
      simp only [Bool.not_true, Bool.false_eq_true, if_false, Option.bind_some, Bool.and_self, if_true]
      unfold hashesE
      rw [hk]
      simp only [Bool.true_eq_false, if_false]
      by_cases h : 2048 < ((symL n).length : Int)
      · simp [h]
      · rw [if_neg h, if_neg h]
        simp [Winnow_m]
theorem MarksR_m (n : Node) (k w : Int) (hw : NodeWf n) (hsh : short n) (hc : cnt n ≤ 1000000) : m_assessorref43_Marks n k w = some (marksE n k w) := by
  unfold m_assessorref43_Marks marksE
  simp only [SymbolsR_m n hw hsh hc, HashesR_m, Option.bind_some]
  by_cases hc : ((decide (w < 1)) || (decide (64 < w))) = true
  · rw [if_pos hc]
    have : okK w = false := by simp [okK] at hc ⊢; omega
    simp [this]
  · rw [if_neg hc]
    have hw2 : okK w = true := by rw [okK_iff]; simp at hc; omega
    unfold hashesE
    rw [hw2]
    cases hk : okK k with
    | false => simp
    | true =>
      simp only [Bool.true_eq_false, if_false, Bool.and_self, if_true]
      by_cases h : 2048 < ((symL n).length : Int)
      · simp [h]
      · rw [if_neg h, if_neg h]
        simp [WinnowR_m]
end Go.Proofs.YtlnhijgieblmgaaDoor

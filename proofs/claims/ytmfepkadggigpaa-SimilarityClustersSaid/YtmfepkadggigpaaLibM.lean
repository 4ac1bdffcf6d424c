/-
  The library's contracts, together; the sorts of overlaps and of pairs.
-/
import Derived.Test.YtmfepkadggigpaaLibN
import Derived.Test.YtmfepkadggigpaaLibD2
import Derived.Test.YtmfepkadggigpaaLibO
import Derived.Test.YtmfepkadggigpaaLibQ
import Derived.Test.YtmfepkadggigpaaRow
import Derived.Test.YtmfepkadggigpaaClr
import Derived.Shelf.SlSortCmp.NoneTotal
set_option linter.unusedVariables false
set_option linter.unusedSimpArgs false
namespace Go.Proofs.Ytmfepkadggigpaa
open Go.RowKit Go.Sort
theorem or3_neg {a b c : Int} : (or3 a b c < 0) ↔ (a < 0 ∨ a = 0 ∧ (b < 0 ∨ b = 0 ∧ c < 0)) := by
  unfold or3
  split
  · rename_i h; constructor
    · intro h1; exact Or.inl h1
    · rintro (h1 | ⟨h1, _⟩)
      · exact h1
      · exact absurd h1 h
  · rename_i h
    have ha : a = 0 := by simpa using h
    split
    · rename_i h2; subst ha; constructor
      · intro h1; exact Or.inr ⟨rfl, Or.inl h1⟩
      · rintro (h1 | ⟨_, h1 | ⟨h1, _⟩⟩)
        · omega
        · exact h1
        · exact absurd h1 h2
    · rename_i h2
      have hb : b = 0 := by simpa using h2
      subst ha; subst hb
      constructor
      · intro h1; exact Or.inr ⟨rfl, Or.inr ⟨rfl, h1⟩⟩
      · rintro (h1 | ⟨_, h1 | ⟨_, h1⟩⟩)
        · omega
        · omega
        · exact h1
theorem cmpI_neg {a b : Int} : Lib.compareInt a b < 0 ↔ a < b := by
  unfold Lib.compareInt
  by_cases h1 : a < b
  · simp [h1]
  · by_cases h2 : b < a <;> simp [h1, h2]
theorem cmpI_zero {a b : Int} : Lib.compareInt a b = 0 ↔ a = b := by
  unfold Lib.compareInt
  by_cases h1 : a < b
  · simp [h1]; omega
  · by_cases h2 : b < a
    · simp [h1, h2]; omega
    · simp [h1, h2]; omega
/-- How two overlaps are compared. -/
def cfO (x y : Overlap) : Int := or3 (Lib.compareInt y.len x.len) (Lib.compareInt x.a y.a) (Lib.compareInt x.b y.b)
instance : Inhabited Overlap := ⟨⟨0, 0, 0⟩⟩
theorem closureO (x y : Overlap) (W : World) : Calls Try.prog 54 (#[.agg (Enc.enc x).toArray, .agg (Enc.enc y).toArray] ++ #[]) W fun e w' => e = .returned (.int .i64 (cfO x y)) ∧ ∃ q os', w' = grow (W.drewN q) os' := by
  refine (closureO_ (Z := W) (ρ := hp W) (L := []) x y (hp_whole W) (Tr.refl W)).mono ?_
  rintro e w' ⟨v, rfl, rfl, q, os, rfl⟩
  exact ⟨rfl, q, os, rfl⟩
theorem ltO (x y : Overlap) : ltOf cfO x y = ovLt x y := by
  unfold ltOf cfO ovLt
  rw [decide_eq_decide, or3_neg, cmpI_neg, cmpI_neg, cmpI_neg, cmpI_zero, cmpI_zero]
theorem swoO : SWO (ltOf cfO) where
  irrefl x := by rw [ltO]; unfold ovLt; simp
  trans x y z h1 h2 := by rw [ltO] at *; unfold ovLt at *; simp only [decide_eq_true_eq] at *; omega
  ntrans x y z h1 h2 := by rw [ltO] at *; unfold ovLt at *; simp only [decide_eq_false_iff_not] at *; omega
theorem totO (x y : Overlap) (h1 : ltOf cfO x y = false) (h2 : ltOf cfO y x = false) : x = y := by
  rw [ltO] at *
  unfold ovLt at *
  simp only [decide_eq_false_iff_not] at *
  obtain ⟨a, b, c⟩ := x
  obtain ⟨a', b', c'⟩ := y
  simp only [Overlap.mk.injEq] at *
  omega
section
variable {Z : World} {ρ : PH} {L : List Atom} {w : World}
theorem ov3 (a : Overlap) : (Enc.enc a).length = 3 := rfl
theorem c_sortO (l : List Overlap) (v : Value) (hp : Hp Z ρ (OwnSl 63 v l :: L) w) (r : List Overlap) (hm : m_sortO l = some r) :
    Calls Try.prog 53 #[v, .func (.func 54) #[] #[]] w (Ret fun u w' => u = .tuple #[] ∧ Hp Z ρ (OwnSl 63 v r :: L) w') := by
  unfold m_sortO at hm
  split at hm
  · rename_i hlen
    simp only [Option.some.injEq] at hm
    subst hm
    have none_ : ∀ A c, v = .slice A 0 c → l = [] → Calls Try.prog 53 #[v, .func (.func 54) #[] #[]] w (Ret fun u w' => u = .tuple #[] ∧ Hp Z ρ (OwnSl 63 v (l.mergeSort fun x y => !ovLt y x) :: L) w') := by
      rintro A c rfl rfl
      have h0 : Calls Try.prog 53 #[.slice A 0 c, .func (.func 54) #[] #[]] w (fun e w' => e = .returned (.tuple #[]) ∧ w' = w) := AnyF.slices_SortFunc_none Try.sortOv A c _ w
      refine h0.mono ?_
      rintro e w' ⟨rfl, rfl⟩
      exact ⟨_, rfl, rfl, by simpa using hp⟩
    rcases hp.row.2 with ⟨A, hv, hn⟩ | ⟨g, off, cap, cur, hv, _⟩
    · exact none_ A 0 hv (List.eq_nil_of_length_eq_zero hn)
    · rcases Nat.eq_zero_or_pos l.length with h0 | h0
      · exact none_ _ cap (by rw [hv, h0]) (List.eq_nil_of_length_eq_zero h0)
      · subst hv
        obtain ⟨hH, hg⟩ := OwnSl.holdsK hp h0
        have eg : ∀ args w, (callFunc 54 args).run Try.prog w = .ok (.enter 54 args) w := enters Try.func54 (by kernel_rfl) rfl
        have hcon : Calls Try.prog 53 #[.slice (some ⟨g, off, none⟩) l.toArray.size cap, .func (.func 54) #[] #[]] w (fun e w' =>
            e = .returned (.tuple #[]) ∧ ∃ n os, w' = sortWorldK Enc.enc 3 w g off n (l.toArray.toList.mergeSort fun x y => !(ltOf cfO) y x).toArray os) :=
          AnyQ.slices_SortFunc_total Try.sortOv 3 Try.isAgg63 Try.sizeOf63 Enc.enc ov3 Enc.one cfO swoO 54 #[] g off cap l.toArray w eg (fun _ _ _ _ x y => closureO x y _) hH hg (by simp; omega) totO
        rw [List.size_toArray] at hcon
        refine hcon.mono ?_
        rintro e w' ⟨rfl, n, os, rfl⟩
        have e2 : (fun x y : Overlap => !(ltOf cfO) y x) = fun x y => !ovLt y x := by funext x y; rw [ltO]
        rw [e2]
        refine ⟨_, rfl, rfl, ?_⟩
        have := OwnSl.sortK (m := n) (os := os) (l' := l.mergeSort fun x y => !ovLt y x) hp h0 (by simp)
        exact this
  · cases hm
end

/-! ### Pairs -/
/-- Pairs whose numbers are small. -/
structure PairOk where
  val : Pair
  ok : prOk val = true
instance : Inhabited PairOk := ⟨⟨⟨0, 0, 0, 1⟩, by decide⟩⟩
instance : Enc PairOk := ⟨4, fun p => Enc.enc p.1, fun p => Enc.len p.1, fun p => Enc.one p.1, by decide⟩
def cfP (x y : PairOk) : Int := or3 (Lib.compareInt (y.1.shared * x.1.total) (x.1.shared * y.1.total)) (Lib.compareInt x.1.a y.1.a) (Lib.compareInt x.1.b y.1.b)
theorem prOk_iff {p : Pair} : prOk p = true ↔ 0 ≤ p.shared ∧ p.shared < 2147483648 ∧ 0 < p.total ∧ p.total < 2147483648 := by unfold prOk; rw [decide_eq_true_eq]
theorem prod_ok {s t : Int} (h1 : 0 ≤ s) (h2 : s < 2147483648) (h3 : 0 < t) (h4 : t < 2147483648) : inK .i64 (s * t) = some (s * t) := by
  have a1 : 0 ≤ s * t := Int.mul_nonneg h1 (by omega)
  have a2 : s * t ≤ 2147483648 * 2147483648 := Int.mul_le_mul (by omega) (by omega) (by omega) (by omega)
  exact inK_ok _ (by omega) (by omega)
theorem closureP (x y : PairOk) (W : World) : Calls Try.prog 44 (#[.agg (Enc.enc x).toArray, .agg (Enc.enc y).toArray] ++ #[]) W fun e w' => e = .returned (.int .i64 (cfP x y)) ∧ ∃ q os', w' = grow (W.drewN q) os' := by
  obtain ⟨a1, a2, a3, a4⟩ := prOk_iff.1 x.2
  obtain ⟨b1, b2, b3, b4⟩ := prOk_iff.1 y.2
  refine (closureP_ (Z := W) (ρ := hp W) (L := []) x.1 y.1 (prod_ok b1 b2 a3 a4) (prod_ok a1 a2 b3 b4) (hp_whole W) (Tr.refl W)).mono ?_
  rintro e w' ⟨v, rfl, rfl, q, os, rfl⟩
  exact ⟨rfl, q, os, rfl⟩
theorem ltP (x y : PairOk) : ltOf cfP x y = prLt x.1 y.1 := by
  obtain ⟨a1, a2, a3, a4⟩ := prOk_iff.1 x.2
  obtain ⟨b1, b2, b3, b4⟩ := prOk_iff.1 y.2
  have e1 : prT x.1 = x.1.total := by unfold prT; omega
  have e2 : prT y.1 = y.1.total := by unfold prT; omega
  unfold ltOf cfP prLt
  rw [decide_eq_decide, or3_neg, cmpI_neg, cmpI_neg, cmpI_neg, cmpI_zero, cmpI_zero, e1, e2]
theorem swoP : SWO (ltOf cfP) where
  irrefl x := by rw [ltP]; unfold prLt; simp
  trans x y z h1 h2 := by
    rw [ltP] at *
    cases h : prLt x.1 z.1 with
    | true => rfl
    | false =>
      have hzx : prLe z.1 x.1 = true := by unfold prLe; rw [h]; rfl
      have hxy : prLe x.1 y.1 = true := by
        have := prLe_total x.1 y.1
        rw [Bool.or_eq_true] at this
        rcases this with h3 | h3
        · exact h3
        · unfold prLe at h3; rw [h1] at h3; cases h3
      have := prLe_trans _ _ _ hzx hxy
      unfold prLe at this
      rw [h2] at this
      cases this
  ntrans x y z h1 h2 := by
    rw [ltP] at *
    have hyx : prLe y.1 x.1 = true := by unfold prLe; rw [h1]; rfl
    have hzy : prLe z.1 y.1 = true := by unfold prLe; rw [h2]; rfl
    have := prLe_trans _ _ _ hzy hyx
    unfold prLe at this
    simpa using this
theorem pr4 (a : PairOk) : (Enc.enc a).length = 4 := rfl
section
variable {Z : World} {ρ : PH} {L : List Atom} {w : World}
theorem flat_val (ls : List PairOk) : flat (ls.map PairOk.val) = flat ls := by
  unfold flat
  rw [List.flatMap_map]
  rfl
theorem own_val (T : TypeId) (v : Value) (ls : List PairOk) : OwnSl T v (ls.map PairOk.val) = OwnSl T v ls := by
  unfold OwnSl
  rw [flat_val, List.length_map]
  rfl
theorem lift_ok : ∀ (l : List Pair), l.all prOk = true → ∃ ls : List PairOk, ls.map PairOk.val = l
  | [], _ => ⟨[], rfl⟩
  | p :: l, h => by
    rw [List.all_cons, Bool.and_eq_true] at h
    obtain ⟨ls, e⟩ := lift_ok l h.2
    exact ⟨⟨p, h.1⟩ :: ls, by rw [List.map_cons, e]⟩
theorem c_sortP (l : List Pair) (v : Value) (hp : Hp Z ρ (OwnSl 52 v l :: L) w) (r : List Pair) (hm : m_sortP l = some r) :
    Calls Try.prog 43 #[v, .func (.func 44) #[] #[]] w (Ret fun u w' => u = .tuple #[] ∧ Hp Z ρ (OwnSl 52 v r :: L) w') := by
  unfold m_sortP at hm
  split at hm
  · rename_i hh
    obtain ⟨hlen, hall, hnd⟩ := hh
    simp only [Option.some.injEq] at hm
    subst hm
    obtain ⟨ls, rfl⟩ := lift_ok l hall
    have none_ : ∀ A c, v = .slice A 0 c → ls = [] → Calls Try.prog 43 #[v, .func (.func 44) #[] #[]] w (Ret fun u w' => u = .tuple #[] ∧ Hp Z ρ (OwnSl 52 v ((ls.map PairOk.val).mergeSort fun x y => !prLt y x) :: L) w') := by
      rintro A c rfl rfl
      have h0 : Calls Try.prog 43 #[.slice A 0 c, .func (.func 44) #[] #[]] w (fun e w' => e = .returned (.tuple #[]) ∧ w' = w) := AnyF.slices_SortFunc_none Try.sortPr A c _ w
      refine h0.mono ?_
      rintro e w' ⟨rfl, rfl⟩
      exact ⟨_, rfl, rfl, by simpa using hp⟩
    have hp2 : Hp Z ρ (OwnSl 52 v ls :: L) w := by rw [← own_val]; exact hp
    rcases hp2.row.2 with ⟨A, hv, hn⟩ | ⟨g, off, cap, cur, hv, _⟩
    · exact none_ A 0 hv (List.eq_nil_of_length_eq_zero hn)
    · rcases Nat.eq_zero_or_pos ls.length with h0 | h0
      · exact none_ _ cap (by rw [hv, h0]) (List.eq_nil_of_length_eq_zero h0)
      · subst hv
        obtain ⟨hH, hg⟩ := OwnSl.holdsK hp2 h0
        have eg : ∀ args w, (callFunc 44 args).run Try.prog w = .ok (.enter 44 args) w := enters Try.func44 (by kernel_rfl) rfl
        have hll : ls.length < 4294967297 := by simpa using hlen
        have hcon : Calls Try.prog 43 #[.slice (some ⟨g, off, none⟩) ls.toArray.size cap, .func (.func 44) #[] #[]] w (fun e w' =>
            e = .returned (.tuple #[]) ∧ ∃ d' n os, PermIn 0 ls.toArray.size ls.toArray d' ∧ SortedIn (ltOf cfP) 0 ls.toArray.size d' ∧ w' = sortWorldK Enc.enc 4 w g off n d' os) :=
          AnyQ.slices_SortFunc Try.sortPr 4 Try.isAgg52 Try.sizeOf52 Enc.enc pr4 Enc.one cfP swoP 44 #[] g off cap ls.toArray w eg (fun _ _ _ _ x y => closureP x y _) hH hg (by simp; omega)
        rw [List.size_toArray] at hcon
        refine hcon.mono ?_
        rintro e w' ⟨rfl, d', n, os, ⟨hs, _, hpm⟩, hso, rfl⟩
        refine ⟨_, rfl, rfl, ?_⟩
        have hs' : d'.size = ls.length := by simpa using hs
        have hpm' : d'.toList.Perm ls := by
          have e1 : d'.extract 0 ls.length = d' := by rw [← hs']; simp
          have e2 : ls.toArray.extract 0 ls.length = ls.toArray := by simp
          rw [e1, e2] at hpm
          exact hpm
        have hsort : (d'.toList.map PairOk.val).Pairwise fun x y => prLe x y = true := by
          rw [List.pairwise_map, List.pairwise_iff_getElem]
          intro i j hi hj hij
          have h9 := hso i j (Nat.zero_le _) hij (by simpa [hs'] using hj)
          rw [ltP] at h9
          unfold prLe
          simp only [Array.length_toList] at hi hj
          rw [getElem!_pos d' j hj, getElem!_pos d' i hi] at h9
          simp only [Array.getElem_toList]
          rw [h9]; rfl
        have heq := prSorted hnd (hpm'.map PairOk.val) hsort
        rw [← heq]
        have h10 := OwnSl.sortK (m := n) (os := os) (l' := d'.toList) hp2 h0 (by simp [hs'])
        have e4 : d'.toList.toArray = d' := by simp
        rw [e4] at h10
        rw [own_val]
        exact h10
  · cases hm
end
end Go.Proofs.Ytmfepkadggigpaa

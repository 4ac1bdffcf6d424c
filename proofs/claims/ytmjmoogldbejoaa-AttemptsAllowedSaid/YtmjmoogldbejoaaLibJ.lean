/-
  The shelf's contracts on slices of integers, over owned slices and slices that are only read: Sort, Contains, Equal.
-/
import Derived.Test.YtmjmoogldbejoaaLibI
import Derived.Test.YtmjmoogldbejoaaShelf
set_option linter.unusedVariables false
set_option linter.unusedSimpArgs false
namespace Go.Proofs.Ytmjmoogldbejoaa
open Go.RowKit Go.Sort
section
variable {Z : World} {ρ : PH} {L : List Atom} {w : World}
theorem c_sortI (l : List Int) (v : Value) (hp : Hp Z ρ (OwnSl 3 v l :: L) w) (r : List Int) (hm : m_sortI l = some r) :
    Calls Try.prog 33 #[v] w (Ret fun u w' => u = .tuple #[] ∧ Hp Z ρ (OwnSl 3 v r :: L) w') := by
  unfold m_sortI at hm
  split at hm
  · rename_i hlen
    simp only [Option.some.injEq] at hm
    subst hm
    rcases hp.row.2 with ⟨A, rfl, hn⟩ | ⟨g, cap, cur, rfl, hpt, h1, h2, h3, h4⟩
    · have hl := List.eq_nil_of_length_eq_zero hn
      subst hl
      refine (Try.slices_Sort_int_none A 0 w).mono ?_
      rintro e w' ⟨rfl, rfl⟩
      exact ⟨_, rfl, rfl, by simpa using hp⟩
    · have hg := hpt.look 0 rfl
      refine (Try.slices_Sort_int g 0 cap l w (holds_of_blockI hg (by rw [← flat_int, ← h4]; congr 1; exact (Nat.mul_one _).symm)) (Array.getElem?_eq_some_iff.1 hg).1 (by omega)).mono ?_
      rintro e w' ⟨rfl, m, os, rfl⟩
      exact ⟨_, rfl, rfl, hpt.sortI (by simp) h1 h2 h3⟩
  · cases hm
theorem c_containsI (l : List Int) (v : Value) (h : RoSl ρ v l) (x : Int) (hp : Hp Z ρ L w) (r : Bool) (hm : m_containsI l x = some r) :
    Calls Try.prog 21 #[v, .int .i64 x] w (Ret fun u w' => u = .bool r ∧ Hp Z ρ L w') := by
  unfold m_containsI at hm
  split at hm
  · simp only [Option.some.injEq] at hm
    subst hm
    rcases h.ints hp with ⟨b, o, c, rfl, hc⟩ | ⟨A, c, rfl, rfl⟩
    · refine (Try.slices_Contains_int b o l.length c l x w (Nat.le_refl _) (by omega) hc).mono ?_
      rintro e w' ⟨rfl, rfl⟩
      exact ⟨_, rfl, by rw [List.take_length], hp⟩
    · refine (Try.slices_Contains_int_empty A c x w).mono ?_
      rintro e w' ⟨rfl, rfl⟩
      exact ⟨_, rfl, by simp, hp⟩
  · cases hm
theorem c_equalI (l : List Int) (v : Value) (h : RoSl ρ v l) (m : List Int) (v2 : Value) (h2 : RoSl ρ v2 m) (hp : Hp Z ρ L w) (r : Bool) (hm : m_equalI l m = some r) :
    Calls Try.prog 27 #[v, v2] w (Ret fun u w' => u = .bool r ∧ Hp Z ρ L w') := by
  unfold m_equalI at hm
  split at hm
  · simp only [Option.some.injEq] at hm
    subst hm
    rcases h.ints hp with ⟨b, o, c, rfl, hc⟩ | ⟨A, c, rfl, rfl⟩
    · rcases h2.ints hp with ⟨b', o', c', rfl, hc'⟩ | ⟨A', c', rfl, rfl⟩
      · refine (Try.slices_Equal_int b o l.length c b' o' m.length c' l m w (Nat.le_refl _) (Nat.le_refl _) (by omega) (by omega) hc hc').mono ?_
        rintro e w' ⟨rfl, q, rfl⟩
        exact ⟨_, rfl, by rw [List.take_length, List.take_length], hp.drewN q⟩
      · rcases Nat.eq_zero_or_pos l.length with h0 | h0
        · have hl := List.eq_nil_of_length_eq_zero h0
          subst hl
          refine (Try.slices_Equal_int_empty _ A' c 0 c' w (by omega)).mono ?_
          rintro e w' ⟨rfl, rfl⟩
          exact ⟨_, rfl, by simp, hp⟩
        · refine (Try.slices_Equal_int_lens _ A' l.length c 0 c' w (by omega)).mono ?_
          rintro e w' ⟨rfl, rfl⟩
          refine ⟨_, rfl, ?_, hp⟩
          cases l with
          | nil => simp at h0
          | cons x l => rfl
    · obtain ⟨A', c', rfl⟩ := h2.shape
      refine (Try.slices_Equal_int_empty A A' c m.length c' w (by omega)).mono ?_
      rintro e w' ⟨rfl, rfl⟩
      refine ⟨_, rfl, ?_, hp⟩
      cases m with
      | nil => rfl
      | cons x m => simp
  · cases hm
end
end Go.Proofs.Ytmjmoogldbejoaa

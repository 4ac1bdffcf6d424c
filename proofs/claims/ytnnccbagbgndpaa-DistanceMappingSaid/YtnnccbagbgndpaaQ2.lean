/-
  Subtrees in postorder, and what is left of a tree where its last nodes are taken away. No program is named.
-/
import Derived.Test.YtnnccbagbgndpaaQ1
set_option linter.unusedVariables false
set_option linter.unusedSimpArgs false
namespace Go.Proofs.Ytnnccbagbgndpaa
def kidsT : Tr → List Tr
  | .node _ ks => ks
def labT : Tr → Lbl
  | .node l _ => l
theorem szT_kids (t : Tr) : szT t = szL (kidsT t) + 1 := by obtain ⟨l, ks⟩ := t; rfl
theorem szT_pos (t : Tr) : 0 < szT t := by rw [szT_kids]; omega
theorem szL_one (t : Tr) : szL [t] = szT t := by simp [szL]
/-- The subtrees, the rightmost root first. -/
def rp : List Tr → List Tr
  | [] => []
  | .node a ks :: F => .node a ks :: rp (ks ++ F)
termination_by F => szL F
decreasing_by simp only [szL, szT, szL_app]; omega
theorem rp_nil : rp [] = [] := by rw [rp]
theorem rp_cons (t : Tr) (F : List Tr) : rp (t :: F) = t :: rp (kidsT t ++ F) := by obtain ⟨a, ks⟩ := t; rw [rp]; rfl
theorem rp_app (F G : List Tr) : rp (F ++ G) = rp F ++ rp G := by
  match F with
  | [] => simp [rp_nil]
  | t :: F =>
    have := rp_app (kidsT t ++ F) G
    rw [List.cons_append, rp_cons, rp_cons, ← List.append_assoc, this]; rfl
termination_by szL F
decreasing_by simp only [szL, szL_app, szT_kids]; omega
theorem rp_len (F : List Tr) : (rp F).length = szL F := by
  match F with
  | [] => simp [rp_nil, szL]
  | t :: F =>
    have := rp_len (kidsT t ++ F)
    rw [rp_cons, List.length_cons, this, szL_app]; simp only [szL, szT_kids]; omega
termination_by szL F
decreasing_by simp only [szL, szL_app, szT_kids]; omega
/-- The subtrees in postorder. -/
def po (F : List Tr) : List Tr := (rp F).reverse
theorem po_nil : po [] = [] := by simp [po, rp_nil]
theorem po_app (F G : List Tr) : po (F ++ G) = po G ++ po F := by simp [po, rp_app]
theorem po_len (F : List Tr) : (po F).length = szL F := by simp [po, rp_len]
theorem po_tree (t : Tr) : po [t] = po (kidsT t) ++ [t] := by simp [po, rp_cons]
theorem po_cons (t : Tr) (F : List Tr) : po (t :: F) = po F ++ po [t] := po_app [t] F
theorem po_lenT (t : Tr) : (po [t]).length = szT t := by rw [po_len, szL_one]
/-- A subtree's own nodes lie one behind the other, itself the last. -/
theorem po_seg (F : List Tr) {i : Nat} {t : Tr} (h : (po F)[i]? = some t) : szT t ≤ i + 1 ∧ ((po F).take (i + 1)).drop (i + 1 - szT t) = po [t] := by
  match F with
  | [] => simp [po_nil] at h
  | u :: F =>
    have e : po (u :: F) = po F ++ (po (kidsT u) ++ [u]) := by rw [po_cons, po_tree]
    rw [e] at h ⊢
    have l1 := po_len F
    have l2 := po_len (kidsT u)
    rcases Nat.lt_or_ge i (szL F) with h1 | h1
    · rw [List.getElem?_append_left (by omega)] at h
      have := po_seg F h
      refine ⟨this.1, ?_⟩
      rw [List.take_append_of_le_length (by omega)]
      exact this.2
    · rw [List.getElem?_append_right (by omega)] at h
      rw [List.take_append, List.take_of_length_le (by omega), l1]
      rcases Nat.lt_or_ge (i - szL F) (szL (kidsT u)) with h2 | h2
      · rw [List.getElem?_append_left (by omega), l1] at h
        have := po_seg (kidsT u) h
        refine ⟨by omega, ?_⟩
        rw [List.drop_append, l1, List.drop_of_length_le (by omega), List.nil_append, List.take_append_of_le_length (by omega), ← this.2]
        congr 1
        · omega
        · congr 1; omega
      · have hi : i - szL F = szL (kidsT u) := by
          have := (List.getElem?_eq_some_iff.1 h).1
          simp only [List.length_append, l2, List.length_singleton] at this
          omega
        rw [l1, hi, List.getElem?_append_right (by omega), l2, Nat.sub_self] at h
        simp only [List.getElem?_cons_zero, Option.some.injEq] at h
        subst h
        have hs := szT_kids u
        refine ⟨by omega, ?_⟩
        rw [List.take_of_length_le (by simp [l2]; omega), show i + 1 - szT u = (po F).length by omega, List.drop_left, po_tree]
termination_by szL F
decreasing_by all_goals (simp only [szL, szT_kids]; omega)
/-- The last r nodes are taken away. -/
def cut : Nat → List Tr → List Tr
  | 0, E => E
  | _ + 1, [] => []
  | r + 1, t :: F => cut r (kidsT t ++ F)
theorem cut_nil : ∀ r, cut r [] = []
  | 0 => rfl
  | _ + 1 => rfl
theorem rp_cut : ∀ (r : Nat) (E : List Tr), rp (cut r E) = (rp E).drop r
  | 0, E => rfl
  | r + 1, [] => by simp [cut, rp_nil]
  | r + 1, t :: F => by rw [cut, rp_cut r, rp_cons, List.drop_succ_cons]
theorem cut_add : ∀ (r q : Nat) (E : List Tr), cut (r + q) E = cut q (cut r E)
  | 0, q, E => by rw [Nat.zero_add]; rfl
  | r + 1, q, [] => by rw [cut_nil, cut_nil, cut_nil]
  | r + 1, q, t :: F => by rw [show r + 1 + q = (r + q) + 1 by omega, cut, cut, cut_add r q]
theorem cut_all (A F : List Tr) : cut (szL A) (A ++ F) = F := by
  match A with
  | [] => rfl
  | t :: A =>
    have := cut_all (kidsT t ++ A) F
    rw [show szL (t :: A) = szL (kidsT t ++ A) + 1 by simp only [szL, szL_app, szT_kids]; omega, List.cons_append, cut, ← List.append_assoc, this]
termination_by szL A
decreasing_by simp only [szL, szL_app, szT_kids]; omega
/-- The first x nodes of a tree. -/
def fr (t : Tr) (x : Nat) : List Tr := cut (szT t - x) [t]
theorem po_fr (t : Tr) {x : Nat} (h : x ≤ szT t) : po (fr t x) = (po [t]).take x := by
  unfold po fr
  rw [rp_cut, List.reverse_drop, rp_len, szL_one]
  congr 1; omega
theorem sz_fr (t : Tr) {x : Nat} (h : x ≤ szT t) : szL (fr t x) = x := by
  rw [← po_len, po_fr t h, List.length_take, po_lenT]; omega
theorem fr_full (t : Tr) : fr t (szT t) = [t] := by unfold fr; rw [Nat.sub_self]; rfl
theorem fr_zero (t : Tr) : fr t 0 = [] := by
  unfold fr
  have := cut_all [t] []
  rw [List.append_nil, szL_one] at this
  rw [Nat.sub_zero]; exact this
theorem fr_succ (t : Tr) {x : Nat} (h : x < szT t) {u : Tr} (hu : (po [t])[x]? = some u) : szT u ≤ x + 1 ∧ fr t (x + 1) = u :: fr t (x + 1 - szT u) ∧ fr t x = kidsT u ++ fr t (x + 1 - szT u) := by
  have hsz := sz_fr t (x := x + 1) (by omega)
  have hpo := po_fr t (x := x + 1) (by omega)
  cases he : fr t (x + 1) with
  | nil => rw [he] at hsz; simp [szL] at hsz
  | cons v F =>
    rw [he] at hsz hpo
    have hv : v = u := by
      rw [po_cons, po_tree] at hpo
      have h1 := congrArg List.getLast? hpo
      rw [← List.append_assoc, List.getLast?_concat, List.getLast?_take] at h1
      rw [if_neg (by omega), show x + 1 - 1 = x by omega, hu] at h1
      simpa using h1
    subst hv
    simp only [szL] at hsz
    have hcut : cut (szT t - (x + 1)) [t] = v :: F := he
    have hF : fr t (x + 1 - szT v) = F := by
      unfold fr
      rw [show szT t - (x + 1 - szT v) = (szT t - (x + 1)) + szT v by omega, cut_add, hcut]
      have := cut_all [v] F
      rw [szL_one] at this; exact this
    refine ⟨by omega, by rw [hF], ?_⟩
    rw [hF]
    unfold fr
    rw [show szT t - x = (szT t - (x + 1)) + 1 by omega, cut_add, hcut]
    rfl
/-- What a cell of the tables holds. -/
theorem fd_fr (t t' : Tr) {x y : Nat} (hx : x < szT t) (hy : y < szT t') {u u' : Tr} (hu : (po [t])[x]? = some u) (hu' : (po [t'])[y]? = some u') :
    fd (fr t (x + 1)) (fr t' (y + 1)) = min (fd (fr t x) (fr t' (y + 1)) + 1) (min (fd (fr t (x + 1)) (fr t' y) + 1) (if szT u = x + 1 ∧ szT u' = y + 1 then fd (fr t x) (fr t' y) + rl (labT u) (labT u') else fd (fr t (x + 1 - szT u)) (fr t' (y + 1 - szT u')) + fd [u] [u'])) := by
  obtain ⟨h1, h2, h3⟩ := fr_succ t hx hu
  obtain ⟨k1, k2, k3⟩ := fr_succ t' hy hu'
  split
  · rename_i hh
    obtain ⟨e1, e2⟩ := hh
    rw [e1, Nat.sub_self, fr_zero] at h2 h3
    rw [e2, Nat.sub_self, fr_zero] at k2 k3
    rw [h2, h3, k2, k3]
    obtain ⟨a, ks⟩ := u
    obtain ⟨b, ls⟩ := u'
    rw [fd_c, fd_nil, Nat.zero_add]
    simp only [kidsT, labT, List.append_nil]
  · rw [h2, h3, k2, k3]
    obtain ⟨a, ks⟩ := u
    obtain ⟨b, ls⟩ := u'
    rw [fd_tab]
    rfl
end Go.Proofs.Ytnnccbagbgndpaa

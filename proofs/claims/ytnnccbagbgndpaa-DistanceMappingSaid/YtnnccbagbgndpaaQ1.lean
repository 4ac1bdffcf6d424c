/-
  The distance of forests, by recursion at the rightmost root: its laws. No program is named. (A tree's children are held from the right to the left.)
-/
import Derived.Test.YtnnccbagbgndpaaTy
set_option linter.unusedVariables false
set_option linter.unusedSimpArgs false
namespace Go.Proofs.Ytnnccbagbgndpaa
inductive Tr where
  | node (l : Lbl) (ks : List Tr)
mutual
def szT : Tr → Nat
  | .node _ ks => szL ks + 1
def szL : List Tr → Nat
  | [] => 0
  | t :: ts => szT t + szL ts
end
theorem szL_app : ∀ (F G : List Tr), szL (F ++ G) = szL F + szL G
  | [], G => by simp [szL]
  | t :: F, G => by simp [szL, szL_app F G]; omega
/-- What it costs to give a node another label. -/
def rl (a b : Lbl) : Nat := if a = b then 0 else 1
theorem rl_le (a b : Lbl) : rl a b ≤ 1 := by unfold rl; split <;> omega
theorem rl_self (a : Lbl) : rl a a = 0 := by simp [rl]
theorem rl_comm (a b : Lbl) : rl a b = rl b a := by
  unfold rl
  by_cases h : a = b
  · simp [h]
  · rw [if_neg h, if_neg (fun e => h e.symm)]
theorem rl_tri (a b c : Lbl) : rl a c ≤ rl a b + rl b c := by
  unfold rl
  by_cases h : a = b
  · subst h; simp
  · rw [if_neg h]; split <;> omega
def fd : List Tr → List Tr → Nat
  | [], [] => 0
  | .node a ks :: F, [] => fd (ks ++ F) [] + 1
  | [], .node b ls :: G => fd [] (ls ++ G) + 1
  | .node a ks :: F, .node b ls :: G => min (fd (ks ++ F) (.node b ls :: G) + 1) (min (fd (.node a ks :: F) (ls ++ G) + 1) (fd F G + fd ks ls + rl a b))
termination_by F G => szL F + szL G
decreasing_by all_goals (simp only [szL, szT, szL_app]; omega)
theorem fd_nil : fd [] [] = 0 := by rw [fd]
theorem fd_l (a : Lbl) (ks F : List Tr) : fd (.node a ks :: F) [] = fd (ks ++ F) [] + 1 := by rw [fd]
theorem fd_r (b : Lbl) (ls G : List Tr) : fd [] (.node b ls :: G) = fd [] (ls ++ G) + 1 := by rw [fd]
theorem fd_c (a b : Lbl) (ks F ls G : List Tr) : fd (.node a ks :: F) (.node b ls :: G) = min (fd (ks ++ F) (.node b ls :: G) + 1) (min (fd (.node a ks :: F) (ls ++ G) + 1) (fd F G + fd ks ls + rl a b)) := by rw [fd]
theorem fd_del (a : Lbl) (ks F G : List Tr) : fd (.node a ks :: F) G ≤ fd (ks ++ F) G + 1 := by
  cases G with
  | nil => rw [fd_l]; exact Nat.le_refl _
  | cons g G => obtain ⟨b, ls⟩ := g; rw [fd_c]; exact Nat.min_le_left _ _
theorem fd_ins (b : Lbl) (ls F G : List Tr) : fd F (.node b ls :: G) ≤ fd F (ls ++ G) + 1 := by
  cases F with
  | nil => rw [fd_r]; exact Nat.le_refl _
  | cons f F => obtain ⟨a, ks⟩ := f; rw [fd_c]; exact Nat.le_trans (Nat.min_le_right _ _) (Nat.min_le_left _ _)
theorem fd_match (a b : Lbl) (ks F ls G : List Tr) : fd (.node a ks :: F) (.node b ls :: G) ≤ fd F G + fd ks ls + rl a b := by
  rw [fd_c]; exact Nat.le_trans (Nat.min_le_right _ _) (Nat.min_le_right _ _)
/-- One of the three. -/
theorem fd_cases (a b : Lbl) (ks F ls G : List Tr) : fd (.node a ks :: F) (.node b ls :: G) = fd (ks ++ F) (.node b ls :: G) + 1 ∨ fd (.node a ks :: F) (.node b ls :: G) = fd (.node a ks :: F) (ls ++ G) + 1 ∨ fd (.node a ks :: F) (.node b ls :: G) = fd F G + fd ks ls + rl a b := by
  rw [fd_c (a := a)]
  omega
theorem fd_l0 : ∀ F, fd F [] = szL F
  | [] => by rw [fd_nil]; rfl
  | .node a ks :: F => by
    rw [fd_l, fd_l0 (ks ++ F), szL_app]; simp only [szL, szT]; omega
termination_by F => szL F
decreasing_by simp only [szL, szT, szL_app]; omega
theorem fd_r0 : ∀ G, fd [] G = szL G
  | [] => by rw [fd_nil]; rfl
  | .node a ks :: F => by
    rw [fd_r, fd_r0 (ks ++ F), szL_app]; simp only [szL, szT]; omega
termination_by F => szL F
decreasing_by simp only [szL, szT, szL_app]; omega
theorem fd_comm (F G : List Tr) : fd F G = fd G F := by
  match F, G with
  | [], [] => rfl
  | .node a ks :: F, [] => rw [fd_l0, fd_r0]
  | [], .node b ls :: G => rw [fd_l0, fd_r0]
  | .node a ks :: F, .node b ls :: G =>
    rw [fd_c, fd_c, fd_comm (ks ++ F) (.node b ls :: G), fd_comm (.node a ks :: F) (ls ++ G), fd_comm F G, fd_comm ks ls, rl_comm]
    omega
termination_by szL F + szL G
decreasing_by all_goals (simp only [szL, szT, szL_app]; omega)
/-- Side by side costs no more than each by itself. -/
theorem fd_app (A B F G : List Tr) : fd (A ++ F) (B ++ G) ≤ fd A B + fd F G := by
  match A, B with
  | [], [] => simp [fd_nil]
  | .node a ks :: A, [] =>
    have h := fd_app (ks ++ A) [] F G
    have h2 := fd_del a ks (A ++ F) G
    rw [fd_l]
    simp only [List.append_assoc, List.nil_append, List.cons_append] at h h2 ⊢
    omega
  | [], .node b ls :: B =>
    have h := fd_app [] (ls ++ B) F G
    have h2 := fd_ins b ls F (B ++ G)
    rw [fd_r]
    simp only [List.append_assoc, List.nil_append, List.cons_append] at h h2 ⊢
    omega
  | .node a ks :: A, .node b ls :: B =>
    rcases fd_cases a b ks A ls B with h | h | h
    · have h1 := fd_app (ks ++ A) (.node b ls :: B) F G
      have h2 := fd_del a ks (A ++ F) (.node b ls :: B ++ G)
      simp only [List.append_assoc, List.cons_append] at h1 h2 ⊢
      omega
    · have h1 := fd_app (.node a ks :: A) (ls ++ B) F G
      have h2 := fd_ins b ls (.node a ks :: A ++ F) (B ++ G)
      simp only [List.append_assoc, List.cons_append] at h1 h2 ⊢
      omega
    · have h1 := fd_app A B F G
      have h2 := fd_match a b ks (A ++ F) ls (B ++ G)
      simp only [List.cons_append] at h2 ⊢
      omega
termination_by szL A + szL B
decreasing_by all_goals (simp only [szL, szT, szL_app]; omega)
theorem fd_size (F G : List Tr) : szL F ≤ fd F G + szL G := by
  match F, G with
  | [], _ => simp [szL]
  | .node a ks :: F, [] => rw [fd_l0]; omega
  | .node a ks :: F, .node b ls :: G =>
    have h1 := fd_size (ks ++ F) (.node b ls :: G)
    have h2 := fd_size (.node a ks :: F) (ls ++ G)
    have h3 := fd_size F G
    have h4 := fd_size ks ls
    rcases fd_cases a b ks F ls G with h | h | h <;> rw [h] <;> simp only [szL, szT, szL_app] at h1 h2 h3 h4 ⊢ <;> omega
termination_by szL F + szL G
decreasing_by all_goals (simp only [szL, szT, szL_app]; omega)
theorem fd_tri (F G H : List Tr) : fd F H ≤ fd F G + fd G H := by
  match F, G, H with
  | [], G, H =>
    rw [fd_r0, fd_r0]
    have := fd_size H G
    rw [fd_comm] at this; omega
  | F, G, [] =>
    rw [fd_l0, fd_l0]
    have := fd_size F G
    omega
  | F, [], H =>
    rw [fd_l0, fd_r0]
    have h := fd_app F [] [] H
    simp only [List.append_nil, List.nil_append] at h
    rw [fd_l0, fd_r0] at h
    exact h
  | .node a ks :: F, .node b ls :: G, .node c us :: H =>
    rcases fd_cases a b ks F ls G with h | h | h
    · have h1 := fd_tri (ks ++ F) (.node b ls :: G) (.node c us :: H)
      have h2 := fd_del a ks F (.node c us :: H)
      omega
    · rcases fd_cases b c ls G us H with k | k | k
      · have h1 := fd_tri (.node a ks :: F) (ls ++ G) (.node c us :: H)
        omega
      · have h1 := fd_tri (.node a ks :: F) (.node b ls :: G) (us ++ H)
        have h2 := fd_ins c us (.node a ks :: F) H
        omega
      · have h1 := fd_tri (.node a ks :: F) (ls ++ G) (.node c us :: H)
        have h2 := fd_ins c us (ls ++ G) H
        have h3 := fd_app ls us G H
        omega
    · rcases fd_cases b c ls G us H with k | k | k
      · have h1 := fd_tri (.node a ks :: F) (ls ++ G) (.node c us :: H)
        have h2 := fd_del a ks F (ls ++ G)
        have h3 := fd_app ks ls F G
        omega
      · have h1 := fd_tri (.node a ks :: F) (.node b ls :: G) (us ++ H)
        have h2 := fd_ins c us (.node a ks :: F) H
        omega
      · have h1 := fd_tri F G H
        have h2 := fd_tri ks ls us
        have h3 := fd_match a c ks F us H
        have h4 := rl_tri a b c
        omega
termination_by szL F + szL G + szL H
decreasing_by all_goals (simp only [szL, szT, szL_app]; omega)
theorem fd_self : ∀ F, fd F F = 0
  | [] => fd_nil
  | .node a ks :: F => by
    have h1 := fd_self F
    have h2 := fd_self ks
    have h3 := fd_match a a ks F ks F
    rw [rl_self] at h3
    omega
termination_by F => szL F
decreasing_by all_goals (simp only [szL, szT]; omega)
theorem fd_zero (F G : List Tr) (h : fd F G = 0) : F = G := by
  match F, G with
  | [], [] => rfl
  | .node a ks :: F, [] => rw [fd_l] at h; omega
  | [], .node b ls :: G => rw [fd_r] at h; omega
  | .node a ks :: F, .node b ls :: G =>
    rcases fd_cases a b ks F ls G with k | k | k
    · omega
    · omega
    · have h1 := fd_zero F G (by omega)
      have h2 := fd_zero ks ls (by omega)
      have h3 : a = b := by
        have : rl a b = 0 := by omega
        unfold rl at this
        split at this
        · assumption
        · omega
      rw [h1, h2, h3]
termination_by szL F + szL G
decreasing_by all_goals (simp only [szL, szT]; omega)
/-- The distance of trees is what is got by the children's, or by a node that is taken away. -/
theorem fd_tree_le (a b : Lbl) (ks ls : List Tr) : fd [.node a ks] [.node b ls] ≤ szL ks + szL ls + 1 := by
  have h := fd_match a b ks [] ls []
  have h1 := fd_app ks [] [] ls
  have h2 := rl_le a b
  simp only [List.append_nil, List.nil_append] at h1
  rw [fd_l0, fd_r0] at h1
  rw [fd_nil] at h
  omega
/-- As the tables have it: where the rest is not empty, the subtrees' own distance does. -/
theorem fd_tab (a b : Lbl) (ks F ls G : List Tr) : fd (.node a ks :: F) (.node b ls :: G) = min (fd (ks ++ F) (.node b ls :: G) + 1) (min (fd (.node a ks :: F) (ls ++ G) + 1) (fd F G + fd [.node a ks] [.node b ls])) := by
  have h1 := fd_app [.node a ks] [.node b ls] F G
  have h2 := fd_match a b ks [] ls []
  have h3 := fd_cases a b ks F ls G
  have h4 := fd_del a ks F (.node b ls :: G)
  have h5 := fd_ins b ls (.node a ks :: F) G
  rw [fd_nil] at h2
  simp only [List.cons_append, List.nil_append] at h1
  omega
end Go.Proofs.Ytnnccbagbgndpaa

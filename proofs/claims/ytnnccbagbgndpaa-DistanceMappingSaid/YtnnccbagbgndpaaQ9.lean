/-
  Labels in common; the lower bound of the distance.
-/
import Derived.Test.YtnnccbagbgndpaaQ8
set_option linter.unusedVariables false
set_option linter.unusedSimpArgs false
namespace Go.Proofs.Ytnnccbagbgndpaa
open Go.RowKit
section
variable {α : Type} [DecidableEq α]
/-- How many elements two lists have in common, each as often as it stands. -/
def inter : List α → List α → Nat
  | _, [] => 0
  | x, b :: y => if b ∈ x then 1 + inter (x.erase b) y else inter x y
theorem inter_perm : ∀ {y x x' : List α}, x.Perm x' → inter x y = inter x' y
  | [], _, _, _ => rfl
  | b :: y, x, x', h => by
    rw [inter, inter, inter_perm (y := y) h, inter_perm (y := y) (h.erase b)]
    by_cases hb : b ∈ x
    · rw [if_pos hb, if_pos (h.mem_iff.1 hb)]
    · rw [if_neg hb, if_neg (fun e => hb (h.mem_iff.2 e))]
theorem inter_cons : ∀ (a : α) (x y : List α), inter (a :: x) y = if a ∈ y then 1 + inter x (y.erase a) else inter x y
  | a, x, [] => rfl
  | a, x, b :: y => by
    rw [inter]
    by_cases hab : b = a
    · subst hab
      simp
    · have hab' : ¬ a = b := fun e => hab e.symm
      have e1 : (a :: x).erase b = a :: x.erase b := by rw [List.erase_cons_tail]; simpa using hab'
      have e2 : (b :: y).erase a = b :: y.erase a := by rw [List.erase_cons_tail]; simpa using hab
      rw [e1, e2, inter_cons a (x.erase b) y, inter_cons a x y, inter, inter]
      simp only [List.mem_cons, hab, hab', false_or]
      by_cases h1 : b ∈ x <;> by_cases h2 : a ∈ y <;> simp [h1, h2]
theorem inter_nil (y : List α) : inter [] y = 0 := by
  induction y with
  | nil => rfl
  | cons b y ih => rw [inter, if_neg (by simp), ih]
theorem inter_comm : ∀ (x y : List α), inter x y = inter y x
  | x, [] => by rw [inter_nil]; rfl
  | x, b :: y => by
    rw [inter_cons, inter, inter_comm (x.erase b) y, inter_comm x y]
theorem inter_self : ∀ (x : List α), inter x x = x.length
  | [] => rfl
  | a :: x => by rw [inter, if_pos (by simp), List.erase_cons_head, inter_self x, List.length_cons]; omega
theorem inter_le : ∀ (x y : List α), inter x y ≤ y.length
  | x, [] => Nat.le_refl _
  | x, b :: y => by
    have h1 := inter_le (x.erase b) y
    have h2 := inter_le x y
    rw [inter, List.length_cons]; split <;> omega
theorem inter_step : ∀ (a : α) (x y : List α), inter x y ≤ inter (a :: x) y ∧ inter (a :: x) y ≤ inter x y + 1
  | a, x, [] => ⟨Nat.le_refl _, Nat.zero_le _⟩
  | a, x, b :: y => by
    by_cases hab : b = a
    · subst hab
      have e : inter (b :: x) (b :: y) = 1 + inter x y := by rw [inter]; simp
      rw [e, inter]
      split
      · rename_i hb
        have h := inter_step b (x.erase b) y
        rw [← inter_perm (List.perm_cons_erase hb)] at h
        omega
      · omega
    · have hab' : ¬ a = b := fun e => hab e.symm
      have e1 : (a :: x).erase b = a :: x.erase b := by rw [List.erase_cons_tail]; simpa using hab'
      rw [inter, inter, e1]
      have h1 := inter_step a (x.erase b) y
      have h2 := inter_step a x y
      by_cases hb : b ∈ x
      · rw [if_pos hb, if_pos (by simp [hb])]; omega
      · rw [if_neg hb, if_neg (by simp [hb, hab])]; omega
theorem inter_mono_r (b : α) (x y : List α) : inter x y ≤ inter x (b :: y) := by
  rw [inter_comm x y, inter_comm x (b :: y)]; exact (inter_step b y x).1
theorem inter_app_r : ∀ (u y v : List α), inter u v ≤ inter u (y ++ v)
  | u, [], v => Nat.le_refl _
  | u, b :: y, v => Nat.le_trans (inter_app_r u y v) (inter_mono_r b u (y ++ v))
theorem inter_app : ∀ (x y u v : List α), inter x y + inter u v ≤ inter (x ++ u) (y ++ v)
  | [], y, u, v => by rw [inter_nil, Nat.zero_add]; exact inter_app_r u y v
  | a :: x, y, u, v => by
    rw [inter_cons, List.cons_append]
    split
    · rename_i h
      rw [inter_cons, if_pos (List.mem_append_left _ h), List.erase_append_left _ h]
      have := inter_app x (y.erase a) u v
      omega
    · have h1 := inter_app x y u v
      have h2 := (inter_step a (x ++ u) (y ++ v)).1
      omega
end
/-! ### The labels of a forest -/
def labs (F : List Tr) : List Lbl := (rp F).map labT
theorem labs_cons (a : Lbl) (ks F : List Tr) : labs (.node a ks :: F) = a :: labs (ks ++ F) := by unfold labs; rw [rp_cons]; rfl
theorem labs_app (F G : List Tr) : labs (F ++ G) = labs F ++ labs G := by unfold labs; rw [rp_app, List.map_append]
theorem labs_nil : labs [] = [] := by unfold labs; rw [rp_nil]; rfl
theorem labs_len (F : List Tr) : (labs F).length = szL F := by unfold labs; rw [List.length_map, rp_len]
theorem fd_inter (F G : List Tr) : szL F ≤ fd F G + inter (labs F) (labs G) := by
  match F, G with
  | [], _ => simp [szL]
  | .node a ks :: F, [] => rw [fd_l0]; omega
  | .node a ks :: F, .node b ls :: G =>
    have h1 := fd_inter (ks ++ F) (.node b ls :: G)
    have h2 := fd_inter (.node a ks :: F) (ls ++ G)
    have h3 := fd_inter F G
    have h4 := fd_inter ks ls
    have m1 := (inter_step a (labs (ks ++ F)) (labs (.node b ls :: G))).1
    have m2 := inter_mono_r b (labs (.node a ks :: F)) (labs (ls ++ G))
    rw [← labs_cons] at m1 m2
    rcases fd_cases a b ks F ls G with h | h | h
    · simp only [szL, szT, szL_app] at h1 ⊢; omega
    · simp only [szL, szT, szL_app] at h2 ⊢; omega
    · have m3 := inter_app (labs ks) (labs ls) (labs F) (labs G)
      rw [← labs_app, ← labs_app] at m3
      have m4 : inter (labs (ks ++ F)) (labs (ls ++ G)) + 1 ≤ rl a b + inter (labs (.node a ks :: F)) (labs (.node b ls :: G)) := by
        rw [labs_cons, labs_cons]
        by_cases hab : a = b
        · subst hab
          rw [rl_self, inter]; simp; omega
        · have : rl a b = 1 := by unfold rl; rw [if_neg hab]
          have n1 := (inter_step a (labs (ks ++ F)) (labs (ls ++ G))).1
          have n2 := inter_mono_r b (a :: labs (ks ++ F)) (labs (ls ++ G))
          omega
      simp only [szL, szT, szL_app] at h3 h4 ⊢
      omega
termination_by szL F + szL G
decreasing_by all_goals (simp only [szL, szT, szL_app]; omega)
/-! ### The package's bound -/
def plabs (n : Node) : List Lbl := (po [toT n]).map labT
theorem plabs_len (n : Node) : (plabs n).length = cntN n := by unfold plabs; rw [List.length_map, po_lenT, sz_toT]
theorem plabs_perm (n : Node) : (plabs n).Perm (labs [toT n]) := by
  unfold plabs labs po
  rw [List.map_reverse]; exact List.reverse_perm _
theorem cnt_pos {l : List Lbl} {a : Lbl} : 0 < ((l.count a : Nat) : Int) ↔ a ∈ l := by
  rw [← List.count_pos_iff]; omega
theorem Bound_m (a b : Node) (ha : cntN a ≤ 100000) (hb : cntN b ≤ 100000) : m_distance_Bound a b = some ((max (cntN a) (cntN b) - inter (plabs a) (plabs b) : Nat) : Int) := by
  unfold m_distance_Bound
  rw [flatten_m a ha]
  simp only [Option.bind_some]
  rw [flatten_m b hb]
  simp only [Option.bind_some]
  have la := plabs_len a
  have lb := plabs_len b
  have ea : (po [toT a]).map labT = plabs a := rfl
  have eb : (po [toT b]).map labT = plabs b := rfl
  simp only [ea, eb]
  obtain ⟨m, hm, hc⟩ := loop_for (body := fun s => m_distance_Bound_lp1 (DFlat.mk (plabs a) (lefts 0 (po [toT a])) (numsN a 0)) s.1 s.2) (fun k s => s.1 = (k : Int) ∧ ∀ l, (mget s.2 l).getD 0 = ((((plabs a).take k).count l : Nat) : Int)) (fun m => ∀ l, (mget m l).getD 0 = (((plabs a).count l : Nat) : Int)) (cntN a) 0 (0, [])
    ⟨rfl, fun l => by simp [mget]⟩
    (by
      rintro k ⟨z, m⟩ _ hk ⟨e, hc⟩
      simp only at e hc
      subst e
      obtain ⟨l, hl⟩ := get_of_lt (l := plabs a) (k := k) (by omega)
      have hle : ((plabs a).take k).count l ≤ 100000 := Nat.le_trans List.count_le_length (by rw [List.length_take]; omega)
      refine ⟨(((k + 1 : Nat) : Int), mput (mput m l ((mget m l).getD 0)) l ((((plabs a).take k).count l + 1 : Nat) : Int)), ?_, rfl, fun l' => ?_⟩
      · simp only [m_distance_Bound_lp1]
        rw [if_pos (by simp [la]; omega), idx_nat hl]
        simp only [Option.bind_some]
        rw [hc l, inK_succ (by omega)]
        simp only [Option.bind_some]
        rw [inK_succ (by omega)]
        rfl
      · simp only
        rw [take_snoc_of hl, List.count_append, List.count_singleton, mget_mput, mget_mput]
        by_cases h : l' = l
        · subst h; simp
        · rw [if_neg h, if_neg h, hc l', if_neg (by simpa using fun e => h e.symm)]; simp)
    (by
      rintro ⟨z, m⟩ ⟨e, hc⟩
      simp only at e hc
      rw [Nat.zero_add] at e hc
      subst e
      refine ⟨m, ?_, fun l => by rw [hc l, List.take_of_length_le (by omega)]⟩
      simp only [m_distance_Bound_lp1]
      rw [if_neg (by simp [la])])
  rw [hm]
  simp only [Option.bind_some]
  obtain ⟨r, hr, hp⟩ := loop_for (body := fun s => m_distance_Bound_lp2 (DFlat.mk (plabs b) (lefts 0 (po [toT b])) (numsN b 0)) s.1 s.2.1 s.2.2) (fun k s => s.2.1 = (k : Int) ∧ ∃ (c : Nat) (z : List Lbl), s.1 = (c : Int) ∧ c ≤ k ∧ z.length ≤ 100000 ∧ (∀ l, (mget s.2.2 l).getD 0 = ((z.count l : Nat) : Int)) ∧ c + inter z ((plabs b).drop k) = inter (plabs a) (plabs b)) (fun r => r.1 = ((inter (plabs a) (plabs b) : Nat) : Int)) (cntN b) 0 (0, 0, m)
    ⟨rfl, 0, plabs a, rfl, Nat.le_refl _, by omega, hc, by simp⟩
    (by
      rintro k ⟨c0, z0, m⟩ _ hk ⟨e, c, z, e2, hck, hz, hc, hi⟩
      simp only at e e2 hc
      subst e; subst e2
      obtain ⟨l, hl⟩ := get_of_lt (l := plabs b) (k := k) (by omega)
      rw [drop_cons_of hl, inter] at hi
      have hle : z.count l ≤ 100000 := Nat.le_trans List.count_le_length hz
      by_cases hlz : l ∈ z
      · rw [if_pos hlz] at hi
        refine ⟨(((c + 1 : Nat) : Int), ((k + 1 : Nat) : Int), mput (mput m l ((mget m l).getD 0)) l ((z.count l : Int) - 1)), ?_, rfl, c + 1, z.erase l, rfl, by omega, by have := List.length_erase_of_mem hlz; omega, fun l' => ?_, by omega⟩
        · simp only [m_distance_Bound_lp2]
          rw [if_pos (by simp [lb]; omega), idx_nat hl]
          simp only [Option.bind_some]
          rw [hc l, if_pos (by rw [decide_eq_true_eq]; exact cnt_pos.2 hlz), inK_eq (by omega)]
          simp only [Option.bind_some]
          rw [inK_succ (by omega)]
          simp only [Option.bind_some]
          rw [inK_succ (by omega)]
          rfl
        · simp only
          have hp := List.count_pos_iff.2 hlz
          rw [List.count_erase, mget_mput, mget_mput]
          by_cases h : l' = l
          · subst h; simp; omega
          · rw [if_neg h, if_neg h, hc l', if_neg (by simpa using fun e => h e.symm)]; simp
      · rw [if_neg hlz] at hi
        refine ⟨((c : Int), ((k + 1 : Nat) : Int), m), ?_, rfl, c, z, rfl, by omega, hz, hc, hi⟩
        simp only [m_distance_Bound_lp2]
        rw [if_pos (by simp [lb]; omega), idx_nat hl]
        simp only [Option.bind_some]
        rw [hc l, if_neg (by rw [decide_eq_true_eq]; exact fun e => hlz (cnt_pos.1 e)), inK_succ (by omega)]
        rfl)
    (by
      rintro ⟨c0, z0, m⟩ ⟨e, c, z, e2, hck, hz, hc, hi⟩
      simp only at e e2 hc
      rw [Nat.zero_add] at e hi
      subst e; subst e2
      rw [List.drop_of_length_le (by omega), inter, Nat.add_zero] at hi
      refine ⟨((c : Int), m), ?_, by simp only; rw [hi]⟩
      simp only [m_distance_Bound_lp2]
      rw [if_neg (by simp [lb])])
  rw [hr]
  simp only [Option.bind_some]
  have h1 := inter_le (plabs a) (plabs b)
  have h2 := inter_le (plabs b) (plabs a)
  rw [inter_comm] at h2
  rw [la, lb, hp, inK_eq (by omega)]
  simp only [Option.bind_some]
  congr 1
  omega
theorem bound_le (a b : Node) : max (cntN a) (cntN b) ≤ td a b + inter (plabs a) (plabs b) := by
  have h1 := fd_inter [toT a] [toT b]
  have h2 := fd_inter [toT b] [toT a]
  rw [szL_one, sz_toT] at h1 h2
  rw [fd_comm, inter_comm] at h2
  have e : inter (plabs a) (plabs b) = inter (labs [toT a]) (labs [toT b]) := by
    rw [inter_perm (plabs_perm a), inter_comm, inter_perm (plabs_perm b), inter_comm]
  unfold td
  rw [e]; omega
end Go.Proofs.Ytnnccbagbgndpaa

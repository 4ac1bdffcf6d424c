/-
  Mappings of forests: the least cost of one is the distance. No program is named. (Nodes are numbered in preorder; a mapping keeps order and ancestors.)
-/
import Derived.Test.YtnnccbagbgndpaaQ1
set_option linter.unusedVariables false
set_option linter.unusedSimpArgs false
namespace Go.Proofs.Ytnnccbagbgndpaa
/-- The number behind a node's subtree. -/
def lastF : List Tr → Nat → Nat
  | [], _ => 0
  | .node a ks :: F, s => if s < szL F then lastF F s else if s = szL F then szL F + 1 + szL ks else szL F + 1 + lastF ks (s - szL F - 1)
termination_by F => szL F
decreasing_by all_goals (simp only [szL, szT]; omega)
def labF : List Tr → Nat → Lbl
  | [], _ => ⟨0, ByteArray.empty⟩
  | .node a ks :: F, s => if s < szL F then labF F s else if s = szL F then a else labF ks (s - szL F - 1)
termination_by F => szL F
decreasing_by all_goals (simp only [szL, szT]; omega)
theorem szL_node (a : Lbl) (ks F : List Tr) : szL (.node a ks :: F) = szL F + 1 + szL ks := by simp only [szL, szT]; omega
section
variable {a : Lbl} {ks F : List Tr}
theorem last_lt {s : Nat} (h : s < szL F) : lastF (.node a ks :: F) s = lastF F s := by rw [lastF, if_pos h]
theorem last_eq : lastF (.node a ks :: F) (szL F) = szL F + 1 + szL ks := by rw [lastF, if_neg (Nat.lt_irrefl _), if_pos rfl]
theorem last_gt (i : Nat) : lastF (.node a ks :: F) (szL F + 1 + i) = szL F + 1 + lastF ks i := by
  rw [lastF, if_neg (by omega), if_neg (by omega), show szL F + 1 + i - szL F - 1 = i by omega]
theorem lab_lt {s : Nat} (h : s < szL F) : labF (.node a ks :: F) s = labF F s := by rw [labF, if_pos h]
theorem lab_eq : labF (.node a ks :: F) (szL F) = a := by rw [labF, if_neg (Nat.lt_irrefl _), if_pos rfl]
theorem lab_gt (i : Nat) : labF (.node a ks :: F) (szL F + 1 + i) = labF ks i := by
  rw [labF, if_neg (by omega), if_neg (by omega), show szL F + 1 + i - szL F - 1 = i by omega]
end
theorem last_app_lt : ∀ (A B : List Tr) (s : Nat), s < szL B → lastF (A ++ B) s = lastF B s
  | [], B, s, _ => rfl
  | .node a ks :: A, B, s, h => by
    rw [List.cons_append, last_lt (by rw [szL_app]; omega), last_app_lt A B s h]
theorem lab_app_lt : ∀ (A B : List Tr) (s : Nat), s < szL B → labF (A ++ B) s = labF B s
  | [], B, s, _ => rfl
  | .node a ks :: A, B, s, h => by
    rw [List.cons_append, lab_lt (by rw [szL_app]; omega), lab_app_lt A B s h]
theorem last_app_ge : ∀ (A B : List Tr) (i : Nat), i < szL A → lastF (A ++ B) (szL B + i) = szL B + lastF A i
  | [], B, i, h => by simp [szL] at h
  | .node a ks :: A, B, i, h => by
    rw [szL_node] at h
    have e := szL_app A B
    rw [List.cons_append]
    rcases Nat.lt_trichotomy i (szL A) with h1 | h1 | h1
    · rw [last_lt (by omega), last_lt h1, last_app_ge A B i h1]
    · subst h1
      rw [show szL B + szL A = szL (A ++ B) by omega, last_eq, last_eq]; omega
    · obtain ⟨j, rfl⟩ : ∃ j, i = szL A + 1 + j := ⟨i - szL A - 1, by omega⟩
      rw [show szL B + (szL A + 1 + j) = szL (A ++ B) + 1 + j by omega, last_gt, last_gt]; omega
theorem lab_app_ge : ∀ (A B : List Tr) (i : Nat), i < szL A → labF (A ++ B) (szL B + i) = labF A i
  | [], B, i, h => by simp [szL] at h
  | .node a ks :: A, B, i, h => by
    rw [szL_node] at h
    have e := szL_app A B
    rw [List.cons_append]
    rcases Nat.lt_trichotomy i (szL A) with h1 | h1 | h1
    · rw [lab_lt (by omega), lab_lt h1, lab_app_ge A B i h1]
    · subst h1
      rw [show szL B + szL A = szL (A ++ B) by omega, lab_eq, lab_eq]
    · obtain ⟨j, rfl⟩ : ∃ j, i = szL A + 1 + j := ⟨i - szL A - 1, by omega⟩
      rw [show szL B + (szL A + 1 + j) = szL (A ++ B) + 1 + j by omega, lab_gt, lab_gt]
theorem last_rng (F : List Tr) {s : Nat} (h : s < szL F) : s < lastF F s ∧ lastF F s ≤ szL F := by
  match F with
  | [] => simp [szL] at h
  | .node a ks :: F =>
    rw [szL_node] at h ⊢
    rcases Nat.lt_trichotomy s (szL F) with h1 | h1 | h1
    · rw [last_lt h1]; have := last_rng F h1; omega
    · subst h1; rw [last_eq]; omega
    · obtain ⟨j, rfl⟩ : ∃ j, s = szL F + 1 + j := ⟨s - szL F - 1, by omega⟩
      rw [last_gt]; have := last_rng ks (s := j) (by omega); omega
termination_by szL F
decreasing_by all_goals (simp only [szL, szT]; omega)
/-! ### Mappings -/
structure Vm (F G : List Tr) (m : Nat → Option Nat) : Prop where
  rng : ∀ i t, i < szL F → m i = some t → t < szL G
  ord : ∀ s i u t, s < i → i < szL F → m s = some u → m i = some t → u < t ∧ (i < lastF F s ↔ t < lastF G u)
def sm (f : Nat → Int) : Nat → Int
  | 0 => 0
  | n + 1 => sm f n + f n
theorem sm_add (f : Nat → Int) (a : Nat) : ∀ b, sm f (a + b) = sm f a + sm (fun i => f (a + i)) b
  | 0 => by simp [sm]
  | b + 1 => by rw [← Nat.add_assoc, sm, sm_add f a b, sm]; omega
theorem sm_congr {f g : Nat → Int} : ∀ {n : Nat}, (∀ i, i < n → f i = g i) → sm f n = sm g n
  | 0, _ => rfl
  | n + 1, h => by rw [sm, sm, sm_congr fun i hi => h i (by omega), h n (by omega)]
theorem sm_ones {f : Nat → Int} : ∀ {n : Nat}, (∀ i, i < n → f i = 1) → sm f n = n
  | 0, _ => rfl
  | n + 1, h => by rw [sm, sm_ones fun i hi => h i (by omega), h n (by omega)]; omega
def one (F G : List Tr) (m : Nat → Option Nat) (i : Nat) : Int := match m i with
  | none => 1
  | some t => (rl (labF F i) (labF G t) : Int) - 1
def cst (F G : List Tr) (m : Nat → Option Nat) : Int := (szL G : Int) + sm (one F G m) (szL F)
theorem one_none {F G : List Tr} {m : Nat → Option Nat} {i : Nat} (h : m i = none) : one F G m i = 1 := by unfold one; rw [h]
theorem one_some {F G : List Tr} {m : Nat → Option Nat} {i t : Nat} (h : m i = some t) : one F G m i = (rl (labF F i) (labF G t) : Int) - 1 := by unfold one; rw [h]
theorem cst_le (F G : List Tr) (m : Nat → Option Nat) (hv : Vm F G m) : ((fd F G : Nat) : Int) ≤ cst F G m := by
  match F, G with
  | [], G => rw [fd_r0]; unfold cst; simp [szL, sm]
  | .node a ks :: F, [] =>
    rw [fd_l0]; unfold cst
    rw [sm_ones (fun i hi => ?_)]
    · simp only [szL]; omega
    · cases h : m i with
      | none => exact one_none h
      | some t => have := hv.rng i t hi h; simp [szL] at this
  | .node a ks :: F, .node b ls :: G =>
    have zF := szL_node a ks F
    have zG := szL_node b ls G
    have zK := szL_app ks F
    have zL := szL_app ls G
    cases hp : m (szL F) with
    | none =>
      have hv' : Vm (ks ++ F) (.node b ls :: G) (fun i => if i < szL F then m i else m (i + 1)) := by
        refine ⟨fun i t hi h => ?_, fun s i u t hsi hi hu ht => ?_⟩
        · try simp only at h
          split at h
          · exact hv.rng i t (by omega) h
          · exact hv.rng (i + 1) t (by omega) h
        · try simp only at hu ht
          by_cases c1 : s < szL F
          · rw [if_pos c1] at hu
            rw [last_app_lt ks F s c1]
            by_cases c2 : i < szL F
            · rw [if_pos c2] at ht
              have := hv.ord s i u t hsi (by omega) hu ht
              rw [last_lt c1] at this; exact this
            · rw [if_neg c2] at ht
              have := hv.ord s (i + 1) u t (by omega) (by omega) hu ht
              rw [last_lt c1] at this
              have hr := (last_rng F c1).2
              omega
          · rw [if_neg c1] at hu
            rw [if_neg (by omega)] at ht
            have := hv.ord (s + 1) (i + 1) u t (by omega) (by omega) hu ht
            obtain ⟨j, rfl⟩ : ∃ j, s = szL F + j := ⟨s - szL F, by omega⟩
            rw [show szL F + j + 1 = szL F + 1 + j by omega, last_gt] at this
            rw [last_app_ge ks F j (by omega)]
            omega
      have hc : cst (.node a ks :: F) (.node b ls :: G) m = cst (ks ++ F) (.node b ls :: G) (fun i => if i < szL F then m i else m (i + 1)) + 1 := by
        unfold cst
        rw [zF, zK, Nat.add_comm (szL ks), sm_add, sm_add _ (szL F) (szL ks), sm_add _ (szL F) 1]
        have e1 : sm (one (.node a ks :: F) (.node b ls :: G) m) (szL F) = sm (one (ks ++ F) (.node b ls :: G) (fun i => if i < szL F then m i else m (i + 1))) (szL F) := sm_congr fun i hi => by
          unfold one
          simp only [if_pos hi]
          rw [lab_lt hi, lab_app_lt ks F i hi]
        have e2 : sm (fun i => one (.node a ks :: F) (.node b ls :: G) m (szL F + 1 + i)) (szL ks) = sm (fun i => one (ks ++ F) (.node b ls :: G) (fun i => if i < szL F then m i else m (i + 1)) (szL F + i)) (szL ks) := sm_congr fun i hi => by
          unfold one
          simp only [if_neg (show ¬ szL F + i < szL F by omega)]
          rw [lab_gt, lab_app_ge ks F i hi, show szL F + i + 1 = szL F + 1 + i by omega]
        have e3 : sm (fun i => one (.node a ks :: F) (.node b ls :: G) m (szL F + i)) 1 = 1 := by
          rw [sm, sm, Nat.add_zero, one_none hp]; rfl
        rw [e1, e2, e3]; omega
      have h1 := cst_le (ks ++ F) (.node b ls :: G) _ hv'
      have h2 := fd_del a ks F (.node b ls :: G)
      omega
    | some y =>
      by_cases hq : ∃ x, x < szL (.node a ks :: F) ∧ m x = some (szL G)
      · obtain ⟨x, hx, hmx⟩ := hq
        have hy := hv.rng (szL F) y (by omega) hp
        have hyq : y = szL G := by
          rcases Nat.lt_trichotomy y (szL G) with h | h | h
          · exfalso
            rcases Nat.lt_trichotomy x (szL F) with c | c | c
            · have := (hv.ord x (szL F) _ _ c (by omega) hmx hp).1; omega
            · rw [c, hp] at hmx; have := Option.some.inj hmx; omega
            · have := (hv.ord (szL F) x _ _ c hx hp hmx).2
              rw [last_eq, last_lt h] at this
              have := (last_rng G h).2
              omega
          · exact h
          · exfalso
            rcases Nat.lt_trichotomy x (szL F) with c | c | c
            · have := (hv.ord x (szL F) _ _ c (by omega) hmx hp).2
              rw [last_eq, last_lt c] at this
              have := (last_rng F c).2
              omega
            · rw [c, hp] at hmx; have := Option.some.inj hmx; omega
            · have := (hv.ord (szL F) x _ _ c hx hp hmx).1; omega
        subst hyq
        have hv1 : Vm F G m := by
          refine ⟨fun i t hi h => (hv.ord i (szL F) t _ hi (by omega) h hp).1, fun s i u t hsi hi hu ht => ?_⟩
          have := hv.ord s i u t hsi (by omega) hu ht
          have hu' := (hv.ord s (szL F) u _ (by omega) (by omega) hu hp).1
          rw [last_lt (by omega), last_lt hu'] at this
          exact this
        have hv2 : Vm ks ls (fun i => (m (szL F + 1 + i)).map (· - (szL G + 1))) := by
          refine ⟨fun i t hi h => ?_, fun s i u t hsi hi hu ht => ?_⟩
          · obtain ⟨t', h1, rfl⟩ := Option.map_eq_some_iff.1 h
            have a1 := (hv.ord (szL F) (szL F + 1 + i) _ t' (by omega) (by omega) hp h1).1
            have a2 := hv.rng (szL F + 1 + i) t' (by omega) h1
            omega
          · obtain ⟨u', h1, rfl⟩ := Option.map_eq_some_iff.1 hu
            obtain ⟨t', h2, rfl⟩ := Option.map_eq_some_iff.1 ht
            have a1 := (hv.ord (szL F) (szL F + 1 + s) _ u' (by omega) (by omega) hp h1).1
            have a2 := hv.ord (szL F + 1 + s) (szL F + 1 + i) u' t' (by omega) (by omega) h1 h2
            obtain ⟨j, rfl⟩ : ∃ j, u' = szL G + 1 + j := ⟨u' - szL G - 1, by omega⟩
            rw [last_gt, last_gt] at a2
            rw [show szL G + 1 + j - (szL G + 1) = j by omega]
            omega
        have hc : cst (.node a ks :: F) (.node b ls :: G) m = cst F G m + cst ks ls (fun i => (m (szL F + 1 + i)).map (· - (szL G + 1))) + (rl a b : Int) := by
          unfold cst
          rw [zF, zG, sm_add, sm_add _ (szL F) 1]
          have e1 : sm (one (.node a ks :: F) (.node b ls :: G) m) (szL F) = sm (one F G m) (szL F) := sm_congr fun i hi => by
            unfold one
            cases h : m i with
            | none => rfl
            | some t =>
              have := hv1.rng i t hi h
              simp only
              rw [lab_lt hi, lab_lt this]
          have e2 : sm (fun i => one (.node a ks :: F) (.node b ls :: G) m (szL F + 1 + i)) (szL ks) = sm (one ks ls (fun i => (m (szL F + 1 + i)).map (· - (szL G + 1)))) (szL ks) := sm_congr fun i hi => by
            cases h : m (szL F + 1 + i) with
            | none => rw [one_none h, one_none (by rw [h]; rfl)]
            | some t =>
              have a1 := (hv.ord (szL F) (szL F + 1 + i) _ t (by omega) (by omega) hp h).1
              obtain ⟨j, rfl⟩ : ∃ j, t = szL G + 1 + j := ⟨t - szL G - 1, by omega⟩
              rw [one_some h, one_some (t := j) (by rw [h, Option.map_some]; congr 1; omega), lab_gt, lab_gt]
          have e3 : sm (fun i => one (.node a ks :: F) (.node b ls :: G) m (szL F + i)) 1 = (rl a b : Int) - 1 := by
            rw [sm, sm, Nat.add_zero, one_some hp, lab_eq, lab_eq]; omega
          rw [e1, e2, e3]; omega
        have h1 := cst_le F G _ hv1
        have h2 := cst_le ks ls _ hv2
        have h3 := fd_match a b ks F ls G
        omega
      · have hne : ∀ i t, i < szL (.node a ks :: F) → m i = some t → t ≠ szL G := fun i t hi h e => hq ⟨i, hi, by rw [h, e]⟩
        have hv' : Vm (.node a ks :: F) (ls ++ G) (fun i => (m i).map fun t => if t < szL G then t else t - 1) := by
          refine ⟨fun i t hi h => ?_, fun s i u t hsi hi hu ht => ?_⟩
          · obtain ⟨t', h1, rfl⟩ := Option.map_eq_some_iff.1 h
            have a1 := hv.rng i t' hi h1
            have a2 := hne i t' hi h1
            split <;> omega
          · obtain ⟨u', h1, rfl⟩ := Option.map_eq_some_iff.1 hu
            obtain ⟨t', h2, rfl⟩ := Option.map_eq_some_iff.1 ht
            have a1 := hv.ord s i u' t' hsi hi h1 h2
            have a2 := hne s u' (by omega) h1
            have a3 := hne i t' hi h2
            have a4 := hv.rng s u' (by omega) h1
            by_cases c1 : u' < szL G
            · rw [if_pos c1, last_app_lt ls G u' c1]
              rw [last_lt c1] at a1
              have := (last_rng G c1).2
              split <;> omega
            · rw [if_neg c1, if_neg (by omega)]
              obtain ⟨j, rfl⟩ : ∃ j, u' = szL G + 1 + j := ⟨u' - szL G - 1, by omega⟩
              rw [last_gt] at a1
              rw [show szL G + 1 + j - 1 = szL G + j by omega, last_app_ge ls G j (by omega)]
              omega
        have hc : cst (.node a ks :: F) (.node b ls :: G) m = cst (.node a ks :: F) (ls ++ G) (fun i => (m i).map fun t => if t < szL G then t else t - 1) + 1 := by
          unfold cst
          have e1 : sm (one (.node a ks :: F) (.node b ls :: G) m) (szL (.node a ks :: F)) = sm (one (.node a ks :: F) (ls ++ G) (fun i => (m i).map fun t => if t < szL G then t else t - 1)) (szL (.node a ks :: F)) := sm_congr fun i hi => by
            cases h : m i with
            | none => rw [one_none h, one_none (by rw [h]; rfl)]
            | some t =>
              have a2 := hne i t hi h
              have a4 := hv.rng i t hi h
              rw [one_some h, one_some (t := if t < szL G then t else t - 1) (by rw [h]; rfl)]
              by_cases c1 : t < szL G
              · rw [if_pos c1, lab_lt c1, lab_app_lt ls G t c1]
              · rw [if_neg c1]
                obtain ⟨j, rfl⟩ : ∃ j, t = szL G + 1 + j := ⟨t - szL G - 1, by omega⟩
                rw [show szL G + 1 + j - 1 = szL G + j by omega, lab_gt, lab_app_ge ls G j (by omega)]
          rw [e1, zG, zL]; omega
        have h1 := cst_le (.node a ks :: F) (ls ++ G) _ hv'
        have h2 := fd_ins b ls (.node a ks :: F) G
        omega
termination_by szL F + szL G
decreasing_by all_goals (simp only [szL, szT, szL_app]; omega)
theorem cst_ex (F G : List Tr) : ∃ m, Vm F G m ∧ cst F G m = ((fd F G : Nat) : Int) := by
  match F, G with
  | [], G =>
    refine ⟨fun _ => none, ⟨fun i t hi h => (by cases h), fun s i u t _ _ h => (by cases h)⟩, ?_⟩
    rw [fd_r0]; unfold cst; simp [szL, sm]
  | .node a ks :: F, [] =>
    refine ⟨fun _ => none, ⟨fun i t hi h => (by cases h), fun s i u t _ _ h => (by cases h)⟩, ?_⟩
    rw [fd_l0]; unfold cst
    rw [sm_ones (f := one (.node a ks :: F) [] fun _ => none) (fun i hi => rfl)]
    simp only [szL]; omega
  | .node a ks :: F, .node b ls :: G =>
    have zF := szL_node a ks F
    have zG := szL_node b ls G
    have zK := szL_app ks F
    have zL := szL_app ls G
    rcases fd_cases a b ks F ls G with h | h | h
    · obtain ⟨m, hv, hc⟩ := cst_ex (ks ++ F) (.node b ls :: G)
      refine ⟨fun i => if i < szL F then m i else if i = szL F then none else m (i - 1), ⟨fun i t hi ht => ?_, fun s i u t hsi hi hu ht => ?_⟩, ?_⟩
      · try simp only at ht
        split at ht
        · exact hv.rng i t (by omega) ht
        · split at ht
          · cases ht
          · exact hv.rng (i - 1) t (by omega) ht
      · try simp only at hu ht
        by_cases c1 : s < szL F
        · rw [if_pos c1] at hu
          rw [last_lt c1]
          have hr := (last_rng F c1).2
          by_cases c2 : i < szL F
          · rw [if_pos c2] at ht
            have := hv.ord s i u t hsi (by omega) hu ht
            rw [last_app_lt ks F s c1] at this; exact this
          · rw [if_neg c2] at ht
            split at ht
            · cases ht
            · have := hv.ord s (i - 1) u t (by omega) (by omega) hu ht
              rw [last_app_lt ks F s c1] at this
              omega
        · rw [if_neg c1] at hu
          split at hu
          · cases hu
          · rw [if_neg (by omega), if_neg (by omega)] at ht
            have := hv.ord (s - 1) (i - 1) u t (by omega) (by omega) hu ht
            obtain ⟨j, rfl⟩ : ∃ j, s = szL F + 1 + j := ⟨s - szL F - 1, by omega⟩
            rw [show szL F + 1 + j - 1 = szL F + j by omega, last_app_ge ks F j (by omega)] at this
            rw [last_gt]
            omega
      · rw [h]
        have e : cst (.node a ks :: F) (.node b ls :: G) (fun i => if i < szL F then m i else if i = szL F then none else m (i - 1)) = cst (ks ++ F) (.node b ls :: G) m + 1 := by
          unfold cst
          rw [zF, zK, Nat.add_comm (szL ks), sm_add, sm_add _ (szL F) (szL ks), sm_add _ (szL F) 1]
          have e1 : sm (one (.node a ks :: F) (.node b ls :: G) (fun i => if i < szL F then m i else if i = szL F then none else m (i - 1))) (szL F) = sm (one (ks ++ F) (.node b ls :: G) m) (szL F) := sm_congr fun i hi => by
            unfold one
            simp only [if_pos hi]
            rw [lab_lt hi, lab_app_lt ks F i hi]
          have e2 : sm (fun i => one (.node a ks :: F) (.node b ls :: G) (fun i => if i < szL F then m i else if i = szL F then none else m (i - 1)) (szL F + 1 + i)) (szL ks) = sm (fun i => one (ks ++ F) (.node b ls :: G) m (szL F + i)) (szL ks) := sm_congr fun i hi => by
            unfold one
            simp only [if_neg (show ¬ szL F + 1 + i < szL F by omega), if_neg (show ¬ szL F + 1 + i = szL F by omega)]
            rw [lab_gt, lab_app_ge ks F i hi, show szL F + 1 + i - 1 = szL F + i by omega]
          have e3 : sm (fun i => one (.node a ks :: F) (.node b ls :: G) (fun i => if i < szL F then m i else if i = szL F then none else m (i - 1)) (szL F + i)) 1 = 1 := by
            rw [sm, sm, Nat.add_zero, one_none (by simp)]; rfl
          rw [e1, e2, e3]; omega
        rw [e, hc]; omega
    · obtain ⟨m, hv, hc⟩ := cst_ex (.node a ks :: F) (ls ++ G)
      refine ⟨fun i => (m i).map fun t => if t < szL G then t else t + 1, ⟨fun i t hi ht => ?_, fun s i u t hsi hi hu ht => ?_⟩, ?_⟩
      · obtain ⟨t', h1, rfl⟩ := Option.map_eq_some_iff.1 ht
        have a1 := hv.rng i t' hi h1
        split <;> omega
      · obtain ⟨u', h1, rfl⟩ := Option.map_eq_some_iff.1 hu
        obtain ⟨t', h2, rfl⟩ := Option.map_eq_some_iff.1 ht
        have a1 := hv.ord s i u' t' hsi hi h1 h2
        have a4 := hv.rng s u' (by omega) h1
        by_cases c1 : u' < szL G
        · rw [if_pos c1, last_lt c1]
          rw [last_app_lt ls G u' c1] at a1
          have := (last_rng G c1).2
          split <;> omega
        · rw [if_neg c1, if_neg (by omega)]
          obtain ⟨j, rfl⟩ : ∃ j, u' = szL G + j := ⟨u' - szL G, by omega⟩
          rw [last_app_ge ls G j (by omega)] at a1
          rw [show szL G + j + 1 = szL G + 1 + j by omega, last_gt]
          omega
      · rw [h]
        have e : cst (.node a ks :: F) (.node b ls :: G) (fun i => (m i).map fun t => if t < szL G then t else t + 1) = cst (.node a ks :: F) (ls ++ G) m + 1 := by
          unfold cst
          have e1 : sm (one (.node a ks :: F) (.node b ls :: G) (fun i => (m i).map fun t => if t < szL G then t else t + 1)) (szL (.node a ks :: F)) = sm (one (.node a ks :: F) (ls ++ G) m) (szL (.node a ks :: F)) := sm_congr fun i hi => by
            cases h : m i with
            | none => rw [one_none h, one_none (by rw [h]; rfl)]
            | some t =>
              have a4 := hv.rng i t hi h
              rw [one_some h, one_some (t := if t < szL G then t else t + 1) (by rw [h]; rfl)]
              by_cases c1 : t < szL G
              · rw [if_pos c1, lab_lt c1, lab_app_lt ls G t c1]
              · rw [if_neg c1]
                obtain ⟨j, rfl⟩ : ∃ j, t = szL G + j := ⟨t - szL G, by omega⟩
                rw [show szL G + j + 1 = szL G + 1 + j by omega, lab_gt, lab_app_ge ls G j (by omega)]
          rw [e1, zG, zL]; omega
        rw [e, hc]; omega
    · obtain ⟨m1, hv1, hc1⟩ := cst_ex F G
      obtain ⟨m2, hv2, hc2⟩ := cst_ex ks ls
      refine ⟨fun i => if i < szL F then m1 i else if i = szL F then some (szL G) else (m2 (i - szL F - 1)).map (· + (szL G + 1)), ⟨fun i t hi ht => ?_, fun s i u t hsi hi hu ht => ?_⟩, ?_⟩
      · try simp only at ht
        split at ht
        · rename_i c; have := hv1.rng i t c ht; omega
        · split at ht
          · have := Option.some.inj ht; omega
          · obtain ⟨t', h1, rfl⟩ := Option.map_eq_some_iff.1 ht
            have := hv2.rng _ t' (by omega) h1
            omega
      · try simp only at hu ht
        by_cases c1 : s < szL F
        · rw [if_pos c1] at hu
          have ru := hv1.rng s u c1 hu
          rw [last_lt c1, last_lt ru]
          have r1 := (last_rng F c1).2
          have r2 := (last_rng G ru).2
          by_cases c2 : i < szL F
          · rw [if_pos c2] at ht
            exact hv1.ord s i u t hsi c2 hu ht
          · rw [if_neg c2] at ht
            split at ht
            · have := Option.some.inj ht; omega
            · obtain ⟨t', h1, rfl⟩ := Option.map_eq_some_iff.1 ht
              omega
        · rw [if_neg c1] at hu
          rw [if_neg (by omega), if_neg (by omega)] at ht
          obtain ⟨t', h1, rfl⟩ := Option.map_eq_some_iff.1 ht
          have r2 := hv2.rng _ t' (by omega) h1
          split at hu
          · have hu' := Option.some.inj hu
            rename_i c
            subst c; subst hu'
            rw [last_eq, last_eq]
            omega
          · obtain ⟨u', h2, rfl⟩ := Option.map_eq_some_iff.1 hu
            have := hv2.ord (s - szL F - 1) (i - szL F - 1) u' t' (by omega) (by omega) h2 h1
            obtain ⟨j, rfl⟩ : ∃ j, s = szL F + 1 + j := ⟨s - szL F - 1, by omega⟩
            rw [show szL F + 1 + j - szL F - 1 = j by omega] at this
            rw [last_gt, show u' + (szL G + 1) = szL G + 1 + u' by omega, last_gt]
            omega
      · rw [h]
        have e : cst (.node a ks :: F) (.node b ls :: G) (fun i => if i < szL F then m1 i else if i = szL F then some (szL G) else (m2 (i - szL F - 1)).map (· + (szL G + 1))) = cst F G m1 + cst ks ls m2 + (rl a b : Int) := by
          unfold cst
          rw [zF, zG, sm_add, sm_add _ (szL F) 1]
          have e1 : sm (one (.node a ks :: F) (.node b ls :: G) (fun i => if i < szL F then m1 i else if i = szL F then some (szL G) else (m2 (i - szL F - 1)).map (· + (szL G + 1)))) (szL F) = sm (one F G m1) (szL F) := sm_congr fun i hi => by
            cases h : m1 i with
            | none => rw [one_none h, one_none (by rw [if_pos hi, h])]
            | some t =>
              have := hv1.rng i t hi h
              rw [one_some h, one_some (t := t) (by rw [if_pos hi, h]), lab_lt hi, lab_lt this]
          have e2 : sm (fun i => one (.node a ks :: F) (.node b ls :: G) (fun i => if i < szL F then m1 i else if i = szL F then some (szL G) else (m2 (i - szL F - 1)).map (· + (szL G + 1))) (szL F + 1 + i)) (szL ks) = sm (one ks ls m2) (szL ks) := sm_congr fun i hi => by
            have q : szL F + 1 + i - szL F - 1 = i := by omega
            cases h : m2 i with
            | none => rw [one_none h, one_none (by rw [if_neg (by omega), if_neg (by omega), q, h]; rfl)]
            | some t => rw [one_some h, one_some (t := szL G + 1 + t) (by rw [if_neg (by omega), if_neg (by omega), q, h, Option.map_some]; congr 1; omega), lab_gt, lab_gt]
          have e3 : sm (fun i => one (.node a ks :: F) (.node b ls :: G) (fun i => if i < szL F then m1 i else if i = szL F then some (szL G) else (m2 (i - szL F - 1)).map (· + (szL G + 1))) (szL F + i)) 1 = (rl a b : Int) - 1 := by
            show (0 : Int) + one _ _ _ (szL F) = _
            rw [one_some (t := szL G) (by simp), lab_eq, lab_eq]; omega
          rw [e1, e2, e3]; omega
        rw [e, hc1, hc2]; omega
termination_by szL F + szL G
decreasing_by all_goals (simp only [szL, szT, szL_app]; omega)
end Go.Proofs.Ytnnccbagbgndpaa

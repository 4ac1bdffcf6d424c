/-
  Attempts, in plain terms: what the functions of package attempts, and the reference's, compute; the models compute it. No program is named.
-/
import Derived.Test.YtmjmoogldbejoaaWM
import Derived.Test.YtmjmoogldbejoaaRow
set_option linter.unusedVariables false
set_option linter.unusedSimpArgs false
namespace Go.Proofs.Ytmjmoogldbejoaa
open Go.RowKit Go.Sort

/-! ### What is computed -/
def isTime (t : Int) : Bool := decide (0 ≤ t) && decide (t ≤ 1099511627776)
def rightB (r : Rule) : Bool :=
  decide (0 ≤ r.kind) && decide (r.kind ≤ 2) && decide (1 ≤ r.most) && decide (r.most ≤ 16) && isTime r.pause &&
  (if r.kind = 2 then decide (1 ≤ r.keep) && decide (r.keep ≤ r.most) else decide (r.keep = 0))
def okFrom : Int → Int → List Att → Bool
  | _, _, [] => true
  | i, before, a :: r => decide (a.num = i + 1) && !decide (a.tick < before) && isTime a.tick && !decide (a.pts < 0) && !decide (100000000 < a.pts) && okFrom (i + 1) a.tick r
def validB (r : Rule) (l : List Att) : Bool := rightB r && decide ((l.length : Int) ≤ r.most) && okFrom 0 0 l
def lastT (l : List Att) : Int := match l.getLast? with | none => 0 | some a => a.tick
def nextT (r : Rule) (l : List Att) : Int := if l.length = 0 then 0 else lastT l + r.pause
def allowedE (r : Rule) (l : List Att) (tick : Int) : Int :=
  if validB r l = false then 1 else if isTime tick = false ∨ tick < lastT l then 2 else if (l.length : Int) = r.most then 8 else if tick < nextT r l then 9 else 0
def earliestT (r : Rule) (l : List Att) : Option Int :=
  if validB r l = false ∨ (l.length : Int) = r.most ∨ isTime (nextT r l) = false then none else some (nextT r l)
def chosenL (r : Rule) (l : List Att) : List Att :=
  if r.kind = 1 then l.reverse.take 1 else (sortA l).take (if r.keep > 1 then r.keep.toNat else 1)
def sumP (l : List Att) : Int := (l.map Att.pts).sum
def pointsL (r : Rule) (l : List Att) : Int := if (chosenL r l).length = 0 then 0 else (2 * sumP (chosenL r l) + (chosenL r l).length) / (2 * (chosenL r l).length)
def finalL (r : Rule) (l : List Att) : Int × Int := if validB r l then (pointsL r l, 0) else (0, 1)
def withL (l : List Att) (p : Int) : List Att := l ++ [⟨l.length + 1, lastT l, p⟩]
def withP (r : Rule) (l : List Att) (p : Int) : Int := pointsL r (withL l p)
def NeededIs (r : Rule) (l : List Att) (goal k : Int) (ok : Bool) : Prop :=
  if validB r l = false ∨ (l.length : Int) = r.most then k = 0 ∧ ok = false
  else if withP r l 100000000 < goal then k = 0 ∧ ok = false
  else ok = true ∧ 0 ≤ k ∧ k ≤ 100000000 ∧ goal ≤ withP r l k ∧ (k = 0 ∨ withP r l (k - 1) < goal)
def countingL (r : Rule) (l : List Att) : List Int := if validB r l then ((chosenL r l).map Att.num).mergeSort fun x y => decide (x ≤ y) else []

/-! ### Small words -/
theorem isTime_iff (t : Int) : isTime t = true ↔ 0 ≤ t ∧ t ≤ 1099511627776 := by simp [isTime]
theorem drop_cons_of {α : Type} {l : List α} {k : Nat} {a : α} (h : l[k]? = some a) : l.drop k = a :: l.drop (k + 1) := by
  obtain ⟨h1, h2⟩ := List.getElem?_eq_some_iff.1 h
  rw [← h2]; exact List.drop_eq_getElem_cons h1
theorem take_snoc_of {α : Type} {l : List α} {k : Nat} {a : α} (h : l[k]? = some a) : l.take (k + 1) = l.take k ++ [a] := by
  obtain ⟨h1, h2⟩ := List.getElem?_eq_some_iff.1 h
  rw [← h2]; exact List.take_succ_eq_append_getElem h1
theorem idx_nat {α : Type} {l : List α} {k : Nat} {a : α} (h : l[k]? = some a) : idx l (k : Int) = some a := by
  unfold idx; rw [if_pos (by omega)]; simpa using h
theorem idx_lt {α : Type} {l : List α} {i : Int} (h0 : 0 ≤ i) (h1 : i < l.length) : ∃ a, idx l i = some a ∧ l[i.toNat]? = some a := by
  obtain ⟨a, ha⟩ : ∃ a, l[i.toNat]? = some a := ⟨_, List.getElem?_eq_getElem (by omega)⟩
  exact ⟨a, by unfold idx; rw [if_pos h0, ha], ha⟩
theorem okFrom_last : ∀ (l : List Att) (i t : Int), okFrom i t l = true → l ≠ [] → isTime (lastT l) = true
  | [], _, _, _, h => absurd rfl h
  | [a], i, t, h, _ => by simp [okFrom] at h; simp [lastT, h]
  | a :: b :: l, i, t, h, _ => by
    have h' : okFrom (i + 1) a.tick (b :: l) = true := by rw [okFrom] at h; simp at h; exact h.2
    have := okFrom_last (b :: l) (i + 1) a.tick h' (by simp)
    simpa [lastT] using this
theorem valid_last {r : Rule} {l : List Att} (h : validB r l = true) : 0 ≤ lastT l ∧ lastT l ≤ 1099511627776 ∧ 0 ≤ r.pause ∧ r.pause ≤ 1099511627776 := by
  unfold validB at h
  simp only [Bool.and_eq_true] at h
  obtain ⟨⟨hr, _⟩, hok⟩ := h
  have hp : isTime r.pause = true := by unfold rightB at hr; simp only [Bool.and_eq_true] at hr; exact hr.1.2
  rw [isTime_iff] at hp
  rcases l with _ | ⟨a, l⟩
  · simp [lastT]; omega
  · have := okFrom_last _ _ _ hok (by simp)
    rw [isTime_iff] at this
    omega
theorem okFrom_pts : ∀ {l : List Att} {i t : Int}, okFrom i t l = true → ∀ a ∈ l, 0 ≤ a.pts ∧ a.pts ≤ 100000000
  | [], _, _, _ => by simp
  | a :: l, i, t, h => by
    rw [okFrom] at h
    simp only [Bool.and_eq_true, Bool.not_eq_true', decide_eq_false_iff_not] at h
    obtain ⟨⟨⟨_, h1⟩, h2⟩, h3⟩ := h
    intro b hb
    rcases List.mem_cons.1 hb with rfl | hb
    · omega
    · exact okFrom_pts h3 b hb
theorem valid_facts {r : Rule} {l : List Att} (h : validB r l = true) : (∀ a ∈ l, 0 ≤ a.pts ∧ a.pts ≤ 100000000) ∧ (l.length : Int) ≤ r.most ∧ r.most ≤ 16 ∧ l.length ≤ 16 := by
  unfold validB at h
  simp only [Bool.and_eq_true, decide_eq_true_eq] at h
  obtain ⟨⟨hr, hl⟩, hok⟩ := h
  have hm : r.most ≤ 16 := by unfold rightB at hr; simp only [Bool.and_eq_true, decide_eq_true_eq] at hr; exact hr.1.1.2
  exact ⟨okFrom_pts hok, hl, hm, by omega⟩
theorem last_at {l : List Att} {n : Nat} (hl : l.length = n + 1) : ∃ a, l[n]? = some a ∧ lastT l = a.tick := by
  obtain ⟨a, ha⟩ : ∃ a, l[n]? = some a := ⟨_, List.getElem?_eq_getElem (by omega)⟩
  refine ⟨a, ha, ?_⟩
  unfold lastT
  rw [List.getLast?_eq_getElem?, hl, Nat.add_sub_cancel, ha]

/-! ### The models compute it -/
theorem isTime_m (t : Int) : m_attempts_isTime t = some (isTime t) := rfl
theorem time_m (t : Int) : m_assessorref52_time t = some (isTime t) := rfl
theorem right_m (r : Rule) : m_attempts_right r = some (rightB r) := by
  unfold m_attempts_right rightB
  rw [isTime_m]
  by_cases h1 : r.kind < 0 <;> by_cases h2 : 2 < r.kind <;> by_cases h3 : r.most < 1 <;> by_cases h4 : 16 < r.most <;> cases h5 : isTime r.pause <;> by_cases h6 : r.kind = 2 <;> simp_all <;> first | (intros; omega) | rfl | grind
theorem valid_m (r : Rule) (l : List Att) (hl : l.length ≤ 1000000) : m_attempts_Valid r l = some (validB r l) := by
  unfold m_attempts_Valid validB
  rw [right_m]
  simp only [Option.bind_some]
  cases hr : rightB r with
  | false => simp
  | true =>
    by_cases hm : r.most < (l.length : Int)
    · simp [hm]; omega
    · have hm2 : (l.length : Int) ≤ r.most := by omega
      simp only [Bool.not_true, Bool.false_or, decide_eq_true_eq, hm, if_false, Bool.true_and, hm2, decide_true]
      obtain ⟨b, hb, hp⟩ := loopM_inv (body := fun s : Int × Int => m_attempts_Valid_lp1 l s.1 s.2) (fun s => ∃ k : Nat, k ≤ l.length ∧ s.2 = k ∧ okFrom 0 0 l = okFrom k s.1 (l.drop k)) (fun s => l.length - s.2.toNat)
        (fun b => (b = .brk () ∧ okFrom 0 0 l = true) ∨ (b = .ret false ∧ okFrom 0 0 l = false)) (by
          rintro ⟨t, i⟩ ⟨k, hk, rfl, hok⟩
          simp only
          unfold m_attempts_Valid_lp1
          by_cases hlt : k < l.length
          · obtain ⟨a, ha⟩ : ∃ a, l[k]? = some a := ⟨_, List.getElem?_eq_getElem hlt⟩
            rw [drop_cons_of ha, okFrom] at hok
            simp only [idx_nat ha, Option.bind_some, inK_ok ((k : Int) + 1) (by omega) (by omega), isTime_m, Int.ofNat_lt, hlt, decide_true, if_true]
            by_cases h1 : a.num = k + 1 <;> by_cases h2 : a.tick < t <;> cases h3 : isTime a.tick <;> by_cases h4 : a.pts < 0 <;> by_cases h5 : 100000000 < a.pts <;>
              simp [h1, h2, h3, h4, h5] at hok ⊢ <;> first | exact hok | (exact ⟨⟨k + 1, by omega, by omega, hok⟩, by omega⟩)
          · have : k = l.length := by omega
            subst this
            simp [okFrom] at hok
            simp [hok]) (0, 0) ⟨0, by omega, rfl, rfl⟩
      rw [hb]
      simp only [Option.bind_some]
      rcases hp with ⟨rfl, h⟩ | ⟨rfl, h⟩ <;> simp [h]
theorem last_m (l : List Att) (hl : l.length ≤ 1000000) : m_attempts_last l = some (lastT l) := by
  unfold m_attempts_last
  rcases Nat.eq_zero_or_pos l.length with h0 | h0
  · have := List.eq_nil_of_length_eq_zero h0; subst this; rfl
  · obtain ⟨n, hn⟩ : ∃ n, l.length = n + 1 := ⟨l.length - 1, by omega⟩
    obtain ⟨a, ha, e⟩ := last_at hn
    have h1 : ¬ ((l.length : Int) = 0) := by omega
    simp only [h1, decide_false, Bool.false_eq_true, if_false, inK_ok ((l.length : Int) - 1) (by omega) (by omega), Option.bind_some]
    have e2 : (l.length : Int) - 1 = (n : Int) := by omega
    rw [e2, idx_nat ha, e]; rfl
theorem next_m (r : Rule) (l : List Att) (hv : validB r l = true) (hl : l.length ≤ 1000000) : m_attempts_next r l = some (nextT r l) := by
  obtain ⟨h1, h2, h3, h4⟩ := valid_last hv
  unfold m_attempts_next nextT
  rw [last_m l hl]
  simp only [Option.bind_some, inK_ok (lastT l + r.pause) (by omega) (by omega)]
  by_cases h0 : l.length = 0 <;> simp [h0]
theorem allowed_m (r : Rule) (l : List Att) (t : Int) (hl : l.length ≤ 1000000) : m_attempts_Allowed r l t = some (allowedE r l t) := by
  unfold m_attempts_Allowed allowedE
  rw [valid_m r l hl]
  simp only [Option.bind_some, isTime_m, last_m l hl]
  cases hv : validB r l with
  | false => simp
  | true =>
    simp only [next_m r l hv hl, Option.bind_some]
    cases h1 : isTime t <;> by_cases h2 : t < lastT l <;> by_cases h3 : (l.length : Int) = r.most <;> by_cases h4 : t < nextT r l <;> simp [h2, h3, h4]
theorem earliest_m (r : Rule) (l : List Att) (hl : l.length ≤ 1000000) : m_attempts_Earliest r l = some ((earliestT r l).getD 0, (earliestT r l).isSome) := by
  unfold m_attempts_Earliest earliestT
  rw [valid_m r l hl]
  cases hv : validB r l with
  | false => simp
  | true =>
    simp only [next_m r l hv hl, Option.bind_some, isTime_m]
    by_cases h1 : (l.length : Int) = r.most <;> cases h2 : isTime (nextT r l) <;> simp [h1]

/-! ### .. and so do the reference's -/
theorem rvalid_m (r : Rule) (l : List Att) (hl : l.length ≤ 1000000) : m_assessorref52_Valid r l = some (validB r l) := by
  have hR : (r.kind < 0 ∨ 2 < r.kind ∨ r.most < 1 ∨ 16 < r.most ∨ isTime r.pause = false ∨ (r.kind = 2 ∧ (r.keep < 1 ∨ r.most < r.keep)) ∨ (¬ r.kind = 2 ∧ ¬ r.keep = 0)) ↔ rightB r = false := by
    unfold rightB
    cases h5 : isTime r.pause <;> by_cases h6 : r.kind = 2 <;> simp [h6] <;> omega
  unfold m_assessorref52_Valid
  simp only [time_m, Option.bind_some]
  by_cases hr : rightB r = true
  · have hn : ¬ (rightB r = false) := by rw [hr]; simp
    rw [← hR] at hn
    simp only [not_or, not_and] at hn
    obtain ⟨n1, n2, n3, n4, n5, n6, n7⟩ := hn
    have n5' : isTime r.pause = true := by simpa using n5
    by_cases hm : r.most < (l.length : Int)
    · have : validB r l = false := by unfold validB; simp; intro _ h; omega
      simp [n1, n2, n3, n4, n5', hm, this]
    · have hm2 : (l.length : Int) ≤ r.most := by omega
      have n67 : ((decide (r.kind = 2) && (decide (r.keep < 1) || decide (r.most < r.keep))) || ((!decide (r.kind = 2)) && (!decide (r.keep = 0)))) = false := by
        by_cases h6 : r.kind = 2
        · have := n6 h6; simp [h6]; omega
        · have := n7 h6; simp [h6]; omega
      simp only [n1, n2, n3, n4, n5', hm, n67, decide_false, Bool.or_false, Bool.false_eq_true, if_false, Bool.not_true, Option.bind_some]
      obtain ⟨b, hb, hp⟩ := loopM_inv (body := fun s : Int => m_assessorref52_Valid_lp1 l s) (fun s => ∃ k : Nat, k ≤ l.length ∧ s = k ∧ okFrom 0 0 l = okFrom k (lastT (l.take k)) (l.drop k)) (fun s => l.length - s.toNat)
        (fun b => (b = .brk () ∧ okFrom 0 0 l = true) ∨ (b = .ret false ∧ okFrom 0 0 l = false)) (by
          rintro i ⟨k, hk, rfl, hok⟩
          unfold m_assessorref52_Valid_lp1
          by_cases hlt : k < l.length
          · obtain ⟨a, ha⟩ : ∃ a, l[k]? = some a := ⟨_, List.getElem?_eq_getElem hlt⟩
            have hsn := take_snoc_of ha
            have hla : lastT (l.take (k + 1)) = a.tick := by rw [hsn]; simp [lastT]
            rw [drop_cons_of ha, okFrom] at hok
            simp only [idx_nat ha, Option.bind_some, inK_ok ((k : Int) + 1) (by omega) (by omega), time_m, Int.ofNat_lt, hlt, decide_true, if_true]
            have hprev : ((if decide (0 < (k : Int)) = true then (inK .i64 ((k : Int) - 1)).bind fun x5 => (idx l x5).bind fun x6 => some (decide (a.tick < x6.tick)) else some false) : Option Bool) = some (decide (0 < (k : Int)) && decide (a.tick < lastT (l.take k))) := by
              by_cases h0 : 0 < (k : Int)
              · obtain ⟨m, rfl⟩ : ∃ m, k = m + 1 := ⟨k - 1, by omega⟩
                obtain ⟨c, hc⟩ : ∃ c, l[m]? = some c := ⟨_, List.getElem?_eq_getElem (by omega)⟩
                have hlc : lastT (l.take (m + 1)) = c.tick := by rw [take_snoc_of hc]; simp [lastT]
                have e : ((m + 1 : Nat) : Int) - 1 = (m : Int) := by omega
                rw [e, inK_ok (m : Int) (by omega) (by omega)]
                simp only [Option.bind_some, idx_nat hc, hlc, h0, decide_true, if_true, Bool.true_and]
              · have h0' : k = 0 := by omega
                subst h0'
                simp
            simp only [hprev, Option.bind_some]
            have hz : ¬ (0 < k) → isTime a.tick = true → ¬ (a.tick < lastT (l.take k)) := fun h0 ht => by
              have : k = 0 := by omega
              subst this
              rw [isTime_iff] at ht
              simp [lastT]; omega
            by_cases h1 : a.num = k + 1 <;> by_cases h2 : a.tick < lastT (l.take k) <;> cases h3 : isTime a.tick <;> by_cases h4 : a.pts < 0 <;> by_cases h5 : 100000000 < a.pts <;> by_cases h6 : 0 < k <;>
              first
                | exact absurd h2 (hz h6 h3)
                | (simp [h1, h2, h3, h4, h5, h6] at hok ⊢ <;> first | exact hok | (exact ⟨⟨k + 1, by omega, by omega, by rw [hla]; exact hok⟩, by omega⟩))
          · have : k = l.length := by omega
            subst this
            simp [okFrom] at hok
            simp [hok]) 0 ⟨0, by omega, rfl, by simp [lastT]⟩
      rw [hb]
      simp only [Option.bind_some]
      unfold validB
      rw [hr]
      rcases hp with ⟨rfl, h⟩ | ⟨rfl, h⟩ <;> simp [h, hm2]
  · have hr' : rightB r = false := by simpa using hr
    have hv : validB r l = false := by unfold validB; rw [hr']; simp
    rw [hv]
    have hn := hR.2 hr'
    by_cases n1 : r.kind < 0 <;> by_cases n2 : 2 < r.kind <;> by_cases n3 : r.most < 1 <;> by_cases n4 : 16 < r.most <;> cases n5 : isTime r.pause <;> by_cases n8 : r.most < (l.length : Int) <;> by_cases h6 : r.kind = 2 <;> simp_all <;> split <;> rfl
end Go.Proofs.Ytmjmoogldbejoaa

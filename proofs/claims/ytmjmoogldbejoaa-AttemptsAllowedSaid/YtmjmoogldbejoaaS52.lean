/-
  Attempts: the library's sort and reversal, by contracts over owned slices; what is sorted, as a plain list.
-/
import Derived.Test.YtmjmoogldbejoaaTy
import Derived.Test.YtmjmoogldbejoaaLibK
import Derived.Test.YtmjmoogldbejoaaShelf
set_option linter.unusedVariables false
set_option linter.unusedSimpArgs false
namespace Go.Proofs.Ytmjmoogldbejoaa
open Go.RowKit Go.Sort

instance : Inhabited Att := ⟨⟨0, 0, 0⟩⟩
theorem att3 (a : Att) : (Enc.enc a).length = 3 := rfl
/-- The order of the sort: more points first. -/
def cfA (x y : Att) : Int := Lib.compareInt y.pts x.pts
def sortA (l : List Att) : List Att := (Sort.insertionSort (ltOf cfA) l.toArray 0 l.length).toList
/-- What the sort makes of a list that is not long. -/
def m_sortA (l : List Att) : Option (List Att) := if l.length < 20 then some (sortA l) else none
theorem size_insSort (l : List Att) : (Sort.insertionSort (ltOf cfA) l.toArray 0 l.length).size = l.length := by
  have : ∀ (lt : Att → Att → Bool) (a b i : Nat) (d : Array Att), (insOuter lt a b i d).size = d.size := by
    intro lt a b i d
    have inner : ∀ (j : Nat) (d : Array Att), (insInner lt a j d).size = d.size := by
      intro j; induction j with
      | zero => intro d; rfl
      | succ j ih => intro d; unfold insInner; split
                     · rw [ih, size_swp]
                     · rfl
    induction h : b - i generalizing i d with
    | zero => unfold insOuter; rw [if_neg (by omega)]
    | succ n ih => unfold insOuter; rw [if_pos (by omega), ih _ _ (by omega), inner]
  unfold Sort.insertionSort
  rw [this]; simp
theorem sortA_len (l : List Att) : (sortA l).length = l.length := by unfold sortA; rw [Array.length_toList, size_insSort]

set_option maxHeartbeats 1000000 in
theorem closure_any (x y : Att) (W : World) : Calls Try.prog 42 #[.agg (Enc.enc x).toArray, .agg (Enc.enc y).toArray] W fun e w' => e = .returned (.int .i64 (cfA x y)) ∧ ∃ q os', w' = grow (W.drewN q) os' := by
  have hcon := fun W' => Try.cmp_Compare_int y.pts x.pts W'
  unfold cfA
  generalize Lib.compareInt y.pts x.pts = r at hcon ⊢
  have HC := Lib.hid hcon
  clear hcon
  show Calls Try.prog 42 #[.agg #[.int .i64 x.num, .int .i64 x.tick, .int .i64 x.pts], .agg #[.int .i64 y.num, .int .i64 y.tick, .int .i64 y.pts]] W _
  go_enter Try.func42, Try.ntmps42
  go_wp2_with (go_at_call 43; refine (HC.out _).mono ?_; rintro e w' ⟨rfl, rfl⟩)
  go_ret
  exact ⟨rfl, 0, _, by rw [alloc_eq_grow, alloc_eq_grow, grow_grow]; rfl⟩

section
variable {Z : World} {ρ : PH} {L : List Atom} {w : World}
set_option maxHeartbeats 1000000 in
theorem ins_c (A : Option Addr) (cap : Nat) (l : List Att) (hp : Hp Z ρ (OwnSl 38 (.slice A l.length cap) l :: L) w) (hlen : l.length < 20) :
    Calls Try.prog 59 #[.slice A l.length cap, .int .i64 (0 : Nat), .int .i64 (l.length : Nat), .func (.func 42) #[] #[]] w (fun e w' =>
      e = .returned (.tuple #[]) ∧ Hp Z ρ (OwnSl 38 (.slice A l.length cap) (sortA l) :: L) w') := by
  rcases Nat.eq_zero_or_pos l.length with h0 | h0
  · have hl := List.eq_nil_of_length_eq_zero h0
    subst hl
    have hs : sortA [] = [] := List.eq_nil_of_length_eq_zero (sortA_len [])
    rw [hs]
    have HP := Lib.hid hp
    clear hp hlen h0 hs
    simp only [List.length_nil]
    go_enter Try.func59, Try.ntmps59
    go_wp2_with fail
    refine wp_loop_rounds 1 ?_
    rw [rounds_succ]
    go_wp2_with fail
    go_end0
    exact ⟨rfl, HP.out⟩
  · rcases hp.row.2 with ⟨_, _, hn⟩ | ⟨g, cap', cur, e, hpt, h1, h2, h3, h4⟩
    · omega
    · simp only [Value.slice.injEq, true_and] at e
      obtain ⟨rfl, rfl⟩ := e
      have eg : ∀ args w, (callFunc 42 args).run Try.prog w = .ok (.enter 42 args) w := enters Try.func42 (by kernel_rfl) rfl
      have hcon := AnyQ.insertionSortCmpFunc Try.insSort 3 Try.isAgg38 Try.sizeOf38 Enc.enc att3 Enc.one cfA 42 #[] g 0 cap 0 l.length l.toArray w eg (fun _ _ _ _ x y => closure_any x y _) (hp.holdsK h0) (Array.getElem?_eq_some_iff.1 (hpt.look 0 rfl)).1 (Nat.zero_le _) (by simp) (by simp; omega)
      change Calls Try.prog 59 _ _ _ at hcon
      simp only [List.size_toArray] at hcon
      refine hcon.mono ?_
      rintro e w' ⟨rfl, n, os, rfl⟩
      have := hp.sortK (m := n) (os := os) (l' := sortA l) h0 (sortA_len l)
      have e : (sortA l).toArray = Sort.insertionSort (ltOf cfA) l.toArray 0 l.length := by simp [sortA]
      rw [e] at this
      exact ⟨rfl, this⟩
set_option maxHeartbeats 1000000 in
theorem stable_c (A : Option Addr) (cap : Nat) (l : List Att) (hp : Hp Z ρ (OwnSl 38 (.slice A l.length cap) l :: L) w) (hlen : l.length < 20) :
    Calls Try.prog 46 #[.slice A l.length cap, .int .i64 (l.length : Nat), .func (.func 42) #[] #[]] w fun e w' =>
      e = .returned (.tuple #[]) ∧ Hp Z ρ (OwnSl 38 (.slice A l.length cap) (sortA l) :: L) w' := by
  have hI := Lib.hid (ins_c A cap l hp hlen)
  clear hp
  generalize hsl : sortA l = sl at *
  clear hsl
  generalize hll : l.length = n at *
  clear hll
  have h1 : ¬ (20 : Int) ≤ (n : Int) := by omega
  go_enter Try.func46, Try.ntmps46
  go_wp2_with fail
  have h2 : (n : Int) < 20 := by omega
  clear h1
  refine wp_loop_rounds 1 ?_
  rw [rounds_succ]
  go_wp2_with fail
  refine hI.out.mono ?_
  rintro e w' ⟨rfl, hr⟩
  go_wp2_with fail
  refine wp_loop_rounds 1 ?_
  rw [rounds_succ]
  go_wp2_with fail
  go_end0
  exact ⟨rfl, hr⟩
set_option maxHeartbeats 1000000 in
theorem c_sortA (l : List Att) (v : Value) (hp : Hp Z ρ (OwnSl 38 v l :: L) w) (r : List Att) (hm : m_sortA l = some r) :
    Calls Try.prog 41 #[v, .func (.func 42) #[] #[]] w (Ret fun u w' => u = .tuple #[] ∧ Hp Z ρ (OwnSl 38 v r :: L) w') := by
  unfold m_sortA at hm
  split at hm
  · rename_i hlen
    simp only [Option.some.injEq] at hm
    subst hm
    have hv : ∃ A cap, v = .slice A l.length cap := by
      rcases hp.row.2 with ⟨A, rfl, hn⟩ | ⟨g, cap, cur, rfl, _⟩
      · exact ⟨A, 0, by rw [hn]⟩
      · exact ⟨_, _, rfl⟩
    obtain ⟨A, cap, rfl⟩ := hv
    have hI := Lib.hid (stable_c A cap l hp hlen)
    clear hp
    generalize hsl : sortA l = sl at *
    clear hsl
    generalize hll : l.length = n at *
    clear hll
    go_enter Try.func41, Try.ntmps41
    go_wp2_with fail
    refine hI.out.mono ?_
    rintro e w' ⟨rfl, hr⟩
    go_wp2_with fail
    go_end0
    exact ⟨_, rfl, rfl, hr⟩
  · cases hm
set_option maxHeartbeats 1000000 in
theorem c_revA (l : List Att) (v : Value) (hp : Hp Z ρ (OwnSl 38 v l :: L) w) :
    Calls Try.prog 40 #[v] w (Ret fun u w' => u = .tuple #[] ∧ Hp Z ρ (OwnSl 38 v l.reverse :: L) w') := by
  rcases hp.row.2 with ⟨A, rfl, hn⟩ | ⟨g, cap, cur, rfl, hpt, h1, h2, h3, h4⟩
  · have hl := List.eq_nil_of_length_eq_zero hn
    subst hl
    have HP := Lib.hid hp
    clear hp hn
    go_enter Try.func40, Try.ntmps40
    go_wp2_with fail
    refine wp_loop_rounds 1 ?_
    rw [rounds_succ]
    go_wp2_with fail
    go_end0
    exact ⟨_, rfl, rfl, HP.out⟩
  · rcases Nat.eq_zero_or_pos l.length with h0 | h0
    · have hl := List.eq_nil_of_length_eq_zero h0
      subst hl
      have HP := Lib.hid hp
      clear hp h0 hpt h1 h2 h3 h4
      simp only [List.length_nil]
      go_enter Try.func40, Try.ntmps40
      go_wp2_with fail
      refine wp_loop_rounds 1 ?_
      rw [rounds_succ]
      go_wp2_with fail
      go_end0
      exact ⟨_, rfl, rfl, HP.out⟩
    · have hcon := AnyQ.slices_Reverse Try.rev 3 Try.isAgg38 Try.sizeOf38 Enc.enc att3 Enc.one g 0 cap l.toArray w (hp.holdsK h0) (by simp; unfold maxLen at h2; omega)
      change Calls Try.prog 40 _ _ _ at hcon
      simp only [List.size_toArray] at hcon
      refine hcon.mono ?_
      rintro e w' ⟨rfl, n, rfl⟩
      have := hp.putK (m := n) (l' := l.reverse) h0 (by simp)
      rw [show l.toArray.reverse = l.reverse.toArray from by simp]
      exact ⟨_, rfl, rfl, this⟩
end
end Go.Proofs.Ytmjmoogldbejoaa

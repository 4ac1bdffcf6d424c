/-
  The law on lists of trees.
-/
import Derived.Test.YtnnccbagbgndpaaQC
import Derived.Test.YtnnccbagbgndpaaWLM
set_option linter.unusedVariables false
set_option linter.unusedSimpArgs false
namespace Go.Proofs.Ytnnccbagbgndpaa
open Go.RowKit
theorem law_DistanceLists (p0 : Node) (p1 : (List Node)) (h0 : NodeWf p0) (h1 : LW NodeWf p1) : m_assessorlaw37_DistanceLists p0 p1 = some true := by
  unfold m_assessorlaw37_DistanceLists
  rw [awake_m]
  simp only [Option.bind_some]
  rw [if_neg (by simp)]
  by_cases h5 : 5 < p1.length
  · rw [if_pos (by simp; omega)]
    simp
  · rw [if_neg (by simp; omega)]
    obtain ⟨x, hx, k1⟩ := few_m p0 p0 12 (by omega) (by omega)
    rw [hx]
    simp only [Option.bind_some]
    cases x with
    | false => simp
    | true =>
      have c0 := k1 rfl
      rw [if_neg (by simp)]
      have hfew : (loopM (fun s => m_assessorlaw37_DistanceLists_lp1 p1 s) 0 : Option (Out Unit Bool)) = some (.ret true) ∨ ((loopM (fun s => m_assessorlaw37_DistanceLists_lp1 p1 s) 0 : Option (Out Unit Bool)) = some (.brk ()) ∧ ∀ n ∈ p1, cntN n ≤ 12) := by
        obtain ⟨o, ho, hp⟩ := loopM_inv (body := fun s => m_assessorlaw37_DistanceLists_lp1 p1 s) (fun s => ∃ k : Nat, s = (k : Int) ∧ k ≤ p1.length ∧ ∀ (j : Nat) n, j < k → p1[j]? = some n → cntN n ≤ 12) (fun s => p1.length - s.toNat) (fun o : Out Unit Bool => o = .ret true ∨ (o = .brk () ∧ ∀ n ∈ p1, cntN n ≤ 12))
          (by
            rintro s ⟨k, rfl, hk, hj⟩
            by_cases hlt : k < p1.length
            · obtain ⟨n, hn⟩ := get_of_lt hlt
              obtain ⟨y, hy, k2⟩ := few_m n n 12 (by omega) (by omega)
              cases y with
              | true =>
                left
                refine ⟨((k + 1 : Nat) : Int), ?_, ⟨k + 1, rfl, by omega, fun j m hjk hm => ?_⟩, by simp; omega⟩
                · simp only [m_assessorlaw37_DistanceLists_lp1]
                  rw [if_pos (by simp; omega), idx_nat hn]
                  simp only [Option.bind_some]
                  rw [hy]
                  simp only [Option.bind_some]
                  rw [if_neg (by simp), inK_succ (by omega)]
                  rfl
                · rcases Nat.lt_or_ge j k with h | h
                  · exact hj j m h hm
                  · have : j = k := by omega
                    subst this
                    rw [hn] at hm
                    rw [← Option.some.inj hm]
                    have := (k2 rfl).1
                    omega
              | false =>
                right
                refine ⟨.ret true, ?_, Or.inl rfl⟩
                simp only [m_assessorlaw37_DistanceLists_lp1]
                rw [if_pos (by simp; omega), idx_nat hn]
                simp only [Option.bind_some]
                rw [hy]
                simp only [Option.bind_some]
                rw [if_pos (by simp)]
            · right
              refine ⟨.brk (), ?_, Or.inr ⟨rfl, fun n hn => ?_⟩⟩
              · simp only [m_assessorlaw37_DistanceLists_lp1]
                rw [if_neg (by simp; omega)]
              · obtain ⟨j, hj2⟩ := List.getElem?_of_mem hn
                exact hj j n (by have := (List.getElem?_eq_some_iff.1 hj2).1; omega) hj2) 0 ⟨0, rfl, Nat.zero_le _, fun j n h => by omega⟩
        rcases hp with rfl | ⟨rfl, hp⟩
        · exact Or.inl ho
        · exact Or.inr ⟨ho, hp⟩
      rcases hfew with ho | ⟨ho, hall⟩
      · rw [ho]; rfl
      · rw [ho]
        simp only [Option.bind_some]
        have hall' : ∀ n ∈ p1, cntN n ≤ 256 := fun n hn => by have := hall n hn; omega
        obtain ⟨m, hm, hd, hv⟩ := Matrix_m p1 hall' (by omega)
        rw [hm]
        simp only [Option.bind_some]
        rcases Nearest_m p0 p1 (by omega) hall' (by omega) with ⟨rfl, hn⟩ | ⟨hne, i, d, hn, hnear⟩
        · rw [hn]
          have := hd.rows
          simp at this
          simp [this]
        · rw [hn]
          simp only [Option.bind_some]
          have hpos : 0 < p1.length := List.length_pos_iff.2 hne
          rw [if_neg (by simp [hd.rows, hne])]
          obtain ⟨o, ho, hp⟩ := loop_for (body := fun s => m_assessorlaw37_DistanceLists_lp2 p0 p1 (m, 0) s.1 s.2.1 s.2.2) (fun k s => s.2.2 = (k : Int) ∧ ((k = 0 ∧ s.2.1 = 0 ∧ s.1 = -1) ∨ (0 < k ∧ Near p0 p1 k s.2.1 s.1))) (fun o : Out (Int × Int) Bool => ∃ i d, o = .brk (d, i) ∧ Near p0 p1 p1.length i d) p1.length 0 (-1, 0, 0) ⟨rfl, Or.inl ⟨rfl, rfl, rfl⟩⟩
            (by
              rintro k ⟨d, i, z⟩ _ hk ⟨e, hs⟩
              simp only at e hs
              subst e
              obtain ⟨x, hx⟩ := get_of_lt (l := p1) (k := k) (by omega)
              have cx := hall x (List.mem_of_getElem? hx)
              obtain ⟨r, v, a1, a2, a3, a4⟩ := hd.get (s := k) (t := k) (by omega) (by omega)
              have hin : (loopM (fun s => m_assessorlaw37_DistanceLists_lp3 p1 (m, 0) (k : Int) x s) 0 : Option (Out Unit Bool)) = some (.brk ()) := by
                refine loop_from (fun j => (j : Int)) p1.length rfl (fun j hj => ?_) ?_
                · obtain ⟨y, hy⟩ := get_of_lt hj
                  have cy := hall y (List.mem_of_getElem? hy)
                  obtain ⟨r2, v2, b1, b2, b3, b4⟩ := hd.get (s := k) (t := j) (by omega) (by omega)
                  have hvv := hv k j x y hx hy
                  rw [b3] at hvv
                  simp only [m_assessorlaw37_DistanceLists_lp3]
                  rw [if_pos (by simp; omega), idx_nat hy]
                  simp only [Option.bind_some]
                  rw [Distance_m x y (by omega) (by omega)]
                  simp only [Option.bind_some]
                  rw [if_neg (by simp), idx_nat b1]
                  simp only [Option.bind_some]
                  rw [idx_nat b2]
                  simp only [Option.bind_some]
                  rw [Option.some.inj hvv, if_neg (by simp), inK_succ (by omega)]
                  rfl
                · simp only [m_assessorlaw37_DistanceLists_lp3]
                  rw [if_neg (by simp)]
              have hnk : Near p0 p1 k i d := by
                rcases hs with ⟨rfl, rfl, rfl⟩ | ⟨_, hs⟩
                · exact ⟨fun _ => ⟨rfl, rfl⟩, fun h => by omega⟩
                · exact hs
              have hst := hnk.step hx
              have hbody : m_assessorlaw37_DistanceLists_lp2 p0 p1 (m, 0) d i (k : Int) = if d < 0 ∨ ((td p0 x : Nat) : Int) < d then some (.next (((td p0 x : Nat) : Int), (k : Int), ((k + 1 : Nat) : Int))) else some (.next (d, i, ((k + 1 : Nat) : Int))) := by
                simp only [m_assessorlaw37_DistanceLists_lp2]
                rw [if_pos (by simp; omega), idx_nat hx]
                simp only [Option.bind_some]
                rw [idx_nat a1]
                simp only [Option.bind_some]
                rw [if_neg (by simp [a4]), hin]
                simp only [Option.bind_some]
                rw [Distance_m p0 x (by omega) (by omega)]
                simp only [Option.bind_some]
                rw [inK_succ (by omega)]
                by_cases hc : d < 0 ∨ ((td p0 x : Nat) : Int) < d
                · rw [if_pos hc, if_pos (by simpa using hc)]; rfl
                · rw [if_neg hc, if_neg (by simpa using hc)]; rfl
              simp only
              rw [hbody]
              by_cases hc : d < 0 ∨ ((td p0 x : Nat) : Int) < d
              · rw [if_pos hc] at hst ⊢
                exact ⟨_, rfl, rfl, Or.inr ⟨by omega, hst⟩⟩
              · rw [if_neg hc] at hst ⊢
                exact ⟨_, rfl, rfl, Or.inr ⟨by omega, hst⟩⟩)
            (by
              rintro ⟨d, i, z⟩ ⟨e, hs⟩
              simp only at e hs
              rw [Nat.zero_add] at e hs
              subst e
              refine ⟨.brk (d, i), ?_, i, d, rfl, ?_⟩
              · simp only [m_assessorlaw37_DistanceLists_lp2]
                rw [if_neg (by simp)]
              · rcases hs with ⟨h, _⟩ | ⟨_, h⟩
                · omega
                · exact h)
          obtain ⟨i', d', rfl, hnear'⟩ := hp
          obtain ⟨rfl, rfl⟩ := hnear.uniq hnear'
          rw [ho]
          simp
end Go.Proofs.Ytnnccbagbgndpaa

/-
  The examples of the chapter hold. No program is named.
-/
import Derived.Test.YtlnhijgieblmgaaDoorP2
import Derived.Test.YtlnhijgieblmgaaDoorPS
import Derived.Test.YtlnhijgieblmgaaDoorWM
set_option linter.unusedVariables false
set_option linter.unusedSimpArgs false
namespace Go.Proofs.YtlnhijgieblmgaaDoor
open Go.RowKit
theorem leaf_wf (k : Int) (t : ByteArray) (hk : I64 k) (ht : t.size ≤ 40) (ks : List Node) (hks : ∀ x ∈ ks, NodeWf x) (hl : ks.length ≤ 10) : NodeWf ⟨k, t, 0, 0, ks⟩ :=
  .mk k t 0 0 ks hk (by unfold maxLen; omega) ⟨by decide, by decide⟩ ⟨by decide, by decide⟩ (by unfold maxLen; omega) hks
theorem ex_shared (r : List Int) (h : SharedIs [⟨3, 1⟩, ⟨3, 3⟩] [⟨4, 0⟩, ⟨3, 9⟩] r) : r = [3] :=
  h.one ⟨by simp, fun x => by simp; omega⟩
theorem awake_m : m_assessorlaw43_awake = some true := by
  have hleaf : NodeWf (Node.mk 20 (ByteArray.mk #[97]) 0 0 []) := leaf_wf 20 _ ⟨by decide, by decide⟩ (by decide) [] (by simp) (by simp)
  have htree : NodeWf (Node.mk 28 (ByteArray.mk #[45]) 0 0 [Node.mk 20 (ByteArray.mk #[97]) 0 0 []]) := leaf_wf 28 _ ⟨by decide, by decide⟩ (by decide) _ (by simpa using hleaf) (by simp)
  have hsl : short (Node.mk 20 (ByteArray.mk #[97]) 0 0 []) := ⟨by decide, trivial⟩
  have hst : short (Node.mk 28 (ByteArray.mk #[45]) 0 0 [Node.mk 20 (ByteArray.mk #[97]) 0 0 []]) := ⟨by decide, hsl, trivial⟩
  unfold m_assessorlaw43_awake
  rw [Winnow_m, Hashes_m, Roll_m, Symbols_m _ htree hst (by decide), Marks_m _ 1 1 hleaf hsl (by decide)]
  have e1 : winE [5, 3, 9, 3, 7] 3 = ([⟨3, 1⟩, ⟨3, 3⟩], 0) := by decide
  have e2 : hashesE [1, 2, 3] 2 = ([1000005, 2000009], 0) := by decide
  have e3 : rollE 1000005 1 3 2 = (2000009, 0) := by decide
  have e4 : symL (Node.mk 28 (ByteArray.mk #[45]) 0 0 [Node.mk 20 (ByteArray.mk #[97]) 0 0 []]) = [symOf 28 (ByteArray.mk #[45]), symOf 20 (ByteArray.mk #[97]), 0] := rfl
  have e5 : (marksE (Node.mk 20 (ByteArray.mk #[97]) 0 0 []) 1 1).2 = 0 ∧ (marksE (Node.mk 20 (ByteArray.mk #[97]) 0 0 []) 1 1).1.length = 1 := by
    have hs : symL (Node.mk 20 (ByteArray.mk #[97]) 0 0 []) = [symOf 20 (ByteArray.mk #[97])] := rfl
    unfold marksE
    rw [hs]
    generalize symOf 20 (ByteArray.mk #[97]) = s
    have hh : hashesL [s] (Int.toNat 1) = [hashL [s]] := rfl
    rw [if_pos (by decide), if_neg (by simp), hh]
    generalize hashL [s] = h
    unfold winE
    rw [if_neg (by decide), if_neg (by simp)]
    refine ⟨rfl, ?_⟩
    show (winL [h] 1).length = 1
    have : Og (gOf [h]) 1 1 = [0] := by
      unfold Og Cg
      simp [lmG, List.range_succ]
    unfold winL
    rw [List.length_map]
    show (Og (gOf [h]) 1 1).length = 1
    rw [this]; rfl
  rw [e1, e2, e3, e4]
  simp only [Option.bind_some, decide_true, if_true]
  rw [SameM_m _ _ (by decide)]
  simp only [Option.bind_some, decide_true, Bool.and_self, if_true, Bool.true_and]
  rw [SameI_m _ _ (by decide), Hash_m _ (by decide)]
  have e6 : hashL [1, 2] = 1000005 := by decide
  rw [e6]
  have e7 : idx ([symOf 28 (ByteArray.mk #[45]), symOf 20 (ByteArray.mk #[97]), 0] : List Int) 2 = some 0 := rfl
  obtain ⟨r, hr, hs, _⟩ := Shared_m [⟨3, 1⟩, ⟨3, 3⟩] [⟨4, 0⟩, ⟨3, 9⟩] (by decide) (by decide) (by intro m hm; simp at hm; rcases hm with rfl | rfl <;> exact ⟨by decide, by decide⟩)
  obtain rfl := ex_shared r hs
  simp only [Option.bind_some, decide_true, Bool.and_self, if_true, Bool.true_and, e7, e5.1, e5.2, List.length_cons, List.length_nil, hr]
  rw [SameI_m _ _ (by decide)]
  rfl
end Go.Proofs.YtlnhijgieblmgaaDoor

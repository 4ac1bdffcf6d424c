/-
  The examples that each law checks first.
-/
import Derived.Test.YtnnccbagbgndpaaQA
set_option linter.unusedVariables false
set_option linter.unusedSimpArgs false
namespace Go.Proofs.Ytnnccbagbgndpaa
open Go.RowKit
def nm (b : UInt8) : Node := ⟨20, ⟨#[b]⟩, 0, 0, []⟩
def bin (b : UInt8) (x y : Node) : Node := ⟨29, ⟨#[b]⟩, 0, 0, [x, y]⟩
def exX : Node := bin 43 (nm 97) (bin 42 (nm 98) (nm 99))
def exY : Node := bin 42 (nm 97) (nm 99)
def exP : Node := bin 43 (nm 97) (nm 98)
def exQ : Node := bin 43 (nm 98) (nm 97)
def lN (b : UInt8) : Lbl := ⟨20, ⟨#[b]⟩⟩
def lB (b : UInt8) : Lbl := ⟨29, ⟨#[b]⟩⟩
theorem toT_nm (b : UInt8) : toT (nm b) = .node (lN b) [] := by rw [toT_eq]; simp [nm, toR_nil, lN]
theorem toT_bin (b : UInt8) (x y : Node) : toT (bin b x y) = .node (lB b) [toT y, toT x] := by rw [toT_eq]; simp [bin, toR_nil, toR_cons, lB]
theorem cnt_nm (b : UInt8) : cntN (nm b) = 1 := by rw [cntN_eq]; simp [nm, cntL]
theorem cnt_bin (b : UInt8) (x y : Node) : cntN (bin b x y) = 1 + (cntN x + cntN y) := by rw [cntN_eq]; simp [bin, cntL]
theorem td_xy : td exX exY = 3 := by
  unfold td exX exY
  simp only [toT_nm, toT_bin, fd_c, fd_l0, fd_r0, szL, szT, List.nil_append, List.cons_append, List.append_nil, rl]
  decide
theorem td_pq : td exP exQ = 2 := by
  unfold td exP exQ
  simp only [toT_nm, toT_bin, fd_c, fd_l0, fd_r0, szL, szT, List.nil_append, List.cons_append, List.append_nil, rl]
  decide
theorem inter_xy : inter (plabs exX) (plabs exY) = 3 := by
  unfold plabs po exX exY
  simp only [toT_nm, toT_bin, rp_cons, rp_nil, kidsT, labT, List.nil_append, List.cons_append, List.append_nil]
  decide
theorem c_x : cntN exX = 5 := by unfold exX; simp only [cnt_bin, cnt_nm]
theorem c_y : cntN exY = 3 := by unfold exY; simp only [cnt_bin, cnt_nm]
theorem c_p : cntN exP = 3 := by unfold exP; simp only [cnt_bin, cnt_nm]
theorem c_q : cntN exQ = 3 := by unfold exQ; simp only [cnt_bin, cnt_nm]
theorem awake_m : m_assessorlaw37_awake = some true := by
  unfold m_assessorlaw37_awake
  simp only [m_assessorlaw37_name, m_assessorlaw37_binary, Option.bind_some]
  have eX : (Node.mk 29 (ByteArray.mk #[43]) 0 0 [Node.mk 20 (ByteArray.mk #[97]) 0 0 [], Node.mk 29 (ByteArray.mk #[42]) 0 0 [Node.mk 20 (ByteArray.mk #[98]) 0 0 [], Node.mk 20 (ByteArray.mk #[99]) 0 0 []]]) = exX := rfl
  have eY : (Node.mk 29 (ByteArray.mk #[42]) 0 0 [Node.mk 20 (ByteArray.mk #[97]) 0 0 [], Node.mk 20 (ByteArray.mk #[99]) 0 0 []]) = exY := rfl
  have eP : (Node.mk 29 (ByteArray.mk #[43]) 0 0 [Node.mk 20 (ByteArray.mk #[97]) 0 0 [], Node.mk 20 (ByteArray.mk #[98]) 0 0 []]) = exP := rfl
  have eQ : (Node.mk 29 (ByteArray.mk #[43]) 0 0 [Node.mk 20 (ByteArray.mk #[98]) 0 0 [], Node.mk 20 (ByteArray.mk #[97]) 0 0 []]) = exQ := rfl
  rw [eX, eY, eP, eQ]
  have cx := c_x
  have cy := c_y
  rw [Distance_m exX exY (by omega) (by omega)]
  simp only [Option.bind_some]
  rw [Distance_m exP exQ (by rw [c_p]; omega) (by rw [c_q]; omega)]
  simp only [Option.bind_some]
  rw [Within_m exX exY 3 (by omega) (by omega)]
  simp only [Option.bind_some]
  have hall : ∀ l : List Node, (∀ n ∈ l, n = exX ∨ n = exY) → ∀ n ∈ l, cntN n ≤ 256 := fun l h n hn => by
    rcases h n hn with rfl | rfl <;> omega
  rcases Nearest_m exX [exY, exX] (by omega) (hall _ (by simp)) (by simp) with ⟨h0, _⟩ | ⟨_, i, d, hn, hnear⟩
  · cases h0
  obtain ⟨rfl, rfl⟩ : i = 1 ∧ d = 0 := by
    refine hnear.uniq ⟨fun e => by simp at e, fun _ => ⟨1, exX, by simp, rfl, rfl, by rw [td_self]; rfl, fun t y _ _ => by rw [td_self]; omega, fun t y ht hy => ?_⟩⟩
    have : t = 0 := by omega
    subst this
    simp at hy
    subst hy
    rw [td_self, td_xy]; omega
  rw [hn]
  simp only [Option.bind_some]
  obtain ⟨m, hm, hmd, hmv⟩ := Matrix_m [exX, exY] (hall _ (by simp)) (by simp)
  rw [hm]
  simp only [Option.bind_some]
  obtain ⟨r1, v1, a1, a2, a3, a4⟩ := hmd.get (s := 1) (t := 0) (by simp) (by simp)
  have hv1 := hmv 1 0 exY exX rfl rfl
  rw [a3, td_comm, td_xy] at hv1
  obtain rfl := Option.some.inj hv1
  obtain ⟨o, ho, hs⟩ := Subtrees_m exX exY (by omega) (by omega)
  rw [ho]
  simp only [Option.bind_some]
  obtain ⟨r4, v4, b1, b2, b3, b4⟩ := hs.dim.get (s := 4) (t := 2) (by omega) (by omega)
  have hv4 := hs.val 2 1 (.node (lN 99) []) (.node (lN 99) []) 4 2 (by unfold exX; simp [toT_nm, toT_bin, po, rp_cons, rp_nil, kidsT]) (by unfold exY; simp [toT_nm, toT_bin, po, rp_cons, rp_nil, kidsT]) (by unfold exX bin nm; simp [numsN, numsL, cntN, cntL]) (by unfold exY bin nm; simp [numsN, numsL, cntN, cntL])
  rw [fd_self] at hv4
  have : at2 o 4 2 = some 0 := hv4
  rw [b3] at this
  obtain rfl := Option.some.inj this
  rw [Bound_m exX exY (by omega) (by omega), inter_xy, cx, cy]
  have hr := hmd.rows
  have hro := hs.dim.rows
  have i1 : idx m 1 = some r1 := idx_nat (k := 1) a1
  have i2 : idx r1 0 = some ((3 : Nat) : Int) := idx_nat (k := 0) a2
  have i3 : idx o 4 = some r4 := idx_nat (k := 4) b1
  have i4 : idx r4 2 = some 0 := idx_nat (k := 2) b2
  rw [cx] at hro
  rw [cy] at b4
  simp [td_xy, td_pq, i1, i2, i3, i4, hr, hro, a4, b4]
end Go.Proofs.Ytnnccbagbgndpaa

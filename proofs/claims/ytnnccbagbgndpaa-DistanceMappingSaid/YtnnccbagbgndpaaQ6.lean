/-
  A tree of the program as a tree of labels; its arrays in postorder; the nodes that are no others' first children.
-/
import Derived.Test.YtnnccbagbgndpaaQ5
import Derived.Test.YtnnccbagbgndpaaTreeV
set_option linter.unusedVariables false
set_option linter.unusedSimpArgs false
namespace Go.Proofs.Ytnnccbagbgndpaa
open Go.RowKit
mutual
def toT : Node → Tr
  | ⟨k, t, _, _, kids⟩ => .node ⟨k, t⟩ (toR kids)
def toR : List Node → List Tr
  | [] => []
  | n :: l => toR l ++ [toT n]
end
theorem toT_eq (n : Node) : toT n = .node ⟨n.kind, n.text⟩ (toR n.kids) := by obtain ⟨a, b, c, d, k⟩ := n; rw [toT]
theorem toR_nil : toR [] = [] := by rw [toR]
theorem toR_cons (n : Node) (l : List Node) : toR (n :: l) = toR l ++ [toT n] := by rw [toR]
theorem toR_app : ∀ (l m : List Node), toR (l ++ m) = toR m ++ toR l
  | [], m => by simp [toR_nil]
  | n :: l, m => by rw [List.cons_append, toR_cons, toR_app l m, toR_cons, List.append_assoc]
theorem toR_snoc (l : List Node) (n : Node) : toR (l ++ [n]) = toT n :: toR l := by rw [toR_app, toR_cons, toR_nil]; rfl
theorem toR_take {l : List Node} {i : Nat} {n : Node} (h : l[i]? = some n) : toR (l.take (i + 1)) = toT n :: toR (l.take i) := by
  rw [take_snoc_of h, toR_snoc]
mutual
theorem sz_toT : ∀ n, szT (toT n) = cntN n
  | ⟨a, b, c, d, k⟩ => by rw [toT, szT, cntN, sz_toR k]; omega
theorem sz_toR : ∀ l, szL (toR l) = cntL l
  | [] => by rw [toR, szL, cntL]
  | n :: l => by rw [toR, szL_app, szL_one, cntL, sz_toR l, sz_toT n]; omega
end
mutual
def numsN : Node → Nat → List Int
  | ⟨_, _, _, _, kids⟩, c => numsL kids (c + 1) ++ [(c : Int)]
def numsL : List Node → Nat → List Int
  | [], _ => []
  | n :: l, c => numsN n c ++ numsL l (c + cntN n)
end
theorem numsN_eq (n : Node) (c : Nat) : numsN n c = numsL n.kids (c + 1) ++ [(c : Int)] := by obtain ⟨a, b, e, d, k⟩ := n; rw [numsN]
theorem numsL_app : ∀ (l m : List Node) (c : Nat), numsL (l ++ m) c = numsL l c ++ numsL m (c + cntL l)
  | [], m, c => by simp [numsL, cntL]
  | n :: l, m, c => by rw [List.cons_append, numsL, numsL, numsL_app l m, cntL, List.append_assoc, Nat.add_assoc]
theorem numsL_take {l : List Node} {i : Nat} {n : Node} (h : l[i]? = some n) (c : Nat) : numsL (l.take (i + 1)) c = numsL (l.take i) c ++ numsN n (c + cntL (l.take i)) := by
  rw [take_snoc_of h, numsL_app, numsL, numsL, List.append_nil]
mutual
theorem nums_lenN : ∀ n c, (numsN n c).length = cntN n
  | ⟨a, b, e, d, k⟩, c => by rw [numsN, List.length_append, nums_lenL k, cntN]; simp; omega
theorem nums_lenL : ∀ l c, (numsL l c).length = cntL l
  | [], c => by rw [numsL, cntL]; rfl
  | n :: l, c => by rw [numsL, List.length_append, nums_lenN n, nums_lenL l, cntL]
end
mutual
/-- The numbers are those from c on, each of them once. -/
theorem nums_memN : ∀ n c x, x ∈ numsN n c ↔ (c : Int) ≤ x ∧ x < ((c + cntN n : Nat) : Int)
  | ⟨a, b, e, d, k⟩, c, x => by
    rw [numsN, List.mem_append, nums_memL k, cntN, List.mem_singleton]; omega
theorem nums_memL : ∀ l c x, x ∈ numsL l c ↔ (c : Int) ≤ x ∧ x < ((c + cntL l : Nat) : Int)
  | [], c, x => by rw [numsL, cntL]; simp
  | n :: l, c, x => by
    rw [numsL, List.mem_append, nums_memN n, nums_memL l, cntL]; omega
end
mutual
theorem nums_nodupN : ∀ n c, (numsN n c).Nodup
  | ⟨a, b, e, d, k⟩, c => by
    rw [numsN, List.nodup_append]
    refine ⟨nums_nodupL k _, by simp, fun x hx y hy => ?_⟩
    rw [nums_memL] at hx
    rw [List.mem_singleton] at hy
    omega
theorem nums_nodupL : ∀ l c, (numsL l c).Nodup
  | [], c => by rw [numsL]; exact List.nodup_nil
  | n :: l, c => by
    rw [numsL, List.nodup_append]
    refine ⟨nums_nodupN n _, nums_nodupL l _, fun x hx y hy => ?_⟩
    rw [nums_memN] at hx
    rw [nums_memL] at hy
    omega
end
/-- The first nodes of subtrees. -/
def lefts : Nat → List Tr → List Int
  | _, [] => []
  | b, u :: l => ((b + 1 - szT u : Nat) : Int) :: lefts (b + 1) l
theorem lefts_app : ∀ (b : Nat) (l m : List Tr), lefts b (l ++ m) = lefts b l ++ lefts (b + l.length) m
  | b, [], m => rfl
  | b, u :: l, m => by
    rw [List.cons_append, lefts, lefts, lefts_app (b + 1) l m, List.length_cons, List.cons_append]
    congr 3; omega
theorem lefts_len : ∀ (b : Nat) (l : List Tr), (lefts b l).length = l.length
  | b, [] => rfl
  | b, u :: l => by rw [lefts, List.length_cons, lefts_len, List.length_cons]
theorem lefts_get : ∀ (b : Nat) (l : List Tr) (s : Nat) (u : Tr), l[s]? = some u → (lefts b l)[s]? = some ((b + s + 1 - szT u : Nat) : Int)
  | b, u :: l, 0, v, h => by simp only [List.getElem?_cons_zero, Option.some.injEq] at h; subst h; rfl
  | b, u :: l, s + 1, v, h => by
    simp only [List.getElem?_cons_succ] at h
    rw [lefts, List.getElem?_cons_succ, lefts_get (b + 1) l s v h, show b + 1 + s = b + (s + 1) by omega]
/-- The walk of a tree: what it adds. -/
theorem walk_m : ∀ (f : Nat) (n : Node), SizeOf.sizeOf n < f → ∀ (c B : Nat) (g : DFlat), g.labels.length = B → g.left.length = B → g.numbers.length = B → B + cntN n ≤ 100000 → c + cntN n ≤ 100000 →
    m_distance_flatten_1_r f n (c : Int) g = some (((c + cntN n : Nat) : Int), ⟨g.labels ++ (po [toT n]).map labT, g.left ++ lefts B (po [toT n]), g.numbers ++ numsN n c⟩) := by
  intro f
  induction f with
  | zero => intro n h; omega
  | succ f ih =>
    intro n hsz c B g h1 h2 h3 hB hc
    have hcnt := cntN_eq n
    unfold m_distance_flatten_1_r m_distance_flatten_1_body
    rw [inK_succ (by omega)]
    simp only [Option.bind_some]
    refine bind_loop (fun i => ((i : Int), ((c + 1 + cntL (n.kids.take i) : Nat) : Int), g.labels ++ (po (toR (n.kids.take i))).map labT, g.left ++ lefts B (po (toR (n.kids.take i))), g.numbers ++ numsL (n.kids.take i) (c + 1))) n.kids.length
      (((c + 1 + cntL n.kids : Nat) : Int), g.labels ++ (po (toR n.kids)).map labT, g.left ++ lefts B (po (toR n.kids)), g.numbers ++ numsL n.kids (c + 1)) ?_ ?_ ?_ ?_
    · simp [toR_nil, po_nil, lefts, numsL, cntL]
    · intro i hi
      obtain ⟨x, hx⟩ := get_of_lt hi
      have e1 := cntL_take hx
      have e2 := cntL_le n.kids (i + 1)
      have e4 := cntL_len n.kids
      simp only [m_distance_flatten_1_body_lp1]
      rw [if_pos (by simp; omega), idx_nat hx]
      simp only [Option.bind_some]
      rw [ih x (by have := node_sz hx; omega) (c + 1 + cntL (n.kids.take i)) (B + cntL (n.kids.take i)) _ (by simp [po_len, sz_toR, h1]) (by simp [lefts_len, po_len, sz_toR, h2]) (by simp [nums_lenL, h3]) (by omega) (by omega)]
      simp only [Option.bind_some]
      rw [inK_succ (by omega)]
      simp only [Option.bind_some]
      rw [toR_take hx, po_cons (toT x) (toR (n.kids.take i)), numsL_take hx, List.map_append, lefts_app, po_len, sz_toR, e1]
      simp only [List.append_assoc, Nat.add_assoc]
    · simp only [m_distance_flatten_1_body_lp1]
      rw [if_neg (by simp), List.take_of_length_le (Nat.le_refl _)]
    · have l1 : (g.labels ++ (po (toR n.kids)).map labT).length = B + cntL n.kids := by simp [po_len, sz_toR, h1]
      have l2 : (g.left ++ lefts B (po (toR n.kids))).length = B + cntL n.kids := by simp [lefts_len, po_len, sz_toR, h2]
      have l3 : (g.numbers ++ numsL n.kids (c + 1)).length = B + cntL n.kids := by simp [nums_lenL, h3]
      simp only
      rw [app_ok (by rw [l1]; simp; omega)]
      simp only [Option.bind_some]
      rw [app_ok (by rw [l2]; simp; omega)]
      simp only [Option.bind_some]
      rw [app_ok (by rw [l3]; simp; omega)]
      simp only [Option.bind_some]
      have e3 := sz_toT n
      rw [po_tree, lefts_app, po_len, toT_eq, numsN_eq]
      simp only [kidsT, labT, List.map_append, List.map_cons, List.map_nil, List.append_assoc, lefts]
      rw [← toT_eq, e3, sz_toR, h1]
      congr 3
      · omega
      · congr 3; omega
theorem flatten_m (n : Node) (h : cntN n ≤ 100000) : m_distance_flatten n = some ⟨(po [toT n]).map labT, lefts 0 (po [toT n]), numsN n 0⟩ := by
  unfold m_distance_flatten m_distance_flatten_1
  have := walk_m (SizeOf.sizeOf n + 1) n (by omega) 0 0 ⟨[], [], []⟩ rfl rfl rfl (by omega) (by omega)
  simp only [Nat.zero_add, List.nil_append] at this
  rw [show ((0 : Nat) : Int) = 0 from rfl] at this
  rw [this]
  rfl
theorem arrOf (n : Node) : ArrOf ⟨(po [toT n]).map labT, lefts 0 (po [toT n]), numsN n 0⟩ (toT n) := by
  refine ⟨rfl, fun s hs => ?_, by simp [lefts_len, po_lenT]⟩
  obtain ⟨u, hu, _⟩ := at_lt hs
  rw [lf_at hu]
  have := lefts_get 0 (po [toT n]) s u hu
  rw [Nat.zero_add] at this
  exact this
end Go.Proofs.Ytnnccbagbgndpaa

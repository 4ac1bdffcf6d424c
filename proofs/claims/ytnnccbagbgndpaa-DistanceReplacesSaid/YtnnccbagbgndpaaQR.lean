/-
  The law on subtrees that are replaced.
-/
import Derived.Test.YtnnccbagbgndpaaQC
import Derived.Test.YtnnccbagbgndpaaWRM
set_option linter.unusedVariables false
set_option linter.unusedSimpArgs false
namespace Go.Proofs.Ytnnccbagbgndpaa
open Go.RowKit
theorem node_eta' (n : Node) : Node.mk n.kind n.text n.at_ n.fin n.kids = n := by cases n; rfl
theorem cntL_at {l : List Node} {i : Nat} {n m : Node} (h : l[i]? = some n) : cntL (l.set i m) + cntN n = cntL l + cntN m := by
  obtain ⟨h1, h2⟩ := List.getElem?_eq_some_iff.1 h
  have e1 : l = l.take i ++ n :: l.drop (i + 1) := by rw [← drop_cons_of h, List.take_append_drop]
  have e2 : l.set i m = l.take i ++ m :: l.drop (i + 1) := by rw [List.set_eq_take_append_cons_drop, if_pos h1]
  have e3 : cntL l = cntL (l.take i) + (cntN n + cntL (l.drop (i + 1))) := by
    conv => lhs; rw [e1]
    rw [cntL_app, cntL_cons]
  rw [e2, cntL_app, cntL_cons]
  omega
theorem td_kid {l : List Node} {i : Nat} {n m : Node} (h : l[i]? = some n) (a : Lbl) : fd [.node a (toR l)] [.node a (toR (l.set i m))] ≤ td n m := by
  obtain ⟨h1, h2⟩ := List.getElem?_eq_some_iff.1 h
  have e1 : toR l = toR (l.drop (i + 1)) ++ ([toT n] ++ toR (l.take i)) := by
    conv => lhs; rw [show l = l.take i ++ n :: l.drop (i + 1) by rw [← drop_cons_of h, List.take_append_drop]]
    rw [toR_app, toR_cons, List.append_assoc]
  have e2 : toR (l.set i m) = toR (l.drop (i + 1)) ++ ([toT m] ++ toR (l.take i)) := by
    rw [List.set_eq_take_append_cons_drop, if_pos h1, toR_app, toR_cons, List.append_assoc]
  have m1 := fd_match a a (toR l) [] (toR (l.set i m)) []
  rw [fd_nil, rl_self] at m1
  have m2 := fd_app (toR (l.drop (i + 1))) (toR (l.drop (i + 1))) ([toT n] ++ toR (l.take i)) ([toT m] ++ toR (l.take i))
  have m3 := fd_app [toT n] [toT m] (toR (l.take i)) (toR (l.take i))
  rw [fd_self] at m2 m3
  rw [← e1, ← e2] at m2
  unfold td
  omega
theorem replace_r : ∀ (f : Nat) (n : Node), SizeOf.sizeOf n < f → ∀ (k : Nat) (c : Node), k < cntN n → cntN n ≤ 10000 → cntN c ≤ 10000 → ∃ x, m_assessorlaw37_replace_r f n (k : Int) c = some x ∧ cntN x.1 + cntN x.2 = cntN n + cntN c ∧ td n x.1 ≤ td x.2 c := by
  intro f
  induction f with
  | zero => intro n h; omega
  | succ f ih =>
    intro n hsz k c hk hn hc
    have hcnt := cntN_eq n
    have hlen := cntL_len n.kids
    unfold m_assessorlaw37_replace_r m_assessorlaw37_replace_body
    by_cases hk0 : k = 0
    · subst hk0
      rw [if_pos (by simp)]
      exact ⟨(c, n), rfl, by simp only; omega, Nat.le_refl _⟩
    · rw [if_neg (by simp; omega), inK_eq (by omega)]
      simp only [Option.bind_some]
      rw [app_ok (by simp; omega)]
      simp only [Option.bind_some, List.nil_append]
      obtain ⟨r, hr, i, kid, x, h1, h2, h3, h4⟩ := loopM_inv (body := fun s => m_assessorlaw37_replace_body_lp1 c (m_assessorlaw37_replace_r f) n.kids s.1 s.2.1 s.2.2.1 s.2.2.2.1 s.2.2.2.2.1 s.2.2.2.2.2.1 s.2.2.2.2.2.2.1 s.2.2.2.2.2.2.2)
        (fun s => ∃ j : Nat, j ≤ n.kids.length ∧ cntL (n.kids.take j) + 1 ≤ k ∧ s = (((k - 1 - cntL (n.kids.take j) : Nat) : Int), (j : Int), n.kind, n.text, n.at_, n.fin, n.kids, n.kids)) (fun s => n.kids.length - s.2.1.toNat)
        (fun r => ∃ (i : Nat) (kid : Node) (x : Node × Node), n.kids[i]? = some kid ∧ r = (x.2.kind, x.2.text, x.2.at_, x.2.fin, x.2.kids, n.kids.set i x.1) ∧ cntN x.1 + cntN x.2 = cntN kid + cntN c ∧ td kid x.1 ≤ td x.2 c)
        (by
          rintro s ⟨j, hj, hjk, rfl⟩
          have hlt : j < n.kids.length := by
            rcases Nat.lt_or_ge j n.kids.length with h | h
            · exact h
            · rw [List.take_of_length_le h] at hjk; omega
          obtain ⟨kid, hkid⟩ := get_of_lt hlt
          have e1 := cntL_take hkid
          have e2 := cntL_le n.kids (j + 1)
          by_cases hin : k - 1 - cntL (n.kids.take j) < cntN kid
          · right
            obtain ⟨x, hx, g1, g2⟩ := ih kid (by have := node_sz hkid; omega) (k - 1 - cntL (n.kids.take j)) c hin (by omega) hc
            refine ⟨(x.2.kind, x.2.text, x.2.at_, x.2.fin, x.2.kids, n.kids.set j x.1), ?_, j, kid, x, hkid, rfl, g1, g2⟩
            simp only [m_assessorlaw37_replace_body_lp1]
            rw [if_pos (by simp; omega), idx_nat hkid]
            simp only [Option.bind_some]
            rw [Count_m kid (by omega)]
            simp only [Option.bind_some]
            rw [if_pos (by rw [decide_eq_true_eq]; omega), hx]
            rfl
          · left
            refine ⟨(((k - 1 - cntL (n.kids.take (j + 1)) : Nat) : Int), ((j + 1 : Nat) : Int), n.kind, n.text, n.at_, n.fin, n.kids, n.kids), ?_, ⟨j + 1, by omega, by omega, rfl⟩, by simp; omega⟩
            simp only [m_assessorlaw37_replace_body_lp1]
            rw [if_pos (by simp; omega), idx_nat hkid]
            simp only [Option.bind_some]
            rw [Count_m kid (by omega)]
            simp only [Option.bind_some]
            rw [if_neg (by rw [decide_eq_true_eq]; omega), inK_eq (by omega)]
            simp only [Option.bind_some]
            rw [inK_succ (by omega), show ((k - 1 - cntL (n.kids.take j) : Nat) : Int) - (cntN kid : Int) = ((k - 1 - cntL (n.kids.take (j + 1)) : Nat) : Int) by omega]
            rfl) ((k : Int) - 1, 0, n.kind, n.text, n.at_, n.fin, n.kids, n.kids) ⟨0, Nat.zero_le _, by simp [cntL]; omega, by
              have : ((k - 1 - cntL (n.kids.take 0) : Nat) : Int) = (k : Int) - 1 := by simp [cntL]; omega
              rw [this]; rfl⟩
      rw [hr]
      subst h2
      simp only [Option.bind_some, node_eta']
      refine ⟨_, rfl, ?_, ?_⟩
      · have := cntL_at (m := x.1) h1
        have e3 := cntN_eq (Node.mk n.kind n.text n.at_ n.fin (n.kids.set i x.1))
        simp only at e3 ⊢
        omega
      · have := td_kid (m := x.1) h1 ⟨n.kind, n.text⟩
        simp only
        have e : td n (Node.mk n.kind n.text n.at_ n.fin (n.kids.set i x.1)) ≤ td kid x.1 := by
          unfold td
          rw [toT_eq n, toT_eq (Node.mk n.kind n.text n.at_ n.fin (n.kids.set i x.1))]
          exact this
        exact Nat.le_trans e h4
theorem law_DistanceReplaces (p0 : Node) (p1 : Node) (p2 : Node) (p3 : Int) (h0 : NodeWf p0) (h1 : NodeWf p1) (h2 : NodeWf p2) (h3 : (Lit.int .u8 p3).wf = true) : m_assessorlaw37_DistanceReplaces p0 p1 p2 p3 = some true := by
  unfold m_assessorlaw37_DistanceReplaces
  rw [awake_m]
  simp only [Option.bind_some]
  obtain ⟨x, hx, k1⟩ := few_m p0 p1 15 (by omega) (by omega)
  obtain ⟨y, hy, k2⟩ := few_m p2 p2 15 (by omega) (by omega)
  rw [if_neg (by simp), hx, hy]
  simp only [Option.bind_some]
  cases x with
  | false => simp
  | true =>
    cases y with
    | false => simp
    | true =>
      have c0 := k1 rfl
      have c2 := (k2 rfl).1
      have r3 := U8.r h3
      have hcnt := cntN_eq p0
      simp only [Bool.not_true, Bool.false_eq_true, if_false, Option.bind_some]
      rw [inK_eq (by omega)]
      simp only [Option.bind_some]
      rw [Count_m p0 (by omega)]
      simp only [Option.bind_some]
      rw [remK_pos (by omega) (by omega)]
      simp only [Option.bind_some]
      have m1 := Int.emod_nonneg p3 (show (cntN p0 : Int) ≠ 0 by omega)
      have m2 := Int.emod_lt_of_pos p3 (show (0 : Int) < (cntN p0 : Int) by omega)
      obtain ⟨k, hk⟩ : ∃ k : Nat, p3 % (cntN p0 : Int) = (k : Int) := ⟨(p3 % (cntN p0 : Int)).toNat, by omega⟩
      rw [hk] at m1 m2 ⊢
      obtain ⟨x, hx, g1, g2⟩ := replace_r (SizeOf.sizeOf p0 + 1) p0 (by omega) k p2 (by omega) (by omega) (by omega)
      have hx' : m_assessorlaw37_replace p0 (k : Int) p2 = some x := hx
      rw [hx']
      simp only [Option.bind_some]
      have z1 := cntN_eq x.1
      have z2 := cntN_eq x.2
      obtain ⟨o, ho, hs⟩ := Subtrees_m x.2 p2 (by omega) (by omega)
      rw [Distance_m p0 p1 (by omega) (by omega), Distance_m x.1 p1 (by omega) (by omega), Distance_m x.2 p2 (by omega) (by omega), Distance_m p0 x.1 (by omega) (by omega), ho]
      simp only [Option.bind_some]
      have s1 := td_small p0 p1
      have s2 := td_small x.1 p1
      have t1 := td_tri p0 x.1 p1
      have t2 := td_tri x.1 p0 p1
      rw [td_comm x.1 p0] at t2
      obtain ⟨r, v, a1, a2, a3, a4⟩ := hs.dim.get (s := 0) (t := 0) (by omega) (by have := cntN_eq p2; omega)
      obtain ⟨r', b1, b2⟩ := hs.top
      have e1 : idx o 0 = some r := idx_nat (k := 0) a1
      rw [e1] at b1
      obtain rfl := Option.some.inj b1
      have hrow := hs.dim.rows
      have hp2 := cntN_eq p2
      rw [if_pos (by simp), inK_eq (by omega)]
      simp only [Option.bind_some]
      rw [if_pos (by rw [decide_eq_true_eq]; omega), inK_eq (by omega)]
      simp only [Option.bind_some]
      rw [if_pos (by
        simp only [Bool.and_eq_true, decide_eq_true_eq]
        exact ⟨⟨by omega, by omega⟩, by omega⟩), e1]
      simp only [Option.bind_some]
      rw [if_pos (by rw [decide_eq_true_eq]; omega)]
      rw [b2]
      simp
end Go.Proofs.Ytnnccbagbgndpaa

/- The library's contracts over owned slices of lists: slices.Clone, slices.Delete. -/
import Derived.Test.YtfajmelamonolaaGreatDoorKNe3
import Derived.Test.YtfajmelamonolaaGreatDoorKNe4
import Derived.Test.YtfajmelamonolaaGreatDoorKNe6
import Derived.Test.YtfajmelamonolaaGreatDoorKNe5
import Derived.Shelf.SlicesE.Delete
set_option linter.unusedVariables false
set_option linter.unusedSimpArgs false
namespace Go.Proofs.YtfajmelamonolaaGreatDoor
open Go.RowKit Go.Sort Go.Lib
instance : Inhabited Sl := ⟨Sl.nil⟩
section
variable {Z : World} {ρ : PH} {L : List Atom} {w : World}
theorem RepAll.sl : ∀ {l : List (List Int)} {xs : List Value}, RepAll ρ l xs → ∃ us : List Sl, us.map Sl.v = xs ∧ us.length = l.length
  | [], xs, h => ⟨[], (show xs = [] from h).symm, rfl⟩
  | a :: l, xs, ⟨c, r, e, hc, hr⟩ => by
    obtain ⟨us, h1, h2⟩ := RepAll.sl hr
    obtain ⟨v, rfl, hv⟩ := hc
    obtain ⟨A, cc, e2⟩ := hv.shape
    exact ⟨⟨v, A, _, _, e2⟩ :: us, by rw [e, ← h1]; rfl, congrArg (· + 1) h2⟩
theorem RepAll.cut : ∀ {l : List (List Int)} {xs : List Value} (i : Nat), RepAll ρ l xs → RepAll ρ (l.take i) (xs.take i) ∧ RepAll ρ (l.drop i) (xs.drop i)
  | l, xs, 0, h => ⟨by rw [List.take_zero, List.take_zero]; exact RepAll.nil, by simpa using h⟩
  | [], xs, i + 1, h => by
    have e : xs = [] := h
    subst e
    exact ⟨RepAll.nil, RepAll.nil⟩
  | a :: l, xs, i + 1, ⟨c, r, e, hc, hr⟩ => by
    obtain ⟨v, rfl, hv⟩ := hc
    subst e
    have ih := RepAll.cut i hr
    exact ⟨⟨[v], r.take i, rfl, ⟨v, rfl, hv⟩, ih.1⟩, ih.2⟩
theorem m_delR_rep {l r : List (List Int)} {xs : List Value} {i j : Int} (hm : m_delR l i j = some r) (hR : RepAll ρ l xs) : RepAll ρ r (xs.take i.toNat ++ xs.drop j.toNat) := by
  unfold m_delR at hm
  split at hm
  · obtain rfl := Option.some.inj hm
    exact RepAll.app (RepAll.cut _ hR).1 (RepAll.cut _ hR).2
  · cases hm
set_option maxHeartbeats 1000000 in
theorem c_delR (l : List (List Int)) (v : Value) (xs : List Value) (i j : Int) (hR : RepAll ρ l xs) (hp : Hp Z ρ (RowR 25 v l xs :: L) w) (r : List (List Int)) (hm : m_delR l i j = some r) :
    Calls Tryz.prog 13 #[v, .int .i64 i, .int .i64 j] w (Ret fun u w' => ∃ v1, u = v1 ∧ Hp Z ρ (RowR 25 v1 r (xs.take i.toNat ++ xs.drop j.toNat) :: L) w') := by
  unfold m_delR at hm
  split at hm
  case isFalse => cases hm
  rename_i hc
  obtain ⟨h0, hij, hj, hpos, hl⟩ := hc
  obtain rfl := Option.some.inj hm
  obtain ⟨us, hus, hul⟩ := RepAll.sl hR
  have hxl : xs.length = us.length := by rw [← hus, List.length_map]
  have hp1 : Hp Z ρ (Row 25 1 v us.length xs :: L) w := by rw [hul]; exact hp
  rcases hp1.row.2 with ⟨A, hv, hn⟩ | ⟨g, off, cap, cur, hv, _, hnc, hcm, _⟩
  · omega
  · subst hv
    obtain ⟨hH, hg⟩ := Hp.holdsO (d := us.toArray) Sl.v hp1 (by omega) (by simpa using hus)
    obtain ⟨i0, z0, hi0, _, hz1, _⟩ := slty22.inf
    have key := AnyE.slices_Delete Tryz.delG Sl.v (fun s => s.one) Sl.nil Tryz.zeroValue25 i0 hi0 hz1 g off cap i.toNat j.toNat us.toArray w hH (by simpa using hnc) (by unfold maxLen at hcm; omega) (by omega) (by simp; omega)
    rw [show ((i.toNat : Nat) : Int) = i by omega, show ((j.toNat : Nat) : Int) = j by omega] at key
    refine Calls.mono key ?_
    rintro e w' ⟨rfl, q, rfl⟩
    have h1 := Hp.putO (m := q) (os := #[]) (xs' := xs.take i.toNat ++ xs.drop j.toNat ++ List.replicate (j.toNat - i.toNat) Sl.nil.v) Sl.v hp1 (by omega) (d := (us.take i.toNat ++ us.drop j.toNat ++ List.replicate (j.toNat - i.toNat) Sl.nil).toArray)
      (by simp only [List.map_append, List.map_take, List.map_drop, List.map_replicate, hus]) (by simp only [List.length_append, List.length_take, List.length_drop, List.length_replicate, hxl]; omega)
    rw [grow_nil] at h1
    refine ⟨_, rfl, _, rfl, ?_⟩
    rcases h1.row.2 with ⟨A, _, hn0⟩ | ⟨g', off', cap', cur', e', hpt, k1, k2, k3, k4⟩
    · omega
    · simp only [Value.slice.injEq, Option.some.injEq, Addr.mk.injEq, and_true, true_and] at e'
      obtain ⟨⟨rfl, rfl⟩, rfl⟩ := e'
      have hlen : (l.take i.toNat ++ l.drop j.toNat).length = us.length - (j.toNat - i.toNat) := by simp only [List.length_append, List.length_take, List.length_drop]; omega
      unfold RowR
      rw [hlen]
      simp only [List.size_toArray]
      refine Hp.shutO hpt (by omega) k2 k3 ?_
      have k5 := congrArg (List.take ((us.length - (j.toNat - i.toNat)) * 1)) k4
      rw [List.take_take, Nat.min_eq_left (by omega)] at k5
      refine k5.trans (List.take_left' ?_)
      simp only [List.length_append, List.length_take, List.length_drop, hxl]; omega
end
set_option maxRecDepth 100000 in
theorem c_cloneR {Z : World} {ρ : PH} {L : List Atom} {w : World} (p0 : List (List Int)) (vp0 : Value) (hp0 : RoSl ρ vp0 p0) (hp : Hp Z ρ L w) (r : List (List Int)) (hm : app [] p0 = some r) :
    Calls Tryz.prog 14 #[vp0] w (Ret fun v w' => ∃ v1 xs, v = v1 ∧ RepAll ρ r xs ∧ Hp Z ρ (RowR 25 v1 r xs :: L) w') := by
  refine enter (N := 8) Tryz.func14 rfl rfl [(0, vp0)] rfl (argsIn_mem ⟨rfl, trivial⟩) fun a hE => ?_
  obtain ⟨b, hb1, hb2⟩ := RoSl.nilq (P := Tryz.prog) hp0 slty22
  refine k_seq ?_
  refine k_region ?_
  refine s_val (wk0 rfl) rfl rfl hE hp (ex_asn rfl hE rfl) ?_
  intro a hE
  refine s_nil ?_
  refine k_seq ?_
  refine k_seq ?_
  refine k_region ?_
  refine s_val (wk0 rfl) rfl rfl hE hp (v := vp0) (ex_move rfl hE rfl) ?_
  intro a hE
  refine s_val (wk0 rfl) rfl rfl hE hp (v := .bool b) (ex_bin rfl hE rfl rfl fun w _ => hb1 w _ _) ?_
  intro a hE
  refine s_nil ?_
  refine k_if hE rfl (fun hb => ?_) (fun hb => ?_)
  · obtain rfl := hb2 hb
    obtain rfl := (app_some hm).2
    refine k_seq ?_
    refine k_region ?_
    refine s_val (wk0 rfl) rfl rfl hE hp (v := .slice none 0 0) (ex_asn rfl hE rfl) ?_
    intro a hE
    refine s_nil ?_
    refine k_ret ?_
    exact ret1 hE rfl rfl ⟨_, rfl, _, [], rfl, RepAll.nil, hp.emp (RowR.nil (α := List Int) 25)⟩
  · refine k_skip ?_
    refine k_seq ?_
    refine k_region ?_
    refine s_lit (wk0 rfl) rfl rfl hE hp rfl [] trivial [] 25 (fun w => by simp [Instr.buildSlice, Instr.fill, Value.cells, go_sem]) ?_
    intro a w b1 hE hp
    have hp := (hp.get 0 rfl).imp (rowR_of_pt (l := ([] : List (List Int))) (n := 0) (cs := []) rfl (by decide) rfl)
    have hp : Hp Z ρ (RowR 25 (.slice (some ⟨b1, 0, none⟩) 0 0) ([] : List (List Int)) [] :: L) w := hp
    refine s_val (wk0 rfl) rfl rfl hE hp (v := vp0) (ex_move rfl hE rfl) ?_
    intro a hE
    refine s_appsR (wk0 rfl) rfl rfl hE hp rfl slty22 rfl rfl 0 rfl rfl hp0 hm ?_
    intro v1 ys a w hy hE hp
    have hp : Hp Z ρ (RowR 25 v1 r ys :: L) w := hp
    have hR : RepAll ρ r ys := (app_some hm).2 ▸ hy
    refine s_val (wk0 rfl) rfl rfl hE hp (v := v1) (ex_asn rfl hE rfl) ?_
    intro a hE
    refine s_nil ?_
    refine k_ret ?_
    exact ret1 hE rfl rfl ⟨_, rfl, _, ys, rfl, hR, hp⟩
end Go.Proofs.YtfajmelamonolaaGreatDoor

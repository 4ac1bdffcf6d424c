/-
  The code goes as its model: assessor/similarity.Clusters$1, assessor/similarity.Clusters, assessor/similarity.diagonals, assessor/similarity.Overlaps$1, slices.IndexFunc[[]assessor/api.Mark,assessor/api.Mark]@assessor/similarity.Overlaps$1, slices.ContainsFunc[[]assessor/api.Mark,assessor/api.Mark]@assessor/similarity.Overlaps$1, assessor/similarity.Overlaps. (Printed by wip/sp/gen.py.)
-/
import Derived.Test.YtmfepkadggigpaaGM
import Derived.Test.YtmfepkadggigpaaFct
import Derived.Test.YtmfepkadggigpaaFS
set_option linter.unusedVariables false
set_option linter.unusedSimpArgs false
namespace Go.Proofs.Ytmfepkadggigpaa
open Go.RowKit

/- assessor/similarity.Clusters$1 -/
set_option maxRecDepth 100000 in
set_option maxHeartbeats 4000000 in
theorem c_similarity_Clusters_1_body (self : Int → (List Int) → Option (Int × (List Int))) (hself : ∀ {Z : World} {ρ : PH} {L : List Atom} {w : World} (p0 : Int) (bc0 : Nat) (c0 : (List Int)) (vc0 : Value) (bc1 : Nat) (hp : Hp Z ρ (Pt bc0 (.cells #[vc0] 23 (0, 0)) :: OwnSl 3 vc0 c0 :: Pt bc1 (.cells #[(.func (.func 48) #[] #[(.pointer (some ⟨bc0, 0, none⟩)), (.pointer (some ⟨bc1, 0, none⟩))])] 84 (0, 0)) :: L) w) (r : (Int × (List Int))) (hm : self p0 c0 = some r), Calls Try.prog 48 #[(.int .i64 p0), (.pointer (some ⟨bc0, 0, none⟩)), (.pointer (some ⟨bc1, 0, none⟩))] w (Ret fun v w' => v = (.int .i64 r.1) ∧ Hp Z ρ (Pt bc0 (.cells #[vc0] 23 (0, 0)) :: OwnSl 3 vc0 r.2 :: Pt bc1 (.cells #[(.func (.func 48) #[] #[(.pointer (some ⟨bc0, 0, none⟩)), (.pointer (some ⟨bc1, 0, none⟩))])] 84 (0, 0)) :: L) w')) {Z : World} {ρ : PH} {L : List Atom} {w : World} (p0 : Int) (bc0 : Nat) (c0 : (List Int)) (vc0 : Value) (bc1 : Nat) (hp : Hp Z ρ (Pt bc0 (.cells #[vc0] 23 (0, 0)) :: OwnSl 3 vc0 c0 :: Pt bc1 (.cells #[(.func (.func 48) #[] #[(.pointer (some ⟨bc0, 0, none⟩)), (.pointer (some ⟨bc1, 0, none⟩))])] 84 (0, 0)) :: L) w) (r : (Int × (List Int))) (hm : m_similarity_Clusters_1_body self p0 c0 = some r) :
    Calls Try.prog 48 #[(.int .i64 p0), (.pointer (some ⟨bc0, 0, none⟩)), (.pointer (some ⟨bc1, 0, none⟩))] w (Ret fun v w' => v = (.int .i64 r.1) ∧ Hp Z ρ (Pt bc0 (.cells #[vc0] 23 (0, 0)) :: OwnSl 3 vc0 r.2 :: Pt bc1 (.cells #[(.func (.func 48) #[] #[(.pointer (some ⟨bc0, 0, none⟩)), (.pointer (some ⟨bc1, 0, none⟩))])] 84 (0, 0)) :: L) w') := by
  refine enter (N := 24) Try.func48 rfl rfl [(0, (.int .i64 p0)), (1, (.pointer (some ⟨bc0, 0, none⟩))), (2, (.pointer (some ⟨bc1, 0, none⟩)))] rfl (argsIn_mem ⟨rfl, rfl, rfl, trivial⟩) fun a hE => ?_
  unfold m_similarity_Clusters_1_body at hm
  refine k_seq ?_
  refine k_region ?_
  refine s_val (wk0 rfl) rfl rfl hE hp (v := (.int .i64 0)) (ex_asn rfl hE rfl) ?_
  intro a hE
  refine s_nil ?_
  refine k_seq ?_
  refine k_seq ?_
  refine k_region ?_
  refine s_val (wk0 rfl) rfl rfl hE hp (v := vc0) (ex_load rfl hE rfl (fun w hw => run_ld1 varty23 (Hp.c 0 rfl 0 rfl w hw))) ?_
  intro a hE
  refine s_val (wk0 rfl) rfl rfl hE hp (v := (.int .i64 p0)) (ex_move rfl hE rfl) ?_
  intro a hE
  obtain ⟨x1, ex1, hm⟩ := bnd hm
  obtain ⟨b1, b1o, b1r, b1v, b1f⟩ := OwnSl.at hp 1 rfl slty23 ex1
  have b1f : ∀ (j : Nat) (u : Value), ([(.int .i64 x1)] : List Value)[j]? = some u → ∀ ρ' L' w, Hp Z ρ' (OwnSl 3 vc0 c0 :: L') w → w.cell? ⟨b1, b1o + j, none⟩ = some u := b1f
  refine s_val (wk0 rfl) rfl rfl hE hp (v := (.pointer (some ⟨b1, b1o, none⟩))) (ex_index rfl hE rfl rfl b1r) ?_
  intro a hE
  refine s_val (wk0 rfl) rfl rfl hE hp (v := (.int .i64 x1)) (ex_load rfl hE rfl (fun w hw => run_ld1 varty3 (b1f 0 _ rfl _ _ w (hw.get 1 rfl)))) ?_
  intro a hE
  refine s_val (wk0 rfl) rfl rfl hE hp (v := (.int .i64 p0)) (ex_move rfl hE rfl) ?_
  intro a hE
  refine s_val (wk0 rfl) rfl rfl hE hp (v := (.bool (!decide (x1 = p0)))) (ex_neq rfl hE rfl rfl) ?_
  intro a hE
  refine s_nil ?_
  obtain ⟨j1, hj1, hm⟩ := bnd hm
  refine k_cut (fun a w => Env 24 [(0, (.int .i64 p0)), (1, (.pointer (some ⟨bc0, 0, none⟩)))] a ∧ Hp Z ρ (Pt bc0 (.cells #[vc0] 23 (0, 0)) :: OwnSl 3 vc0 j1 :: Pt bc1 (.cells #[(.func (.func 48) #[] #[(.pointer (some ⟨bc0, 0, none⟩)), (.pointer (some ⟨bc1, 0, none⟩))])] 84 (0, 0)) :: L) w) ?_ ?_
  ·
    refine k_if hE rfl (fun hb1 => ?_) (fun hb1 => ?_)
    · replace hj1 := (it hb1).symm.trans hj1
      obtain ⟨x2, ex2, hj1⟩ := bnd hj1
      obtain ⟨x3, ex3, hj1⟩ := bnd hj1
      obtain ⟨x4, ex4, hj1⟩ := bnd hj1
      have hp := hp.drew
      refine k_heldV ([([], At0 Z ρ), ([], At1 Z ρ (Pt bc0 (.cells #[vc0] 23 (0, 0)))), ([7, 9], At1 Z ρ (OwnSl 3 vc0 c0)), ([], At1 Z ρ (Pt bc1 (.cells #[(.func (.func 48) #[] #[(.pointer (some ⟨bc0, 0, none⟩)), (.pointer (some ⟨bc1, 0, none⟩))])] 84 (0, 0))))] : Facts) (fun a w => Env 24 [(0, (.int .i64 p0)), (1, (.pointer (some ⟨bc0, 0, none⟩)))] a ∧ Hp Z ρ (Pt bc0 (.cells #[vc0] 23 (0, 0)) :: OwnSl 3 vc0 (x3.2.set p0.toNat x3.1) :: Pt bc1 (.cells #[(.func (.func 48) #[] #[(.pointer (some ⟨bc0, 0, none⟩)), (.pointer (some ⟨bc1, 0, none⟩))])] 84 (0, 0)) :: L) w) (by kernel_rfl) ⟨fun _ => ⟨_, hp⟩, fun _ => ⟨_, (hp.get 0 rfl)⟩, fun _ => ⟨_, (hp.get 1 rfl)⟩, fun _ => ⟨_, (hp.get 2 rfl)⟩, trivial⟩ (fun hS => ?_) ?_
      ·
        generalize w.drew = w at hS hp ⊢
        refine v_take1 0 1 (wk0 rfl) rfl rfl rfl hE (by kernel_rfl) (by kernel_rfl) (by kernel_rfl) rfl (by kernel_rfl) hS (v := vc0) (fun _ => ex_load rfl hE rfl (fun w hw => run_ld1 varty23 (Hp.c 0 rfl 0 rfl w hw))) ?_
        intro a hE hS
        refine v_take0 1 (wk0 rfl) rfl rfl rfl hE (by kernel_rfl) (by kernel_rfl) (by kernel_rfl) rfl (by kernel_rfl) hS (v := (.int .i64 p0)) (fun _ => ex_move rfl hE rfl) ?_
        intro a hE hS
        refine v_take1 2 3 (wk0 rfl) rfl rfl rfl hE (by kernel_rfl) (by kernel_rfl) (by kernel_rfl) rfl (by kernel_rfl) hS (v := (.func (.func 48) #[] #[(.pointer (some ⟨bc0, 0, none⟩)), (.pointer (some ⟨bc1, 0, none⟩))])) (fun _ => ex_load rfl hE rfl (fun w hw => run_ld1 varty84 (Hp.c 0 rfl 0 rfl w hw))) ?_
        intro a hE hS
        refine v_take1 3 1 (wk0 rfl) rfl rfl rfl hE (by kernel_rfl) (by kernel_rfl) (by kernel_rfl) rfl (by kernel_rfl) hS (v := vc0) (fun _ => ex_load rfl hE rfl (fun w hw => run_ld1 varty23 (Hp.c 0 rfl 0 rfl w hw))) ?_
        intro a hE hS
        refine v_take0 4 (wk0 rfl) rfl rfl rfl hE (by kernel_rfl) (by kernel_rfl) (by kernel_rfl) rfl (by kernel_rfl) hS (v := (.int .i64 p0)) (fun _ => ex_move rfl hE rfl) ?_
        intro a hE hS
        obtain ⟨b4, b4o, b4r, b4v, b4f⟩ := OwnSl.at hp 1 rfl slty23 ex2
        have b4f : ∀ (j : Nat) (u : Value), ([(.int .i64 x2)] : List Value)[j]? = some u → ∀ ρ' L' w, Hp Z ρ' (OwnSl 3 vc0 c0 :: L') w → w.cell? ⟨b4, b4o + j, none⟩ = some u := b4f
        refine v_take0 5 (wk0 rfl) rfl rfl rfl hE (by kernel_rfl) (by kernel_rfl) (by kernel_rfl) rfl (by kernel_rfl) hS (v := (.pointer (some ⟨b4, b4o, none⟩))) (fun _ => ex_index rfl hE rfl rfl b4r) ?_
        intro a hE hS
        refine v_take1 6 2 (wk0 rfl) rfl rfl rfl hE (by kernel_rfl) (by kernel_rfl) (by kernel_rfl) rfl (by kernel_rfl) hS (v := (.int .i64 x2)) (fun _ => ex_load rfl hE rfl (fun w hw => run_ld1 varty3 (b4f 0 _ rfl _ _ w (hw.get 0 rfl)))) ?_
        intro a hE hS
        refine v_all [7] (by kernel_rfl) rfl ?_
        refine List.forall_mem_cons.2 ⟨?_, fun _ h => absurd h (by simp)⟩
        ·
          refine h_op rfl ?_
          refine s_callv (wk0 rfl) rfl rfl hE rfl rfl [(.int .i64 x2)] ⟨rfl, trivial⟩ ent48 (hself x2 bc0 c0 vc0 bc1 (((hp.get 2 rfl).get 2 rfl).get 2 rfl) x3 ex3) Ret.ret ?_
          intro v a w hR hE
          obtain ⟨rfl, hp⟩ := Ret.of hR
          have hp : Hp Z ρ (Pt bc0 (.cells #[vc0] 23 (0, 0)) :: OwnSl 3 vc0 x3.2 :: Pt bc1 (.cells #[(.func (.func 48) #[] #[(.pointer (some ⟨bc0, 0, none⟩)), (.pointer (some ⟨bc1, 0, none⟩))])] 84 (0, 0)) :: L) w := hp
          refine s_nil (and_with ⟨fun _ => ⟨_, hp⟩, fun _ => ⟨_, (hp.get 0 rfl)⟩, dead (by kernel_rfl), fun _ => ⟨_, (hp.get 2 rfl)⟩, trivial⟩ fun hS => ?_)
          obtain ⟨b5, b5o, b5r, b5v, b5f⟩ := OwnSl.at hp 1 rfl slty23 ex4
          have b5f : ∀ (j : Nat) (u : Value), ([(.int .i64 x4)] : List Value)[j]? = some u → ∀ ρ' L' w, Hp Z ρ' (OwnSl 3 vc0 x3.2 :: L') w → w.cell? ⟨b5, b5o + j, none⟩ = some u := b5f
          refine v_take0 8 (wk0 rfl) rfl rfl rfl hE (by kernel_rfl) (by kernel_rfl) (by kernel_rfl) rfl (by kernel_rfl) hS (v := (.pointer (some ⟨b5, b5o, none⟩))) (fun _ => ex_index rfl hE rfl rfl b5r) ?_
          intro a hE hS
          refine v_all [9] (by kernel_rfl) rfl ?_
          refine List.forall_mem_cons.2 ⟨?_, fun _ h => absurd h (by simp)⟩
          ·
            refine h_op rfl ?_
            refine s_stel (wk0 rfl) rfl hE hp rfl rfl rfl 1 rfl ex4 b5v 0 (e' := x3.1) varty3.size_ rfl rfl rfl ⟨rfl, rfl⟩ ?_
            intro w hp
            have hp : Hp Z ρ (_ :: OwnSl 3 vc0 (x3.2.set p0.toNat x3.1) :: _ :: L) w := hp
            refine s_nil (and_with ⟨fun _ => ⟨_, hp⟩, fun _ => ⟨_, (hp.get 0 rfl)⟩, dead (by kernel_rfl), fun _ => ⟨_, (hp.get 2 rfl)⟩, trivial⟩ fun hS => ?_)
            exact v_done (by kernel_rfl) ⟨hE.cut ⟨rfl, rfl, trivial⟩, hp⟩
      · rintro a w ⟨hE, hp⟩
        obtain rfl := Option.some.inj hj1
        exact ⟨hE.cut ⟨rfl, rfl, trivial⟩, hp⟩
    · replace hj1 := (ie hb1).symm.trans hj1
      refine k_skip ?_
      obtain rfl := Option.some.inj hj1
      exact ⟨hE.cut ⟨rfl, rfl, trivial⟩, hp⟩
  · rintro a w ⟨hE, hp⟩
    refine k_seq ?_
    refine k_region ?_
    refine s_val (wk0 rfl) rfl rfl hE hp (v := vc0) (ex_load rfl hE rfl (fun w hw => run_ld1 varty23 (Hp.c 0 rfl 0 rfl w hw))) ?_
    intro a hE
    refine s_val (wk0 rfl) rfl rfl hE hp (v := (.int .i64 p0)) (ex_move rfl hE rfl) ?_
    intro a hE
    obtain ⟨x5, ex5, hm⟩ := bnd hm
    obtain ⟨b6, b6o, b6r, b6v, b6f⟩ := OwnSl.at hp 1 rfl slty23 ex5
    have b6f : ∀ (j : Nat) (u : Value), ([(.int .i64 x5)] : List Value)[j]? = some u → ∀ ρ' L' w, Hp Z ρ' (OwnSl 3 vc0 j1 :: L') w → w.cell? ⟨b6, b6o + j, none⟩ = some u := b6f
    refine s_val (wk0 rfl) rfl rfl hE hp (v := (.pointer (some ⟨b6, b6o, none⟩))) (ex_index rfl hE rfl rfl b6r) ?_
    intro a hE
    refine s_val (wk0 rfl) rfl rfl hE hp (v := (.int .i64 x5)) (ex_load rfl hE rfl (fun w hw => run_ld1 varty3 (b6f 0 _ rfl _ _ w (hw.get 1 rfl)))) ?_
    intro a hE
    refine s_val (wk0 rfl) rfl rfl hE hp (v := (.int .i64 x5)) (ex_asn rfl hE rfl) ?_
    intro a hE
    refine s_nil ?_
    refine k_ret ?_
    obtain rfl := Option.some.inj hm
    exact ret1 hE rfl rfl ⟨_, rfl, rfl, hp⟩
theorem c_similarity_Clusters_1_r : ∀ (n : Nat), ∀ {Z : World} {ρ : PH} {L : List Atom} {w : World} (p0 : Int) (bc0 : Nat) (c0 : (List Int)) (vc0 : Value) (bc1 : Nat) (hp : Hp Z ρ (Pt bc0 (.cells #[vc0] 23 (0, 0)) :: OwnSl 3 vc0 c0 :: Pt bc1 (.cells #[(.func (.func 48) #[] #[(.pointer (some ⟨bc0, 0, none⟩)), (.pointer (some ⟨bc1, 0, none⟩))])] 84 (0, 0)) :: L) w) (r : (Int × (List Int))) (hm : m_similarity_Clusters_1_r n p0 c0 = some r), Calls Try.prog 48 #[(.int .i64 p0), (.pointer (some ⟨bc0, 0, none⟩)), (.pointer (some ⟨bc1, 0, none⟩))] w (Ret fun v w' => v = (.int .i64 r.1) ∧ Hp Z ρ (Pt bc0 (.cells #[vc0] 23 (0, 0)) :: OwnSl 3 vc0 r.2 :: Pt bc1 (.cells #[(.func (.func 48) #[] #[(.pointer (some ⟨bc0, 0, none⟩)), (.pointer (some ⟨bc1, 0, none⟩))])] 84 (0, 0)) :: L) w') := by
  intro n
  induction n with
  | zero => intro Z ρ L w p0 bc0 c0 vc0 bc1 hp r hm; cases hm
  | succ n ih => intro Z ρ L w p0 bc0 c0 vc0 bc1 hp r hm; exact c_similarity_Clusters_1_body (m_similarity_Clusters_1_r n) ih p0 bc0 c0 vc0 bc1 hp r hm
theorem c_similarity_Clusters_1 {Z : World} {ρ : PH} {L : List Atom} {w : World} (p0 : Int) (bc0 : Nat) (c0 : (List Int)) (vc0 : Value) (bc1 : Nat) (hp : Hp Z ρ (Pt bc0 (.cells #[vc0] 23 (0, 0)) :: OwnSl 3 vc0 c0 :: Pt bc1 (.cells #[(.func (.func 48) #[] #[(.pointer (some ⟨bc0, 0, none⟩)), (.pointer (some ⟨bc1, 0, none⟩))])] 84 (0, 0)) :: L) w) (r : (Int × (List Int))) (hm : m_similarity_Clusters_1 p0 c0 = some r) :
    Calls Try.prog 48 #[(.int .i64 p0), (.pointer (some ⟨bc0, 0, none⟩)), (.pointer (some ⟨bc1, 0, none⟩))] w (Ret fun v w' => v = (.int .i64 r.1) ∧ Hp Z ρ (Pt bc0 (.cells #[vc0] 23 (0, 0)) :: OwnSl 3 vc0 r.2 :: Pt bc1 (.cells #[(.func (.func 48) #[] #[(.pointer (some ⟨bc0, 0, none⟩)), (.pointer (some ⟨bc1, 0, none⟩))])] 84 (0, 0)) :: L) w') := c_similarity_Clusters_1_r _ p0 bc0 c0 vc0 bc1 hp r hm
/- assessor/similarity.Clusters -/
set_option maxRecDepth 100000 in
set_option maxHeartbeats 4000000 in
theorem c_similarity_Clusters {Z : World} {ρ : PH} {L : List Atom} {w : World} (p0 : Int) (p1 : (List Pair)) (vp1 : Value) (hp1 : RoSl ρ vp1 p1) (hp : Hp Z ρ (L) w) (r : ((List (List Int)) × Int)) (hm : m_similarity_Clusters p0 p1 = some r) :
    Calls Try.prog 26 #[(.int .i64 p0), vp1] w (Ret fun v w' => ∃ (ρ' : PH) (vr1 : Value), ρ.le ρ' ∧ v = .tuple #[vr1, (.int .i64 r.2)] ∧ RoSl ρ' vr1 r.1 ∧ Hp Z ρ' (L) w') := by
  refine enter (N := 119) Try.func26 rfl rfl [(0, (.int .i64 p0)), (1, vp1)] rfl (argsIn_mem ⟨rfl, rfl, trivial⟩) fun a hE => ?_
  unfold m_similarity_Clusters at hm
  refine k_seq ?_
  refine k_region ?_
  refine s_val (wk0 rfl) rfl rfl hE hp (v := (.slice none 0 0)) (ex_asn rfl hE rfl) ?_
  intro a hE
  refine s_val (wk0 rfl) rfl rfl hE hp (v := (.int .i64 0)) (ex_asn rfl hE rfl) ?_
  intro a hE
  refine s_nil ?_
  refine k_seq ?_
  refine k_seq ?_
  refine k_region ?_
  refine s_val (wk0 rfl) rfl rfl hE hp (v := (.int .i64 p0)) (ex_move rfl hE rfl) ?_
  intro a hE
  refine s_val (wk0 rfl) rfl rfl hE hp (v := (.bool (decide (p0 < 0)))) (ex_lss rfl hE rfl rfl) ?_
  intro a hE
  refine s_val (wk0 rfl) rfl rfl hE hp (v := (.bool (decide (p0 < 0)))) (ex_move rfl hE rfl) ?_
  intro a hE
  refine s_cut [_, _, _] (fun a w => Env 119 [(23, (.bool ((decide (p0 < 0)) || (decide (1024 < p0))))), (0, (.int .i64 p0)), (1, vp1)] a ∧ Hp Z ρ (L) w) ?_ ?_
  · rcases Bool.eq_false_or_eq_true (decide (p0 < 0)) with hb1 | hb1
    ·
      refine s_skip (wk2 hE rfl rfl rfl hb1) rfl rfl hE ?_
      intro a hE
      refine s_skip (wk2 hE rfl rfl rfl hb1) rfl rfl hE ?_
      intro a hE
      refine s_val (wk0 rfl) rfl rfl hE hp (v := (.bool true)) (ex_pick1 rfl hE rfl hb1 rfl) ?_
      intro a hE
      have hE := hE.eqv (v' := (.bool ((decide (p0 < 0)) || (decide (1024 < p0))))) (by rw [hb1]; rfl)
      exact s_nil ⟨hE.cut ⟨rfl, rfl, rfl, trivial⟩, hp⟩
    ·
      refine s_val (wk1 hE rfl rfl rfl hb1) rfl rfl hE hp (v := (.int .i64 p0)) (ex_move rfl hE rfl) ?_
      intro a hE
      refine s_val (wk1 hE rfl rfl rfl hb1) rfl rfl hE hp (v := (.bool (decide (1024 < p0)))) (ex_gtr rfl hE rfl rfl) ?_
      intro a hE
      refine s_val (wk0 rfl) rfl rfl hE hp (v := (.bool (decide (1024 < p0)))) (ex_pick0 rfl hE rfl hb1 rfl) ?_
      intro a hE
      have hE := hE.eqv (v' := (.bool ((decide (p0 < 0)) || (decide (1024 < p0))))) (by rw [hb1]; rfl)
      exact s_nil ⟨hE.cut ⟨rfl, rfl, rfl, trivial⟩, hp⟩
  · rintro a w ⟨hE, hp⟩
    refine s_nil ?_
    refine k_if hE rfl (fun hb2 => ?_) (fun hb2 => ?_)
    · replace hm := (it hb2).symm.trans hm
      refine k_seq ?_
      refine k_region ?_
      refine s_val (wk0 rfl) rfl rfl hE hp (v := (.slice none 0 0)) (ex_asn rfl hE rfl) ?_
      intro a hE
      refine s_val (wk0 rfl) rfl rfl hE hp (v := (.int .i64 2)) (ex_asn rfl hE rfl) ?_
      intro a hE
      refine s_nil ?_
      refine k_ret ?_
      obtain rfl := Option.some.inj hm
      exact ret2 hE rfl rfl rfl ⟨_, rfl, _, _, (PH.le.rf _), rfl, (RoSl.nil _), hp⟩
    · replace hm := (ie hb2).symm.trans hm
      refine k_skip ?_
      refine k_seq ?_
      refine k_region ?_
      refine s_val (wk0 rfl) rfl rfl hE hp (v := (.int .i64 p0)) (ex_move rfl hE rfl) ?_
      intro a hE
      obtain ⟨x1, ex1, hm⟩ := bnd hm
      refine s_make (wk0 rfl) rfl rfl hE hp rfl (El := 3) (bytes := 8) (by kernel_rfl) (0 : Int) (by kernel_rfl) (by kernel_rfl) rfl rfl ex1 ?_
      intro v1 a w hE hp
      have hp : Hp Z ρ (OwnSl 3 v1 x1 :: L) w := hp
      refine s_new (wk0 rfl) rfl rfl hE hp rfl [(.slice none 0 0)] (fun w => by simp [Instr.alloc, go_sem] <;> rfl) ?_
      intro a w b1 hE hp
      have hp : Hp Z ρ (Pt b1 (.cells #[(.slice none 0 0)] 23 (0, 0)) :: _ :: L) w := hp
      refine s_store1 (wk0 rfl) rfl hE hp rfl rfl rfl 0 rfl varty23.size_ (OwnSl.cells hp 1 rfl) (OwnSl.one hp 1 rfl) rfl [v1] rfl ?_
      intro w hp
      have hp : Hp Z ρ (Pt b1 (.cells #[v1] 23 (0, 0)) :: _ :: L) w := hp
      refine s_nil ?_
      refine k_seq ?_
      refine k_seq ?_
      refine k_region ?_
      refine s_val (wk0 rfl) rfl rfl hE hp (v := v1) (ex_load rfl hE rfl (fun w hw => run_ld1 varty23 (Hp.c 0 rfl 0 rfl w hw))) ?_
      intro a hE
      refine s_val (wk0 rfl) rfl rfl hE hp (v := (.int .i64 (x1.length : Int))) (ex_len rfl hE rfl (OwnSl.len hp 1 rfl slty23)) ?_
      intro a hE
      refine s_val (wk0 rfl) rfl rfl hE hp (v := (.int .i64 0)) (ex_move rfl hE rfl) ?_
      intro a hE
      refine s_nil ?_
      obtain ⟨b2, hb3, hm⟩ := bnd hm
      refine k_block (fun a w => ∃ (w1 : Value), Env 119 [(0, (.int .i64 p0)), (1, vp1), (6, (.pointer (some ⟨b1, 0, none⟩)))] a ∧ Hp Z ρ (Pt b1 (.cells #[w1] 23 (0, 0)) :: OwnSl 3 w1 b2 :: L) w) ?_ ?_
      · refine k_loop hb3 (fun s a w => ∃ (w1 : Value), Env 119 [(0, (.int .i64 p0)), (1, vp1), (6, (.pointer (some ⟨b1, 0, none⟩))), (27, (.int .i64 (x1.length : Int))), (28, (.int .i64 s.1))] a ∧ Hp Z ρ (Pt b1 (.cells #[w1] 23 (0, 0)) :: OwnSl 3 w1 s.2 :: L) w) ?_ ?_
        · exact ⟨_, hE.cut ⟨rfl, rfl, rfl, rfl, rfl, trivial⟩, hp⟩
        · rintro ⟨lp1_0, lp1_1⟩ st a w ⟨w1, hE, hp⟩ hl1
          have hE : Env 119 [(0, (.int .i64 p0)), (1, vp1), (6, (.pointer (some ⟨b1, 0, none⟩))), (27, (.int .i64 (x1.length : Int))), (28, (.int .i64 lp1_0))] a := hE
          have hp : Hp Z ρ (Pt b1 (.cells #[w1] 23 (0, 0)) :: OwnSl 3 w1 lp1_1 :: L) w := hp
          replace hl1 : m_similarity_Clusters_lp1 x1 lp1_0 lp1_1 = some st := hl1
          unfold m_similarity_Clusters_lp1 at hl1
          refine k_seq ?_
          refine k_region ?_
          refine s_val (wk0 rfl) rfl rfl hE hp (v := (.bool (decide (lp1_0 < (x1.length : Int))))) (ex_lss rfl hE rfl rfl) ?_
          intro a hE
          refine s_nil ?_
          refine k_seq ?_
          refine k_if hE rfl (fun hb4 => ?_) (fun hb4 => ?_)
          · replace hl1 := (it hb4).symm.trans hl1
            refine k_skip ?_
            refine k_seq ?_
            refine k_plain ?_
            refine k_seq ?_
            refine k_region ?_
            refine s_val (wk0 rfl) rfl rfl hE hp (v := (.int .i64 lp1_0)) (ex_move rfl hE rfl) ?_
            intro a hE
            refine s_val (wk0 rfl) rfl rfl hE hp (v := (.int .i64 lp1_0)) (ex_asn rfl hE rfl) ?_
            intro a hE
            refine s_nil ?_
            refine k_region ?_
            refine s_val (wk0 rfl) rfl rfl hE hp (v := w1) (ex_load rfl hE rfl (fun w hw => run_ld1 varty23 (Hp.c 0 rfl 0 rfl w hw))) ?_
            intro a hE
            refine s_val (wk0 rfl) rfl rfl hE hp (v := (.int .i64 lp1_0)) (ex_move rfl hE rfl) ?_
            intro a hE
            refine s_val (wk0 rfl) rfl rfl hE hp (v := (.int .i64 lp1_0)) (ex_move rfl hE rfl) ?_
            intro a hE
            obtain ⟨x2, ex2, hl1⟩ := bnd hl1
            obtain ⟨b3, b3o, b3r, b3v, b3f⟩ := OwnSl.at hp 1 rfl slty23 ex2
            have b3f : ∀ (j : Nat) (u : Value), ([(.int .i64 x2)] : List Value)[j]? = some u → ∀ ρ' L' w, Hp Z ρ' (OwnSl 3 w1 lp1_1 :: L') w → w.cell? ⟨b3, b3o + j, none⟩ = some u := b3f
            refine s_val (wk0 rfl) rfl rfl hE hp (v := (.pointer (some ⟨b3, b3o, none⟩))) (ex_index rfl hE rfl rfl b3r) ?_
            intro a hE
            refine s_stel (wk0 rfl) rfl hE hp rfl rfl rfl 1 rfl ex2 b3v 0 (e' := lp1_0) varty3.size_ rfl rfl rfl ⟨rfl, rfl⟩ ?_
            intro w hp
            have hp : Hp Z ρ (_ :: OwnSl 3 w1 (lp1_1.set lp1_0.toNat lp1_0) :: L) w := hp
            refine s_nil ?_
            have hE := hE.cut (E' := [(0, (.int .i64 p0)), (1, vp1), (6, (.pointer (some ⟨b1, 0, none⟩))), (27, (.int .i64 (x1.length : Int))), (28, (.int .i64 lp1_0))]) ⟨rfl, rfl, rfl, rfl, rfl, trivial⟩
            refine k_region ?_
            obtain ⟨x3, ex3, hl1⟩ := bnd hl1
            refine s_val (wk0 rfl) rfl rfl hE hp (v := (.int .i64 x3)) (ex_add rfl hE rfl rfl (inK_some ex3)) ?_
            intro a hE
            refine s_val (wk0 rfl) rfl rfl hE hp (v := (.int .i64 x3)) (ex_move rfl hE rfl) ?_
            intro a hE
            refine s_nil ?_
            exact ⟨_, (Option.some.inj hl1).symm, _, hE.cut ⟨rfl, rfl, rfl, rfl, rfl, trivial⟩, hp⟩
          · replace hl1 := (ie hb4).symm.trans hl1
            refine k_exit ?_
            refine ⟨_, (Option.some.inj hl1).symm, fun hbb => ?_⟩
            subst hbb
            exact ⟨_, hE.cut ⟨rfl, rfl, rfl, trivial⟩, hp⟩
      · rintro a w ⟨w1, hE, hp⟩
        refine k_seq ?_
        refine k_region ?_
        refine s_new (wk0 rfl) rfl rfl hE hp rfl [.nilFunc] (fun w => by simp [Instr.alloc, go_sem] <;> rfl) ?_
        intro a w b4 hE hp
        have hp : Hp Z ρ (Pt b4 (.cells #[.nilFunc] 84 (0, 0)) :: Pt b1 (.cells #[w1] 23 (0, 0)) :: OwnSl 3 w1 b2 :: L) w := hp
        refine s_nil ?_
        refine k_seq ?_
        refine k_region ?_
        refine s_val (wk0 rfl) rfl rfl hE hp (v := (.func (.func 48) #[] #[(.pointer (some ⟨b1, 0, none⟩)), (.pointer (some ⟨b4, 0, none⟩))])) (ex_fn rfl hE [(.pointer (some ⟨b1, 0, none⟩)), (.pointer (some ⟨b4, 0, none⟩))] (by exact ⟨rfl, rfl, trivial⟩)) ?_
        intro a hE
        refine s_store (wk0 rfl) rfl hE hp rfl rfl rfl 0 rfl varty84.size_ rfl (allOne_mem ⟨rfl, trivial⟩) [(.func (.func 48) #[] #[(.pointer (some ⟨b1, 0, none⟩)), (.pointer (some ⟨b4, 0, none⟩))])] rfl ?_
        intro w hp
        have hp : Hp Z ρ (Pt b4 (.cells #[(.func (.func 48) #[] #[(.pointer (some ⟨b1, 0, none⟩)), (.pointer (some ⟨b4, 0, none⟩))])] 84 (0, 0)) :: _ :: _ :: L) w := hp
        refine s_nil ?_
        refine k_seq ?_
        refine k_seq ?_
        refine k_region ?_
        refine s_val (wk0 rfl) rfl rfl hE hp (v := vp1) (ex_move rfl hE rfl) ?_
        intro a hE
        refine s_val (wk0 rfl) rfl rfl hE hp (v := (.int .i64 (p1.length : Int))) (ex_len rfl hE rfl (RoSl.len hp1 slty37)) ?_
        intro a hE
        refine s_val (wk0 rfl) rfl rfl hE hp (v := (.int .i64 0)) (ex_move rfl hE rfl) ?_
        intro a hE
        refine s_nil ?_
        obtain ⟨b5, hb5, hm⟩ := bnd hm
        refine k_block (fun a w => ∃ s : (List Int), b5 = .brk s ∧ (∃ (w1 : Value), Env 119 [(0, (.int .i64 p0)), (8, (.pointer (some ⟨b4, 0, none⟩)))] a ∧ Hp Z ρ (Pt b4 (.cells #[(.func (.func 48) #[] #[(.pointer (some ⟨b1, 0, none⟩)), (.pointer (some ⟨b4, 0, none⟩))])] 84 (0, 0)) :: Pt b1 (.cells #[w1] 23 (0, 0)) :: OwnSl 3 w1 s :: L) w)) ?_ ?_
        · refine k_loop hb5 (fun s a w => ∃ (w1 : Value), Env 119 [(0, (.int .i64 p0)), (6, (.pointer (some ⟨b1, 0, none⟩))), (8, (.pointer (some ⟨b4, 0, none⟩))), (37, vp1), (38, (.int .i64 (p1.length : Int))), (39, (.int .i64 s.1))] a ∧ Hp Z ρ (Pt b4 (.cells #[(.func (.func 48) #[] #[(.pointer (some ⟨b1, 0, none⟩)), (.pointer (some ⟨b4, 0, none⟩))])] 84 (0, 0)) :: Pt b1 (.cells #[w1] 23 (0, 0)) :: OwnSl 3 w1 s.2 :: L) w) ?_ ?_
          · exact ⟨_, hE.cut ⟨rfl, rfl, rfl, rfl, rfl, rfl, trivial⟩, hp⟩
          · rintro ⟨lp2_0, lp2_1⟩ st a w ⟨w1, hE, hp⟩ hl2
            have hE : Env 119 [(0, (.int .i64 p0)), (6, (.pointer (some ⟨b1, 0, none⟩))), (8, (.pointer (some ⟨b4, 0, none⟩))), (37, vp1), (38, (.int .i64 (p1.length : Int))), (39, (.int .i64 lp2_0))] a := hE
            have hp : Hp Z ρ (_ :: _ :: OwnSl 3 w1 lp2_1 :: L) w := hp
            replace hl2 : m_similarity_Clusters_lp2 p0 p1 lp2_0 lp2_1 = some st := hl2
            unfold m_similarity_Clusters_lp2 at hl2
            refine k_seq ?_
            refine k_region ?_
            refine s_val (wk0 rfl) rfl rfl hE hp (v := (.bool (decide (lp2_0 < (p1.length : Int))))) (ex_lss rfl hE rfl rfl) ?_
            intro a hE
            refine s_nil ?_
            refine k_seq ?_
            refine k_if hE rfl (fun hb6 => ?_) (fun hb6 => ?_)
            · replace hl2 := (it hb6).symm.trans hl2
              refine k_skip ?_
              refine k_seq ?_
              refine k_plain ?_
              refine k_seq ?_
              refine k_region ?_
              obtain ⟨x4, ex4, hl2⟩ := bnd hl2
              obtain ⟨b6, b6o, b6c, b6r, b6k, b6f⟩ := RoSl.at hp1 slty37 ex4
              obtain rfl : b6c = Enc.enc x4 := b6k
              have b6f : AtP ρ b6 b6o [(.int .i64 x4.a), (.int .i64 x4.b), (.int .i64 x4.shared), (.int .i64 x4.total)] := b6f
              refine s_val (wk0 rfl) rfl rfl hE hp (v := (.pointer (some ⟨b6, b6o, none⟩))) (ex_index rfl hE rfl rfl b6r) ?_
              intro a hE
              refine s_val (wk0 rfl) rfl rfl hE hp (v := (.agg #[(.int .i64 x4.a), (.int .i64 x4.b), (.int .i64 x4.shared), (.int .i64 x4.total)])) (ex_load rfl hE rfl (fun w hw => run_ldN (cs := [(.int .i64 x4.a), (.int .i64 x4.b), (.int .i64 x4.shared), (.int .i64 x4.total)]) varty52 (fun j u hj => cell_of hw.le (b6f j u hj)))) ?_
              intro a hE
              refine s_new (wk0 rfl) rfl rfl hE hp rfl [(.int .i64 0), (.int .i64 0), (.int .i64 0), (.int .i64 0)] (fun w => by simp [Instr.alloc, go_sem] <;> rfl) ?_
              intro a w b7 hE hp
              have hp : Hp Z ρ (Pt b7 (.cells #[(.int .i64 0), (.int .i64 0), (.int .i64 0), (.int .i64 0)] 52 (0, 0)) :: _ :: _ :: _ :: L) w := hp
              refine s_store (wk0 rfl) rfl hE hp rfl rfl rfl 0 rfl varty52.size_ rfl (allOne_mem ⟨rfl, rfl, rfl, rfl, trivial⟩) [(.int .i64 x4.a), (.int .i64 x4.b), (.int .i64 x4.shared), (.int .i64 x4.total)] rfl ?_
              intro w hp
              have hp : Hp Z ρ (Pt b7 (.cells #[(.int .i64 x4.a), (.int .i64 x4.b), (.int .i64 x4.shared), (.int .i64 x4.total)] 52 (0, 0)) :: _ :: _ :: _ :: L) w := hp
              refine s_nil ?_
              refine k_seq ?_
              refine k_seq ?_
              refine k_region ?_
              refine s_val (wk0 rfl) rfl rfl hE hp (v := (.pointer (some ⟨b7, 0, none⟩))) (ex_field rfl hE rfl (fldty52_0 _ _)) ?_
              intro a hE
              refine s_val (wk0 rfl) rfl rfl hE hp (v := (.int .i64 x4.a)) (ex_load rfl hE rfl (fun w hw => run_ld1 varty3 (Hp.c 0 rfl 0 rfl w hw))) ?_
              intro a hE
              refine s_val (wk0 rfl) rfl rfl hE hp (v := (.bool (decide (x4.a < 0)))) (ex_lss rfl hE rfl rfl) ?_
              intro a hE
              refine s_val (wk0 rfl) rfl rfl hE hp (v := (.bool (decide (x4.a < 0)))) (ex_move rfl hE rfl) ?_
              intro a hE
              refine s_cut [_, _, _, _, _] (fun a w => Env 119 [(51, (.bool ((decide (x4.a < 0)) || (decide (p0 ≤ x4.a))))), (0, (.int .i64 p0)), (6, (.pointer (some ⟨b1, 0, none⟩))), (8, (.pointer (some ⟨b4, 0, none⟩))), (10, (.pointer (some ⟨b7, 0, none⟩))), (37, vp1), (38, (.int .i64 (p1.length : Int))), (39, (.int .i64 lp2_0))] a ∧ Hp Z ρ (Pt b7 (.cells #[(.int .i64 x4.a), (.int .i64 x4.b), (.int .i64 x4.shared), (.int .i64 x4.total)] 52 (0, 0)) :: Pt b4 (.cells #[(.func (.func 48) #[] #[(.pointer (some ⟨b1, 0, none⟩)), (.pointer (some ⟨b4, 0, none⟩))])] 84 (0, 0)) :: Pt b1 (.cells #[w1] 23 (0, 0)) :: OwnSl 3 w1 lp2_1 :: L) w) ?_ ?_
              · rcases Bool.eq_false_or_eq_true (decide (x4.a < 0)) with hb7 | hb7
                ·
                  refine s_skip (wk2 hE rfl rfl rfl hb7) rfl rfl hE ?_
                  intro a hE
                  refine s_skip (wk2 hE rfl rfl rfl hb7) rfl rfl hE ?_
                  intro a hE
                  refine s_skip (wk2 hE rfl rfl rfl hb7) rfl rfl hE ?_
                  intro a hE
                  refine s_skip (wk2 hE rfl rfl rfl hb7) rfl rfl hE ?_
                  intro a hE
                  refine s_val (wk0 rfl) rfl rfl hE hp (v := (.bool true)) (ex_pick1 rfl hE rfl hb7 rfl) ?_
                  intro a hE
                  have hE := hE.eqv (v' := (.bool ((decide (x4.a < 0)) || (decide (p0 ≤ x4.a))))) (by rw [hb7]; rfl)
                  exact s_nil ⟨hE.cut ⟨rfl, rfl, rfl, rfl, rfl, rfl, rfl, rfl, trivial⟩, hp⟩
                ·
                  refine s_val (wk1 hE rfl rfl rfl hb7) rfl rfl hE hp (v := (.pointer (some ⟨b7, 0, none⟩))) (ex_field rfl hE rfl (fldty52_0 _ _)) ?_
                  intro a hE
                  refine s_val (wk1 hE rfl rfl rfl hb7) rfl rfl hE hp (v := (.int .i64 x4.a)) (ex_load rfl hE rfl (fun w hw => run_ld1 varty3 (Hp.c 0 rfl 0 rfl w hw))) ?_
                  intro a hE
                  refine s_val (wk1 hE rfl rfl rfl hb7) rfl rfl hE hp (v := (.int .i64 p0)) (ex_move rfl hE rfl) ?_
                  intro a hE
                  refine s_val (wk1 hE rfl rfl rfl hb7) rfl rfl hE hp (v := (.bool (decide (p0 ≤ x4.a)))) (ex_geq rfl hE rfl rfl) ?_
                  intro a hE
                  refine s_val (wk0 rfl) rfl rfl hE hp (v := (.bool (decide (p0 ≤ x4.a)))) (ex_pick0 rfl hE rfl hb7 rfl) ?_
                  intro a hE
                  have hE := hE.eqv (v' := (.bool ((decide (x4.a < 0)) || (decide (p0 ≤ x4.a))))) (by rw [hb7]; rfl)
                  exact s_nil ⟨hE.cut ⟨rfl, rfl, rfl, rfl, rfl, rfl, rfl, rfl, trivial⟩, hp⟩
              · rintro a w ⟨hE, hp⟩
                refine s_val (wk0 rfl) rfl rfl hE hp (v := (.bool ((decide (x4.a < 0)) || (decide (p0 ≤ x4.a))))) (ex_move rfl hE rfl) ?_
                intro a hE
                refine s_cut [_, _, _, _] (fun a w => Env 119 [(56, (.bool (((decide (x4.a < 0)) || (decide (p0 ≤ x4.a))) || (decide (x4.b < 0))))), (0, (.int .i64 p0)), (6, (.pointer (some ⟨b1, 0, none⟩))), (8, (.pointer (some ⟨b4, 0, none⟩))), (10, (.pointer (some ⟨b7, 0, none⟩))), (37, vp1), (38, (.int .i64 (p1.length : Int))), (39, (.int .i64 lp2_0))] a ∧ Hp Z ρ (Pt b7 (.cells #[(.int .i64 x4.a), (.int .i64 x4.b), (.int .i64 x4.shared), (.int .i64 x4.total)] 52 (0, 0)) :: Pt b4 (.cells #[(.func (.func 48) #[] #[(.pointer (some ⟨b1, 0, none⟩)), (.pointer (some ⟨b4, 0, none⟩))])] 84 (0, 0)) :: Pt b1 (.cells #[w1] 23 (0, 0)) :: OwnSl 3 w1 lp2_1 :: L) w) ?_ ?_
                · rcases Bool.eq_false_or_eq_true ((decide (x4.a < 0)) || (decide (p0 ≤ x4.a))) with hb8 | hb8
                  ·
                    refine s_skip (wk2 hE rfl rfl rfl hb8) rfl rfl hE ?_
                    intro a hE
                    refine s_skip (wk2 hE rfl rfl rfl hb8) rfl rfl hE ?_
                    intro a hE
                    refine s_skip (wk2 hE rfl rfl rfl hb8) rfl rfl hE ?_
                    intro a hE
                    refine s_val (wk0 rfl) rfl rfl hE hp (v := (.bool true)) (ex_pick1 rfl hE rfl hb8 rfl) ?_
                    intro a hE
                    have hE := hE.eqv (v' := (.bool (((decide (x4.a < 0)) || (decide (p0 ≤ x4.a))) || (decide (x4.b < 0))))) (by rw [hb8]; rfl)
                    exact s_nil ⟨hE.cut ⟨rfl, rfl, rfl, rfl, rfl, rfl, rfl, rfl, trivial⟩, hp⟩
                  ·
                    refine s_val (wk1 hE rfl rfl rfl hb8) rfl rfl hE hp (v := (.pointer (some ⟨b7, 1, none⟩))) (ex_field rfl hE rfl (fldty52_1 _ _)) ?_
                    intro a hE
                    refine s_val (wk1 hE rfl rfl rfl hb8) rfl rfl hE hp (v := (.int .i64 x4.b)) (ex_load rfl hE rfl (fun w hw => run_ld1 varty3 (Hp.c 0 rfl 1 rfl w hw))) ?_
                    intro a hE
                    refine s_val (wk1 hE rfl rfl rfl hb8) rfl rfl hE hp (v := (.bool (decide (x4.b < 0)))) (ex_lss rfl hE rfl rfl) ?_
                    intro a hE
                    refine s_val (wk0 rfl) rfl rfl hE hp (v := (.bool (decide (x4.b < 0)))) (ex_pick0 rfl hE rfl hb8 rfl) ?_
                    intro a hE
                    have hE := hE.eqv (v' := (.bool (((decide (x4.a < 0)) || (decide (p0 ≤ x4.a))) || (decide (x4.b < 0))))) (by rw [hb8]; rfl)
                    exact s_nil ⟨hE.cut ⟨rfl, rfl, rfl, rfl, rfl, rfl, rfl, rfl, trivial⟩, hp⟩
                · rintro a w ⟨hE, hp⟩
                  refine s_val (wk0 rfl) rfl rfl hE hp (v := (.bool (((decide (x4.a < 0)) || (decide (p0 ≤ x4.a))) || (decide (x4.b < 0))))) (ex_move rfl hE rfl) ?_
                  intro a hE
                  refine s_cut [_, _, _, _, _] (fun a w => Env 119 [(62, (.bool ((((decide (x4.a < 0)) || (decide (p0 ≤ x4.a))) || (decide (x4.b < 0))) || (decide (p0 ≤ x4.b))))), (0, (.int .i64 p0)), (6, (.pointer (some ⟨b1, 0, none⟩))), (8, (.pointer (some ⟨b4, 0, none⟩))), (10, (.pointer (some ⟨b7, 0, none⟩))), (37, vp1), (38, (.int .i64 (p1.length : Int))), (39, (.int .i64 lp2_0))] a ∧ Hp Z ρ (Pt b7 (.cells #[(.int .i64 x4.a), (.int .i64 x4.b), (.int .i64 x4.shared), (.int .i64 x4.total)] 52 (0, 0)) :: Pt b4 (.cells #[(.func (.func 48) #[] #[(.pointer (some ⟨b1, 0, none⟩)), (.pointer (some ⟨b4, 0, none⟩))])] 84 (0, 0)) :: Pt b1 (.cells #[w1] 23 (0, 0)) :: OwnSl 3 w1 lp2_1 :: L) w) ?_ ?_
                  · rcases Bool.eq_false_or_eq_true (((decide (x4.a < 0)) || (decide (p0 ≤ x4.a))) || (decide (x4.b < 0))) with hb9 | hb9
                    ·
                      refine s_skip (wk2 hE rfl rfl rfl hb9) rfl rfl hE ?_
                      intro a hE
                      refine s_skip (wk2 hE rfl rfl rfl hb9) rfl rfl hE ?_
                      intro a hE
                      refine s_skip (wk2 hE rfl rfl rfl hb9) rfl rfl hE ?_
                      intro a hE
                      refine s_skip (wk2 hE rfl rfl rfl hb9) rfl rfl hE ?_
                      intro a hE
                      refine s_val (wk0 rfl) rfl rfl hE hp (v := (.bool true)) (ex_pick1 rfl hE rfl hb9 rfl) ?_
                      intro a hE
                      have hE := hE.eqv (v' := (.bool ((((decide (x4.a < 0)) || (decide (p0 ≤ x4.a))) || (decide (x4.b < 0))) || (decide (p0 ≤ x4.b))))) (by rw [hb9]; rfl)
                      exact s_nil ⟨hE.cut ⟨rfl, rfl, rfl, rfl, rfl, rfl, rfl, rfl, trivial⟩, hp⟩
                    ·
                      refine s_val (wk1 hE rfl rfl rfl hb9) rfl rfl hE hp (v := (.pointer (some ⟨b7, 1, none⟩))) (ex_field rfl hE rfl (fldty52_1 _ _)) ?_
                      intro a hE
                      refine s_val (wk1 hE rfl rfl rfl hb9) rfl rfl hE hp (v := (.int .i64 x4.b)) (ex_load rfl hE rfl (fun w hw => run_ld1 varty3 (Hp.c 0 rfl 1 rfl w hw))) ?_
                      intro a hE
                      refine s_val (wk1 hE rfl rfl rfl hb9) rfl rfl hE hp (v := (.int .i64 p0)) (ex_move rfl hE rfl) ?_
                      intro a hE
                      refine s_val (wk1 hE rfl rfl rfl hb9) rfl rfl hE hp (v := (.bool (decide (p0 ≤ x4.b)))) (ex_geq rfl hE rfl rfl) ?_
                      intro a hE
                      refine s_val (wk0 rfl) rfl rfl hE hp (v := (.bool (decide (p0 ≤ x4.b)))) (ex_pick0 rfl hE rfl hb9 rfl) ?_
                      intro a hE
                      have hE := hE.eqv (v' := (.bool ((((decide (x4.a < 0)) || (decide (p0 ≤ x4.a))) || (decide (x4.b < 0))) || (decide (p0 ≤ x4.b))))) (by rw [hb9]; rfl)
                      exact s_nil ⟨hE.cut ⟨rfl, rfl, rfl, rfl, rfl, rfl, rfl, rfl, trivial⟩, hp⟩
                  · rintro a w ⟨hE, hp⟩
                    refine s_nil ?_
                    refine k_if hE rfl (fun hb10 => ?_) (fun hb10 => ?_)
                    · replace hl2 := (it hb10).symm.trans hl2
                      refine k_seq ?_
                      refine k_region ?_
                      refine s_val (wk0 rfl) rfl rfl hE hp (v := (.slice none 0 0)) (ex_asn rfl hE rfl) ?_
                      intro a hE
                      refine s_val (wk0 rfl) rfl rfl hE hp (v := (.int .i64 2)) (ex_asn rfl hE rfl) ?_
                      intro a hE
                      refine s_nil ?_
                      refine k_ret ?_
                      refine ⟨_, (Option.some.inj hl2).symm, fun hb => ?_⟩
                      subst hb
                      obtain rfl := Option.some.inj hm
                      exact ret2 hE rfl rfl rfl ⟨_, rfl, _, _, (PH.le.rf _), rfl, (RoSl.nil _), (((((((hp.get 3 rfl).drop).get 2 rfl).drop).get 1 rfl).drop).drop)⟩
                    · replace hl2 := (ie hb10).symm.trans hl2
                      refine k_skip ?_
                      refine k_seq ?_
                      obtain ⟨x5, ex5, hl2⟩ := bnd hl2
                      obtain ⟨x6, ex6, hl2⟩ := bnd hl2
                      have hp := hp.drew
                      refine k_heldV ([([], At0 Z ρ), ([], At1 Z ρ (Pt b7 (.cells #[(.int .i64 x4.a), (.int .i64 x4.b), (.int .i64 x4.shared), (.int .i64 x4.total)] 52 (0, 0)))), ([], At1 Z ρ (Pt b4 (.cells #[(.func (.func 48) #[] #[(.pointer (some ⟨b1, 0, none⟩)), (.pointer (some ⟨b4, 0, none⟩))])] 84 (0, 0))))] : Facts) (fun a w => Env 119 [(0, (.int .i64 p0)), (6, (.pointer (some ⟨b1, 0, none⟩))), (8, (.pointer (some ⟨b4, 0, none⟩))), (11, (.int .i64 x5.1)), (12, (.int .i64 x6.1)), (37, vp1), (38, (.int .i64 (p1.length : Int))), (39, (.int .i64 lp2_0))] a ∧ Hp Z ρ (Pt b1 (.cells #[w1] 23 (0, 0)) :: OwnSl 3 w1 x6.2 :: Pt b4 (.cells #[(.func (.func 48) #[] #[(.pointer (some ⟨b1, 0, none⟩)), (.pointer (some ⟨b4, 0, none⟩))])] 84 (0, 0)) :: Pt b7 (.cells #[(.int .i64 x4.a), (.int .i64 x4.b), (.int .i64 x4.shared), (.int .i64 x4.total)] 52 (0, 0)) :: L) w) (by kernel_rfl) ⟨fun _ => ⟨_, hp⟩, fun _ => ⟨_, (hp.get 0 rfl)⟩, fun _ => ⟨_, (hp.get 1 rfl)⟩, trivial⟩ (fun hS => ?_) ?_
                      ·
                        generalize w.drew = w at hS hp ⊢
                        refine v_take1 0 2 (wk0 rfl) rfl rfl rfl hE (by kernel_rfl) (by kernel_rfl) (by kernel_rfl) rfl (by kernel_rfl) hS (v := (.func (.func 48) #[] #[(.pointer (some ⟨b1, 0, none⟩)), (.pointer (some ⟨b4, 0, none⟩))])) (fun _ => ex_load rfl hE rfl (fun w hw => run_ld1 varty84 (Hp.c 0 rfl 0 rfl w hw))) ?_
                        intro a hE hS
                        refine v_take0 1 (wk0 rfl) rfl rfl rfl hE (by kernel_rfl) (by kernel_rfl) (by kernel_rfl) rfl (by kernel_rfl) hS (v := (.pointer (some ⟨b7, 0, none⟩))) (fun _ => ex_field rfl hE rfl (fldty52_0 _ _)) ?_
                        intro a hE hS
                        refine v_take1 2 1 (wk0 rfl) rfl rfl rfl hE (by kernel_rfl) (by kernel_rfl) (by kernel_rfl) rfl (by kernel_rfl) hS (v := (.int .i64 x4.a)) (fun _ => ex_load rfl hE rfl (fun w hw => run_ld1 varty3 (Hp.c 0 rfl 0 rfl w hw))) ?_
                        intro a hE hS
                        refine v_take1 4 2 (wk0 rfl) rfl rfl rfl hE (by kernel_rfl) (by kernel_rfl) (by kernel_rfl) rfl (by kernel_rfl) hS (v := (.func (.func 48) #[] #[(.pointer (some ⟨b1, 0, none⟩)), (.pointer (some ⟨b4, 0, none⟩))])) (fun _ => ex_load rfl hE rfl (fun w hw => run_ld1 varty84 (Hp.c 0 rfl 0 rfl w hw))) ?_
                        intro a hE hS
                        refine v_take0 5 (wk0 rfl) rfl rfl rfl hE (by kernel_rfl) (by kernel_rfl) (by kernel_rfl) rfl (by kernel_rfl) hS (v := (.pointer (some ⟨b7, 1, none⟩))) (fun _ => ex_field rfl hE rfl (fldty52_1 _ _)) ?_
                        intro a hE hS
                        refine v_take1 6 1 (wk0 rfl) rfl rfl rfl hE (by kernel_rfl) (by kernel_rfl) (by kernel_rfl) rfl (by kernel_rfl) hS (v := (.int .i64 x4.b)) (fun _ => ex_load rfl hE rfl (fun w hw => run_ld1 varty3 (Hp.c 0 rfl 1 rfl w hw))) ?_
                        intro a hE hS
                        refine v_all [3] (by kernel_rfl) rfl ?_
                        refine List.forall_mem_cons.2 ⟨?_, fun _ h => absurd h (by simp)⟩
                        ·
                          refine h_op rfl ?_
                          refine s_callv (wk0 rfl) rfl rfl hE rfl rfl [(.int .i64 x4.a)] ⟨rfl, trivial⟩ ent48 (c_similarity_Clusters_1 x4.a b1 lp2_1 w1 b4 (((hp.get 1 rfl).get 3 rfl).get 3 rfl) x5 ex5) Ret.ret ?_
                          intro v a w hR hE
                          obtain ⟨rfl, hp⟩ := Ret.of hR
                          have hp : Hp Z ρ (_ :: OwnSl 3 w1 x5.2 :: _ :: _ :: L) w := hp
                          refine s_nil (and_with ⟨fun _ => ⟨_, hp⟩, fun _ => ⟨_, (hp.get 3 rfl)⟩, fun _ => ⟨_, (hp.get 2 rfl)⟩, trivial⟩ fun hS => ?_)
                          refine v_all [7] (by kernel_rfl) rfl ?_
                          refine List.forall_mem_cons.2 ⟨?_, fun _ h => absurd h (by simp)⟩
                          ·
                            refine h_op rfl ?_
                            refine s_callv (wk0 rfl) rfl rfl hE rfl rfl [(.int .i64 x4.b)] ⟨rfl, trivial⟩ ent48 (c_similarity_Clusters_1 x4.b b1 x5.2 w1 b4 (((hp.get 2 rfl).get 2 rfl).get 2 rfl) x6 ex6) Ret.ret ?_
                            intro v a w hR hE
                            obtain ⟨rfl, hp⟩ := Ret.of hR
                            have hp : Hp Z ρ (_ :: OwnSl 3 w1 x6.2 :: _ :: _ :: L) w := hp
                            refine s_nil (and_with ⟨fun _ => ⟨_, hp⟩, fun _ => ⟨_, (hp.get 3 rfl)⟩, fun _ => ⟨_, (hp.get 2 rfl)⟩, trivial⟩ fun hS => ?_)
                            refine v_take0 8 (wk0 rfl) rfl rfl rfl hE (by kernel_rfl) (by kernel_rfl) (by kernel_rfl) rfl (by kernel_rfl) hS (v := (.int .i64 x5.1)) (fun _ => ex_asn rfl hE rfl) ?_
                            intro a hE hS
                            refine v_take0 9 (wk0 rfl) rfl rfl rfl hE (by kernel_rfl) (by kernel_rfl) (by kernel_rfl) rfl (by kernel_rfl) hS (v := (.int .i64 x6.1)) (fun _ => ex_asn rfl hE rfl) ?_
                            intro a hE hS
                            exact v_done (by kernel_rfl) ⟨hE.cut ⟨rfl, rfl, rfl, rfl, rfl, rfl, rfl, rfl, trivial⟩, hp⟩
                      · rintro a w ⟨hE, hp⟩
                        refine k_region ?_
                        refine s_val (wk0 rfl) rfl rfl hE hp (v := w1) (ex_load rfl hE rfl (fun w hw => run_ld1 varty23 (Hp.c 0 rfl 0 rfl w hw))) ?_
                        intro a hE
                        refine s_val (wk0 rfl) rfl rfl hE hp (v := (.int .i64 x5.1)) (ex_move rfl hE rfl) ?_
                        intro a hE
                        refine s_val (wk0 rfl) rfl rfl hE hp (v := (.int .i64 x6.1)) (ex_move rfl hE rfl) ?_
                        intro a hE
                        refine s_val (wk0 rfl) rfl rfl hE hp (v := (.int .i64 (max x5.1 x6.1))) (ex_max rfl hE rfl rfl) ?_
                        intro a hE
                        refine s_val (wk0 rfl) rfl rfl hE hp (v := (.int .i64 x5.1)) (ex_move rfl hE rfl) ?_
                        intro a hE
                        refine s_val (wk0 rfl) rfl rfl hE hp (v := (.int .i64 x6.1)) (ex_move rfl hE rfl) ?_
                        intro a hE
                        refine s_val (wk0 rfl) rfl rfl hE hp (v := (.int .i64 (min x5.1 x6.1))) (ex_min rfl hE rfl rfl) ?_
                        intro a hE
                        obtain ⟨x7, ex7, hl2⟩ := bnd hl2
                        obtain ⟨b8, b8o, b8r, b8v, b8f⟩ := OwnSl.at hp 1 rfl slty23 ex7
                        have b8f : ∀ (j : Nat) (u : Value), ([(.int .i64 x7)] : List Value)[j]? = some u → ∀ ρ' L' w, Hp Z ρ' (OwnSl 3 w1 x6.2 :: L') w → w.cell? ⟨b8, b8o + j, none⟩ = some u := b8f
                        refine s_val (wk0 rfl) rfl rfl hE hp (v := (.pointer (some ⟨b8, b8o, none⟩))) (ex_index rfl hE rfl rfl b8r) ?_
                        intro a hE
                        refine s_stel (wk0 rfl) rfl hE hp rfl rfl rfl 1 rfl ex7 b8v 0 (e' := min x5.1 x6.1) varty3.size_ rfl rfl rfl ⟨rfl, rfl⟩ ?_
                        intro w hp
                        have hp : Hp Z ρ (_ :: OwnSl 3 w1 (x6.2.set (max x5.1 x6.1).toNat (min x5.1 x6.1)) :: _ :: _ :: L) w := hp
                        refine s_nil ?_
                        refine k_region ?_
                        obtain ⟨x8, ex8, hl2⟩ := bnd hl2
                        refine s_val (wk0 rfl) rfl rfl hE hp (v := (.int .i64 x8)) (ex_add rfl hE rfl rfl (inK_some ex8)) ?_
                        intro a hE
                        refine s_val (wk0 rfl) rfl rfl hE hp (v := (.int .i64 x8)) (ex_move rfl hE rfl) ?_
                        intro a hE
                        refine s_nil ?_
                        exact ⟨_, (Option.some.inj hl2).symm, _, hE.cut ⟨rfl, rfl, rfl, rfl, rfl, rfl, trivial⟩, (((((hp.get 1 rfl).get 1 rfl).get 2 rfl).get 3 rfl).drop)⟩
            · replace hl2 := (ie hb6).symm.trans hl2
              refine k_exit ?_
              refine ⟨_, (Option.some.inj hl2).symm, fun hbb => ?_⟩
              exact ⟨_, hbb.symm, _, hE.cut ⟨rfl, rfl, trivial⟩, hp⟩
        · rintro a w ⟨b5s, rfl, w1, hE, hp⟩
          dsimp only at hm
          refine k_seq ?_
          refine k_region ?_
          refine s_mkmap (κ := Int) (β := Sl) (wk0 rfl) rfl rfl hE hp rfl ?_
          intro a w b9 hE hp
          have hp : Hp Z ρ (MapA b9 ([] : List (Int × Sl)) :: _ :: _ :: OwnSl 3 w1 b5s :: L) w := hp
          have hp := hp.emp (RowsM.nil (κ := Int) (α := Int) 3)
          have hp : Hp Z ρ (RowsM 3 ([] : List (Int × Sl)) ([] : List (Int × List Int)) :: _ :: _ :: _ :: _ :: L) w := hp
          refine s_val (wk0 rfl) rfl rfl hE hp (v := (.map (some b9))) (ex_asn rfl hE rfl) ?_
          intro a hE
          refine s_nil ?_
          refine k_seq ?_
          refine k_seq ?_
          refine k_region ?_
          refine s_val (wk0 rfl) rfl rfl hE hp (v := (.int .i64 p0)) (ex_move rfl hE rfl) ?_
          intro a hE
          refine s_val (wk0 rfl) rfl rfl hE hp (v := (.int .i64 0)) (ex_move rfl hE rfl) ?_
          intro a hE
          refine s_nil ?_
          obtain ⟨b10, hb11, hm⟩ := bnd hm
          refine k_block (fun a w => ∃ (um7 : List (Int × Sl)) (w1 : Value), Env 119 [(13, (.map (some b9)))] a ∧ Hp Z ρ (RowsM 3 (um7 : List (Int × Sl)) (b10.1 : List (Int × List Int)) :: MapA b9 (um7 : List (Int × Sl)) :: Pt b4 (.cells #[(.func (.func 48) #[] #[(.pointer (some ⟨b1, 0, none⟩)), (.pointer (some ⟨b4, 0, none⟩))])] 84 (0, 0)) :: Pt b1 (.cells #[w1] 23 (0, 0)) :: OwnSl 3 w1 b10.2 :: L) w) ?_ ?_
          · refine k_loop hb11 (fun s a w => ∃ (um7 : List (Int × Sl)) (w1 : Value), Env 119 [(8, (.pointer (some ⟨b4, 0, none⟩))), (13, (.map (some b9))), (81, (.int .i64 p0)), (82, (.int .i64 s.1))] a ∧ Hp Z ρ (RowsM 3 (um7 : List (Int × Sl)) (s.2.1 : List (Int × List Int)) :: MapA b9 (um7 : List (Int × Sl)) :: Pt b4 (.cells #[(.func (.func 48) #[] #[(.pointer (some ⟨b1, 0, none⟩)), (.pointer (some ⟨b4, 0, none⟩))])] 84 (0, 0)) :: Pt b1 (.cells #[w1] 23 (0, 0)) :: OwnSl 3 w1 s.2.2 :: L) w) ?_ ?_
            · exact ⟨_, _, hE.cut ⟨rfl, rfl, rfl, rfl, trivial⟩, hp⟩
            · rintro ⟨lp3_0, lp3_1, lp3_2⟩ st a w ⟨um7, w1, hE, hp⟩ hl3
              have hE : Env 119 [(8, (.pointer (some ⟨b4, 0, none⟩))), (13, (.map (some b9))), (81, (.int .i64 p0)), (82, (.int .i64 lp3_0))] a := hE
              have hp : Hp Z ρ (RowsM 3 (um7 : List (Int × Sl)) (lp3_1 : List (Int × List Int)) :: MapA b9 (um7 : List (Int × Sl)) :: _ :: _ :: OwnSl 3 w1 lp3_2 :: L) w := hp
              replace hl3 : m_similarity_Clusters_lp3 p0 lp3_0 lp3_1 lp3_2 = some st := hl3
              unfold m_similarity_Clusters_lp3 at hl3
              refine k_seq ?_
              refine k_region ?_
              refine s_val (wk0 rfl) rfl rfl hE hp (v := (.bool (decide (lp3_0 < p0)))) (ex_lss rfl hE rfl rfl) ?_
              intro a hE
              refine s_nil ?_
              refine k_seq ?_
              refine k_if hE rfl (fun hb12 => ?_) (fun hb12 => ?_)
              · replace hl3 := (it hb12).symm.trans hl3
                refine k_skip ?_
                refine k_seq ?_
                refine k_plain ?_
                refine k_seq ?_
                refine k_region ?_
                refine s_val (wk0 rfl) rfl rfl hE hp (v := (.int .i64 lp3_0)) (ex_move rfl hE rfl) ?_
                intro a hE
                refine s_val (wk0 rfl) rfl rfl hE hp (v := (.int .i64 lp3_0)) (ex_asn rfl hE rfl) ?_
                intro a hE
                refine s_nil ?_
                obtain ⟨x9, ex9, hl3⟩ := bnd hl3
                obtain ⟨x10, ex10, hl3⟩ := bnd hl3
                obtain ⟨x11, ex11, hl3⟩ := bnd hl3
                obtain ⟨x12, ex12, hl3⟩ := bnd hl3
                have hp := hp.drew
                refine k_heldV ([([], At0 Z ρ), ([], At1 Z ρ (Pt b4 (.cells #[(.func (.func 48) #[] #[(.pointer (some ⟨b1, 0, none⟩)), (.pointer (some ⟨b4, 0, none⟩))])] 84 (0, 0))))] : Facts) (fun a w => ∃ y11 : Nat, ∃ yum7 : List (Int × Sl), Env 119 [(8, (.pointer (some ⟨b4, 0, none⟩))), (13, (.map (some b9))), (81, (.int .i64 p0)), (82, (.int .i64 lp3_0))] a ∧ Hp Z ρ (RowsM 3 (yum7 : List (Int × Sl)) ((mput (lp3_1 : List (Int × List Int)) x10.1 x11) : List (Int × List Int)) :: Pt y11 (.cells #[(.int .i64 lp3_0)] 3 (0, 0)) :: Pt b1 (.cells #[w1] 23 (0, 0)) :: OwnSl 3 w1 x10.2 :: Pt b4 (.cells #[(.func (.func 48) #[] #[(.pointer (some ⟨b1, 0, none⟩)), (.pointer (some ⟨b4, 0, none⟩))])] 84 (0, 0)) :: MapA b9 (yum7 : List (Int × Sl)) :: L) w) (by kernel_rfl) ⟨fun _ => ⟨_, hp⟩, fun _ => ⟨_, (hp.get 2 rfl)⟩, trivial⟩ (fun hS => ?_) ?_
                ·
                  generalize w.drew = w at hS hp ⊢
                  refine v_take0 0 (wk0 rfl) rfl rfl rfl hE (by kernel_rfl) (by kernel_rfl) (by kernel_rfl) rfl (by kernel_rfl) hS (v := (.map (some b9))) (fun _ => ex_move rfl hE rfl) ?_
                  intro a hE hS
                  refine v_take1 1 1 (wk0 rfl) rfl rfl rfl hE (by kernel_rfl) (by kernel_rfl) (by kernel_rfl) rfl (by kernel_rfl) hS (v := (.func (.func 48) #[] #[(.pointer (some ⟨b1, 0, none⟩)), (.pointer (some ⟨b4, 0, none⟩))])) (fun _ => ex_load rfl hE rfl (fun w hw => run_ld1 varty84 (Hp.c 0 rfl 0 rfl w hw))) ?_
                  intro a hE hS
                  refine v_take0 2 (wk0 rfl) rfl rfl rfl hE (by kernel_rfl) (by kernel_rfl) (by kernel_rfl) rfl (by kernel_rfl) hS (v := (.int .i64 lp3_0)) (fun _ => ex_move rfl hE rfl) ?_
                  intro a hE hS
                  refine v_take0 4 (wk0 rfl) rfl rfl rfl hE (by kernel_rfl) (by kernel_rfl) (by kernel_rfl) rfl (by kernel_rfl) hS (v := (.map (some b9))) (fun _ => ex_move rfl hE rfl) ?_
                  intro a hE hS
                  refine v_take1 5 1 (wk0 rfl) rfl rfl rfl hE (by kernel_rfl) (by kernel_rfl) (by kernel_rfl) rfl (by kernel_rfl) hS (v := (.func (.func 48) #[] #[(.pointer (some ⟨b1, 0, none⟩)), (.pointer (some ⟨b4, 0, none⟩))])) (fun _ => ex_load rfl hE rfl (fun w hw => run_ld1 varty84 (Hp.c 0 rfl 0 rfl w hw))) ?_
                  intro a hE hS
                  refine v_take0 6 (wk0 rfl) rfl rfl rfl hE (by kernel_rfl) (by kernel_rfl) (by kernel_rfl) rfl (by kernel_rfl) hS (v := (.int .i64 lp3_0)) (fun _ => ex_move rfl hE rfl) ?_
                  intro a hE hS
                  refine v_take0 9 (wk0 rfl) rfl rfl rfl hE (by kernel_rfl) (by kernel_rfl) (by kernel_rfl) rfl (by kernel_rfl) hS (v := (.int .i64 lp3_0)) (fun _ => ex_move rfl hE rfl) ?_
                  intro a hE hS
                  refine v_all [3, 10] (by kernel_rfl) rfl ?_
                  refine List.forall_mem_cons.2 ⟨?_, List.forall_mem_cons.2 ⟨?_, fun _ h => absurd h (by simp)⟩⟩
                  ·
                    refine h_op rfl ?_
                    refine s_callv (wk0 rfl) rfl rfl hE rfl rfl [(.int .i64 lp3_0)] ⟨rfl, trivial⟩ ent48 (c_similarity_Clusters_1 lp3_0 b1 lp3_2 w1 b4 (((hp.get 2 rfl).get 4 rfl).get 4 rfl) x9 ex9) Ret.ret ?_
                    intro v a w hR hE
                    obtain ⟨rfl, hp⟩ := Ret.of hR
                    have hp : Hp Z ρ (_ :: OwnSl 3 w1 x9.2 :: _ :: _ :: _ :: L) w := hp
                    refine s_nil (and_with ⟨fun _ => ⟨_, hp⟩, fun _ => ⟨_, (hp.get 2 rfl)⟩, trivial⟩ fun hS => ?_)
                    refine v_all [7, 10] (by kernel_rfl) rfl ?_
                    refine List.forall_mem_cons.2 ⟨?_, List.forall_mem_cons.2 ⟨?_, fun _ h => absurd h (by simp)⟩⟩
                    ·
                      refine h_op rfl ?_
                      refine s_callv (wk0 rfl) rfl rfl hE rfl rfl [(.int .i64 lp3_0)] ⟨rfl, trivial⟩ ent48 (c_similarity_Clusters_1 lp3_0 b1 x9.2 w1 b4 (((hp.get 2 rfl).get 2 rfl).get 2 rfl) x10 ex10) Ret.ret ?_
                      intro v a w hR hE
                      obtain ⟨rfl, hp⟩ := Ret.of hR
                      have hp : Hp Z ρ (_ :: OwnSl 3 w1 x10.2 :: _ :: _ :: _ :: L) w := hp
                      refine s_nil (and_with ⟨fun _ => ⟨_, hp⟩, fun _ => ⟨_, (hp.get 2 rfl)⟩, trivial⟩ fun hS => ?_)
                      refine v_all [8, 10] (by kernel_rfl) rfl ?_
                      refine List.forall_mem_cons.2 ⟨?_, List.forall_mem_cons.2 ⟨?_, fun _ h => absurd h (by simp)⟩⟩
                      ·
                        refine h_op rfl ?_
                        refine s_val (wk0 rfl) rfl rfl hE hp (v := (Sl.v ((mget (um7 : List (Int × Sl)) x10.1).getD Sl.nil))) (ex_mget0 (zd := Sl.nil) kt3 mapty85 zero23 rfl hE 4 (k := x10.1) rfl rfl rfl) ?_
                        intro a hE
                        obtain ⟨v4, v4e⟩ : ∃ v, (Sl.v ((mget (um7 : List (Int × Sl)) x10.1).getD Sl.nil)) = v := ⟨_, rfl⟩
                        have hE := hE.eqv (v' := v4) v4e
                        have hp := RowsM.takev v4e (hp.get 3 rfl)
                        have hp : Hp Z ρ (OwnSl 3 v4 ((mget (lp3_1 : List (Int × List Int)) x10.1).getD []) :: RowsX 3 (um7 : List (Int × Sl)) (lp3_1 : List (Int × List Int)) x10.1 :: _ :: _ :: _ :: _ :: L) w := hp
                        refine s_nil (and_with ⟨fun _ => ⟨_, hp⟩, fun _ => ⟨_, (hp.get 4 rfl)⟩, trivial⟩ fun hS => ?_)
                        refine v_all [10] (by kernel_rfl) rfl ?_
                        refine List.forall_mem_cons.2 ⟨?_, fun _ h => absurd h (by simp)⟩
                        ·
                          refine h_op rfl ?_
                          refine s_lit (wk0 rfl) rfl rfl hE hp rfl [(0, (.int .i64 lp3_0))] ⟨⟨rfl, rfl⟩, trivial⟩ [(.int .i64 lp3_0)] 3 (fun w => by simp [Instr.buildSlice, Instr.fill, Value.cells, go_sem]) ?_
                          intro a w b12 hE hp
                          have hp : Hp Z ρ (Pt b12 (.cells #[(.int .i64 lp3_0)] 3 (0, 0)) :: _ :: _ :: _ :: _ :: _ :: _ :: L) w := hp
                          refine s_nil (and_with ⟨fun _ => ⟨_, hp⟩, fun _ => ⟨_, (hp.get 5 rfl)⟩, trivial⟩ fun hS => ?_)
                          refine v_all [11] (by kernel_rfl) rfl ?_
                          refine List.forall_mem_cons.2 ⟨?_, fun _ h => absurd h (by simp)⟩
                          ·
                            refine h_op rfl ?_
                            refine s_app (wk0 rfl) rfl rfl hE hp rfl slty23 rfl rfl 1 rfl rfl (l2 := [lp3_0]) rfl (fun j u hj => by have := Hp.cN 0 rfl 0 _ (sub_all rfl) w hp j u hj; simpa using this) ex11 ?_
                            intro v5 a w hE hp
                            have hp : Hp Z ρ (_ :: OwnSl 3 v5 x11 :: _ :: _ :: _ :: _ :: _ :: L) w := hp
                            refine s_nil (and_with ⟨fun _ => ⟨_, hp⟩, fun _ => ⟨_, (hp.get 5 rfl)⟩, trivial⟩ fun hS => ?_)
                            refine v_all [12] (by kernel_rfl) rfl ?_
                            refine List.forall_mem_cons.2 ⟨?_, fun _ h => absurd h (by simp)⟩
                            ·
                              refine h_op rfl ?_
                              obtain ⟨sl2, sl2e⟩ := OwnSl.toSl hp 1 rfl
                              refine s_mputT kt3 mapty85 (wk0 rfl) rfl hE hp rfl 6 (k := x10.1) sl2e (guardEq_some ex12) rfl rfl rfl rfl ?_
                              intro w hp
                              have hp : Hp Z ρ (_ :: _ :: _ :: _ :: _ :: _ :: MapA b9 ((mput (um7 : List (Int × Sl)) x10.1 sl2) : List (Int × Sl)) :: L) w := hp
                              have hp := RowsX.put sl2e ((hp.get 2 rfl).get 2 rfl)
                              have hp : Hp Z ρ (RowsM 3 ((mput (um7 : List (Int × Sl)) x10.1 sl2) : List (Int × Sl)) ((mput (lp3_1 : List (Int × List Int)) x10.1 x11) : List (Int × List Int)) :: _ :: _ :: _ :: _ :: _ :: L) w := hp
                              refine s_nil (and_with ⟨fun _ => ⟨_, hp⟩, fun _ => ⟨_, (hp.get 4 rfl)⟩, trivial⟩ fun hS => ?_)
                              exact v_done (by kernel_rfl) ⟨_, _, hE.cut ⟨rfl, rfl, rfl, rfl, trivial⟩, hp⟩
                      ·
                        refine h_op rfl ?_
                        refine s_lit (wk0 rfl) rfl rfl hE hp rfl [(0, (.int .i64 lp3_0))] ⟨⟨rfl, rfl⟩, trivial⟩ [(.int .i64 lp3_0)] 3 (fun w => by simp [Instr.buildSlice, Instr.fill, Value.cells, go_sem]) ?_
                        intro a w b13 hE hp
                        have hp : Hp Z ρ (Pt b13 (.cells #[(.int .i64 lp3_0)] 3 (0, 0)) :: _ :: _ :: _ :: _ :: _ :: L) w := hp
                        refine s_nil (and_with ⟨fun _ => ⟨_, hp⟩, fun _ => ⟨_, (hp.get 3 rfl)⟩, trivial⟩ fun hS => ?_)
                        refine v_all [8] (by kernel_rfl) rfl ?_
                        refine List.forall_mem_cons.2 ⟨?_, fun _ h => absurd h (by simp)⟩
                        ·
                          refine h_op rfl ?_
                          refine s_val (wk0 rfl) rfl rfl hE hp (v := (Sl.v ((mget (um7 : List (Int × Sl)) x10.1).getD Sl.nil))) (ex_mget0 (zd := Sl.nil) kt3 mapty85 zero23 rfl hE 5 (k := x10.1) rfl rfl rfl) ?_
                          intro a hE
                          obtain ⟨v6, v6e⟩ : ∃ v, (Sl.v ((mget (um7 : List (Int × Sl)) x10.1).getD Sl.nil)) = v := ⟨_, rfl⟩
                          have hE := hE.eqv (v' := v6) v6e
                          have hp := RowsM.takev v6e (hp.get 4 rfl)
                          have hp : Hp Z ρ (OwnSl 3 v6 ((mget (lp3_1 : List (Int × List Int)) x10.1).getD []) :: RowsX 3 (um7 : List (Int × Sl)) (lp3_1 : List (Int × List Int)) x10.1 :: _ :: _ :: _ :: _ :: _ :: L) w := hp
                          refine s_nil (and_with ⟨fun _ => ⟨_, hp⟩, fun _ => ⟨_, (hp.get 5 rfl)⟩, trivial⟩ fun hS => ?_)
                          refine v_all [11] (by kernel_rfl) rfl ?_
                          refine List.forall_mem_cons.2 ⟨?_, fun _ h => absurd h (by simp)⟩
                          ·
                            refine h_op rfl ?_
                            refine s_app (wk0 rfl) rfl rfl hE hp rfl slty23 rfl rfl 0 rfl rfl (l2 := [lp3_0]) rfl (fun j u hj => by have := Hp.cN 2 rfl 0 _ (sub_all rfl) w hp j u hj; simpa using this) ex11 ?_
                            intro v7 a w hE hp
                            have hp : Hp Z ρ (OwnSl 3 v7 x11 :: _ :: _ :: _ :: _ :: _ :: _ :: L) w := hp
                            refine s_nil (and_with ⟨fun _ => ⟨_, hp⟩, fun _ => ⟨_, (hp.get 5 rfl)⟩, trivial⟩ fun hS => ?_)
                            refine v_all [12] (by kernel_rfl) rfl ?_
                            refine List.forall_mem_cons.2 ⟨?_, fun _ h => absurd h (by simp)⟩
                            ·
                              refine h_op rfl ?_
                              obtain ⟨sl3, sl3e⟩ := OwnSl.toSl hp 0 rfl
                              refine s_mputT kt3 mapty85 (wk0 rfl) rfl hE hp rfl 6 (k := x10.1) sl3e (guardEq_some ex12) rfl rfl rfl rfl ?_
                              intro w hp
                              have hp : Hp Z ρ (_ :: _ :: _ :: _ :: _ :: _ :: MapA b9 ((mput (um7 : List (Int × Sl)) x10.1 sl3) : List (Int × Sl)) :: L) w := hp
                              have hp := RowsX.put sl3e ((hp.get 1 rfl).get 1 rfl)
                              have hp : Hp Z ρ (RowsM 3 ((mput (um7 : List (Int × Sl)) x10.1 sl3) : List (Int × Sl)) ((mput (lp3_1 : List (Int × List Int)) x10.1 x11) : List (Int × List Int)) :: _ :: _ :: _ :: _ :: _ :: L) w := hp
                              refine s_nil (and_with ⟨fun _ => ⟨_, hp⟩, fun _ => ⟨_, (hp.get 4 rfl)⟩, trivial⟩ fun hS => ?_)
                              exact v_done (by kernel_rfl) ⟨_, _, hE.cut ⟨rfl, rfl, rfl, rfl, trivial⟩, hp⟩
                    ·
                      refine h_op rfl ?_
                      refine s_lit (wk0 rfl) rfl rfl hE hp rfl [(0, (.int .i64 lp3_0))] ⟨⟨rfl, rfl⟩, trivial⟩ [(.int .i64 lp3_0)] 3 (fun w => by simp [Instr.buildSlice, Instr.fill, Value.cells, go_sem]) ?_
                      intro a w b14 hE hp
                      have hp : Hp Z ρ (Pt b14 (.cells #[(.int .i64 lp3_0)] 3 (0, 0)) :: _ :: _ :: _ :: _ :: _ :: L) w := hp
                      refine s_nil (and_with ⟨fun _ => ⟨_, hp⟩, fun _ => ⟨_, (hp.get 3 rfl)⟩, trivial⟩ fun hS => ?_)
                      refine v_all [7] (by kernel_rfl) rfl ?_
                      refine List.forall_mem_cons.2 ⟨?_, fun _ h => absurd h (by simp)⟩
                      ·
                        refine h_op rfl ?_
                        refine s_callv (wk0 rfl) rfl rfl hE rfl rfl [(.int .i64 lp3_0)] ⟨rfl, trivial⟩ ent48 (c_similarity_Clusters_1 lp3_0 b1 x9.2 w1 b4 (((hp.get 3 rfl).get 3 rfl).get 3 rfl) x10 ex10) Ret.ret ?_
                        intro v a w hR hE
                        obtain ⟨rfl, hp⟩ := Ret.of hR
                        have hp : Hp Z ρ (_ :: OwnSl 3 w1 x10.2 :: _ :: _ :: _ :: _ :: L) w := hp
                        refine s_nil (and_with ⟨fun _ => ⟨_, hp⟩, fun _ => ⟨_, (hp.get 2 rfl)⟩, trivial⟩ fun hS => ?_)
                        refine v_all [8] (by kernel_rfl) rfl ?_
                        refine List.forall_mem_cons.2 ⟨?_, fun _ h => absurd h (by simp)⟩
                        ·
                          refine h_op rfl ?_
                          refine s_val (wk0 rfl) rfl rfl hE hp (v := (Sl.v ((mget (um7 : List (Int × Sl)) x10.1).getD Sl.nil))) (ex_mget0 (zd := Sl.nil) kt3 mapty85 zero23 rfl hE 5 (k := x10.1) rfl rfl rfl) ?_
                          intro a hE
                          obtain ⟨v8, v8e⟩ : ∃ v, (Sl.v ((mget (um7 : List (Int × Sl)) x10.1).getD Sl.nil)) = v := ⟨_, rfl⟩
                          have hE := hE.eqv (v' := v8) v8e
                          have hp := RowsM.takev v8e (hp.get 4 rfl)
                          have hp : Hp Z ρ (OwnSl 3 v8 ((mget (lp3_1 : List (Int × List Int)) x10.1).getD []) :: RowsX 3 (um7 : List (Int × Sl)) (lp3_1 : List (Int × List Int)) x10.1 :: _ :: _ :: _ :: _ :: _ :: L) w := hp
                          refine s_nil (and_with ⟨fun _ => ⟨_, hp⟩, fun _ => ⟨_, (hp.get 4 rfl)⟩, trivial⟩ fun hS => ?_)
                          refine v_all [11] (by kernel_rfl) rfl ?_
                          refine List.forall_mem_cons.2 ⟨?_, fun _ h => absurd h (by simp)⟩
                          ·
                            refine h_op rfl ?_
                            refine s_app (wk0 rfl) rfl rfl hE hp rfl slty23 rfl rfl 0 rfl rfl (l2 := [lp3_0]) rfl (fun j u hj => by have := Hp.cN 5 rfl 0 _ (sub_all rfl) w hp j u hj; simpa using this) ex11 ?_
                            intro v9 a w hE hp
                            have hp : Hp Z ρ (OwnSl 3 v9 x11 :: _ :: _ :: _ :: _ :: _ :: _ :: L) w := hp
                            refine s_nil (and_with ⟨fun _ => ⟨_, hp⟩, fun _ => ⟨_, (hp.get 4 rfl)⟩, trivial⟩ fun hS => ?_)
                            refine v_all [12] (by kernel_rfl) rfl ?_
                            refine List.forall_mem_cons.2 ⟨?_, fun _ h => absurd h (by simp)⟩
                            ·
                              refine h_op rfl ?_
                              obtain ⟨sl4, sl4e⟩ := OwnSl.toSl hp 0 rfl
                              refine s_mputT kt3 mapty85 (wk0 rfl) rfl hE hp rfl 6 (k := x10.1) sl4e (guardEq_some ex12) rfl rfl rfl rfl ?_
                              intro w hp
                              have hp : Hp Z ρ (_ :: _ :: _ :: _ :: _ :: _ :: MapA b9 ((mput (um7 : List (Int × Sl)) x10.1 sl4) : List (Int × Sl)) :: L) w := hp
                              have hp := RowsX.put sl4e ((hp.get 1 rfl).get 1 rfl)
                              have hp : Hp Z ρ (RowsM 3 ((mput (um7 : List (Int × Sl)) x10.1 sl4) : List (Int × Sl)) ((mput (lp3_1 : List (Int × List Int)) x10.1 x11) : List (Int × List Int)) :: _ :: _ :: _ :: _ :: _ :: L) w := hp
                              refine s_nil (and_with ⟨fun _ => ⟨_, hp⟩, fun _ => ⟨_, (hp.get 3 rfl)⟩, trivial⟩ fun hS => ?_)
                              exact v_done (by kernel_rfl) ⟨_, _, hE.cut ⟨rfl, rfl, rfl, rfl, trivial⟩, ((((((hp.get 5 rfl).get 4 rfl).get 4 rfl).get 4 rfl).get 5 rfl).get 5 rfl)⟩
                  ·
                    refine h_op rfl ?_
                    refine s_lit (wk0 rfl) rfl rfl hE hp rfl [(0, (.int .i64 lp3_0))] ⟨⟨rfl, rfl⟩, trivial⟩ [(.int .i64 lp3_0)] 3 (fun w => by simp [Instr.buildSlice, Instr.fill, Value.cells, go_sem]) ?_
                    intro a w b15 hE hp
                    have hp : Hp Z ρ (Pt b15 (.cells #[(.int .i64 lp3_0)] 3 (0, 0)) :: _ :: _ :: _ :: _ :: _ :: L) w := hp
                    refine s_nil (and_with ⟨fun _ => ⟨_, hp⟩, fun _ => ⟨_, (hp.get 3 rfl)⟩, trivial⟩ fun hS => ?_)
                    refine v_all [3] (by kernel_rfl) rfl ?_
                    refine List.forall_mem_cons.2 ⟨?_, fun _ h => absurd h (by simp)⟩
                    ·
                      refine h_op rfl ?_
                      refine s_callv (wk0 rfl) rfl rfl hE rfl rfl [(.int .i64 lp3_0)] ⟨rfl, trivial⟩ ent48 (c_similarity_Clusters_1 lp3_0 b1 lp3_2 w1 b4 (((hp.get 3 rfl).get 5 rfl).get 5 rfl) x9 ex9) Ret.ret ?_
                      intro v a w hR hE
                      obtain ⟨rfl, hp⟩ := Ret.of hR
                      have hp : Hp Z ρ (_ :: OwnSl 3 w1 x9.2 :: _ :: _ :: _ :: _ :: L) w := hp
                      refine s_nil (and_with ⟨fun _ => ⟨_, hp⟩, fun _ => ⟨_, (hp.get 2 rfl)⟩, trivial⟩ fun hS => ?_)
                      refine v_all [7] (by kernel_rfl) rfl ?_
                      refine List.forall_mem_cons.2 ⟨?_, fun _ h => absurd h (by simp)⟩
                      ·
                        refine h_op rfl ?_
                        refine s_callv (wk0 rfl) rfl rfl hE rfl rfl [(.int .i64 lp3_0)] ⟨rfl, trivial⟩ ent48 (c_similarity_Clusters_1 lp3_0 b1 x9.2 w1 b4 (((hp.get 2 rfl).get 2 rfl).get 2 rfl) x10 ex10) Ret.ret ?_
                        intro v a w hR hE
                        obtain ⟨rfl, hp⟩ := Ret.of hR
                        have hp : Hp Z ρ (_ :: OwnSl 3 w1 x10.2 :: _ :: _ :: _ :: _ :: L) w := hp
                        refine s_nil (and_with ⟨fun _ => ⟨_, hp⟩, fun _ => ⟨_, (hp.get 2 rfl)⟩, trivial⟩ fun hS => ?_)
                        refine v_all [8] (by kernel_rfl) rfl ?_
                        refine List.forall_mem_cons.2 ⟨?_, fun _ h => absurd h (by simp)⟩
                        ·
                          refine h_op rfl ?_
                          refine s_val (wk0 rfl) rfl rfl hE hp (v := (Sl.v ((mget (um7 : List (Int × Sl)) x10.1).getD Sl.nil))) (ex_mget0 (zd := Sl.nil) kt3 mapty85 zero23 rfl hE 5 (k := x10.1) rfl rfl rfl) ?_
                          intro a hE
                          obtain ⟨v10, v10e⟩ : ∃ v, (Sl.v ((mget (um7 : List (Int × Sl)) x10.1).getD Sl.nil)) = v := ⟨_, rfl⟩
                          have hE := hE.eqv (v' := v10) v10e
                          have hp := RowsM.takev v10e (hp.get 4 rfl)
                          have hp : Hp Z ρ (OwnSl 3 v10 ((mget (lp3_1 : List (Int × List Int)) x10.1).getD []) :: RowsX 3 (um7 : List (Int × Sl)) (lp3_1 : List (Int × List Int)) x10.1 :: _ :: _ :: _ :: _ :: _ :: L) w := hp
                          refine s_nil (and_with ⟨fun _ => ⟨_, hp⟩, fun _ => ⟨_, (hp.get 4 rfl)⟩, trivial⟩ fun hS => ?_)
                          refine v_all [11] (by kernel_rfl) rfl ?_
                          refine List.forall_mem_cons.2 ⟨?_, fun _ h => absurd h (by simp)⟩
                          ·
                            refine h_op rfl ?_
                            refine s_app (wk0 rfl) rfl rfl hE hp rfl slty23 rfl rfl 0 rfl rfl (l2 := [lp3_0]) rfl (fun j u hj => by have := Hp.cN 5 rfl 0 _ (sub_all rfl) w hp j u hj; simpa using this) ex11 ?_
                            intro v11 a w hE hp
                            have hp : Hp Z ρ (OwnSl 3 v11 x11 :: _ :: _ :: _ :: _ :: _ :: _ :: L) w := hp
                            refine s_nil (and_with ⟨fun _ => ⟨_, hp⟩, fun _ => ⟨_, (hp.get 4 rfl)⟩, trivial⟩ fun hS => ?_)
                            refine v_all [12] (by kernel_rfl) rfl ?_
                            refine List.forall_mem_cons.2 ⟨?_, fun _ h => absurd h (by simp)⟩
                            ·
                              refine h_op rfl ?_
                              obtain ⟨sl5, sl5e⟩ := OwnSl.toSl hp 0 rfl
                              refine s_mputT kt3 mapty85 (wk0 rfl) rfl hE hp rfl 6 (k := x10.1) sl5e (guardEq_some ex12) rfl rfl rfl rfl ?_
                              intro w hp
                              have hp : Hp Z ρ (_ :: _ :: _ :: _ :: _ :: _ :: MapA b9 ((mput (um7 : List (Int × Sl)) x10.1 sl5) : List (Int × Sl)) :: L) w := hp
                              have hp := RowsX.put sl5e ((hp.get 1 rfl).get 1 rfl)
                              have hp : Hp Z ρ (RowsM 3 ((mput (um7 : List (Int × Sl)) x10.1 sl5) : List (Int × Sl)) ((mput (lp3_1 : List (Int × List Int)) x10.1 x11) : List (Int × List Int)) :: _ :: _ :: _ :: _ :: _ :: L) w := hp
                              refine s_nil (and_with ⟨fun _ => ⟨_, hp⟩, fun _ => ⟨_, (hp.get 3 rfl)⟩, trivial⟩ fun hS => ?_)
                              exact v_done (by kernel_rfl) ⟨_, _, hE.cut ⟨rfl, rfl, rfl, rfl, trivial⟩, ((((((hp.get 5 rfl).get 4 rfl).get 4 rfl).get 4 rfl).get 5 rfl).get 5 rfl)⟩
                · rintro a w ⟨y11, yum7, hE, hp⟩
                  refine k_region ?_
                  obtain ⟨x13, ex13, hl3⟩ := bnd hl3
                  refine s_val (wk0 rfl) rfl rfl hE hp (v := (.int .i64 x13)) (ex_add rfl hE rfl rfl (inK_some ex13)) ?_
                  intro a hE
                  refine s_val (wk0 rfl) rfl rfl hE hp (v := (.int .i64 x13)) (ex_move rfl hE rfl) ?_
                  intro a hE
                  refine s_nil ?_
                  exact ⟨_, (Option.some.inj hl3).symm, _, _, hE.cut ⟨rfl, rfl, rfl, rfl, trivial⟩, (((((((hp.get 3 rfl).get 3 rfl).get 4 rfl).get 5 rfl).get 4 rfl).get 5 rfl).drop)⟩
              · replace hl3 := (ie hb12).symm.trans hl3
                refine k_exit ?_
                refine ⟨_, (Option.some.inj hl3).symm, fun hbb => ?_⟩
                subst hbb
                exact ⟨_, _, hE.cut ⟨rfl, trivial⟩, hp⟩
          · rintro a w ⟨um7, w1, hE, hp⟩
            refine k_seq ?_
            refine k_region ?_
            refine s_val (wk0 rfl) rfl rfl hE hp (v := (.slice none 0 0)) (ex_asn rfl hE rfl) ?_
            intro a hE
            refine s_nil ?_
            refine k_seq ?_
            refine k_seq ?_
            refine k_region ?_
            refine s_val (wk0 rfl) rfl rfl hE hp (v := (.map (some b9))) (ex_move rfl hE rfl) ?_
            intro a hE
            obtain ⟨k1, k1a, k1d, hp⟩ := (hp.get 0 rfl).lend
            have f1 : RowsRo (ρ.un k1) um7 (b10.1 : List (Int × List Int)) := RowsM.ro k1d k1a
            have hp : Hp Z (ρ.un k1) (MapA b9 (um7 : List (Int × Sl)) :: _ :: _ :: OwnSl 3 w1 b10.2 :: L) w := hp
            refine s_call (wk0 rfl) rfl rfl hE rfl [(.map (some b9))] ⟨rfl, trivial⟩ ent49 (c_keys_is b9 hp) Ret.ret ?_
            intro v a w hR hE
            obtain ⟨b16, rfl, hp⟩ := Ret.of hR
            have hp : Hp Z (ρ.un k1) (Pt b16 (.cells #[(.map (some b9))] 85 (0, 0)) :: _ :: _ :: _ :: _ :: L) w := hp
            obtain ⟨x14, ex14, hm⟩ := bnd hm
            refine s_call (wk0 rfl) rfl rfl hE rfl [(.func (.func 67) #[] #[.pointer (some ⟨b16, 0, none⟩)])] ⟨rfl, trivial⟩ ent32 (c_sorted_is um7 ((hp.get 1 rfl).get 1 rfl) x14 ((m_sortedKeys_congr f1.1).trans ex14)) Ret.ret ?_
            intro v12 a w hR hE
            obtain ⟨u, hu, hp⟩ := Ret.of hR
            rw [← hu] at hp
            have hp : Hp Z (ρ.un k1) (OwnSl 3 v12 x14 :: _ :: _ :: _ :: _ :: _ :: L) w := hp
            refine s_val (wk0 rfl) rfl rfl hE hp (v := (.int .i64 (x14.length : Int))) (ex_len rfl hE rfl (OwnSl.len hp 0 rfl slty23)) ?_
            intro a hE
            refine s_val (wk0 rfl) rfl rfl hE hp (v := (.int .i64 0)) (ex_move rfl hE rfl) ?_
            intro a hE
            refine s_nil ?_
            have hp := hp.emp (RowR.nil (α := (List Int)) 23)
            have hR1 : RepAll (ρ.un k1) ([] : List (List Int)) [] := RepAll.nil
            have hp : Hp Z (ρ.un k1) (RowR 23 (.slice none 0 0) ([] : (List (List Int))) ([]) :: _ :: _ :: _ :: _ :: _ :: _ :: L) w := hp
            obtain ⟨b17, hb13, hm⟩ := bnd hm
            refine k_block (fun a w => ∃ (w16 : Value) (xs16 : List Value), RepAll (ρ.un k1) (b17 : (List (List Int))) xs16 ∧ Env 119 [(15, w16)] a ∧ Hp Z (ρ.un k1) (RowR 23 w16 (b17 : (List (List Int))) xs16 :: OwnSl 3 v12 x14 :: Pt b16 (.cells #[(.map (some b9))] 85 (0, 0)) :: MapA b9 (um7 : List (Int × Sl)) :: Pt b4 (.cells #[(.func (.func 48) #[] #[(.pointer (some ⟨b1, 0, none⟩)), (.pointer (some ⟨b4, 0, none⟩))])] 84 (0, 0)) :: Pt b1 (.cells #[w1] 23 (0, 0)) :: OwnSl 3 w1 b10.2 :: L) w) ?_ ?_
            · refine k_loop hb13 (fun s a w => ∃ (w16 : Value) (xs16 : List Value), RepAll (ρ.un k1) (s.2 : (List (List Int))) xs16 ∧ Env 119 [(13, (.map (some b9))), (15, w16), (100, v12), (101, (.int .i64 (x14.length : Int))), (102, (.int .i64 s.1))] a ∧ Hp Z (ρ.un k1) (RowR 23 w16 (s.2 : (List (List Int))) xs16 :: OwnSl 3 v12 x14 :: Pt b16 (.cells #[(.map (some b9))] 85 (0, 0)) :: MapA b9 (um7 : List (Int × Sl)) :: Pt b4 (.cells #[(.func (.func 48) #[] #[(.pointer (some ⟨b1, 0, none⟩)), (.pointer (some ⟨b4, 0, none⟩))])] 84 (0, 0)) :: Pt b1 (.cells #[w1] 23 (0, 0)) :: OwnSl 3 w1 b10.2 :: L) w) ?_ ?_
              · exact ⟨_, _, hR1, hE.cut ⟨rfl, rfl, rfl, rfl, rfl, trivial⟩, hp⟩
              · rintro ⟨lp4_0, lp4_1⟩ st a w ⟨w16, xs16, hR16w, hE, hp⟩ hl4
                have hE : Env 119 [(13, (.map (some b9))), (15, w16), (100, v12), (101, (.int .i64 (x14.length : Int))), (102, (.int .i64 lp4_0))] a := hE
                have hp : Hp Z (ρ.un k1) (RowR 23 w16 (lp4_1 : (List (List Int))) xs16 :: _ :: _ :: _ :: _ :: _ :: _ :: L) w := hp
                have hR16w : RepAll (ρ.un k1) (lp4_1 : (List (List Int))) xs16 := hR16w
                replace hl4 : m_similarity_Clusters_lp4 b10 x14 lp4_0 lp4_1 = some st := hl4
                unfold m_similarity_Clusters_lp4 at hl4
                refine k_seq ?_
                refine k_region ?_
                refine s_val (wk0 rfl) rfl rfl hE hp (v := (.bool (decide (lp4_0 < (x14.length : Int))))) (ex_lss rfl hE rfl rfl) ?_
                intro a hE
                refine s_nil ?_
                refine k_seq ?_
                refine k_if hE rfl (fun hb14 => ?_) (fun hb14 => ?_)
                · replace hl4 := (it hb14).symm.trans hl4
                  refine k_skip ?_
                  refine k_seq ?_
                  refine k_plain ?_
                  refine k_seq ?_
                  refine k_region ?_
                  obtain ⟨x15, ex15, hl4⟩ := bnd hl4
                  obtain ⟨b18, b18o, b18r, b18v, b18f⟩ := OwnSl.at hp 1 rfl slty23 ex15
                  have b18f : ∀ (j : Nat) (u : Value), ([(.int .i64 x15)] : List Value)[j]? = some u → ∀ ρ' L' w, Hp Z ρ' (OwnSl 3 v12 x14 :: L') w → w.cell? ⟨b18, b18o + j, none⟩ = some u := b18f
                  refine s_val (wk0 rfl) rfl rfl hE hp (v := (.pointer (some ⟨b18, b18o, none⟩))) (ex_index rfl hE rfl rfl b18r) ?_
                  intro a hE
                  refine s_val (wk0 rfl) rfl rfl hE hp (v := (.int .i64 x15)) (ex_load rfl hE rfl (fun w hw => run_ld1 varty3 (b18f 0 _ rfl _ _ w (hw.get 1 rfl)))) ?_
                  intro a hE
                  refine s_val (wk0 rfl) rfl rfl hE hp (v := (.int .i64 x15)) (ex_asn rfl hE rfl) ?_
                  intro a hE
                  refine s_nil ?_
                  refine k_seq ?_
                  refine k_region ?_
                  refine s_val (wk0 rfl) rfl rfl hE hp (v := (.map (some b9))) (ex_move rfl hE rfl) ?_
                  intro a hE
                  refine s_val (wk0 rfl) rfl rfl hE hp (v := (.int .i64 x15)) (ex_move rfl hE rfl) ?_
                  intro a hE
                  refine s_val (wk0 rfl) rfl rfl hE hp (v := (Sl.v ((mget (um7 : List (Int × Sl)) x15).getD Sl.nil))) (ex_mget0 (zd := Sl.nil) kt3 mapty85 zero23 rfl hE 3 (k := x15) rfl rfl rfl) ?_
                  intro a hE
                  obtain ⟨v13, v13e, f2⟩ := RowsRo.get f1 x15
                  have hE := hE.eqv (v' := v13) v13e
                  refine s_val (wk0 rfl) rfl rfl hE hp (v := (.int .i64 (((mget (b10.1 : List (Int × (List Int))) x15).getD []).length : Int))) (ex_len rfl hE rfl (RoSl.len f2 slty23)) ?_
                  intro a hE
                  refine s_val (wk0 rfl) rfl rfl hE hp (v := (.bool (decide (1 < (((mget (b10.1 : List (Int × (List Int))) x15).getD []).length : Int))))) (ex_gtr rfl hE rfl rfl) ?_
                  intro a hE
                  refine s_nil ?_
                  refine k_if hE rfl (fun hb15 => ?_) (fun hb15 => ?_)
                  · replace hl4 := (it hb15).symm.trans hl4
                    refine k_region ?_
                    refine s_val (wk0 rfl) rfl rfl hE hp (v := w16) (ex_move rfl hE rfl) ?_
                    intro a hE
                    refine s_val (wk0 rfl) rfl rfl hE hp (v := (.map (some b9))) (ex_move rfl hE rfl) ?_
                    intro a hE
                    refine s_val (wk0 rfl) rfl rfl hE hp (v := (.int .i64 x15)) (ex_move rfl hE rfl) ?_
                    intro a hE
                    refine s_val (wk0 rfl) rfl rfl hE hp (v := (Sl.v ((mget (um7 : List (Int × Sl)) x15).getD Sl.nil))) (ex_mget0 (zd := Sl.nil) kt3 mapty85 zero23 rfl hE 3 (k := x15) rfl rfl rfl) ?_
                    intro a hE
                    obtain ⟨v14, v14e, f3⟩ := RowsRo.get f1 x15
                    have hE := hE.eqv (v' := v14) v14e
                    refine s_lit (wk0 rfl) rfl rfl hE hp rfl [(0, v14)] ⟨⟨rfl, rfl⟩, trivial⟩ [v14] 23 (fun w => by have hc0 := RoSl.cells f3; simp only [Value.cells] at hc0; simp [Instr.buildSlice, Instr.fill, Value.cells, hc0, go_sem]) ?_
                    intro a w b19 hE hp
                    have hp : Hp Z (ρ.un k1) (Pt b19 (.cells #[v14] 23 (0, 0)) :: _ :: _ :: _ :: _ :: _ :: _ :: _ :: L) w := hp
                    obtain ⟨x16, ex16, hl4⟩ := bnd hl4
                    have hR3 : RepAll (ρ.un k1) ([((mget (b10.1 : List (Int × (List Int))) x15).getD [])] : List (List Int)) [v14] := ⟨_, _, rfl, ⟨_, rfl, (f3)⟩, rfl⟩
                    have hR2 : RepAll (ρ.un k1) x16 (xs16 ++ [v14]) := (app_some ex16).2 ▸ RepAll.app hR16w hR3
                    refine s_appR (wk0 rfl) rfl rfl hE hp rfl slty45 rfl rfl 1 rfl rfl (l2 := [((mget (b10.1 : List (Int × (List Int))) x15).getD [])]) (ys := [v14]) rfl hR3 (fun j u hj => by have := Hp.cN 0 rfl 0 _ (sub_all rfl) w hp j u hj; simpa using this) ex16 ?_
                    intro v15 a w hE hp
                    have hp : Hp Z (ρ.un k1) (_ :: RowR 23 v15 (x16 : (List (List Int))) (xs16 ++ [v14]) :: _ :: _ :: _ :: _ :: _ :: _ :: L) w := hp
                    refine s_val (wk0 rfl) rfl rfl hE hp (v := v15) (ex_asn rfl hE rfl) ?_
                    intro a hE
                    refine s_nil ?_
                    have hE := hE.cut (E' := [(13, (.map (some b9))), (15, v15), (100, v12), (101, (.int .i64 (x14.length : Int))), (102, (.int .i64 lp4_0))]) ⟨rfl, rfl, rfl, rfl, rfl, trivial⟩
                    refine k_region ?_
                    obtain ⟨x17, ex17, hl4⟩ := bnd hl4
                    refine s_val (wk0 rfl) rfl rfl hE hp (v := (.int .i64 x17)) (ex_add rfl hE rfl rfl (inK_some ex17)) ?_
                    intro a hE
                    refine s_val (wk0 rfl) rfl rfl hE hp (v := (.int .i64 x17)) (ex_move rfl hE rfl) ?_
                    intro a hE
                    refine s_nil ?_
                    exact ⟨_, (Option.some.inj hl4).symm, _, _, hR2, hE.cut ⟨rfl, rfl, rfl, rfl, rfl, trivial⟩, (hp.drop)⟩
                  · replace hl4 := (ie hb15).symm.trans hl4
                    refine k_skip ?_
                    refine k_region ?_
                    obtain ⟨x18, ex18, hl4⟩ := bnd hl4
                    refine s_val (wk0 rfl) rfl rfl hE hp (v := (.int .i64 x18)) (ex_add rfl hE rfl rfl (inK_some ex18)) ?_
                    intro a hE
                    refine s_val (wk0 rfl) rfl rfl hE hp (v := (.int .i64 x18)) (ex_move rfl hE rfl) ?_
                    intro a hE
                    refine s_nil ?_
                    exact ⟨_, (Option.some.inj hl4).symm, _, _, hR16w, hE.cut ⟨rfl, rfl, rfl, rfl, rfl, trivial⟩, hp⟩
                · replace hl4 := (ie hb14).symm.trans hl4
                  refine k_exit ?_
                  refine ⟨_, (Option.some.inj hl4).symm, fun hbb => ?_⟩
                  subst hbb
                  exact ⟨_, _, hR16w, hE.cut ⟨rfl, trivial⟩, hp⟩
            · rintro a w ⟨w16, xs16, hR16w, hE, hp⟩
              refine k_seq ?_
              refine k_region ?_
              refine s_val (wk0 rfl) rfl rfl hE hp (v := w16) (ex_move rfl hE rfl) ?_
              intro a hE
              refine s_val (wk0 rfl) rfl rfl hE hp (v := w16) (ex_asn rfl hE rfl) ?_
              intro a hE
              refine s_val (wk0 rfl) rfl rfl hE hp (v := (.int .i64 0)) (ex_asn rfl hE rfl) ?_
              intro a hE
              refine s_nil ?_
              refine k_ret ?_
              obtain ⟨k2, k2a, k2d, hp⟩ := (hp.get 0 rfl).lend
              have f4 : RoSl ((ρ.un k1).un k2) w16 b17 := RowR.ro k2d k2a hR16w
              have hp : Hp Z ((ρ.un k1).un k2) (_ :: _ :: _ :: _ :: _ :: _ :: L) w := hp
              obtain rfl := Option.some.inj hm
              exact ret2 hE rfl rfl rfl ⟨_, rfl, _, _, (PH.le.tr (PH.le_un _ k1) (PH.le_un _ k2)), rfl, f4, (((((((((((hp.get 5 rfl).drop).get 4 rfl).drop).get 3 rfl).drop).get 2 rfl).drop).get 1 rfl).drop).drop)⟩
/- assessor/similarity.diagonals -/
set_option maxRecDepth 100000 in
set_option maxHeartbeats 4000000 in
theorem c_similarity_diagonals {Z : World} {ρ : PH} {L : List Atom} {w : World} (p0 : (List Mark)) (vp0 : Value) (hp0 : RoSl ρ vp0 p0) (p1 : (List Mark)) (vp1 : Value) (hp1 : RoSl ρ vp1 p1) (hp : Hp Z ρ (L) w) (r : (List (Int × (List Int)))) (hm : m_similarity_diagonals p0 p1 = some r) :
    Calls Try.prog 52 #[vp0, vp1] w (Ret fun v w' => ∃ (br1 : Nat) (umr1 : List (Int × Sl)), v = (.map (some br1)) ∧ Hp Z ρ (MapA br1 (umr1 : List (Int × Sl)) :: RowsM 3 (umr1 : List (Int × Sl)) (r : List (Int × List Int)) :: L) w') := by
  refine enter (N := 77) Try.func52 rfl rfl [(0, vp0), (1, vp1)] rfl (argsIn_mem ⟨rfl, rfl, trivial⟩) fun a hE => ?_
  unfold m_similarity_diagonals at hm
  refine k_seq ?_
  refine k_region ?_
  refine s_val (wk0 rfl) rfl rfl hE hp (v := (.map none)) (ex_asn rfl hE rfl) ?_
  intro a hE
  refine s_nil ?_
  refine k_seq ?_
  refine k_region ?_
  refine s_mkmap (κ := Int) (β := Sl) (wk0 rfl) rfl rfl hE hp rfl ?_
  intro a w b1 hE hp
  have hp : Hp Z ρ (MapA b1 ([] : List (Int × Sl)) :: L) w := hp
  have hp := hp.emp (RowsM.nil (κ := Int) (α := Int) 3)
  have hp : Hp Z ρ (RowsM 3 ([] : List (Int × Sl)) ([] : List (Int × List Int)) :: _ :: L) w := hp
  refine s_val (wk0 rfl) rfl rfl hE hp (v := (.map (some b1))) (ex_asn rfl hE rfl) ?_
  intro a hE
  refine s_nil ?_
  refine k_seq ?_
  refine k_seq ?_
  refine k_region ?_
  refine s_val (wk0 rfl) rfl rfl hE hp (v := vp1) (ex_move rfl hE rfl) ?_
  intro a hE
  refine s_val (wk0 rfl) rfl rfl hE hp (v := (.int .i64 (p1.length : Int))) (ex_len rfl hE rfl (RoSl.len hp1 slty26)) ?_
  intro a hE
  refine s_val (wk0 rfl) rfl rfl hE hp (v := (.int .i64 0)) (ex_move rfl hE rfl) ?_
  intro a hE
  refine s_nil ?_
  obtain ⟨b2, hb1, hm⟩ := bnd hm
  refine k_block (fun a w => ∃ (um4 : List (Int × Sl)), Env 77 [(0, vp0), (5, (.map (some b1)))] a ∧ Hp Z ρ (RowsM 3 (um4 : List (Int × Sl)) (b2 : List (Int × List Int)) :: MapA b1 (um4 : List (Int × Sl)) :: L) w) ?_ ?_
  · refine k_loop hb1 (fun s a w => ∃ (um4 : List (Int × Sl)), Env 77 [(0, vp0), (5, (.map (some b1))), (15, vp1), (16, (.int .i64 (p1.length : Int))), (17, (.int .i64 s.1))] a ∧ Hp Z ρ (RowsM 3 (um4 : List (Int × Sl)) (s.2 : List (Int × List Int)) :: MapA b1 (um4 : List (Int × Sl)) :: L) w) ?_ ?_
    · exact ⟨_, hE.cut ⟨rfl, rfl, rfl, rfl, rfl, trivial⟩, hp⟩
    · rintro ⟨lp1_0, lp1_1⟩ st a w ⟨um4, hE, hp⟩ hl1
      have hE : Env 77 [(0, vp0), (5, (.map (some b1))), (15, vp1), (16, (.int .i64 (p1.length : Int))), (17, (.int .i64 lp1_0))] a := hE
      have hp : Hp Z ρ (RowsM 3 (um4 : List (Int × Sl)) (lp1_1 : List (Int × List Int)) :: MapA b1 (um4 : List (Int × Sl)) :: L) w := hp
      replace hl1 : m_similarity_diagonals_lp1 p1 lp1_0 lp1_1 = some st := hl1
      unfold m_similarity_diagonals_lp1 at hl1
      refine k_seq ?_
      refine k_region ?_
      refine s_val (wk0 rfl) rfl rfl hE hp (v := (.bool (decide (lp1_0 < (p1.length : Int))))) (ex_lss rfl hE rfl rfl) ?_
      intro a hE
      refine s_nil ?_
      refine k_seq ?_
      refine k_if hE rfl (fun hb2 => ?_) (fun hb2 => ?_)
      · replace hl1 := (it hb2).symm.trans hl1
        refine k_skip ?_
        refine k_seq ?_
        refine k_plain ?_
        refine k_seq ?_
        refine k_region ?_
        obtain ⟨x1, ex1, hl1⟩ := bnd hl1
        obtain ⟨b3, b3o, b3c, b3r, b3k, b3f⟩ := RoSl.at hp1 slty26 ex1
        obtain rfl : b3c = Enc.enc x1 := b3k
        have b3f : AtP ρ b3 b3o [(.int .i64 x1.hash), (.int .i64 x1.at_)] := b3f
        refine s_val (wk0 rfl) rfl rfl hE hp (v := (.pointer (some ⟨b3, b3o, none⟩))) (ex_index rfl hE rfl rfl b3r) ?_
        intro a hE
        refine s_val (wk0 rfl) rfl rfl hE hp (v := (.agg #[(.int .i64 x1.hash), (.int .i64 x1.at_)])) (ex_load rfl hE rfl (fun w hw => run_ldN (cs := [(.int .i64 x1.hash), (.int .i64 x1.at_)]) varty65 (fun j u hj => cell_of hw.le (b3f j u hj)))) ?_
        intro a hE
        refine s_new (wk0 rfl) rfl rfl hE hp rfl [(.int .i64 0), (.int .i64 0)] (fun w => by simp [Instr.alloc, go_sem] <;> rfl) ?_
        intro a w b4 hE hp
        have hp : Hp Z ρ (Pt b4 (.cells #[(.int .i64 0), (.int .i64 0)] 65 (0, 0)) :: _ :: _ :: L) w := hp
        refine s_store (wk0 rfl) rfl hE hp rfl rfl rfl 0 rfl varty65.size_ rfl (allOne_mem ⟨rfl, rfl, trivial⟩) [(.int .i64 x1.hash), (.int .i64 x1.at_)] rfl ?_
        intro w hp
        have hp : Hp Z ρ (Pt b4 (.cells #[(.int .i64 x1.hash), (.int .i64 x1.at_)] 65 (0, 0)) :: _ :: _ :: L) w := hp
        refine s_nil ?_
        obtain ⟨x2, ex2, hl1⟩ := bnd hl1
        have hp := hp.drew
        refine k_heldV ([([], At0 Z ρ), ([], At1 Z ρ (Pt b4 (.cells #[(.int .i64 x1.hash), (.int .i64 x1.at_)] 65 (0, 0))))] : Facts) (fun a w => ∃ y10 : Nat, ∃ yum4 : List (Int × Sl), Env 77 [(0, vp0), (5, (.map (some b1))), (15, vp1), (16, (.int .i64 (p1.length : Int))), (17, (.int .i64 lp1_0))] a ∧ Hp Z ρ (RowsM 3 (yum4 : List (Int × Sl)) ((mput (lp1_1 : List (Int × List Int)) x1.hash x2) : List (Int × List Int)) :: Pt y10 (.cells #[(.int .i64 x1.at_)] 3 (0, 0)) :: Pt b4 (.cells #[(.int .i64 x1.hash), (.int .i64 x1.at_)] 65 (0, 0)) :: MapA b1 (yum4 : List (Int × Sl)) :: L) w) (by kernel_rfl) ⟨fun _ => ⟨_, hp⟩, fun _ => ⟨_, (hp.get 0 rfl)⟩, trivial⟩ (fun hS => ?_) ?_
        ·
          generalize w.drew = w at hS hp ⊢
          refine v_take0 0 (wk0 rfl) rfl rfl rfl hE (by kernel_rfl) (by kernel_rfl) (by kernel_rfl) rfl (by kernel_rfl) hS (v := (.map (some b1))) (fun _ => ex_move rfl hE rfl) ?_
          intro a hE hS
          refine v_take0 1 (wk0 rfl) rfl rfl rfl hE (by kernel_rfl) (by kernel_rfl) (by kernel_rfl) rfl (by kernel_rfl) hS (v := (.pointer (some ⟨b4, 0, none⟩))) (fun _ => ex_field rfl hE rfl (fldty65_0 _ _)) ?_
          intro a hE hS
          refine v_take1 2 1 (wk0 rfl) rfl rfl rfl hE (by kernel_rfl) (by kernel_rfl) (by kernel_rfl) rfl (by kernel_rfl) hS (v := (.int .i64 x1.hash)) (fun _ => ex_load rfl hE rfl (fun w hw => run_ld1 varty3 (Hp.c 0 rfl 0 rfl w hw))) ?_
          intro a hE hS
          refine v_take0 3 (wk0 rfl) rfl rfl rfl hE (by kernel_rfl) (by kernel_rfl) (by kernel_rfl) rfl (by kernel_rfl) hS (v := (.map (some b1))) (fun _ => ex_move rfl hE rfl) ?_
          intro a hE hS
          refine v_take0 4 (wk0 rfl) rfl rfl rfl hE (by kernel_rfl) (by kernel_rfl) (by kernel_rfl) rfl (by kernel_rfl) hS (v := (.pointer (some ⟨b4, 0, none⟩))) (fun _ => ex_field rfl hE rfl (fldty65_0 _ _)) ?_
          intro a hE hS
          refine v_take1 5 1 (wk0 rfl) rfl rfl rfl hE (by kernel_rfl) (by kernel_rfl) (by kernel_rfl) rfl (by kernel_rfl) hS (v := (.int .i64 x1.hash)) (fun _ => ex_load rfl hE rfl (fun w hw => run_ld1 varty3 (Hp.c 0 rfl 0 rfl w hw))) ?_
          intro a hE hS
          refine v_take0 7 (wk0 rfl) rfl rfl rfl hE (by kernel_rfl) (by kernel_rfl) (by kernel_rfl) rfl (by kernel_rfl) hS (v := (.pointer (some ⟨b4, 1, none⟩))) (fun _ => ex_field rfl hE rfl (fldty65_1 _ _)) ?_
          intro a hE hS
          refine v_take1 8 1 (wk0 rfl) rfl rfl rfl hE (by kernel_rfl) (by kernel_rfl) (by kernel_rfl) rfl (by kernel_rfl) hS (v := (.int .i64 x1.at_)) (fun _ => ex_load rfl hE rfl (fun w hw => run_ld1 varty3 (Hp.c 0 rfl 1 rfl w hw))) ?_
          intro a hE hS
          refine v_all [6, 9] (by kernel_rfl) rfl ?_
          refine List.forall_mem_cons.2 ⟨?_, List.forall_mem_cons.2 ⟨?_, fun _ h => absurd h (by simp)⟩⟩
          ·
            refine h_op rfl ?_
            refine s_val (wk0 rfl) rfl rfl hE hp (v := (Sl.v ((mget (um4 : List (Int × Sl)) x1.hash).getD Sl.nil))) (ex_mget0 (zd := Sl.nil) kt3 mapty85 zero23 rfl hE 2 (k := x1.hash) rfl rfl rfl) ?_
            intro a hE
            obtain ⟨v3, v3e⟩ : ∃ v, (Sl.v ((mget (um4 : List (Int × Sl)) x1.hash).getD Sl.nil)) = v := ⟨_, rfl⟩
            have hE := hE.eqv (v' := v3) v3e
            have hp := RowsM.takev v3e (hp.get 1 rfl)
            have hp : Hp Z ρ (OwnSl 3 v3 ((mget (lp1_1 : List (Int × List Int)) x1.hash).getD []) :: RowsX 3 (um4 : List (Int × Sl)) (lp1_1 : List (Int × List Int)) x1.hash :: _ :: _ :: L) w := hp
            refine s_nil (and_with ⟨fun _ => ⟨_, hp⟩, fun _ => ⟨_, (hp.get 2 rfl)⟩, trivial⟩ fun hS => ?_)
            refine v_all [9] (by kernel_rfl) rfl ?_
            refine List.forall_mem_cons.2 ⟨?_, fun _ h => absurd h (by simp)⟩
            ·
              refine h_op rfl ?_
              refine s_lit (wk0 rfl) rfl rfl hE hp rfl [(0, (.int .i64 x1.at_))] ⟨⟨rfl, rfl⟩, trivial⟩ [(.int .i64 x1.at_)] 3 (fun w => by simp [Instr.buildSlice, Instr.fill, Value.cells, go_sem]) ?_
              intro a w b6 hE hp
              have hp : Hp Z ρ (Pt b6 (.cells #[(.int .i64 x1.at_)] 3 (0, 0)) :: _ :: _ :: _ :: _ :: L) w := hp
              refine s_nil (and_with ⟨fun _ => ⟨_, hp⟩, fun _ => ⟨_, (hp.get 3 rfl)⟩, trivial⟩ fun hS => ?_)
              refine v_all [10] (by kernel_rfl) rfl ?_
              refine List.forall_mem_cons.2 ⟨?_, fun _ h => absurd h (by simp)⟩
              ·
                refine h_op rfl ?_
                refine s_app (wk0 rfl) rfl rfl hE hp rfl slty23 rfl rfl 1 rfl rfl (l2 := [x1.at_]) rfl (fun j u hj => by have := Hp.cN 0 rfl 0 _ (sub_all rfl) w hp j u hj; simpa using this) ex2 ?_
                intro v4 a w hE hp
                have hp : Hp Z ρ (_ :: OwnSl 3 v4 x2 :: _ :: _ :: _ :: L) w := hp
                refine s_nil (and_with ⟨fun _ => ⟨_, hp⟩, fun _ => ⟨_, (hp.get 3 rfl)⟩, trivial⟩ fun hS => ?_)
                refine v_all [11] (by kernel_rfl) rfl ?_
                refine List.forall_mem_cons.2 ⟨?_, fun _ h => absurd h (by simp)⟩
                ·
                  refine h_op rfl ?_
                  obtain ⟨sl2, sl2e⟩ := OwnSl.toSl hp 1 rfl
                  refine s_mputT kt3 mapty85 (wk0 rfl) rfl hE hp rfl 4 (k := x1.hash) sl2e rfl rfl rfl rfl rfl ?_
                  intro w hp
                  have hp : Hp Z ρ (_ :: _ :: _ :: _ :: MapA b1 ((mput (um4 : List (Int × Sl)) x1.hash sl2) : List (Int × Sl)) :: L) w := hp
                  have hp := RowsX.put sl2e ((hp.get 2 rfl).get 2 rfl)
                  have hp : Hp Z ρ (RowsM 3 ((mput (um4 : List (Int × Sl)) x1.hash sl2) : List (Int × Sl)) ((mput (lp1_1 : List (Int × List Int)) x1.hash x2) : List (Int × List Int)) :: _ :: _ :: _ :: L) w := hp
                  refine s_nil (and_with ⟨fun _ => ⟨_, hp⟩, fun _ => ⟨_, (hp.get 2 rfl)⟩, trivial⟩ fun hS => ?_)
                  exact v_done (by kernel_rfl) ⟨_, _, hE.cut ⟨rfl, rfl, rfl, rfl, rfl, trivial⟩, hp⟩
          ·
            refine h_op rfl ?_
            refine s_lit (wk0 rfl) rfl rfl hE hp rfl [(0, (.int .i64 x1.at_))] ⟨⟨rfl, rfl⟩, trivial⟩ [(.int .i64 x1.at_)] 3 (fun w => by simp [Instr.buildSlice, Instr.fill, Value.cells, go_sem]) ?_
            intro a w b7 hE hp
            have hp : Hp Z ρ (Pt b7 (.cells #[(.int .i64 x1.at_)] 3 (0, 0)) :: _ :: _ :: _ :: L) w := hp
            refine s_nil (and_with ⟨fun _ => ⟨_, hp⟩, fun _ => ⟨_, (hp.get 1 rfl)⟩, trivial⟩ fun hS => ?_)
            refine v_all [6] (by kernel_rfl) rfl ?_
            refine List.forall_mem_cons.2 ⟨?_, fun _ h => absurd h (by simp)⟩
            ·
              refine h_op rfl ?_
              refine s_val (wk0 rfl) rfl rfl hE hp (v := (Sl.v ((mget (um4 : List (Int × Sl)) x1.hash).getD Sl.nil))) (ex_mget0 (zd := Sl.nil) kt3 mapty85 zero23 rfl hE 3 (k := x1.hash) rfl rfl rfl) ?_
              intro a hE
              obtain ⟨v5, v5e⟩ : ∃ v, (Sl.v ((mget (um4 : List (Int × Sl)) x1.hash).getD Sl.nil)) = v := ⟨_, rfl⟩
              have hE := hE.eqv (v' := v5) v5e
              have hp := RowsM.takev v5e (hp.get 2 rfl)
              have hp : Hp Z ρ (OwnSl 3 v5 ((mget (lp1_1 : List (Int × List Int)) x1.hash).getD []) :: RowsX 3 (um4 : List (Int × Sl)) (lp1_1 : List (Int × List Int)) x1.hash :: _ :: _ :: _ :: L) w := hp
              refine s_nil (and_with ⟨fun _ => ⟨_, hp⟩, fun _ => ⟨_, (hp.get 3 rfl)⟩, trivial⟩ fun hS => ?_)
              refine v_all [10] (by kernel_rfl) rfl ?_
              refine List.forall_mem_cons.2 ⟨?_, fun _ h => absurd h (by simp)⟩
              ·
                refine h_op rfl ?_
                refine s_app (wk0 rfl) rfl rfl hE hp rfl slty23 rfl rfl 0 rfl rfl (l2 := [x1.at_]) rfl (fun j u hj => by have := Hp.cN 2 rfl 0 _ (sub_all rfl) w hp j u hj; simpa using this) ex2 ?_
                intro v6 a w hE hp
                have hp : Hp Z ρ (OwnSl 3 v6 x2 :: _ :: _ :: _ :: _ :: L) w := hp
                refine s_nil (and_with ⟨fun _ => ⟨_, hp⟩, fun _ => ⟨_, (hp.get 3 rfl)⟩, trivial⟩ fun hS => ?_)
                refine v_all [11] (by kernel_rfl) rfl ?_
                refine List.forall_mem_cons.2 ⟨?_, fun _ h => absurd h (by simp)⟩
                ·
                  refine h_op rfl ?_
                  obtain ⟨sl3, sl3e⟩ := OwnSl.toSl hp 0 rfl
                  refine s_mputT kt3 mapty85 (wk0 rfl) rfl hE hp rfl 4 (k := x1.hash) sl3e rfl rfl rfl rfl rfl ?_
                  intro w hp
                  have hp : Hp Z ρ (_ :: _ :: _ :: _ :: MapA b1 ((mput (um4 : List (Int × Sl)) x1.hash sl3) : List (Int × Sl)) :: L) w := hp
                  have hp := RowsX.put sl3e ((hp.get 1 rfl).get 1 rfl)
                  have hp : Hp Z ρ (RowsM 3 ((mput (um4 : List (Int × Sl)) x1.hash sl3) : List (Int × Sl)) ((mput (lp1_1 : List (Int × List Int)) x1.hash x2) : List (Int × List Int)) :: _ :: _ :: _ :: L) w := hp
                  refine s_nil (and_with ⟨fun _ => ⟨_, hp⟩, fun _ => ⟨_, (hp.get 2 rfl)⟩, trivial⟩ fun hS => ?_)
                  exact v_done (by kernel_rfl) ⟨_, _, hE.cut ⟨rfl, rfl, rfl, rfl, rfl, trivial⟩, hp⟩
        · rintro a w ⟨y10, yum4, hE, hp⟩
          refine k_region ?_
          obtain ⟨x3, ex3, hl1⟩ := bnd hl1
          refine s_val (wk0 rfl) rfl rfl hE hp (v := (.int .i64 x3)) (ex_add rfl hE rfl rfl (inK_some ex3)) ?_
          intro a hE
          refine s_val (wk0 rfl) rfl rfl hE hp (v := (.int .i64 x3)) (ex_move rfl hE rfl) ?_
          intro a hE
          refine s_nil ?_
          exact ⟨_, (Option.some.inj hl1).symm, _, hE.cut ⟨rfl, rfl, rfl, rfl, rfl, trivial⟩, ((((hp.get 2 rfl).drop).get 1 rfl).drop)⟩
      · replace hl1 := (ie hb2).symm.trans hl1
        refine k_exit ?_
        refine ⟨_, (Option.some.inj hl1).symm, fun hbb => ?_⟩
        subst hbb
        exact ⟨_, hE.cut ⟨rfl, rfl, trivial⟩, hp⟩
  · rintro a w ⟨um4, hE, hp⟩
    refine k_seq ?_
    refine k_region ?_
    refine s_mkmap (κ := Int) (β := Sl) (wk0 rfl) rfl rfl hE hp rfl ?_
    intro a w b8 hE hp
    have hp : Hp Z ρ (MapA b8 ([] : List (Int × Sl)) :: RowsM 3 (um4 : List (Int × Sl)) (b2 : List (Int × List Int)) :: MapA b1 (um4 : List (Int × Sl)) :: L) w := hp
    have hp := hp.emp (RowsM.nil (κ := Int) (α := Int) 3)
    have hp : Hp Z ρ (RowsM 3 ([] : List (Int × Sl)) ([] : List (Int × List Int)) :: _ :: _ :: _ :: L) w := hp
    refine s_val (wk0 rfl) rfl rfl hE hp (v := (.map (some b8))) (ex_asn rfl hE rfl) ?_
    intro a hE
    refine s_nil ?_
    refine k_seq ?_
    refine k_seq ?_
    refine k_region ?_
    refine s_val (wk0 rfl) rfl rfl hE hp (v := vp0) (ex_move rfl hE rfl) ?_
    intro a hE
    refine s_val (wk0 rfl) rfl rfl hE hp (v := (.int .i64 (p0.length : Int))) (ex_len rfl hE rfl (RoSl.len hp0 slty26)) ?_
    intro a hE
    refine s_val (wk0 rfl) rfl rfl hE hp (v := (.int .i64 0)) (ex_move rfl hE rfl) ?_
    intro a hE
    refine s_nil ?_
    obtain ⟨b9, hb3, hm⟩ := bnd hm
    refine k_block (fun a w => ∃ (um12 : List (Int × Sl)), Env 77 [(8, (.map (some b8)))] a ∧ Hp Z ρ (RowsM 3 (um12 : List (Int × Sl)) (b9 : List (Int × List Int)) :: MapA b8 (um12 : List (Int × Sl)) :: RowsM 3 (um4 : List (Int × Sl)) (b2 : List (Int × List Int)) :: MapA b1 (um4 : List (Int × Sl)) :: L) w) ?_ ?_
    · refine k_loop hb3 (fun s a w => ∃ (um12 : List (Int × Sl)), Env 77 [(5, (.map (some b1))), (8, (.map (some b8))), (34, vp0), (35, (.int .i64 (p0.length : Int))), (36, (.int .i64 s.1))] a ∧ Hp Z ρ (RowsM 3 (um12 : List (Int × Sl)) (s.2 : List (Int × List Int)) :: MapA b8 (um12 : List (Int × Sl)) :: RowsM 3 (um4 : List (Int × Sl)) (b2 : List (Int × List Int)) :: MapA b1 (um4 : List (Int × Sl)) :: L) w) ?_ ?_
      · exact ⟨_, hE.cut ⟨rfl, rfl, rfl, rfl, rfl, trivial⟩, hp⟩
      · rintro ⟨lp2_0, lp2_1⟩ st a w ⟨um12, hE, hp⟩ hl2
        have hE : Env 77 [(5, (.map (some b1))), (8, (.map (some b8))), (34, vp0), (35, (.int .i64 (p0.length : Int))), (36, (.int .i64 lp2_0))] a := hE
        have hp : Hp Z ρ (RowsM 3 (um12 : List (Int × Sl)) (lp2_1 : List (Int × List Int)) :: MapA b8 (um12 : List (Int × Sl)) :: _ :: _ :: L) w := hp
        replace hl2 : m_similarity_diagonals_lp2 p0 b2 lp2_0 lp2_1 = some st := hl2
        unfold m_similarity_diagonals_lp2 at hl2
        refine k_seq ?_
        refine k_region ?_
        refine s_val (wk0 rfl) rfl rfl hE hp (v := (.bool (decide (lp2_0 < (p0.length : Int))))) (ex_lss rfl hE rfl rfl) ?_
        intro a hE
        refine s_nil ?_
        refine k_seq ?_
        refine k_if hE rfl (fun hb4 => ?_) (fun hb4 => ?_)
        · replace hl2 := (it hb4).symm.trans hl2
          refine k_skip ?_
          refine k_seq ?_
          refine k_plain ?_
          refine k_seq ?_
          refine k_region ?_
          obtain ⟨x4, ex4, hl2⟩ := bnd hl2
          obtain ⟨b10, b10o, b10c, b10r, b10k, b10f⟩ := RoSl.at hp0 slty26 ex4
          obtain rfl : b10c = Enc.enc x4 := b10k
          have b10f : AtP ρ b10 b10o [(.int .i64 x4.hash), (.int .i64 x4.at_)] := b10f
          refine s_val (wk0 rfl) rfl rfl hE hp (v := (.pointer (some ⟨b10, b10o, none⟩))) (ex_index rfl hE rfl rfl b10r) ?_
          intro a hE
          refine s_val (wk0 rfl) rfl rfl hE hp (v := (.agg #[(.int .i64 x4.hash), (.int .i64 x4.at_)])) (ex_load rfl hE rfl (fun w hw => run_ldN (cs := [(.int .i64 x4.hash), (.int .i64 x4.at_)]) varty65 (fun j u hj => cell_of hw.le (b10f j u hj)))) ?_
          intro a hE
          refine s_new (wk0 rfl) rfl rfl hE hp rfl [(.int .i64 0), (.int .i64 0)] (fun w => by simp [Instr.alloc, go_sem] <;> rfl) ?_
          intro a w b11 hE hp
          have hp : Hp Z ρ (Pt b11 (.cells #[(.int .i64 0), (.int .i64 0)] 65 (0, 0)) :: _ :: _ :: _ :: _ :: L) w := hp
          refine s_store (wk0 rfl) rfl hE hp rfl rfl rfl 0 rfl varty65.size_ rfl (allOne_mem ⟨rfl, rfl, trivial⟩) [(.int .i64 x4.hash), (.int .i64 x4.at_)] rfl ?_
          intro w hp
          have hp : Hp Z ρ (Pt b11 (.cells #[(.int .i64 x4.hash), (.int .i64 x4.at_)] 65 (0, 0)) :: _ :: _ :: _ :: _ :: L) w := hp
          refine s_nil ?_
          refine k_seq ?_
          refine k_region ?_
          refine s_val (wk0 rfl) rfl rfl hE hp (v := (.map (some b1))) (ex_move rfl hE rfl) ?_
          intro a hE
          refine s_val (wk0 rfl) rfl rfl hE hp (v := (.pointer (some ⟨b11, 0, none⟩))) (ex_field rfl hE rfl (fldty65_0 _ _)) ?_
          intro a hE
          refine s_val (wk0 rfl) rfl rfl hE hp (v := (.int .i64 x4.hash)) (ex_load rfl hE rfl (fun w hw => run_ld1 varty3 (Hp.c 0 rfl 0 rfl w hw))) ?_
          intro a hE
          refine s_val (wk0 rfl) rfl rfl hE hp (v := (Sl.v ((mget (um4 : List (Int × Sl)) x4.hash).getD Sl.nil))) (ex_mget0 (zd := Sl.nil) kt3 mapty85 zero23 rfl hE 4 (k := x4.hash) rfl rfl rfl) ?_
          intro a hE
          obtain ⟨v7, v7e⟩ : ∃ v, (Sl.v ((mget (um4 : List (Int × Sl)) x4.hash).getD Sl.nil)) = v := ⟨_, rfl⟩
          have hE := hE.eqv (v' := v7) v7e
          have hp := RowsM.takev v7e (hp.get 3 rfl)
          have hp : Hp Z ρ (OwnSl 3 v7 ((mget (b2 : List (Int × List Int)) x4.hash).getD []) :: RowsX 3 (um4 : List (Int × Sl)) (b2 : List (Int × List Int)) x4.hash :: _ :: _ :: _ :: _ :: L) w := hp
          refine s_val (wk0 rfl) rfl rfl hE hp (v := (.int .i64 (((mget (b2 : List (Int × List Int)) x4.hash).getD []).length : Int))) (ex_len rfl hE rfl (OwnSl.len hp 0 rfl slty23)) ?_
          intro a hE
          refine s_val (wk0 rfl) rfl rfl hE hp (v := (.int .i64 0)) (ex_move rfl hE rfl) ?_
          intro a hE
          refine s_nil ?_
          obtain ⟨b12, hb5, hl2⟩ := bnd hl2
          refine k_block (fun a w => ∃ (um12 : List (Int × Sl)), Env 77 [(5, (.map (some b1))), (8, (.map (some b8))), (34, vp0), (35, (.int .i64 (p0.length : Int))), (36, (.int .i64 lp2_0))] a ∧ Hp Z ρ (OwnSl 3 v7 ((mget (b2 : List (Int × List Int)) x4.hash).getD []) :: RowsX 3 (um4 : List (Int × Sl)) (b2 : List (Int × List Int)) x4.hash :: Pt b11 (.cells #[(.int .i64 x4.hash), (.int .i64 x4.at_)] 65 (0, 0)) :: RowsM 3 (um12 : List (Int × Sl)) (b12 : List (Int × List Int)) :: MapA b8 (um12 : List (Int × Sl)) :: MapA b1 (um4 : List (Int × Sl)) :: L) w) ?_ ?_
          · refine k_loop hb5 (fun s a w => ∃ (um12 : List (Int × Sl)), Env 77 [(5, (.map (some b1))), (8, (.map (some b8))), (10, (.pointer (some ⟨b11, 0, none⟩))), (34, vp0), (35, (.int .i64 (p0.length : Int))), (36, (.int .i64 lp2_0)), (43, v7), (44, (.int .i64 (((mget (b2 : List (Int × List Int)) x4.hash).getD []).length : Int))), (45, (.int .i64 s.1))] a ∧ Hp Z ρ (OwnSl 3 v7 ((mget (b2 : List (Int × List Int)) x4.hash).getD []) :: RowsX 3 (um4 : List (Int × Sl)) (b2 : List (Int × List Int)) x4.hash :: Pt b11 (.cells #[(.int .i64 x4.hash), (.int .i64 x4.at_)] 65 (0, 0)) :: RowsM 3 (um12 : List (Int × Sl)) (s.2 : List (Int × List Int)) :: MapA b8 (um12 : List (Int × Sl)) :: MapA b1 (um4 : List (Int × Sl)) :: L) w) ?_ ?_
            · exact ⟨_, hE.cut ⟨rfl, rfl, rfl, rfl, rfl, rfl, rfl, rfl, rfl, trivial⟩, hp⟩
            · rintro ⟨lp3_0, lp3_1⟩ st a w ⟨um12, hE, hp⟩ hl3
              have hE : Env 77 [(5, (.map (some b1))), (8, (.map (some b8))), (10, (.pointer (some ⟨b11, 0, none⟩))), (34, vp0), (35, (.int .i64 (p0.length : Int))), (36, (.int .i64 lp2_0)), (43, v7), (44, (.int .i64 (((mget (b2 : List (Int × List Int)) x4.hash).getD []).length : Int))), (45, (.int .i64 lp3_0))] a := hE
              have hp : Hp Z ρ (_ :: _ :: _ :: RowsM 3 (um12 : List (Int × Sl)) (lp3_1 : List (Int × List Int)) :: _ :: _ :: L) w := hp
              replace hl3 : m_similarity_diagonals_lp3 b2 x4 lp3_0 lp3_1 = some st := hl3
              unfold m_similarity_diagonals_lp3 at hl3
              refine k_seq ?_
              refine k_region ?_
              refine s_val (wk0 rfl) rfl rfl hE hp (v := (.bool (decide (lp3_0 < (((mget (b2 : List (Int × List Int)) x4.hash).getD []).length : Int))))) (ex_lss rfl hE rfl rfl) ?_
              intro a hE
              refine s_nil ?_
              refine k_seq ?_
              refine k_if hE rfl (fun hb6 => ?_) (fun hb6 => ?_)
              · replace hl3 := (it hb6).symm.trans hl3
                refine k_skip ?_
                refine k_seq ?_
                refine k_plain ?_
                refine k_seq ?_
                refine k_region ?_
                obtain ⟨x5, ex5, hl3⟩ := bnd hl3
                obtain ⟨b13, b13o, b13r, b13v, b13f⟩ := OwnSl.at hp 0 rfl slty23 ex5
                have b13f : ∀ (j : Nat) (u : Value), ([(.int .i64 x5)] : List Value)[j]? = some u → ∀ ρ' L' w, Hp Z ρ' (OwnSl 3 v7 ((mget (b2 : List (Int × List Int)) x4.hash).getD []) :: L') w → w.cell? ⟨b13, b13o + j, none⟩ = some u := b13f
                refine s_val (wk0 rfl) rfl rfl hE hp (v := (.pointer (some ⟨b13, b13o, none⟩))) (ex_index rfl hE rfl rfl b13r) ?_
                intro a hE
                refine s_val (wk0 rfl) rfl rfl hE hp (v := (.int .i64 x5)) (ex_load rfl hE rfl (fun w hw => run_ld1 varty3 (b13f 0 _ rfl _ _ w (hw.get 0 rfl)))) ?_
                intro a hE
                refine s_val (wk0 rfl) rfl rfl hE hp (v := (.int .i64 x5)) (ex_asn rfl hE rfl) ?_
                intro a hE
                refine s_nil ?_
                obtain ⟨x6, ex6, hl3⟩ := bnd hl3
                obtain ⟨x7, ex7, hl3⟩ := bnd hl3
                obtain ⟨x8, ex8, hl3⟩ := bnd hl3
                obtain ⟨x9, ex9, hl3⟩ := bnd hl3
                have hp := hp.drew
                refine k_heldV ([([], At0 Z ρ), ([], At1 Z ρ (Pt b11 (.cells #[(.int .i64 x4.hash), (.int .i64 x4.at_)] 65 (0, 0))))] : Facts) (fun a w => ∃ y24 : Nat, ∃ yum12 : List (Int × Sl), Env 77 [(5, (.map (some b1))), (8, (.map (some b8))), (10, (.pointer (some ⟨b11, 0, none⟩))), (34, vp0), (35, (.int .i64 (p0.length : Int))), (36, (.int .i64 lp2_0)), (43, v7), (44, (.int .i64 (((mget (b2 : List (Int × List Int)) x4.hash).getD []).length : Int))), (45, (.int .i64 lp3_0))] a ∧ Hp Z ρ (RowsM 3 (yum12 : List (Int × Sl)) ((mput (lp3_1 : List (Int × List Int)) x7 x8) : List (Int × List Int)) :: Pt y24 (.cells #[(.int .i64 x4.at_)] 3 (0, 0)) :: OwnSl 3 v7 ((mget (b2 : List (Int × List Int)) x4.hash).getD []) :: RowsX 3 (um4 : List (Int × Sl)) (b2 : List (Int × List Int)) x4.hash :: Pt b11 (.cells #[(.int .i64 x4.hash), (.int .i64 x4.at_)] 65 (0, 0)) :: MapA b8 (yum12 : List (Int × Sl)) :: MapA b1 (um4 : List (Int × Sl)) :: L) w) (by kernel_rfl) ⟨fun _ => ⟨_, hp⟩, fun _ => ⟨_, (hp.get 2 rfl)⟩, trivial⟩ (fun hS => ?_) ?_
                ·
                  generalize w.drew = w at hS hp ⊢
                  refine v_take0 0 (wk0 rfl) rfl rfl rfl hE (by kernel_rfl) (by kernel_rfl) (by kernel_rfl) rfl (by kernel_rfl) hS (v := (.map (some b8))) (fun _ => ex_move rfl hE rfl) ?_
                  intro a hE hS
                  refine v_take0 1 (wk0 rfl) rfl rfl rfl hE (by kernel_rfl) (by kernel_rfl) (by kernel_rfl) rfl (by kernel_rfl) hS (v := (.int .i64 x5)) (fun _ => ex_move rfl hE rfl) ?_
                  intro a hE hS
                  refine v_take0 2 (wk0 rfl) rfl rfl rfl hE (by kernel_rfl) (by kernel_rfl) (by kernel_rfl) rfl (by kernel_rfl) hS (v := (.pointer (some ⟨b11, 1, none⟩))) (fun _ => ex_field rfl hE rfl (fldty65_1 _ _)) ?_
                  intro a hE hS
                  refine v_take1 3 1 (wk0 rfl) rfl rfl rfl hE (by kernel_rfl) (by kernel_rfl) (by kernel_rfl) rfl (by kernel_rfl) hS (v := (.int .i64 x4.at_)) (fun _ => ex_load rfl hE rfl (fun w hw => run_ld1 varty3 (Hp.c 0 rfl 1 rfl w hw))) ?_
                  intro a hE hS
                  refine v_take0 4 (wk0 rfl) rfl rfl rfl hE (by kernel_rfl) (by kernel_rfl) (by kernel_rfl) rfl (by kernel_rfl) hS (v := (.int .i64 x6)) (fun _ => ex_sub rfl hE rfl rfl (inK_some ex6)) ?_
                  intro a hE hS
                  refine v_take0 5 (wk0 rfl) rfl rfl rfl hE (by kernel_rfl) (by kernel_rfl) (by kernel_rfl) rfl (by kernel_rfl) hS (v := (.map (some b8))) (fun _ => ex_move rfl hE rfl) ?_
                  intro a hE hS
                  refine v_take0 6 (wk0 rfl) rfl rfl rfl hE (by kernel_rfl) (by kernel_rfl) (by kernel_rfl) rfl (by kernel_rfl) hS (v := (.int .i64 x5)) (fun _ => ex_move rfl hE rfl) ?_
                  intro a hE hS
                  refine v_take0 7 (wk0 rfl) rfl rfl rfl hE (by kernel_rfl) (by kernel_rfl) (by kernel_rfl) rfl (by kernel_rfl) hS (v := (.pointer (some ⟨b11, 1, none⟩))) (fun _ => ex_field rfl hE rfl (fldty65_1 _ _)) ?_
                  intro a hE hS
                  refine v_take1 8 1 (wk0 rfl) rfl rfl rfl hE (by kernel_rfl) (by kernel_rfl) (by kernel_rfl) rfl (by kernel_rfl) hS (v := (.int .i64 x4.at_)) (fun _ => ex_load rfl hE rfl (fun w hw => run_ld1 varty3 (Hp.c 0 rfl 1 rfl w hw))) ?_
                  intro a hE hS
                  refine v_take0 9 (wk0 rfl) rfl rfl rfl hE (by kernel_rfl) (by kernel_rfl) (by kernel_rfl) rfl (by kernel_rfl) hS (v := (.int .i64 x7)) (fun _ => ex_sub rfl hE rfl rfl (inK_some ex7)) ?_
                  intro a hE hS
                  refine v_take0 11 (wk0 rfl) rfl rfl rfl hE (by kernel_rfl) (by kernel_rfl) (by kernel_rfl) rfl (by kernel_rfl) hS (v := (.pointer (some ⟨b11, 1, none⟩))) (fun _ => ex_field rfl hE rfl (fldty65_1 _ _)) ?_
                  intro a hE hS
                  refine v_take1 12 1 (wk0 rfl) rfl rfl rfl hE (by kernel_rfl) (by kernel_rfl) (by kernel_rfl) rfl (by kernel_rfl) hS (v := (.int .i64 x4.at_)) (fun _ => ex_load rfl hE rfl (fun w hw => run_ld1 varty3 (Hp.c 0 rfl 1 rfl w hw))) ?_
                  intro a hE hS
                  refine v_all [10, 13] (by kernel_rfl) rfl ?_
                  refine List.forall_mem_cons.2 ⟨?_, List.forall_mem_cons.2 ⟨?_, fun _ h => absurd h (by simp)⟩⟩
                  ·
                    refine h_op rfl ?_
                    refine s_val (wk0 rfl) rfl rfl hE hp (v := (Sl.v ((mget (um12 : List (Int × Sl)) x7).getD Sl.nil))) (ex_mget0 (zd := Sl.nil) kt3 mapty85 zero23 rfl hE 4 (k := x7) rfl rfl rfl) ?_
                    intro a hE
                    obtain ⟨v10, v10e⟩ : ∃ v, (Sl.v ((mget (um12 : List (Int × Sl)) x7).getD Sl.nil)) = v := ⟨_, rfl⟩
                    have hE := hE.eqv (v' := v10) v10e
                    have hp := RowsM.takev v10e (hp.get 3 rfl)
                    have hp : Hp Z ρ (OwnSl 3 v10 ((mget (lp3_1 : List (Int × List Int)) x7).getD []) :: RowsX 3 (um12 : List (Int × Sl)) (lp3_1 : List (Int × List Int)) x7 :: _ :: _ :: _ :: _ :: _ :: L) w := hp
                    refine s_nil (and_with ⟨fun _ => ⟨_, hp⟩, fun _ => ⟨_, (hp.get 4 rfl)⟩, trivial⟩ fun hS => ?_)
                    refine v_all [13] (by kernel_rfl) rfl ?_
                    refine List.forall_mem_cons.2 ⟨?_, fun _ h => absurd h (by simp)⟩
                    ·
                      refine h_op rfl ?_
                      refine s_lit (wk0 rfl) rfl rfl hE hp rfl [(0, (.int .i64 x4.at_))] ⟨⟨rfl, rfl⟩, trivial⟩ [(.int .i64 x4.at_)] 3 (fun w => by simp [Instr.buildSlice, Instr.fill, Value.cells, go_sem]) ?_
                      intro a w b15 hE hp
                      have hp : Hp Z ρ (Pt b15 (.cells #[(.int .i64 x4.at_)] 3 (0, 0)) :: _ :: _ :: _ :: _ :: _ :: _ :: _ :: L) w := hp
                      refine s_nil (and_with ⟨fun _ => ⟨_, hp⟩, fun _ => ⟨_, (hp.get 5 rfl)⟩, trivial⟩ fun hS => ?_)
                      refine v_all [14] (by kernel_rfl) rfl ?_
                      refine List.forall_mem_cons.2 ⟨?_, fun _ h => absurd h (by simp)⟩
                      ·
                        refine h_op rfl ?_
                        refine s_app (wk0 rfl) rfl rfl hE hp rfl slty23 rfl rfl 1 rfl rfl (l2 := [x4.at_]) rfl (fun j u hj => by have := Hp.cN 0 rfl 0 _ (sub_all rfl) w hp j u hj; simpa using this) ex8 ?_
                        intro v11 a w hE hp
                        have hp : Hp Z ρ (_ :: OwnSl 3 v11 x8 :: _ :: _ :: _ :: _ :: _ :: _ :: L) w := hp
                        refine s_nil (and_with ⟨fun _ => ⟨_, hp⟩, fun _ => ⟨_, (hp.get 5 rfl)⟩, trivial⟩ fun hS => ?_)
                        refine v_all [15] (by kernel_rfl) rfl ?_
                        refine List.forall_mem_cons.2 ⟨?_, fun _ h => absurd h (by simp)⟩
                        ·
                          refine h_op rfl ?_
                          obtain ⟨sl5, sl5e⟩ := OwnSl.toSl hp 1 rfl
                          refine s_mputT kt3 mapty85 (wk0 rfl) rfl hE hp rfl 6 (k := x7) sl5e (guardEq_some ex9) rfl rfl rfl rfl ?_
                          intro w hp
                          have hp : Hp Z ρ (_ :: _ :: _ :: _ :: _ :: _ :: MapA b8 ((mput (um12 : List (Int × Sl)) x7 sl5) : List (Int × Sl)) :: _ :: L) w := hp
                          have hp := RowsX.put sl5e ((hp.get 2 rfl).get 2 rfl)
                          have hp : Hp Z ρ (RowsM 3 ((mput (um12 : List (Int × Sl)) x7 sl5) : List (Int × Sl)) ((mput (lp3_1 : List (Int × List Int)) x7 x8) : List (Int × List Int)) :: _ :: _ :: _ :: _ :: _ :: _ :: L) w := hp
                          refine s_nil (and_with ⟨fun _ => ⟨_, hp⟩, fun _ => ⟨_, (hp.get 4 rfl)⟩, trivial⟩ fun hS => ?_)
                          exact v_done (by kernel_rfl) ⟨_, _, hE.cut ⟨rfl, rfl, rfl, rfl, rfl, rfl, rfl, rfl, rfl, trivial⟩, hp⟩
                  ·
                    refine h_op rfl ?_
                    refine s_lit (wk0 rfl) rfl rfl hE hp rfl [(0, (.int .i64 x4.at_))] ⟨⟨rfl, rfl⟩, trivial⟩ [(.int .i64 x4.at_)] 3 (fun w => by simp [Instr.buildSlice, Instr.fill, Value.cells, go_sem]) ?_
                    intro a w b16 hE hp
                    have hp : Hp Z ρ (Pt b16 (.cells #[(.int .i64 x4.at_)] 3 (0, 0)) :: _ :: _ :: _ :: _ :: _ :: _ :: L) w := hp
                    refine s_nil (and_with ⟨fun _ => ⟨_, hp⟩, fun _ => ⟨_, (hp.get 3 rfl)⟩, trivial⟩ fun hS => ?_)
                    refine v_all [10] (by kernel_rfl) rfl ?_
                    refine List.forall_mem_cons.2 ⟨?_, fun _ h => absurd h (by simp)⟩
                    ·
                      refine h_op rfl ?_
                      refine s_val (wk0 rfl) rfl rfl hE hp (v := (Sl.v ((mget (um12 : List (Int × Sl)) x7).getD Sl.nil))) (ex_mget0 (zd := Sl.nil) kt3 mapty85 zero23 rfl hE 5 (k := x7) rfl rfl rfl) ?_
                      intro a hE
                      obtain ⟨v12, v12e⟩ : ∃ v, (Sl.v ((mget (um12 : List (Int × Sl)) x7).getD Sl.nil)) = v := ⟨_, rfl⟩
                      have hE := hE.eqv (v' := v12) v12e
                      have hp := RowsM.takev v12e (hp.get 4 rfl)
                      have hp : Hp Z ρ (OwnSl 3 v12 ((mget (lp3_1 : List (Int × List Int)) x7).getD []) :: RowsX 3 (um12 : List (Int × Sl)) (lp3_1 : List (Int × List Int)) x7 :: _ :: _ :: _ :: _ :: _ :: _ :: L) w := hp
                      refine s_nil (and_with ⟨fun _ => ⟨_, hp⟩, fun _ => ⟨_, (hp.get 5 rfl)⟩, trivial⟩ fun hS => ?_)
                      refine v_all [14] (by kernel_rfl) rfl ?_
                      refine List.forall_mem_cons.2 ⟨?_, fun _ h => absurd h (by simp)⟩
                      ·
                        refine h_op rfl ?_
                        refine s_app (wk0 rfl) rfl rfl hE hp rfl slty23 rfl rfl 0 rfl rfl (l2 := [x4.at_]) rfl (fun j u hj => by have := Hp.cN 2 rfl 0 _ (sub_all rfl) w hp j u hj; simpa using this) ex8 ?_
                        intro v13 a w hE hp
                        have hp : Hp Z ρ (OwnSl 3 v13 x8 :: _ :: _ :: _ :: _ :: _ :: _ :: _ :: L) w := hp
                        refine s_nil (and_with ⟨fun _ => ⟨_, hp⟩, fun _ => ⟨_, (hp.get 5 rfl)⟩, trivial⟩ fun hS => ?_)
                        refine v_all [15] (by kernel_rfl) rfl ?_
                        refine List.forall_mem_cons.2 ⟨?_, fun _ h => absurd h (by simp)⟩
                        ·
                          refine h_op rfl ?_
                          obtain ⟨sl6, sl6e⟩ := OwnSl.toSl hp 0 rfl
                          refine s_mputT kt3 mapty85 (wk0 rfl) rfl hE hp rfl 6 (k := x7) sl6e (guardEq_some ex9) rfl rfl rfl rfl ?_
                          intro w hp
                          have hp : Hp Z ρ (_ :: _ :: _ :: _ :: _ :: _ :: MapA b8 ((mput (um12 : List (Int × Sl)) x7 sl6) : List (Int × Sl)) :: _ :: L) w := hp
                          have hp := RowsX.put sl6e ((hp.get 1 rfl).get 1 rfl)
                          have hp : Hp Z ρ (RowsM 3 ((mput (um12 : List (Int × Sl)) x7 sl6) : List (Int × Sl)) ((mput (lp3_1 : List (Int × List Int)) x7 x8) : List (Int × List Int)) :: _ :: _ :: _ :: _ :: _ :: _ :: L) w := hp
                          refine s_nil (and_with ⟨fun _ => ⟨_, hp⟩, fun _ => ⟨_, (hp.get 4 rfl)⟩, trivial⟩ fun hS => ?_)
                          exact v_done (by kernel_rfl) ⟨_, _, hE.cut ⟨rfl, rfl, rfl, rfl, rfl, rfl, rfl, rfl, rfl, trivial⟩, hp⟩
                · rintro a w ⟨y24, yum12, hE, hp⟩
                  refine k_region ?_
                  obtain ⟨x10, ex10, hl3⟩ := bnd hl3
                  refine s_val (wk0 rfl) rfl rfl hE hp (v := (.int .i64 x10)) (ex_add rfl hE rfl rfl (inK_some ex10)) ?_
                  intro a hE
                  refine s_val (wk0 rfl) rfl rfl hE hp (v := (.int .i64 x10)) (ex_move rfl hE rfl) ?_
                  intro a hE
                  refine s_nil ?_
                  exact ⟨_, (Option.some.inj hl3).symm, _, hE.cut ⟨rfl, rfl, rfl, rfl, rfl, rfl, rfl, rfl, rfl, trivial⟩, ((((((((hp.get 6 rfl).get 6 rfl).get 2 rfl).get 6 rfl).get 6 rfl).get 6 rfl).get 6 rfl).drop)⟩
              · replace hl3 := (ie hb6).symm.trans hl3
                refine k_exit ?_
                refine ⟨_, (Option.some.inj hl3).symm, fun hbb => ?_⟩
                subst hbb
                exact ⟨_, hE.cut ⟨rfl, rfl, rfl, rfl, rfl, trivial⟩, hp⟩
          · rintro a w ⟨um12, hE, hp⟩
            refine k_region ?_
            obtain ⟨x11, ex11, hl2⟩ := bnd hl2
            refine s_val (wk0 rfl) rfl rfl hE hp (v := (.int .i64 x11)) (ex_add rfl hE rfl rfl (inK_some ex11)) ?_
            intro a hE
            refine s_val (wk0 rfl) rfl rfl hE hp (v := (.int .i64 x11)) (ex_move rfl hE rfl) ?_
            intro a hE
            refine s_nil ?_
            have hp := RowsX.back0 v7e ((hp.get 1 rfl).get 1 rfl)
            have hp : Hp Z ρ (RowsM 3 (um4 : List (Int × Sl)) (b2 : List (Int × List Int)) :: _ :: RowsM 3 (um12 : List (Int × Sl)) (b12 : List (Int × List Int)) :: _ :: _ :: L) w := hp
            exact ⟨_, (Option.some.inj hl2).symm, _, hE.cut ⟨rfl, rfl, rfl, rfl, rfl, trivial⟩, ((((((hp.get 4 rfl).get 1 rfl).get 4 rfl).get 4 rfl).get 4 rfl).drop)⟩
        · replace hl2 := (ie hb4).symm.trans hl2
          refine k_exit ?_
          refine ⟨_, (Option.some.inj hl2).symm, fun hbb => ?_⟩
          subst hbb
          exact ⟨_, hE.cut ⟨rfl, trivial⟩, hp⟩
    · rintro a w ⟨um12, hE, hp⟩
      refine k_seq ?_
      refine k_seq ?_
      refine k_region ?_
      refine s_val (wk0 rfl) rfl rfl hE hp (v := (.map (some b8))) (ex_move rfl hE rfl) ?_
      intro a hE
      refine s_range mapty85 (wk0 rfl) rfl rfl hE (hp.get 1 rfl) rfl rfl ?_
      intro a w b17 hE hp
      have hp : Hp Z ρ (MapIt b8 b17 (um12 : List (Int × Sl)) um12 none :: RowsM 3 (um12 : List (Int × Sl)) (b9 : List (Int × List Int)) :: _ :: _ :: L) w := hp
      refine s_nil ?_
      obtain ⟨b18, hb7, hm⟩ := bnd hm
      have hb8 := permM_keys (RowsM.keys (hp.get 1 rfl)) hb7
      refine k_block (fun a w => Env 77 [(8, (.map (some b8)))] a ∧ Hp Z ρ (MapA b8 (um12 : List (Int × Sl)) :: RowsM 3 (um12 : List (Int × Sl)) (b18 : List (Int × List Int)) :: RowsM 3 (um4 : List (Int × Sl)) (b2 : List (Int × List Int)) :: MapA b1 (um4 : List (Int × Sl)) :: L) w) ?_ ?_
      · refine k_loopP hb8 (fun rem1 s a w => Env 77 [(8, (.map (some b8))), (67, (.pointer (some ⟨b17, 0, none⟩)))] a ∧ Hp Z ρ (MapIt b8 b17 (um12 : List (Int × Sl)) rem1 none :: RowsM 3 (um12 : List (Int × Sl)) (s : List (Int × List Int)) :: RowsM 3 (um4 : List (Int × Sl)) (b2 : List (Int × List Int)) :: MapA b1 (um4 : List (Int × Sl)) :: L) w) ?_ ?_
        · exact ⟨hE.cut ⟨rfl, rfl, trivial⟩, hp⟩
        · rintro rem1 lp4_0 a w ⟨hE, hp⟩ hf1
          have hE : Env 77 [(8, (.map (some b8))), (67, (.pointer (some ⟨b17, 0, none⟩)))] a := hE
          have hp : Hp Z ρ (MapIt b8 b17 (um12 : List (Int × Sl)) rem1 none :: RowsM 3 (um12 : List (Int × Sl)) (lp4_0 : List (Int × List Int)) :: _ :: _ :: L) w := hp
          refine k_seq ?_
          refine k_region ?_
          have hs1 := MapIt.sub (hp.get 0 rfl)
          refine s_next (wk0 rfl) rfl rfl hE (hp.get 0 rfl) rfl rfl ?_ ?_
          · intro hrem a hE
            subst hrem
            have hn1 := foldP_end hf1
            try dsimp only at hn1
            refine s_val (wk0 rfl) rfl rfl hE hp (v := (.bool false)) (ex_extract rfl hE rfl rfl) ?_
            intro a hE
            refine s_nil ?_
            refine k_seq ?_
            refine k_if hE rfl (fun hb => absurd hb (by decide)) (fun hb => ?_)
            refine k_exit ?_
            obtain rfl := Option.some.inj hn1
            have hp := MapIt.done (hp.get 0 rfl)
            exact ⟨hE.cut ⟨rfl, trivial⟩, hp⟩
          · rintro ⟨en1, en1u⟩ rem1' hperm hl4l a w hE hp
            have hE := hE.eqv (v' := (.tuple #[(.bool true), (.int .i64 en1), (Sl.v en1u)])) rfl
            have hp : Hp Z ρ (MapIt b8 b17 (um12 : List (Int × Sl)) rem1' (some (en1, en1u)) :: _ :: _ :: _ :: L) w := hp
            obtain ⟨st, hl4, hl4s⟩ := foldP_more hf1 hperm
            replace hl4 : m_similarity_diagonals_lp4  en1 lp4_0 = some st := hl4
            unfold m_similarity_diagonals_lp4 at hl4
            refine s_val (wk0 rfl) rfl rfl hE hp (v := (.bool true)) (ex_extract rfl hE rfl rfl) ?_
            intro a hE
            refine s_nil ?_
            refine k_seq ?_
            refine k_if hE rfl (fun hb => ?_) (fun hb => absurd hb (by decide))
            refine k_skip ?_
            refine k_plain ?_
            refine k_seq ?_
            refine k_region ?_
            refine s_val (wk0 rfl) rfl rfl hE hp (v := (.tuple #[(.int .i64 en1), (Sl.v en1u)])) (ex_entry (c := (en1, en1u)) rfl hE 0 rfl rfl) ?_
            intro a hE
            refine s_val (wk0 rfl) rfl rfl hE hp (v := (.int .i64 en1)) (ex_extract rfl hE rfl rfl) ?_
            intro a hE
            refine s_val (wk0 rfl) rfl rfl hE hp (v := (.int .i64 en1)) (ex_asn rfl hE rfl) ?_
            intro a hE
            refine s_nil ?_
            refine k_region ?_
            refine s_val (wk0 rfl) rfl rfl hE hp (v := (.map (some b8))) (ex_move rfl hE rfl) ?_
            intro a hE
            refine s_val (wk0 rfl) rfl rfl hE hp (v := (.int .i64 en1)) (ex_move rfl hE rfl) ?_
            intro a hE
            refine s_val (wk0 rfl) rfl rfl hE hp (v := (Sl.v ((mget (um12 : List (Int × Sl)) en1).getD Sl.nil))) (ex_mgetI0 (zd := Sl.nil) kt3 mapty85 zero23 rfl hE 0 (k := en1) rfl rfl rfl) ?_
            intro a hE
            obtain ⟨v14, v14e⟩ : ∃ v, (Sl.v ((mget (um12 : List (Int × Sl)) en1).getD Sl.nil)) = v := ⟨_, rfl⟩
            have hE := hE.eqv (v' := v14) v14e
            have hp := RowsM.takev v14e (hp.get 1 rfl)
            have hp : Hp Z ρ (OwnSl 3 v14 ((mget (lp4_0 : List (Int × List Int)) en1).getD []) :: RowsX 3 (um12 : List (Int × Sl)) (lp4_0 : List (Int × List Int)) en1 :: _ :: _ :: _ :: L) w := hp
            obtain ⟨x12, ex12, hl4⟩ := bnd hl4
            refine s_call (wk0 rfl) rfl rfl hE rfl [v14] ⟨rfl, trivial⟩ ent59 (c_sortI ((mget (lp4_0 : List (Int × List Int)) en1).getD []) v14 (hp.get 0 rfl) x12 ex12) Ret.ret ?_
            intro v a w hR hE
            obtain ⟨rfl, hp⟩ := Ret.of hR
            have hp : Hp Z ρ (OwnSl 3 v14 x12 :: _ :: _ :: _ :: _ :: L) w := hp
            refine s_nil ?_
            have hp := RowsX.back v14e ((hp.get 1 rfl).get 1 rfl)
            have hp : Hp Z ρ (RowsM 3 (um12 : List (Int × Sl)) ((mset (lp4_0 : List (Int × List Int)) en1 x12) : List (Int × List Int)) :: _ :: _ :: _ :: L) w := hp
            obtain rfl := Option.some.inj hl4
            have hp := MapIt.forget (hp.get 1 rfl)
            exact ⟨_, _, hl4l, hl4s, hE.cut ⟨rfl, rfl, trivial⟩, hp⟩
      · rintro a w ⟨hE, hp⟩
        refine k_seq ?_
        refine k_region ?_
        refine s_val (wk0 rfl) rfl rfl hE hp (v := (.map (some b8))) (ex_move rfl hE rfl) ?_
        intro a hE
        refine s_val (wk0 rfl) rfl rfl hE hp (v := (.map (some b8))) (ex_asn rfl hE rfl) ?_
        intro a hE
        refine s_nil ?_
        refine k_ret ?_
        obtain rfl := Option.some.inj hm
        exact ret1 hE rfl rfl ⟨_, rfl, _, _, rfl, ((((hp.get 3 rfl).drop).get 2 rfl).drop)⟩
/- assessor/similarity.Overlaps$1 -/
set_option maxRecDepth 100000 in
set_option maxHeartbeats 4000000 in
theorem c_similarity_Overlaps_1 {Z : World} {ρ : PH} {L : List Atom} {w : World} (p0 : Mark) (hp : Hp Z ρ (L) w) (r : Bool) (hm : m_similarity_Overlaps_1 p0 = some r) :
    Calls Try.prog 50 #[(.agg #[(.int .i64 p0.hash), (.int .i64 p0.at_)])] w (Ret fun v w' => v = (.bool r) ∧ Hp Z ρ (L) w') := by
  refine enter (N := 11) Try.func50 rfl rfl [(0, (.agg #[(.int .i64 p0.hash), (.int .i64 p0.at_)]))] rfl (argsIn_mem ⟨rfl, trivial⟩) fun a hE => ?_
  unfold m_similarity_Overlaps_1 at hm
  refine k_seq ?_
  refine k_region ?_
  refine s_box (wk0 rfl) rfl rfl hE hp rfl (v := (.agg #[(.int .i64 p0.hash), (.int .i64 p0.at_)])) rfl ?_
  intro a w b1 hE hp
  have hp : Hp Z ρ (Pt b1 (.cells #[(.int .i64 p0.hash), (.int .i64 p0.at_)] 65 (0, 0)) :: L) w := hp
  refine s_val (wk0 rfl) rfl rfl hE hp (v := (.bool false)) (ex_asn rfl hE rfl) ?_
  intro a hE
  refine s_nil ?_
  refine k_seq ?_
  refine k_region ?_
  refine s_val (wk0 rfl) rfl rfl hE hp (v := (.pointer (some ⟨b1, 1, none⟩))) (ex_field rfl hE rfl (fldty65_1 _ _)) ?_
  intro a hE
  refine s_val (wk0 rfl) rfl rfl hE hp (v := (.int .i64 p0.at_)) (ex_load rfl hE rfl (fun w hw => run_ld1 varty3 (Hp.c 0 rfl 1 rfl w hw))) ?_
  intro a hE
  refine s_val (wk0 rfl) rfl rfl hE hp (v := (.bool (decide (p0.at_ < 0)))) (ex_lss rfl hE rfl rfl) ?_
  intro a hE
  refine s_val (wk0 rfl) rfl rfl hE hp (v := (.bool (decide (p0.at_ < 0)))) (ex_move rfl hE rfl) ?_
  intro a hE
  refine s_cut [_, _, _, _] (fun a w => Env 11 [(10, (.bool ((decide (p0.at_ < 0)) || (decide (2048 < p0.at_)))))] a ∧ Hp Z ρ (Pt b1 (.cells #[(.int .i64 p0.hash), (.int .i64 p0.at_)] 65 (0, 0)) :: L) w) ?_ ?_
  · rcases Bool.eq_false_or_eq_true (decide (p0.at_ < 0)) with hb1 | hb1
    ·
      refine s_skip (wk2 hE rfl rfl rfl hb1) rfl rfl hE ?_
      intro a hE
      refine s_skip (wk2 hE rfl rfl rfl hb1) rfl rfl hE ?_
      intro a hE
      refine s_skip (wk2 hE rfl rfl rfl hb1) rfl rfl hE ?_
      intro a hE
      refine s_val (wk0 rfl) rfl rfl hE hp (v := (.bool true)) (ex_pick1 rfl hE rfl hb1 rfl) ?_
      intro a hE
      have hE := hE.eqv (v' := (.bool ((decide (p0.at_ < 0)) || (decide (2048 < p0.at_))))) (by rw [hb1]; rfl)
      exact s_nil ⟨hE.cut ⟨rfl, trivial⟩, hp⟩
    ·
      refine s_val (wk1 hE rfl rfl rfl hb1) rfl rfl hE hp (v := (.pointer (some ⟨b1, 1, none⟩))) (ex_field rfl hE rfl (fldty65_1 _ _)) ?_
      intro a hE
      refine s_val (wk1 hE rfl rfl rfl hb1) rfl rfl hE hp (v := (.int .i64 p0.at_)) (ex_load rfl hE rfl (fun w hw => run_ld1 varty3 (Hp.c 0 rfl 1 rfl w hw))) ?_
      intro a hE
      refine s_val (wk1 hE rfl rfl rfl hb1) rfl rfl hE hp (v := (.bool (decide (2048 < p0.at_)))) (ex_gtr rfl hE rfl rfl) ?_
      intro a hE
      refine s_val (wk0 rfl) rfl rfl hE hp (v := (.bool (decide (2048 < p0.at_)))) (ex_pick0 rfl hE rfl hb1 rfl) ?_
      intro a hE
      have hE := hE.eqv (v' := (.bool ((decide (p0.at_ < 0)) || (decide (2048 < p0.at_))))) (by rw [hb1]; rfl)
      exact s_nil ⟨hE.cut ⟨rfl, trivial⟩, hp⟩
  · rintro a w ⟨hE, hp⟩
    refine s_val (wk0 rfl) rfl rfl hE hp (v := (.bool ((decide (p0.at_ < 0)) || (decide (2048 < p0.at_))))) (ex_asn rfl hE rfl) ?_
    intro a hE
    refine s_nil ?_
    refine k_ret ?_
    obtain rfl := Option.some.inj hm
    exact ret1 hE rfl rfl ⟨_, rfl, rfl, (hp.drop)⟩
/- slices.IndexFunc[[]assessor/api.Mark,assessor/api.Mark]@assessor/similarity.Overlaps$1 -/
set_option maxRecDepth 100000 in
set_option maxHeartbeats 4000000 in
theorem c_slices_IndexFunc_similarity_Overlaps_1 {Z : World} {ρ : PH} {L : List Atom} {w : World} (p0 : (List Mark)) (vp0 : Value) (hp0 : RoSl ρ vp0 p0) (hp : Hp Z ρ (L) w) (r : Int) (hm : m_slices_IndexFunc_similarity_Overlaps_1 p0 = some r) :
    Calls Try.prog 61 #[vp0, (.func (.func 50) #[] #[])] w (Ret fun v w' => v = (.int .i64 r) ∧ Hp Z ρ (L) w') := by
  refine enter (N := 19) Try.func61 rfl rfl [(0, vp0), (1, (.func (.func 50) #[] #[]))] rfl (argsIn_mem ⟨rfl, rfl, trivial⟩) fun a hE => ?_
  unfold m_slices_IndexFunc_similarity_Overlaps_1 at hm
  refine k_seq ?_
  refine k_region ?_
  refine s_val (wk0 rfl) rfl rfl hE hp (v := (.int .i64 0)) (ex_asn rfl hE rfl) ?_
  intro a hE
  refine s_nil ?_
  refine k_seq ?_
  refine k_seq ?_
  refine k_region ?_
  refine s_val (wk0 rfl) rfl rfl hE hp (v := vp0) (ex_move rfl hE rfl) ?_
  intro a hE
  refine s_val (wk0 rfl) rfl rfl hE hp (v := (.int .i64 (p0.length : Int))) (ex_len rfl hE rfl (RoSl.len hp0 slty26)) ?_
  intro a hE
  refine s_val (wk0 rfl) rfl rfl hE hp (v := (.int .i64 0)) (ex_move rfl hE rfl) ?_
  intro a hE
  refine s_nil ?_
  obtain ⟨b1, hb1, hm⟩ := bnd hm
  refine k_block (fun a w => ∃ s : Unit, b1 = .brk s ∧ (Env 19 [] a ∧ Hp Z ρ (L) w)) ?_ ?_
  · refine k_loop hb1 (fun s a w => Env 19 [(0, vp0), (1, (.func (.func 50) #[] #[])), (7, (.int .i64 (p0.length : Int))), (8, (.int .i64 s))] a ∧ Hp Z ρ (L) w) ?_ ?_
    · exact ⟨hE.cut ⟨rfl, rfl, rfl, rfl, trivial⟩, hp⟩
    · rintro lp1_0 st a w ⟨hE, hp⟩ hl1
      have hE : Env 19 [(0, vp0), (1, (.func (.func 50) #[] #[])), (7, (.int .i64 (p0.length : Int))), (8, (.int .i64 lp1_0))] a := hE
      have hp : Hp Z ρ (L) w := hp
      replace hl1 : m_slices_IndexFunc_similarity_Overlaps_1_lp1 p0 lp1_0 = some st := hl1
      unfold m_slices_IndexFunc_similarity_Overlaps_1_lp1 at hl1
      refine k_seq ?_
      refine k_region ?_
      refine s_val (wk0 rfl) rfl rfl hE hp (v := (.bool (decide (lp1_0 < (p0.length : Int))))) (ex_lss rfl hE rfl rfl) ?_
      intro a hE
      refine s_nil ?_
      refine k_seq ?_
      refine k_if hE rfl (fun hb2 => ?_) (fun hb2 => ?_)
      · replace hl1 := (it hb2).symm.trans hl1
        refine k_skip ?_
        refine k_seq ?_
        refine k_plain ?_
        refine k_seq ?_
        refine k_region ?_
        refine s_val (wk0 rfl) rfl rfl hE hp (v := (.int .i64 lp1_0)) (ex_move rfl hE rfl) ?_
        intro a hE
        refine s_val (wk0 rfl) rfl rfl hE hp (v := (.int .i64 lp1_0)) (ex_asn rfl hE rfl) ?_
        intro a hE
        refine s_nil ?_
        refine k_seq ?_
        refine k_region ?_
        refine s_val (wk0 rfl) rfl rfl hE hp (v := (.func (.func 50) #[] #[])) (ex_move rfl hE rfl) ?_
        intro a hE
        refine s_val (wk0 rfl) rfl rfl hE hp (v := vp0) (ex_move rfl hE rfl) ?_
        intro a hE
        refine s_val (wk0 rfl) rfl rfl hE hp (v := (.int .i64 lp1_0)) (ex_move rfl hE rfl) ?_
        intro a hE
        obtain ⟨x1, ex1, hl1⟩ := bnd hl1
        obtain ⟨b2, b2o, b2c, b2r, b2k, b2f⟩ := RoSl.at hp0 slty26 ex1
        obtain rfl : b2c = Enc.enc x1 := b2k
        have b2f : AtP ρ b2 b2o [(.int .i64 x1.hash), (.int .i64 x1.at_)] := b2f
        refine s_val (wk0 rfl) rfl rfl hE hp (v := (.pointer (some ⟨b2, b2o, none⟩))) (ex_index rfl hE rfl rfl b2r) ?_
        intro a hE
        refine s_val (wk0 rfl) rfl rfl hE hp (v := (.agg #[(.int .i64 x1.hash), (.int .i64 x1.at_)])) (ex_load rfl hE rfl (fun w hw => run_ldN (cs := [(.int .i64 x1.hash), (.int .i64 x1.at_)]) varty65 (fun j u hj => cell_of hw.le (b2f j u hj)))) ?_
        intro a hE
        obtain ⟨x2, ex2, hl1⟩ := bnd hl1
        refine s_callv (wk0 rfl) rfl rfl hE rfl rfl [(.agg #[(.int .i64 x1.hash), (.int .i64 x1.at_)])] ⟨rfl, trivial⟩ ent50 (c_similarity_Overlaps_1 x1 hp x2 ex2) Ret.ret ?_
        intro v a w hR hE
        obtain ⟨rfl, hp⟩ := Ret.of hR
        have hp : Hp Z ρ (L) w := hp
        refine s_nil ?_
        have hE := hE.cut (E' := [(0, vp0), (1, (.func (.func 50) #[] #[])), (5, (.int .i64 lp1_0)), (7, (.int .i64 (p0.length : Int))), (8, (.int .i64 lp1_0)), (16, (.bool x2))]) ⟨rfl, rfl, rfl, rfl, rfl, rfl, trivial⟩
        refine k_if hE rfl (fun hb3 => ?_) (fun hb3 => ?_)
        · replace hl1 := (it hb3).symm.trans hl1
          refine k_seq ?_
          refine k_region ?_
          refine s_val (wk0 rfl) rfl rfl hE hp (v := (.int .i64 lp1_0)) (ex_move rfl hE rfl) ?_
          intro a hE
          refine s_val (wk0 rfl) rfl rfl hE hp (v := (.int .i64 lp1_0)) (ex_asn rfl hE rfl) ?_
          intro a hE
          refine s_nil ?_
          refine k_ret ?_
          refine ⟨_, (Option.some.inj hl1).symm, fun hb => ?_⟩
          subst hb
          obtain rfl := Option.some.inj hm
          exact ret1 hE rfl rfl ⟨_, rfl, rfl, hp⟩
        · replace hl1 := (ie hb3).symm.trans hl1
          refine k_skip ?_
          refine k_region ?_
          obtain ⟨x3, ex3, hl1⟩ := bnd hl1
          refine s_val (wk0 rfl) rfl rfl hE hp (v := (.int .i64 x3)) (ex_add rfl hE rfl rfl (inK_some ex3)) ?_
          intro a hE
          refine s_val (wk0 rfl) rfl rfl hE hp (v := (.int .i64 x3)) (ex_move rfl hE rfl) ?_
          intro a hE
          refine s_nil ?_
          exact ⟨_, (Option.some.inj hl1).symm, hE.cut ⟨rfl, rfl, rfl, rfl, trivial⟩, hp⟩
      · replace hl1 := (ie hb2).symm.trans hl1
        refine k_exit ?_
        refine ⟨_, (Option.some.inj hl1).symm, fun hbb => ?_⟩
        exact ⟨_, hbb.symm, hE.cut trivial, hp⟩
  · rintro a w ⟨b1s, rfl, hE, hp⟩
    dsimp only at hm
    refine k_seq ?_
    refine k_region ?_
    refine s_val (wk0 rfl) rfl rfl hE hp (v := (.int .i64 (-1))) (ex_asn rfl hE rfl) ?_
    intro a hE
    refine s_nil ?_
    refine k_ret ?_
    obtain rfl := Option.some.inj hm
    exact ret1 hE rfl rfl ⟨_, rfl, rfl, hp⟩
/- slices.ContainsFunc[[]assessor/api.Mark,assessor/api.Mark]@assessor/similarity.Overlaps$1 -/
set_option maxRecDepth 100000 in
set_option maxHeartbeats 4000000 in
theorem c_slices_ContainsFunc_similarity_Overlaps_1 {Z : World} {ρ : PH} {L : List Atom} {w : World} (p0 : (List Mark)) (vp0 : Value) (hp0 : RoSl ρ vp0 p0) (hp : Hp Z ρ (L) w) (r : Bool) (hm : m_slices_ContainsFunc_similarity_Overlaps_1 p0 = some r) :
    Calls Try.prog 51 #[vp0, (.func (.func 50) #[] #[])] w (Ret fun v w' => v = (.bool r) ∧ Hp Z ρ (L) w') := by
  refine enter (N := 9) Try.func51 rfl rfl [(0, vp0), (1, (.func (.func 50) #[] #[]))] rfl (argsIn_mem ⟨rfl, rfl, trivial⟩) fun a hE => ?_
  unfold m_slices_ContainsFunc_similarity_Overlaps_1 at hm
  refine k_seq ?_
  refine k_region ?_
  refine s_val (wk0 rfl) rfl rfl hE hp (v := (.bool false)) (ex_asn rfl hE rfl) ?_
  intro a hE
  refine s_nil ?_
  refine k_seq ?_
  refine k_region ?_
  refine s_val (wk0 rfl) rfl rfl hE hp (v := vp0) (ex_move rfl hE rfl) ?_
  intro a hE
  refine s_val (wk0 rfl) rfl rfl hE hp (v := (.func (.func 50) #[] #[])) (ex_move rfl hE rfl) ?_
  intro a hE
  obtain ⟨x1, ex1, hm⟩ := bnd hm
  refine s_call (wk0 rfl) rfl rfl hE rfl [vp0, (.func (.func 50) #[] #[])] ⟨rfl, rfl, trivial⟩ ent61 (c_slices_IndexFunc_similarity_Overlaps_1 p0 vp0 hp0 hp x1 ex1) Ret.ret ?_
  intro v a w hR hE
  obtain ⟨rfl, hp⟩ := Ret.of hR
  have hp : Hp Z ρ (L) w := hp
  refine s_val (wk0 rfl) rfl rfl hE hp (v := (.bool (decide (0 ≤ x1)))) (ex_geq rfl hE rfl rfl) ?_
  intro a hE
  refine s_val (wk0 rfl) rfl rfl hE hp (v := (.bool (decide (0 ≤ x1)))) (ex_asn rfl hE rfl) ?_
  intro a hE
  refine s_nil ?_
  refine k_ret ?_
  obtain rfl := Option.some.inj hm
  exact ret1 hE rfl rfl ⟨_, rfl, rfl, hp⟩
/- assessor/similarity.Overlaps -/
set_option maxRecDepth 100000 in
set_option maxHeartbeats 4000000 in
theorem c_similarity_Overlaps {Z : World} {ρ : PH} {L : List Atom} {w : World} (p0 : (List Mark)) (vp0 : Value) (hp0 : RoSl ρ vp0 p0) (p1 : (List Mark)) (vp1 : Value) (hp1 : RoSl ρ vp1 p1) (p2 : Int) (hp : Hp Z ρ (L) w) (r : ((List Overlap) × Int)) (hm : m_similarity_Overlaps p0 p1 p2 = some r) :
    Calls Try.prog 29 #[vp0, vp1, (.int .i64 p2)] w (Ret fun v w' => ∃ (ρ' : PH) (vr1 : Value), ρ.le ρ' ∧ v = .tuple #[vr1, (.int .i64 r.2)] ∧ RoSl ρ' vr1 r.1 ∧ Hp Z ρ' (L) w') := by
  refine enter (N := 101) Try.func29 rfl rfl [(0, vp0), (1, vp1), (2, (.int .i64 p2))] rfl (argsIn_mem ⟨rfl, rfl, rfl, trivial⟩) fun a hE => ?_
  unfold m_similarity_Overlaps at hm
  refine k_seq ?_
  refine k_region ?_
  refine s_val (wk0 rfl) rfl rfl hE hp (v := (.slice none 0 0)) (ex_asn rfl hE rfl) ?_
  intro a hE
  refine s_val (wk0 rfl) rfl rfl hE hp (v := (.int .i64 0)) (ex_asn rfl hE rfl) ?_
  intro a hE
  refine s_nil ?_
  refine k_seq ?_
  refine k_region ?_
  refine s_val (wk0 rfl) rfl rfl hE hp (v := (.func (.func 50) #[] #[])) (ex_asn rfl hE rfl) ?_
  intro a hE
  refine s_nil ?_
  refine k_seq ?_
  refine k_plain ?_
  refine k_seq ?_
  refine k_region ?_
  refine s_val (wk0 rfl) rfl rfl hE hp (v := (.int .i64 p2)) (ex_move rfl hE rfl) ?_
  intro a hE
  refine s_val (wk0 rfl) rfl rfl hE hp (v := (.bool (decide (p2 < 1)))) (ex_lss rfl hE rfl rfl) ?_
  intro a hE
  refine s_val (wk0 rfl) rfl rfl hE hp (v := (.bool (decide (p2 < 1)))) (ex_move rfl hE rfl) ?_
  intro a hE
  refine s_cut [_, _, _] (fun a w => Env 101 [(21, (.bool ((decide (p2 < 1)) || (decide (64 < p2))))), (0, vp0), (1, vp1), (2, (.int .i64 p2)), (8, (.func (.func 50) #[] #[]))] a ∧ Hp Z ρ (L) w) ?_ ?_
  · rcases Bool.eq_false_or_eq_true (decide (p2 < 1)) with hb1 | hb1
    ·
      refine s_skip (wk2 hE rfl rfl rfl hb1) rfl rfl hE ?_
      intro a hE
      refine s_skip (wk2 hE rfl rfl rfl hb1) rfl rfl hE ?_
      intro a hE
      refine s_val (wk0 rfl) rfl rfl hE hp (v := (.bool true)) (ex_pick1 rfl hE rfl hb1 rfl) ?_
      intro a hE
      have hE := hE.eqv (v' := (.bool ((decide (p2 < 1)) || (decide (64 < p2))))) (by rw [hb1]; rfl)
      exact s_nil ⟨hE.cut ⟨rfl, rfl, rfl, rfl, rfl, trivial⟩, hp⟩
    ·
      refine s_val (wk1 hE rfl rfl rfl hb1) rfl rfl hE hp (v := (.int .i64 p2)) (ex_move rfl hE rfl) ?_
      intro a hE
      refine s_val (wk1 hE rfl rfl rfl hb1) rfl rfl hE hp (v := (.bool (decide (64 < p2)))) (ex_gtr rfl hE rfl rfl) ?_
      intro a hE
      refine s_val (wk0 rfl) rfl rfl hE hp (v := (.bool (decide (64 < p2)))) (ex_pick0 rfl hE rfl hb1 rfl) ?_
      intro a hE
      have hE := hE.eqv (v' := (.bool ((decide (p2 < 1)) || (decide (64 < p2))))) (by rw [hb1]; rfl)
      exact s_nil ⟨hE.cut ⟨rfl, rfl, rfl, rfl, rfl, trivial⟩, hp⟩
  · rintro a w ⟨hE, hp⟩
    refine s_val (wk0 rfl) rfl rfl hE hp (v := (.bool ((decide (p2 < 1)) || (decide (64 < p2))))) (ex_move rfl hE rfl) ?_
    intro a hE
    obtain ⟨m1, hg1, hm⟩ := bnd hm
    refine s_cut [_, _, _, _] (fun a w => Env 101 [(26, (.bool m1)), (0, vp0), (1, vp1), (2, (.int .i64 p2)), (8, (.func (.func 50) #[] #[]))] a ∧ Hp Z ρ (L) w) ?_ ?_
    · rcases Bool.eq_false_or_eq_true ((decide (p2 < 1)) || (decide (64 < p2))) with hb2 | hb2
      ·
        replace hg1 := (it hb2).symm.trans hg1
        refine s_skip (wk2 hE rfl rfl rfl hb2) rfl rfl hE ?_
        intro a hE
        refine s_skip (wk2 hE rfl rfl rfl hb2) rfl rfl hE ?_
        intro a hE
        refine s_skip (wk2 hE rfl rfl rfl hb2) rfl rfl hE ?_
        intro a hE
        refine s_val (wk0 rfl) rfl rfl hE hp (v := (.bool true)) (ex_pick1 rfl hE rfl hb2 rfl) ?_
        intro a hE
        obtain rfl := Option.some.inj hg1
        exact s_nil ⟨hE.cut ⟨rfl, rfl, rfl, rfl, rfl, trivial⟩, hp⟩
      ·
        replace hg1 := (ie hb2).symm.trans hg1
        refine s_val (wk1 hE rfl rfl rfl hb2) rfl rfl hE hp (v := vp0) (ex_move rfl hE rfl) ?_
        intro a hE
        refine s_val (wk1 hE rfl rfl rfl hb2) rfl rfl hE hp (v := (.func (.func 50) #[] #[])) (ex_move rfl hE rfl) ?_
        intro a hE
        obtain ⟨x1, ex1, hg1⟩ := bnd hg1
        refine s_call (wk1 hE rfl rfl rfl hb2) rfl rfl hE rfl [vp0, (.func (.func 50) #[] #[])] ⟨rfl, rfl, trivial⟩ ent51 (c_slices_ContainsFunc_similarity_Overlaps_1 p0 vp0 hp0 hp x1 ex1) Ret.ret ?_
        intro v a w hR hE
        obtain ⟨rfl, hp⟩ := Ret.of hR
        have hp : Hp Z ρ (L) w := hp
        refine s_val (wk0 rfl) rfl rfl hE hp (v := (.bool x1)) (ex_pick0 rfl hE rfl hb2 rfl) ?_
        intro a hE
        obtain rfl := Option.some.inj hg1
        exact s_nil ⟨hE.cut ⟨rfl, rfl, rfl, rfl, rfl, trivial⟩, hp⟩
    · rintro a w ⟨hE, hp⟩
      refine s_val (wk0 rfl) rfl rfl hE hp (v := (.bool m1)) (ex_move rfl hE rfl) ?_
      intro a hE
      obtain ⟨m2, hg2, hm⟩ := bnd hm
      refine s_cut [_, _, _, _] (fun a w => Env 101 [(31, (.bool m2)), (0, vp0), (1, vp1), (2, (.int .i64 p2))] a ∧ Hp Z ρ (L) w) ?_ ?_
      · rcases Bool.eq_false_or_eq_true m1 with hb3 | hb3
        ·
          replace hg2 := (it hb3).symm.trans hg2
          refine s_skip (wk2 hE rfl rfl rfl hb3) rfl rfl hE ?_
          intro a hE
          refine s_skip (wk2 hE rfl rfl rfl hb3) rfl rfl hE ?_
          intro a hE
          refine s_skip (wk2 hE rfl rfl rfl hb3) rfl rfl hE ?_
          intro a hE
          refine s_val (wk0 rfl) rfl rfl hE hp (v := (.bool true)) (ex_pick1 rfl hE rfl hb3 rfl) ?_
          intro a hE
          obtain rfl := Option.some.inj hg2
          exact s_nil ⟨hE.cut ⟨rfl, rfl, rfl, rfl, trivial⟩, hp⟩
        ·
          replace hg2 := (ie hb3).symm.trans hg2
          refine s_val (wk1 hE rfl rfl rfl hb3) rfl rfl hE hp (v := vp1) (ex_move rfl hE rfl) ?_
          intro a hE
          refine s_val (wk1 hE rfl rfl rfl hb3) rfl rfl hE hp (v := (.func (.func 50) #[] #[])) (ex_move rfl hE rfl) ?_
          intro a hE
          obtain ⟨x2, ex2, hg2⟩ := bnd hg2
          refine s_call (wk1 hE rfl rfl rfl hb3) rfl rfl hE rfl [vp1, (.func (.func 50) #[] #[])] ⟨rfl, rfl, trivial⟩ ent51 (c_slices_ContainsFunc_similarity_Overlaps_1 p1 vp1 hp1 hp x2 ex2) Ret.ret ?_
          intro v a w hR hE
          obtain ⟨rfl, hp⟩ := Ret.of hR
          have hp : Hp Z ρ (L) w := hp
          refine s_val (wk0 rfl) rfl rfl hE hp (v := (.bool x2)) (ex_pick0 rfl hE rfl hb3 rfl) ?_
          intro a hE
          obtain rfl := Option.some.inj hg2
          exact s_nil ⟨hE.cut ⟨rfl, rfl, rfl, rfl, trivial⟩, hp⟩
      · rintro a w ⟨hE, hp⟩
        refine s_val (wk0 rfl) rfl rfl hE hp (v := (.bool m2)) (ex_asn rfl hE rfl) ?_
        intro a hE
        refine s_nil ?_
        refine k_if hE rfl (fun hb4 => ?_) (fun hb4 => ?_)
        · replace hm := (it hb4).symm.trans hm
          refine k_seq ?_
          refine k_region ?_
          refine s_val (wk0 rfl) rfl rfl hE hp (v := (.slice none 0 0)) (ex_asn rfl hE rfl) ?_
          intro a hE
          refine s_val (wk0 rfl) rfl rfl hE hp (v := (.int .i64 2)) (ex_asn rfl hE rfl) ?_
          intro a hE
          refine s_nil ?_
          refine k_ret ?_
          obtain rfl := Option.some.inj hm
          exact ret2 hE rfl rfl rfl ⟨_, rfl, _, _, (PH.le.rf _), rfl, (RoSl.nil _), hp⟩
        · replace hm := (ie hb4).symm.trans hm
          refine k_seq ?_
          refine k_region ?_
          refine s_val (wk0 rfl) rfl rfl hE hp (v := vp0) (ex_move rfl hE rfl) ?_
          intro a hE
          refine s_val (wk0 rfl) rfl rfl hE hp (v := (.int .i64 (p0.length : Int))) (ex_len rfl hE rfl (RoSl.len hp0 slty26)) ?_
          intro a hE
          refine s_val (wk0 rfl) rfl rfl hE hp (v := (.bool (decide (256 < (p0.length : Int))))) (ex_gtr rfl hE rfl rfl) ?_
          intro a hE
          refine s_val (wk0 rfl) rfl rfl hE hp (v := (.bool (decide (256 < (p0.length : Int))))) (ex_move rfl hE rfl) ?_
          intro a hE
          refine s_cut [_, _, _, _] (fun a w => Env 101 [(40, (.bool ((decide (256 < (p0.length : Int))) || (decide (256 < (p1.length : Int)))))), (0, vp0), (1, vp1), (2, (.int .i64 p2))] a ∧ Hp Z ρ (L) w) ?_ ?_
          · rcases Bool.eq_false_or_eq_true (decide (256 < (p0.length : Int))) with hb5 | hb5
            ·
              refine s_skip (wk2 hE rfl rfl rfl hb5) rfl rfl hE ?_
              intro a hE
              refine s_skip (wk2 hE rfl rfl rfl hb5) rfl rfl hE ?_
              intro a hE
              refine s_skip (wk2 hE rfl rfl rfl hb5) rfl rfl hE ?_
              intro a hE
              refine s_val (wk0 rfl) rfl rfl hE hp (v := (.bool true)) (ex_pick1 rfl hE rfl hb5 rfl) ?_
              intro a hE
              have hE := hE.eqv (v' := (.bool ((decide (256 < (p0.length : Int))) || (decide (256 < (p1.length : Int)))))) (by rw [hb5]; rfl)
              exact s_nil ⟨hE.cut ⟨rfl, rfl, rfl, rfl, trivial⟩, hp⟩
            ·
              refine s_val (wk1 hE rfl rfl rfl hb5) rfl rfl hE hp (v := vp1) (ex_move rfl hE rfl) ?_
              intro a hE
              refine s_val (wk1 hE rfl rfl rfl hb5) rfl rfl hE hp (v := (.int .i64 (p1.length : Int))) (ex_len rfl hE rfl (RoSl.len hp1 slty26)) ?_
              intro a hE
              refine s_val (wk1 hE rfl rfl rfl hb5) rfl rfl hE hp (v := (.bool (decide (256 < (p1.length : Int))))) (ex_gtr rfl hE rfl rfl) ?_
              intro a hE
              refine s_val (wk0 rfl) rfl rfl hE hp (v := (.bool (decide (256 < (p1.length : Int))))) (ex_pick0 rfl hE rfl hb5 rfl) ?_
              intro a hE
              have hE := hE.eqv (v' := (.bool ((decide (256 < (p0.length : Int))) || (decide (256 < (p1.length : Int)))))) (by rw [hb5]; rfl)
              exact s_nil ⟨hE.cut ⟨rfl, rfl, rfl, rfl, trivial⟩, hp⟩
          · rintro a w ⟨hE, hp⟩
            refine s_val (wk0 rfl) rfl rfl hE hp (v := (.bool ((decide (256 < (p0.length : Int))) || (decide (256 < (p1.length : Int)))))) (ex_asn rfl hE rfl) ?_
            intro a hE
            refine s_nil ?_
            refine k_if hE rfl (fun hb6 => ?_) (fun hb6 => ?_)
            · replace hm := (it hb6).symm.trans hm
              refine k_seq ?_
              refine k_region ?_
              refine s_val (wk0 rfl) rfl rfl hE hp (v := (.slice none 0 0)) (ex_asn rfl hE rfl) ?_
              intro a hE
              refine s_val (wk0 rfl) rfl rfl hE hp (v := (.int .i64 8)) (ex_asn rfl hE rfl) ?_
              intro a hE
              refine s_nil ?_
              refine k_ret ?_
              obtain rfl := Option.some.inj hm
              exact ret2 hE rfl rfl rfl ⟨_, rfl, _, _, (PH.le.rf _), rfl, (RoSl.nil _), hp⟩
            · replace hm := (ie hb6).symm.trans hm
              refine k_skip ?_
              refine k_seq ?_
              refine k_region ?_
              refine s_val (wk0 rfl) rfl rfl hE hp (v := (.slice none 0 0)) (ex_asn rfl hE rfl) ?_
              intro a hE
              refine s_nil ?_
              refine k_seq ?_
              refine k_seq ?_
              refine k_region ?_
              refine s_val (wk0 rfl) rfl rfl hE hp (v := vp0) (ex_move rfl hE rfl) ?_
              intro a hE
              refine s_val (wk0 rfl) rfl rfl hE hp (v := vp1) (ex_move rfl hE rfl) ?_
              intro a hE
              obtain ⟨x3, ex3, hm⟩ := bnd hm
              refine s_call (wk0 rfl) rfl rfl hE rfl [vp0, vp1] ⟨rfl, rfl, trivial⟩ ent52 (c_similarity_diagonals p0 vp0 hp0 p1 vp1 hp1 hp x3 ex3) Ret.ret ?_
              intro v a w hR hE
              obtain ⟨br3, umr3, rfl, hp⟩ := Ret.of hR
              have hp : Hp Z ρ (MapA br3 (umr3 : List (Int × Sl)) :: RowsM 3 (umr3 : List (Int × Sl)) (x3 : List (Int × List Int)) :: L) w := hp
              obtain ⟨k1, k1a, k1d, hp⟩ := (hp.get 1 rfl).lend
              have f1 : RowsRo (ρ.un k1) umr3 (x3 : List (Int × List Int)) := RowsM.ro k1d k1a
              have hp : Hp Z (ρ.un k1) (_ :: L) w := hp
              refine s_range mapty85 (wk0 rfl) rfl rfl hE (hp.get 0 rfl) rfl rfl ?_
              intro a w b1 hE hp
              have hp : Hp Z (ρ.un k1) (MapIt br3 b1 (umr3 : List (Int × Sl)) umr3 none :: L) w := hp
              refine s_nil ?_
              have hp := hp.emp (OwnSl.nil (α := Overlap) 63)
              have hp : Hp Z (ρ.un k1) (OwnSl 63 (.slice none 0 0) ([] : List Overlap) :: _ :: L) w := hp
              have hb8 := permM_keys f1.1 hm
              refine k_block (fun a w => ∃ s : (List Overlap), m_similarity_Overlaps_lp1t  s = some r ∧ (∃ (w13 : Value), Env 101 [(9, w13)] a ∧ Hp Z (ρ.un k1) (OwnSl 63 w13 s :: MapA br3 (umr3 : List (Int × Sl)) :: L) w)) ?_ ?_
              · refine k_loopP hb8 (fun rem1 s a w => ∃ (w13 : Value), Env 101 [(2, (.int .i64 p2)), (9, w13), (44, (.pointer (some ⟨b1, 0, none⟩)))] a ∧ Hp Z (ρ.un k1) (OwnSl 63 w13 s :: MapIt br3 b1 (umr3 : List (Int × Sl)) rem1 none :: L) w) ?_ ?_
                · exact ⟨_, hE.cut ⟨rfl, rfl, rfl, trivial⟩, hp⟩
                · rintro rem1 lp1_0 a w ⟨w13, hE, hp⟩ hf1
                  have hE : Env 101 [(2, (.int .i64 p2)), (9, w13), (44, (.pointer (some ⟨b1, 0, none⟩)))] a := hE
                  have hp : Hp Z (ρ.un k1) (OwnSl 63 w13 lp1_0 :: MapIt br3 b1 (umr3 : List (Int × Sl)) rem1 none :: L) w := hp
                  refine k_seq ?_
                  refine k_region ?_
                  have hs1 := MapIt.sub (hp.get 1 rfl)
                  refine s_next (wk0 rfl) rfl rfl hE (hp.get 1 rfl) rfl rfl ?_ ?_
                  · intro hrem a hE
                    subst hrem
                    have hn1 := foldP_end hf1
                    try dsimp only at hn1
                    refine s_val (wk0 rfl) rfl rfl hE hp (v := (.bool false)) (ex_extract rfl hE rfl rfl) ?_
                    intro a hE
                    refine s_nil ?_
                    refine k_seq ?_
                    refine k_if hE rfl (fun hb => absurd hb (by decide)) (fun hb => ?_)
                    refine k_exit ?_
                    have hp := MapIt.done (hp.get 1 rfl)
                    exact ⟨_, hn1, _, hE.cut ⟨rfl, trivial⟩, ((hp.get 0 rfl).get 1 rfl)⟩
                  · rintro ⟨en1, en1u⟩ rem1' hperm hl1l a w hE hp
                    have f2 := RowsRo.at_ f1 (mem_of_perm hs1 hperm)
                    have hE := hE.eqv (v' := (.tuple #[(.bool true), (.int .i64 en1), (Sl.v en1u)])) rfl
                    have hp : Hp Z (ρ.un k1) (MapIt br3 b1 (umr3 : List (Int × Sl)) rem1' (some (en1, en1u)) :: _ :: L) w := hp
                    obtain ⟨st, hl1, hl1s⟩ := foldP_more hf1 hperm
                    replace hl1 : m_similarity_Overlaps_lp1 p2 x3 en1 lp1_0 = some st := hl1
                    unfold m_similarity_Overlaps_lp1 at hl1
                    refine s_val (wk0 rfl) rfl rfl hE hp (v := (.bool true)) (ex_extract rfl hE rfl rfl) ?_
                    intro a hE
                    refine s_nil ?_
                    refine k_seq ?_
                    refine k_if hE rfl (fun hb => ?_) (fun hb => absurd hb (by decide))
                    refine k_skip ?_
                    refine k_plain ?_
                    refine k_seq ?_
                    refine k_region ?_
                    refine s_val (wk0 rfl) rfl rfl hE hp (v := (.tuple #[(.int .i64 en1), (Sl.v en1u)])) (ex_entry (c := (en1, en1u)) rfl hE 0 rfl rfl) ?_
                    intro a hE
                    refine s_val (wk0 rfl) rfl rfl hE hp (v := (.int .i64 en1)) (ex_extract rfl hE rfl rfl) ?_
                    intro a hE
                    refine s_val (wk0 rfl) rfl rfl hE hp (v := (Sl.v en1u)) (ex_extract rfl hE rfl rfl) ?_
                    intro a hE
                    refine s_val (wk0 rfl) rfl rfl hE hp (v := (.int .i64 en1)) (ex_asn rfl hE rfl) ?_
                    intro a hE
                    refine s_val (wk0 rfl) rfl rfl hE hp (v := (Sl.v en1u)) (ex_asn rfl hE rfl) ?_
                    intro a hE
                    refine s_nil ?_
                    refine k_seq ?_
                    refine k_region ?_
                    refine s_val (wk0 rfl) rfl rfl hE hp (v := (.int .i64 0)) (ex_asn rfl hE rfl) ?_
                    intro a hE
                    refine s_nil ?_
                    refine k_seq ?_
                    refine k_region ?_
                    refine s_val (wk0 rfl) rfl rfl hE hp (v := (Sl.v en1u)) (ex_move rfl hE rfl) ?_
                    intro a hE
                    refine s_val (wk0 rfl) rfl rfl hE hp (v := (.int .i64 (((mget (x3 : List (Int × (List Int))) en1).getD []).length : Int))) (ex_len rfl hE rfl (RoSl.len f2 slty23)) ?_
                    intro a hE
                    refine s_val (wk0 rfl) rfl rfl hE hp (v := (.int .i64 0)) (ex_move rfl hE rfl) ?_
                    intro a hE
                    refine s_nil ?_
                    have hE := hE.cut (E' := [(2, (.int .i64 p2)), (9, w13), (10, (.int .i64 en1)), (11, (Sl.v en1u)), (12, (.int .i64 0)), (44, (.pointer (some ⟨b1, 0, none⟩))), (50, (Sl.v en1u)), (51, (.int .i64 (((mget (x3 : List (Int × (List Int))) en1).getD []).length : Int))), (52, (.int .i64 0))]) ⟨rfl, rfl, rfl, rfl, rfl, rfl, rfl, rfl, rfl, trivial⟩
                    obtain ⟨b3, hb9, hl1⟩ := bnd hl1
                    refine k_block (fun a w => ∃ (w13 : Value), Env 101 [(2, (.int .i64 p2)), (9, w13), (44, (.pointer (some ⟨b1, 0, none⟩)))] a ∧ Hp Z (ρ.un k1) (MapIt br3 b1 (umr3 : List (Int × Sl)) rem1' (some (en1, en1u)) :: OwnSl 63 w13 b3 :: L) w) ?_ ?_
                    · refine k_loop hb9 (fun s a w => ∃ (w13 : Value), Env 101 [(2, (.int .i64 p2)), (9, w13), (10, (.int .i64 en1)), (11, (Sl.v en1u)), (12, (.int .i64 s.1)), (44, (.pointer (some ⟨b1, 0, none⟩))), (50, (Sl.v en1u)), (51, (.int .i64 (((mget (x3 : List (Int × (List Int))) en1).getD []).length : Int))), (52, (.int .i64 s.2.1))] a ∧ Hp Z (ρ.un k1) (MapIt br3 b1 (umr3 : List (Int × Sl)) rem1' (some (en1, en1u)) :: OwnSl 63 w13 s.2.2 :: L) w) ?_ ?_
                      · exact ⟨_, hE.cut ⟨rfl, rfl, rfl, rfl, rfl, rfl, rfl, rfl, rfl, trivial⟩, hp⟩
                      · rintro ⟨lp2_0, lp2_1, lp2_2⟩ st a w ⟨w13, hE, hp⟩ hl2
                        have hE : Env 101 [(2, (.int .i64 p2)), (9, w13), (10, (.int .i64 en1)), (11, (Sl.v en1u)), (12, (.int .i64 lp2_0)), (44, (.pointer (some ⟨b1, 0, none⟩))), (50, (Sl.v en1u)), (51, (.int .i64 (((mget (x3 : List (Int × (List Int))) en1).getD []).length : Int))), (52, (.int .i64 lp2_1))] a := hE
                        have hp : Hp Z (ρ.un k1) (_ :: OwnSl 63 w13 lp2_2 :: L) w := hp
                        replace hl2 : m_similarity_Overlaps_lp2 p2 x3 en1 lp2_0 lp2_1 lp2_2 = some st := hl2
                        unfold m_similarity_Overlaps_lp2 at hl2
                        refine k_seq ?_
                        refine k_region ?_
                        refine s_val (wk0 rfl) rfl rfl hE hp (v := (.bool (decide (lp2_1 < (((mget (x3 : List (Int × (List Int))) en1).getD []).length : Int))))) (ex_lss rfl hE rfl rfl) ?_
                        intro a hE
                        refine s_nil ?_
                        refine k_seq ?_
                        refine k_if hE rfl (fun hb10 => ?_) (fun hb10 => ?_)
                        · replace hl2 := (it hb10).symm.trans hl2
                          refine k_skip ?_
                          refine k_seq ?_
                          obtain ⟨j1, hj1, hl2⟩ := bnd hl2
                          refine k_block (fun a w => ∃ (w13 : Value), Env 101 [(2, (.int .i64 p2)), (9, w13), (10, (.int .i64 en1)), (11, (Sl.v en1u)), (12, (.int .i64 j1.1)), (44, (.pointer (some ⟨b1, 0, none⟩))), (50, (Sl.v en1u)), (51, (.int .i64 (((mget (x3 : List (Int × (List Int))) en1).getD []).length : Int))), (52, (.int .i64 lp2_1))] a ∧ Hp Z (ρ.un k1) (MapIt br3 b1 (umr3 : List (Int × Sl)) rem1' (some (en1, en1u)) :: OwnSl 63 w13 j1.2 :: L) w) ?_ ?_
                          ·
                            refine k_seq ?_
                            refine k_region ?_
                            refine s_val (wk0 rfl) rfl rfl hE hp (v := (.int .i64 lp2_1)) (ex_move rfl hE rfl) ?_
                            intro a hE
                            obtain ⟨x4, ex4, hj1⟩ := bnd hj1
                            obtain ⟨b4, b4o, b4c, b4r, b4k, b4f⟩ := RoSl.at f2 slty23 ex4
                            obtain rfl : b4c = Enc.enc x4 := b4k
                            have b4f : AtP (ρ.un k1) b4 b4o [(.int .i64 x4)] := b4f
                            refine s_val (wk0 rfl) rfl rfl hE hp (v := (.pointer (some ⟨b4, b4o, none⟩))) (ex_index rfl hE rfl rfl b4r) ?_
                            intro a hE
                            refine s_val (wk0 rfl) rfl rfl hE hp (v := (.int .i64 x4)) (ex_load rfl hE rfl (fun w hw => run_ld1 varty3 (b4f.c 0 rfl w hw))) ?_
                            intro a hE
                            refine s_val (wk0 rfl) rfl rfl hE hp (v := (.int .i64 lp2_1)) (ex_asn rfl hE rfl) ?_
                            intro a hE
                            refine s_val (wk0 rfl) rfl rfl hE hp (v := (.int .i64 x4)) (ex_asn rfl hE rfl) ?_
                            intro a hE
                            refine s_nil ?_
                            refine k_seq ?_
                            refine k_seq ?_
                            refine k_region ?_
                            refine s_val (wk0 rfl) rfl rfl hE hp (v := (.int .i64 lp2_1)) (ex_move rfl hE rfl) ?_
                            intro a hE
                            obtain ⟨x5, ex5, hj1⟩ := bnd hj1
                            refine s_val (wk0 rfl) rfl rfl hE hp (v := (.int .i64 x5)) (ex_add rfl hE rfl rfl (inK_some ex5)) ?_
                            intro a hE
                            refine s_val (wk0 rfl) rfl rfl hE hp (v := (Sl.v en1u)) (ex_move rfl hE rfl) ?_
                            intro a hE
                            refine s_val (wk0 rfl) rfl rfl hE hp (v := (.int .i64 (((mget (x3 : List (Int × (List Int))) en1).getD []).length : Int))) (ex_len rfl hE rfl (RoSl.len f2 slty23)) ?_
                            intro a hE
                            refine s_val (wk0 rfl) rfl rfl hE hp (v := (.bool (decide (x5 < (((mget (x3 : List (Int × (List Int))) en1).getD []).length : Int))))) (ex_lss rfl hE rfl rfl) ?_
                            intro a hE
                            refine s_val (wk0 rfl) rfl rfl hE hp (v := (.bool (decide (x5 < (((mget (x3 : List (Int × (List Int))) en1).getD []).length : Int))))) (ex_move rfl hE rfl) ?_
                            intro a hE
                            obtain ⟨m3, hg3, hj1⟩ := bnd hj1
                            refine s_cut [_, _, _, _, _, _, _, _, _, _] (fun a w => Env 101 [(72, (.bool m3)), (2, (.int .i64 p2)), (9, w13), (10, (.int .i64 en1)), (11, (Sl.v en1u)), (12, (.int .i64 lp2_0)), (13, (.int .i64 lp2_1)), (14, (.int .i64 x4)), (44, (.pointer (some ⟨b1, 0, none⟩))), (50, (Sl.v en1u)), (51, (.int .i64 (((mget (x3 : List (Int × (List Int))) en1).getD []).length : Int))), (52, (.int .i64 lp2_1))] a ∧ Hp Z (ρ.un k1) (MapIt br3 b1 (umr3 : List (Int × Sl)) rem1' (some (en1, en1u)) :: OwnSl 63 w13 lp2_2 :: L) w) ?_ ?_
                            · rcases Bool.eq_false_or_eq_true (decide (x5 < (((mget (x3 : List (Int × (List Int))) en1).getD []).length : Int))) with hb11 | hb11
                              ·
                                replace hg3 := (it hb11).symm.trans hg3
                                refine s_val (wk1 hE rfl rfl rfl hb11) rfl rfl hE hp (v := (Sl.v en1u)) (ex_move rfl hE rfl) ?_
                                intro a hE
                                refine s_val (wk1 hE rfl rfl rfl hb11) rfl rfl hE hp (v := (.int .i64 lp2_1)) (ex_move rfl hE rfl) ?_
                                intro a hE
                                obtain ⟨x6, ex6, hg3⟩ := bnd hg3
                                refine s_val (wk1 hE rfl rfl rfl hb11) rfl rfl hE hp (v := (.int .i64 x6)) (ex_add rfl hE rfl rfl (inK_some ex6)) ?_
                                intro a hE
                                obtain ⟨x7, ex7, hg3⟩ := bnd hg3
                                obtain ⟨b5, b5o, b5c, b5r, b5k, b5f⟩ := RoSl.at f2 slty23 ex7
                                obtain rfl : b5c = Enc.enc x7 := b5k
                                have b5f : AtP (ρ.un k1) b5 b5o [(.int .i64 x7)] := b5f
                                refine s_val (wk1 hE rfl rfl rfl hb11) rfl rfl hE hp (v := (.pointer (some ⟨b5, b5o, none⟩))) (ex_index rfl hE rfl rfl b5r) ?_
                                intro a hE
                                refine s_val (wk1 hE rfl rfl rfl hb11) rfl rfl hE hp (v := (.int .i64 x7)) (ex_load rfl hE rfl (fun w hw => run_ld1 varty3 (b5f.c 0 rfl w hw))) ?_
                                intro a hE
                                refine s_val (wk1 hE rfl rfl rfl hb11) rfl rfl hE hp (v := (.int .i64 x4)) (ex_move rfl hE rfl) ?_
                                intro a hE
                                refine s_val (wk1 hE rfl rfl rfl hb11) rfl rfl hE hp (v := (.int .i64 p2)) (ex_move rfl hE rfl) ?_
                                intro a hE
                                obtain ⟨x8, ex8, hg3⟩ := bnd hg3
                                refine s_val (wk1 hE rfl rfl rfl hb11) rfl rfl hE hp (v := (.int .i64 x8)) (ex_add rfl hE rfl rfl (inK_some ex8)) ?_
                                intro a hE
                                refine s_val (wk1 hE rfl rfl rfl hb11) rfl rfl hE hp (v := (.bool (decide (x7 ≤ x8)))) (ex_leq rfl hE rfl rfl) ?_
                                intro a hE
                                refine s_val (wk0 rfl) rfl rfl hE hp (v := (.bool (decide (x7 ≤ x8)))) (ex_pick1 rfl hE rfl hb11 rfl) ?_
                                intro a hE
                                obtain rfl := Option.some.inj hg3
                                exact s_nil ⟨hE.cut ⟨rfl, rfl, rfl, rfl, rfl, rfl, rfl, rfl, rfl, rfl, rfl, rfl, trivial⟩, hp⟩
                              ·
                                replace hg3 := (ie hb11).symm.trans hg3
                                refine s_skip (wk2 hE rfl rfl rfl hb11) rfl rfl hE ?_
                                intro a hE
                                refine s_skip (wk2 hE rfl rfl rfl hb11) rfl rfl hE ?_
                                intro a hE
                                refine s_skip (wk2 hE rfl rfl rfl hb11) rfl rfl hE ?_
                                intro a hE
                                refine s_skip (wk2 hE rfl rfl rfl hb11) rfl rfl hE ?_
                                intro a hE
                                refine s_skip (wk2 hE rfl rfl rfl hb11) rfl rfl hE ?_
                                intro a hE
                                refine s_skip (wk2 hE rfl rfl rfl hb11) rfl rfl hE ?_
                                intro a hE
                                refine s_skip (wk2 hE rfl rfl rfl hb11) rfl rfl hE ?_
                                intro a hE
                                refine s_skip (wk2 hE rfl rfl rfl hb11) rfl rfl hE ?_
                                intro a hE
                                refine s_skip (wk2 hE rfl rfl rfl hb11) rfl rfl hE ?_
                                intro a hE
                                refine s_val (wk0 rfl) rfl rfl hE hp (v := (.bool false)) (ex_pick0 rfl hE rfl hb11 rfl) ?_
                                intro a hE
                                obtain rfl := Option.some.inj hg3
                                exact s_nil ⟨hE.cut ⟨rfl, rfl, rfl, rfl, rfl, rfl, rfl, rfl, rfl, rfl, rfl, rfl, trivial⟩, hp⟩
                            · rintro a w ⟨hE, hp⟩
                              refine s_nil ?_
                              refine k_if hE rfl (fun hb12 => ?_) (fun hb12 => ?_)
                              · replace hj1 := (it hb12).symm.trans hj1
                                refine k_exit ?_
                                obtain rfl := Option.some.inj hj1
                                exact ⟨_, hE.cut ⟨rfl, rfl, rfl, rfl, rfl, rfl, rfl, rfl, rfl, trivial⟩, hp⟩
                              · replace hj1 := (ie hb12).symm.trans hj1
                                refine k_skip ?_
                                refine k_seq ?_
                                obtain ⟨x9, ex9, hj1⟩ := bnd hj1
                                obtain ⟨x10, ex10, hj1⟩ := bnd hj1
                                obtain ⟨x11, ex11, hj1⟩ := bnd hj1
                                obtain ⟨x12, ex12, hj1⟩ := bnd hj1
                                obtain ⟨x13, ex13, hj1⟩ := bnd hj1
                                obtain ⟨x14, ex14, hj1⟩ := bnd hj1
                                obtain ⟨x15, ex15, hj1⟩ := bnd hj1
                                have hp := hp.drew
                                refine k_heldV ([([], At0 Z (ρ.un k1))] : Facts) (fun a w => ∃ y21 : Nat, ∃ y13 : Value, Env 101 [(2, (.int .i64 p2)), (9, y13), (10, (.int .i64 en1)), (11, (Sl.v en1u)), (13, (.int .i64 lp2_1)), (44, (.pointer (some ⟨b1, 0, none⟩))), (50, (Sl.v en1u)), (51, (.int .i64 (((mget (x3 : List (Int × (List Int))) en1).getD []).length : Int))), (52, (.int .i64 lp2_1))] a ∧ Hp Z (ρ.un k1) (Pt y21 (.cells #[(.int .i64 x9), (.int .i64 x11), (.int .i64 x14)] 63 (0, 0)) :: MapIt br3 b1 (umr3 : List (Int × Sl)) rem1' (some (en1, en1u)) :: OwnSl 63 y13 x15 :: L) w) (by kernel_rfl) ⟨fun _ => ⟨_, hp⟩, trivial⟩ (fun hS => ?_) ?_
                                ·
                                  generalize w.drew = w at hS hp ⊢
                                  refine v_take0 0 (wk0 rfl) rfl rfl rfl hE (by kernel_rfl) (by kernel_rfl) (by kernel_rfl) rfl (by kernel_rfl) hS (v := w13) (fun _ => ex_move rfl hE rfl) ?_
                                  intro a hE hS
                                  refine v_take0 1 (wk0 rfl) rfl rfl rfl hE (by kernel_rfl) (by kernel_rfl) (by kernel_rfl) rfl (by kernel_rfl) hS (v := (Sl.v en1u)) (fun _ => ex_move rfl hE rfl) ?_
                                  intro a hE hS
                                  refine v_take0 2 (wk0 rfl) rfl rfl rfl hE (by kernel_rfl) (by kernel_rfl) (by kernel_rfl) rfl (by kernel_rfl) hS (v := (.int .i64 lp2_0)) (fun _ => ex_move rfl hE rfl) ?_
                                  intro a hE hS
                                  obtain ⟨b10, b10o, b10c, b10r, b10k, b10f⟩ := RoSl.at f2 slty23 ex9
                                  obtain rfl : b10c = Enc.enc x9 := b10k
                                  have b10f : AtP (ρ.un k1) b10 b10o [(.int .i64 x9)] := b10f
                                  refine v_take0 3 (wk0 rfl) rfl rfl rfl hE (by kernel_rfl) (by kernel_rfl) (by kernel_rfl) rfl (by kernel_rfl) hS (v := (.pointer (some ⟨b10, b10o, none⟩))) (fun _ => ex_index rfl hE rfl rfl b10r) ?_
                                  intro a hE hS
                                  refine v_take0 4 (wk0 rfl) rfl rfl rfl hE (by kernel_rfl) (by kernel_rfl) (by kernel_rfl) rfl (by kernel_rfl) hS (v := (.int .i64 x9)) (fun _ => ex_load rfl hE rfl (fun w hw => run_ld1 varty3 (b10f.c 0 rfl w hw))) ?_
                                  intro a hE hS
                                  refine v_take0 5 (wk0 rfl) rfl rfl rfl hE (by kernel_rfl) (by kernel_rfl) (by kernel_rfl) rfl (by kernel_rfl) hS (v := (Sl.v en1u)) (fun _ => ex_move rfl hE rfl) ?_
                                  intro a hE hS
                                  refine v_take0 6 (wk0 rfl) rfl rfl rfl hE (by kernel_rfl) (by kernel_rfl) (by kernel_rfl) rfl (by kernel_rfl) hS (v := (.int .i64 lp2_0)) (fun _ => ex_move rfl hE rfl) ?_
                                  intro a hE hS
                                  obtain ⟨b11, b11o, b11c, b11r, b11k, b11f⟩ := RoSl.at f2 slty23 ex10
                                  obtain rfl : b11c = Enc.enc x10 := b11k
                                  have b11f : AtP (ρ.un k1) b11 b11o [(.int .i64 x10)] := b11f
                                  refine v_take0 7 (wk0 rfl) rfl rfl rfl hE (by kernel_rfl) (by kernel_rfl) (by kernel_rfl) rfl (by kernel_rfl) hS (v := (.pointer (some ⟨b11, b11o, none⟩))) (fun _ => ex_index rfl hE rfl rfl b11r) ?_
                                  intro a hE hS
                                  refine v_take0 8 (wk0 rfl) rfl rfl rfl hE (by kernel_rfl) (by kernel_rfl) (by kernel_rfl) rfl (by kernel_rfl) hS (v := (.int .i64 x10)) (fun _ => ex_load rfl hE rfl (fun w hw => run_ld1 varty3 (b11f.c 0 rfl w hw))) ?_
                                  intro a hE hS
                                  refine v_take0 9 (wk0 rfl) rfl rfl rfl hE (by kernel_rfl) (by kernel_rfl) (by kernel_rfl) rfl (by kernel_rfl) hS (v := (.int .i64 en1)) (fun _ => ex_move rfl hE rfl) ?_
                                  intro a hE hS
                                  refine v_take0 10 (wk0 rfl) rfl rfl rfl hE (by kernel_rfl) (by kernel_rfl) (by kernel_rfl) rfl (by kernel_rfl) hS (v := (.int .i64 x11)) (fun _ => ex_add rfl hE rfl rfl (inK_some ex11)) ?_
                                  intro a hE hS
                                  refine v_take0 11 (wk0 rfl) rfl rfl rfl hE (by kernel_rfl) (by kernel_rfl) (by kernel_rfl) rfl (by kernel_rfl) hS (v := (.int .i64 x4)) (fun _ => ex_move rfl hE rfl) ?_
                                  intro a hE hS
                                  refine v_take0 12 (wk0 rfl) rfl rfl rfl hE (by kernel_rfl) (by kernel_rfl) (by kernel_rfl) rfl (by kernel_rfl) hS (v := (Sl.v en1u)) (fun _ => ex_move rfl hE rfl) ?_
                                  intro a hE hS
                                  refine v_take0 13 (wk0 rfl) rfl rfl rfl hE (by kernel_rfl) (by kernel_rfl) (by kernel_rfl) rfl (by kernel_rfl) hS (v := (.int .i64 lp2_0)) (fun _ => ex_move rfl hE rfl) ?_
                                  intro a hE hS
                                  obtain ⟨b12, b12o, b12c, b12r, b12k, b12f⟩ := RoSl.at f2 slty23 ex12
                                  obtain rfl : b12c = Enc.enc x12 := b12k
                                  have b12f : AtP (ρ.un k1) b12 b12o [(.int .i64 x12)] := b12f
                                  refine v_take0 14 (wk0 rfl) rfl rfl rfl hE (by kernel_rfl) (by kernel_rfl) (by kernel_rfl) rfl (by kernel_rfl) hS (v := (.pointer (some ⟨b12, b12o, none⟩))) (fun _ => ex_index rfl hE rfl rfl b12r) ?_
                                  intro a hE hS
                                  refine v_take0 15 (wk0 rfl) rfl rfl rfl hE (by kernel_rfl) (by kernel_rfl) (by kernel_rfl) rfl (by kernel_rfl) hS (v := (.int .i64 x12)) (fun _ => ex_load rfl hE rfl (fun w hw => run_ld1 varty3 (b12f.c 0 rfl w hw))) ?_
                                  intro a hE hS
                                  refine v_take0 16 (wk0 rfl) rfl rfl rfl hE (by kernel_rfl) (by kernel_rfl) (by kernel_rfl) rfl (by kernel_rfl) hS (v := (.int .i64 x13)) (fun _ => ex_sub rfl hE rfl rfl (inK_some ex13)) ?_
                                  intro a hE hS
                                  refine v_take0 17 (wk0 rfl) rfl rfl rfl hE (by kernel_rfl) (by kernel_rfl) (by kernel_rfl) rfl (by kernel_rfl) hS (v := (.int .i64 p2)) (fun _ => ex_move rfl hE rfl) ?_
                                  intro a hE hS
                                  refine v_take0 18 (wk0 rfl) rfl rfl rfl hE (by kernel_rfl) (by kernel_rfl) (by kernel_rfl) rfl (by kernel_rfl) hS (v := (.int .i64 x14)) (fun _ => ex_add rfl hE rfl rfl (inK_some ex14)) ?_
                                  intro a hE hS
                                  refine v_take0 19 (wk0 rfl) rfl rfl rfl hE (by kernel_rfl) (by kernel_rfl) (by kernel_rfl) rfl (by kernel_rfl) hS (v := (.agg #[(.int .i64 x9), (.int .i64 x11), (.int .i64 x14)])) (fun _ => ex_bld rfl hE [(0, (.int .i64 x9)), (1, (.int .i64 x11)), (2, (.int .i64 x14))] (by exact ⟨⟨rfl, rfl⟩, ⟨rfl, rfl⟩, ⟨rfl, rfl⟩, trivial⟩) (fun w => by simp [Instr.build, Instr.fill, Value.cells, go_sem])) ?_
                                  intro a hE hS
                                  refine v_all [20] (by kernel_rfl) rfl ?_
                                  refine List.forall_mem_cons.2 ⟨?_, fun _ h => absurd h (by simp)⟩
                                  ·
                                    refine h_op rfl ?_
                                    refine s_lit (wk0 rfl) rfl rfl hE hp rfl [(0, (.agg #[(.int .i64 x9), (.int .i64 x11), (.int .i64 x14)]))] ⟨⟨rfl, rfl⟩, trivial⟩ [(.int .i64 x9), (.int .i64 x11), (.int .i64 x14)] 63 (fun w => by simp [Instr.buildSlice, Instr.fill, Value.cells, go_sem]) ?_
                                    intro a w b13 hE hp
                                    have hp : Hp Z (ρ.un k1) (Pt b13 (.cells #[(.int .i64 x9), (.int .i64 x11), (.int .i64 x14)] 63 (0, 0)) :: _ :: _ :: L) w := hp
                                    refine s_nil (and_with ⟨fun _ => ⟨_, hp⟩, trivial⟩ fun hS => ?_)
                                    refine v_all [21] (by kernel_rfl) rfl ?_
                                    refine List.forall_mem_cons.2 ⟨?_, fun _ h => absurd h (by simp)⟩
                                    ·
                                      refine h_op rfl ?_
                                      refine s_app (wk0 rfl) rfl rfl hE hp rfl slty56 rfl rfl 2 rfl rfl (l2 := [(Overlap.mk x9 x11 x14)]) rfl (fun j u hj => by have := Hp.cN 0 rfl 0 _ (sub_all rfl) w hp j u hj; simpa using this) ex15 ?_
                                      intro v2 a w hE hp
                                      have hp : Hp Z (ρ.un k1) (_ :: _ :: OwnSl 63 v2 x15 :: L) w := hp
                                      refine s_nil (and_with ⟨fun _ => ⟨_, hp⟩, trivial⟩ fun hS => ?_)
                                      refine v_take0 22 (wk0 rfl) rfl rfl rfl hE (by kernel_rfl) (by kernel_rfl) (by kernel_rfl) rfl (by kernel_rfl) hS (v := v2) (fun _ => ex_asn rfl hE rfl) ?_
                                      intro a hE hS
                                      exact v_done (by kernel_rfl) ⟨_, _, hE.cut ⟨rfl, rfl, rfl, rfl, rfl, rfl, rfl, rfl, rfl, trivial⟩, hp⟩
                                · rintro a w ⟨y21, y13, hE, hp⟩
                                  refine k_region ?_
                                  refine s_val (wk0 rfl) rfl rfl hE hp (v := (.int .i64 lp2_1)) (ex_move rfl hE rfl) ?_
                                  intro a hE
                                  obtain ⟨x16, ex16, hj1⟩ := bnd hj1
                                  refine s_val (wk0 rfl) rfl rfl hE hp (v := (.int .i64 x16)) (ex_add rfl hE rfl rfl (inK_some ex16)) ?_
                                  intro a hE
                                  refine s_val (wk0 rfl) rfl rfl hE hp (v := (.int .i64 x16)) (ex_asn rfl hE rfl) ?_
                                  intro a hE
                                  refine s_nil ?_
                                  obtain rfl := Option.some.inj hj1
                                  exact ⟨_, hE.cut ⟨rfl, rfl, rfl, rfl, rfl, rfl, rfl, rfl, rfl, trivial⟩, (hp.drop)⟩
                          · rintro a w ⟨w13, hE, hp⟩
                            refine k_region ?_
                            obtain ⟨x17, ex17, hl2⟩ := bnd hl2
                            refine s_val (wk0 rfl) rfl rfl hE hp (v := (.int .i64 x17)) (ex_add rfl hE rfl rfl (inK_some ex17)) ?_
                            intro a hE
                            refine s_val (wk0 rfl) rfl rfl hE hp (v := (.int .i64 x17)) (ex_move rfl hE rfl) ?_
                            intro a hE
                            refine s_nil ?_
                            exact ⟨_, (Option.some.inj hl2).symm, _, hE.cut ⟨rfl, rfl, rfl, rfl, rfl, rfl, rfl, rfl, rfl, trivial⟩, hp⟩
                        · replace hl2 := (ie hb10).symm.trans hl2
                          refine k_exit ?_
                          refine ⟨_, (Option.some.inj hl2).symm, fun hbb => ?_⟩
                          subst hbb
                          exact ⟨_, hE.cut ⟨rfl, rfl, rfl, trivial⟩, hp⟩
                    · rintro a w ⟨w13, hE, hp⟩
                      obtain rfl := Option.some.inj hl1
                      have hp := MapIt.forget (hp.get 0 rfl)
                      exact ⟨_, _, hl1l, hl1s, _, hE.cut ⟨rfl, rfl, rfl, trivial⟩, ((hp.get 0 rfl).get 1 rfl)⟩
              · rintro a w ⟨b2, ht1, w13, hE, hp⟩
                unfold m_similarity_Overlaps_lp1t at ht1
                refine k_seq ?_
                refine k_region ?_
                refine s_val (wk0 rfl) rfl rfl hE hp (v := w13) (ex_move rfl hE rfl) ?_
                intro a hE
                obtain ⟨x18, ex18, ht1⟩ := bnd ht1
                refine s_call (wk0 rfl) rfl rfl hE rfl [w13, (.func (.func 54) #[] #[])] ⟨rfl, rfl, trivial⟩ ent53 (c_sortO b2 w13 hp x18 ex18) Ret.ret ?_
                intro v a w hR hE
                obtain ⟨rfl, hp⟩ := Ret.of hR
                have hp : Hp Z (ρ.un k1) (OwnSl 63 w13 x18 :: MapA br3 (umr3 : List (Int × Sl)) :: L) w := hp
                refine s_nil ?_
                refine k_seq ?_
                refine k_region ?_
                refine s_val (wk0 rfl) rfl rfl hE hp (v := w13) (ex_move rfl hE rfl) ?_
                intro a hE
                refine s_val (wk0 rfl) rfl rfl hE hp (v := w13) (ex_asn rfl hE rfl) ?_
                intro a hE
                refine s_val (wk0 rfl) rfl rfl hE hp (v := (.int .i64 0)) (ex_asn rfl hE rfl) ?_
                intro a hE
                refine s_nil ?_
                refine k_ret ?_
                obtain ⟨k3, k3a, k3d, hp⟩ := (hp.get 0 rfl).lend
                have f3 : RoSl ((ρ.un k1).un k3) w13 x18 := OwnSl.ro k3d k3a
                have hp : Hp Z ((ρ.un k1).un k3) (_ :: L) w := hp
                obtain rfl := Option.some.inj ht1
                exact ret2 hE rfl rfl rfl ⟨_, rfl, _, _, (PH.le.tr (PH.le_un _ k1) (PH.le_un _ k3)), rfl, f3, (hp.drop)⟩
end Go.Proofs.Ytmfepkadggigpaa

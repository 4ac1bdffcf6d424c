/-
  The code goes as its model: assessor/assessorref43.Add, assessor/assessorref43.Same, assessor/assessorref35.Same, assessor/assessorref44.Hashes, assessor/assessorref44.Has, assessor/assessorref44.Compare, assessor/assessorref44.Without, assessor/assessorref44.Frequent, assessor/assessorref44.before, assessor/assessorref44.Pairs. (Printed by wip/sp/gen.py.)
-/
import Derived.Test.YtmfepkadggigpaaRM
import Derived.Test.YtmfepkadggigpaaFct
import Derived.Test.YtmfepkadggigpaaLibM
set_option linter.unusedVariables false
set_option linter.unusedSimpArgs false
namespace Go.Proofs.Ytmfepkadggigpaa
open Go.RowKit

/- assessor/assessorref43.Add -/
set_option maxRecDepth 100000 in
set_option maxHeartbeats 4000000 in
theorem c_assessorref43_Add {Z : World} {ρ : PH} {L : List Atom} {w : World} (p0 : (List Int)) (vp0 : Value) (hp0 : RoSl ρ vp0 p0) (p1 : Int) (hp : Hp Z ρ (L) w) (r : (List Int)) (hm : m_assessorref43_Add p0 p1 = some r) :
    Calls Try.prog 35 #[vp0, (.int .i64 p1)] w (Ret fun v w' => ∃ v1, v = v1 ∧ ((v1 = vp0 ∧ r = p0 ∧ Hp Z ρ L w') ∨ Hp Z ρ (OwnSl 3 v1 r :: L) w')) := by
  refine enter (N := 45) Try.func35 rfl rfl [(0, vp0), (1, (.int .i64 p1))] rfl (argsIn_mem ⟨rfl, rfl, trivial⟩) fun a hE => ?_
  unfold m_assessorref43_Add at hm
  refine k_seq ?_
  refine k_region ?_
  refine s_val (wk0 rfl) rfl rfl hE hp (v := (.slice none 0 0)) (ex_asn rfl hE rfl) ?_
  intro a hE
  refine s_nil ?_
  refine k_seq ?_
  refine k_region ?_
  refine s_val (wk0 rfl) rfl rfl hE hp (v := (.int .i64 0)) (ex_asn rfl hE rfl) ?_
  intro a hE
  refine s_nil ?_
  refine k_seq ?_
  obtain ⟨b1, hb1, hm⟩ := bnd hm
  refine k_block (fun a w => Env 45 [(0, vp0), (1, (.int .i64 p1)), (5, (.int .i64 b1))] a ∧ Hp Z ρ (L) w) ?_ ?_
  · refine k_loop hb1 (fun s a w => Env 45 [(0, vp0), (1, (.int .i64 p1)), (5, (.int .i64 s))] a ∧ Hp Z ρ (L) w) ?_ ?_
    · exact ⟨hE.cut ⟨rfl, rfl, rfl, trivial⟩, hp⟩
    · rintro lp1_0 st a w ⟨hE, hp⟩ hl1
      have hE : Env 45 [(0, vp0), (1, (.int .i64 p1)), (5, (.int .i64 lp1_0))] a := hE
      have hp : Hp Z ρ (L) w := hp
      replace hl1 : m_assessorref43_Add_lp1 p0 p1 lp1_0 = some st := hl1
      unfold m_assessorref43_Add_lp1 at hl1
      refine k_seq ?_
      refine k_seq ?_
      refine k_region ?_
      refine s_val (wk0 rfl) rfl rfl hE hp (v := (.int .i64 lp1_0)) (ex_move rfl hE rfl) ?_
      intro a hE
      refine s_val (wk0 rfl) rfl rfl hE hp (v := vp0) (ex_move rfl hE rfl) ?_
      intro a hE
      refine s_val (wk0 rfl) rfl rfl hE hp (v := (.int .i64 (p0.length : Int))) (ex_len rfl hE rfl (RoSl.len hp0 slty23)) ?_
      intro a hE
      refine s_val (wk0 rfl) rfl rfl hE hp (v := (.bool (decide (lp1_0 < (p0.length : Int))))) (ex_lss rfl hE rfl rfl) ?_
      intro a hE
      refine s_val (wk0 rfl) rfl rfl hE hp (v := (.bool (decide (lp1_0 < (p0.length : Int))))) (ex_move rfl hE rfl) ?_
      intro a hE
      obtain ⟨m1, hg1, hl1⟩ := bnd hl1
      refine s_cut [_, _, _, _, _, _, _] (fun a w => Env 45 [(17, (.bool m1)), (0, vp0), (1, (.int .i64 p1)), (5, (.int .i64 lp1_0))] a ∧ Hp Z ρ (L) w) ?_ ?_
      · rcases Bool.eq_false_or_eq_true (decide (lp1_0 < (p0.length : Int))) with hb2 | hb2
        ·
          replace hg1 := (it hb2).symm.trans hg1
          refine s_val (wk1 hE rfl rfl rfl hb2) rfl rfl hE hp (v := vp0) (ex_move rfl hE rfl) ?_
          intro a hE
          refine s_val (wk1 hE rfl rfl rfl hb2) rfl rfl hE hp (v := (.int .i64 lp1_0)) (ex_move rfl hE rfl) ?_
          intro a hE
          obtain ⟨x1, ex1, hg1⟩ := bnd hg1
          obtain ⟨b2, b2o, b2c, b2r, b2k, b2f⟩ := RoSl.at hp0 slty23 ex1
          obtain rfl : b2c = Enc.enc x1 := b2k
          have b2f : AtP ρ b2 b2o [(.int .i64 x1)] := b2f
          refine s_val (wk1 hE rfl rfl rfl hb2) rfl rfl hE hp (v := (.pointer (some ⟨b2, b2o, none⟩))) (ex_index rfl hE rfl rfl b2r) ?_
          intro a hE
          refine s_val (wk1 hE rfl rfl rfl hb2) rfl rfl hE hp (v := (.int .i64 x1)) (ex_load rfl hE rfl (fun w hw => run_ld1 varty3 (b2f.c 0 rfl w hw))) ?_
          intro a hE
          refine s_val (wk1 hE rfl rfl rfl hb2) rfl rfl hE hp (v := (.int .i64 p1)) (ex_move rfl hE rfl) ?_
          intro a hE
          refine s_val (wk1 hE rfl rfl rfl hb2) rfl rfl hE hp (v := (.bool (decide (x1 < p1)))) (ex_lss rfl hE rfl rfl) ?_
          intro a hE
          refine s_val (wk0 rfl) rfl rfl hE hp (v := (.bool (decide (x1 < p1)))) (ex_pick1 rfl hE rfl hb2 rfl) ?_
          intro a hE
          obtain rfl := Option.some.inj hg1
          exact s_nil ⟨hE.cut ⟨rfl, rfl, rfl, rfl, trivial⟩, hp⟩
        ·
          replace hg1 := (ie hb2).symm.trans hg1
          refine s_skip (wk2 hE rfl rfl rfl hb2) rfl rfl hE ?_
          intro a hE
          refine s_skip (wk2 hE rfl rfl rfl hb2) rfl rfl hE ?_
          intro a hE
          refine s_skip (wk2 hE rfl rfl rfl hb2) rfl rfl hE ?_
          intro a hE
          refine s_skip (wk2 hE rfl rfl rfl hb2) rfl rfl hE ?_
          intro a hE
          refine s_skip (wk2 hE rfl rfl rfl hb2) rfl rfl hE ?_
          intro a hE
          refine s_skip (wk2 hE rfl rfl rfl hb2) rfl rfl hE ?_
          intro a hE
          refine s_val (wk0 rfl) rfl rfl hE hp (v := (.bool false)) (ex_pick0 rfl hE rfl hb2 rfl) ?_
          intro a hE
          obtain rfl := Option.some.inj hg1
          exact s_nil ⟨hE.cut ⟨rfl, rfl, rfl, rfl, trivial⟩, hp⟩
      · rintro a w ⟨hE, hp⟩
        refine s_nil ?_
        refine k_if hE rfl (fun hb3 => ?_) (fun hb3 => ?_)
        · replace hl1 := (it hb3).symm.trans hl1
          refine k_skip ?_
          refine k_plain ?_
          refine k_region ?_
          refine s_val (wk0 rfl) rfl rfl hE hp (v := (.int .i64 lp1_0)) (ex_move rfl hE rfl) ?_
          intro a hE
          obtain ⟨x2, ex2, hl1⟩ := bnd hl1
          refine s_val (wk0 rfl) rfl rfl hE hp (v := (.int .i64 x2)) (ex_add rfl hE rfl rfl (inK_some ex2)) ?_
          intro a hE
          refine s_val (wk0 rfl) rfl rfl hE hp (v := (.int .i64 x2)) (ex_asn rfl hE rfl) ?_
          intro a hE
          refine s_nil ?_
          exact ⟨_, (Option.some.inj hl1).symm, hE.cut ⟨rfl, rfl, rfl, trivial⟩, hp⟩
        · replace hl1 := (ie hb3).symm.trans hl1
          refine k_exit ?_
          refine ⟨_, (Option.some.inj hl1).symm, fun hbb => ?_⟩
          subst hbb
          exact ⟨hE.cut ⟨rfl, rfl, rfl, trivial⟩, hp⟩
  · rintro a w ⟨hE, hp⟩
    refine k_seq ?_
    refine k_seq ?_
    refine k_region ?_
    refine s_val (wk0 rfl) rfl rfl hE hp (v := (.int .i64 b1)) (ex_move rfl hE rfl) ?_
    intro a hE
    refine s_val (wk0 rfl) rfl rfl hE hp (v := vp0) (ex_move rfl hE rfl) ?_
    intro a hE
    refine s_val (wk0 rfl) rfl rfl hE hp (v := (.int .i64 (p0.length : Int))) (ex_len rfl hE rfl (RoSl.len hp0 slty23)) ?_
    intro a hE
    refine s_val (wk0 rfl) rfl rfl hE hp (v := (.bool (decide (b1 < (p0.length : Int))))) (ex_lss rfl hE rfl rfl) ?_
    intro a hE
    refine s_val (wk0 rfl) rfl rfl hE hp (v := (.bool (decide (b1 < (p0.length : Int))))) (ex_move rfl hE rfl) ?_
    intro a hE
    obtain ⟨m2, hg2, hm⟩ := bnd hm
    refine s_cut [_, _, _, _, _, _, _] (fun a w => Env 45 [(31, (.bool m2)), (0, vp0), (1, (.int .i64 p1)), (5, (.int .i64 b1))] a ∧ Hp Z ρ (L) w) ?_ ?_
    · rcases Bool.eq_false_or_eq_true (decide (b1 < (p0.length : Int))) with hb4 | hb4
      ·
        replace hg2 := (it hb4).symm.trans hg2
        refine s_val (wk1 hE rfl rfl rfl hb4) rfl rfl hE hp (v := vp0) (ex_move rfl hE rfl) ?_
        intro a hE
        refine s_val (wk1 hE rfl rfl rfl hb4) rfl rfl hE hp (v := (.int .i64 b1)) (ex_move rfl hE rfl) ?_
        intro a hE
        obtain ⟨x3, ex3, hg2⟩ := bnd hg2
        obtain ⟨b3, b3o, b3c, b3r, b3k, b3f⟩ := RoSl.at hp0 slty23 ex3
        obtain rfl : b3c = Enc.enc x3 := b3k
        have b3f : AtP ρ b3 b3o [(.int .i64 x3)] := b3f
        refine s_val (wk1 hE rfl rfl rfl hb4) rfl rfl hE hp (v := (.pointer (some ⟨b3, b3o, none⟩))) (ex_index rfl hE rfl rfl b3r) ?_
        intro a hE
        refine s_val (wk1 hE rfl rfl rfl hb4) rfl rfl hE hp (v := (.int .i64 x3)) (ex_load rfl hE rfl (fun w hw => run_ld1 varty3 (b3f.c 0 rfl w hw))) ?_
        intro a hE
        refine s_val (wk1 hE rfl rfl rfl hb4) rfl rfl hE hp (v := (.int .i64 p1)) (ex_move rfl hE rfl) ?_
        intro a hE
        refine s_val (wk1 hE rfl rfl rfl hb4) rfl rfl hE hp (v := (.bool (decide (x3 = p1)))) (ex_eql rfl hE rfl rfl) ?_
        intro a hE
        refine s_val (wk0 rfl) rfl rfl hE hp (v := (.bool (decide (x3 = p1)))) (ex_pick1 rfl hE rfl hb4 rfl) ?_
        intro a hE
        obtain rfl := Option.some.inj hg2
        exact s_nil ⟨hE.cut ⟨rfl, rfl, rfl, rfl, trivial⟩, hp⟩
      ·
        replace hg2 := (ie hb4).symm.trans hg2
        refine s_skip (wk2 hE rfl rfl rfl hb4) rfl rfl hE ?_
        intro a hE
        refine s_skip (wk2 hE rfl rfl rfl hb4) rfl rfl hE ?_
        intro a hE
        refine s_skip (wk2 hE rfl rfl rfl hb4) rfl rfl hE ?_
        intro a hE
        refine s_skip (wk2 hE rfl rfl rfl hb4) rfl rfl hE ?_
        intro a hE
        refine s_skip (wk2 hE rfl rfl rfl hb4) rfl rfl hE ?_
        intro a hE
        refine s_skip (wk2 hE rfl rfl rfl hb4) rfl rfl hE ?_
        intro a hE
        refine s_val (wk0 rfl) rfl rfl hE hp (v := (.bool false)) (ex_pick0 rfl hE rfl hb4 rfl) ?_
        intro a hE
        obtain rfl := Option.some.inj hg2
        exact s_nil ⟨hE.cut ⟨rfl, rfl, rfl, rfl, trivial⟩, hp⟩
    · rintro a w ⟨hE, hp⟩
      refine s_nil ?_
      refine k_if hE rfl (fun hb5 => ?_) (fun hb5 => ?_)
      · replace hm := (it hb5).symm.trans hm
        refine k_seq ?_
        refine k_region ?_
        refine s_val (wk0 rfl) rfl rfl hE hp (v := vp0) (ex_move rfl hE rfl) ?_
        intro a hE
        refine s_val (wk0 rfl) rfl rfl hE hp (v := vp0) (ex_asn rfl hE rfl) ?_
        intro a hE
        refine s_nil ?_
        refine k_ret ?_
        obtain rfl := Option.some.inj hm
        exact ret1 hE rfl rfl ⟨_, rfl, _, rfl, Or.inl ⟨rfl, rfl, hp⟩⟩
      · replace hm := (ie hb5).symm.trans hm
        refine k_skip ?_
        refine k_seq ?_
        obtain ⟨x4, ex4, hm⟩ := bnd hm
        obtain ⟨x5, ex5, hm⟩ := bnd hm
        obtain ⟨x6, ex6, hm⟩ := bnd hm
        obtain ⟨x7, ex7, hm⟩ := bnd hm
        obtain ⟨x8, ex8, hm⟩ := bnd hm
        have hp := hp.drew
        refine k_heldV ([([], At0 Z ρ)] : Facts) (fun a w => ∃ y3 : Nat, ∃ y2 : Value, Env 45 [(4, y2)] a ∧ Hp Z ρ (Pt y3 (.cells #[(.int .i64 p1)] 3 (0, 0)) :: OwnSl 3 y2 x8 :: L) w) (by kernel_rfl) ⟨fun _ => ⟨_, hp⟩, trivial⟩ (fun hS => ?_) ?_
        ·
          generalize w.drew = w at hS hp ⊢
          refine v_take0 1 (wk0 rfl) rfl rfl rfl hE (by kernel_rfl) (by kernel_rfl) (by kernel_rfl) rfl (by kernel_rfl) hS (v := vp0) (fun _ => ex_move rfl hE rfl) ?_
          intro a hE hS
          refine v_take0 2 (wk0 rfl) rfl rfl rfl hE (by kernel_rfl) (by kernel_rfl) (by kernel_rfl) rfl (by kernel_rfl) hS (v := (.int .i64 b1)) (fun _ => ex_move rfl hE rfl) ?_
          intro a hE hS
          obtain ⟨v6, v6r, f3⟩ := RoSl.part hp0 slty23 none (some (.i64, b1)) rfl rfl ex4
          refine v_take0 3 (wk0 rfl) rfl rfl rfl hE (by kernel_rfl) (by kernel_rfl) (by kernel_rfl) rfl (by kernel_rfl) hS (v := v6) (fun _ => ex_sl rfl hE rfl none (some (.i64, b1)) (by exact trivial) (by exact rfl) v6r) ?_
          intro a hE hS
          refine v_take0 5 (wk0 rfl) rfl rfl rfl hE (by kernel_rfl) (by kernel_rfl) (by kernel_rfl) rfl (by kernel_rfl) hS (v := (.int .i64 p1)) (fun _ => ex_move rfl hE rfl) ?_
          intro a hE hS
          refine v_take0 8 (wk0 rfl) rfl rfl rfl hE (by kernel_rfl) (by kernel_rfl) (by kernel_rfl) rfl (by kernel_rfl) hS (v := vp0) (fun _ => ex_move rfl hE rfl) ?_
          intro a hE hS
          refine v_take0 9 (wk0 rfl) rfl rfl rfl hE (by kernel_rfl) (by kernel_rfl) (by kernel_rfl) rfl (by kernel_rfl) hS (v := (.int .i64 b1)) (fun _ => ex_move rfl hE rfl) ?_
          intro a hE hS
          obtain ⟨v7, v7r, f4⟩ := RoSl.part hp0 slty23 (some (.i64, b1)) none rfl rfl ex7
          refine v_take0 10 (wk0 rfl) rfl rfl rfl hE (by kernel_rfl) (by kernel_rfl) (by kernel_rfl) rfl (by kernel_rfl) hS (v := v7) (fun _ => ex_sl rfl hE rfl (some (.i64, b1)) none (by exact rfl) (by exact trivial) v7r) ?_
          intro a hE hS
          refine v_all [0, 6] (by kernel_rfl) rfl ?_
          refine List.forall_mem_cons.2 ⟨?_, List.forall_mem_cons.2 ⟨?_, fun _ h => absurd h (by simp)⟩⟩
          ·
            refine h_op rfl ?_
            refine s_lit (wk0 rfl) rfl rfl hE hp rfl [] trivial [] 3 (fun w => by simp [Instr.buildSlice, Instr.fill, Value.cells, go_sem]) ?_
            intro a w b6 hE hp
            have hp : Hp Z ρ (Pt b6 (.cells #[] 3 (0, 0)) :: L) w := hp
            refine s_nil (and_with ⟨fun _ => ⟨_, hp⟩, trivial⟩ fun hS => ?_)
            refine v_all [4, 6] (by kernel_rfl) rfl ?_
            refine List.forall_mem_cons.2 ⟨?_, List.forall_mem_cons.2 ⟨?_, fun _ h => absurd h (by simp)⟩⟩
            ·
              refine h_op rfl ?_
              have hp := (hp.get 0 rfl).imp (own_of_pt (l := (([] : List Int) : List Int)) (n := 0) rfl (by decide) rfl)
              have hp : Hp Z ρ (OwnSl 3 (.slice (some ⟨b6, 0, none⟩) 0 0) ([] : List Int) :: L) w := hp
              refine s_apps (wk0 rfl) rfl rfl hE hp rfl slty23 rfl rfl 0 rfl rfl f3 ex5 ?_
              intro v8 a w hE hp
              have hp : Hp Z ρ (OwnSl 3 v8 x5 :: L) w := hp
              refine s_nil (and_with ⟨fun _ => ⟨_, hp⟩, trivial⟩ fun hS => ?_)
              refine v_all [6] (by kernel_rfl) rfl ?_
              refine List.forall_mem_cons.2 ⟨?_, fun _ h => absurd h (by simp)⟩
              ·
                refine h_op rfl ?_
                refine s_lit (wk0 rfl) rfl rfl hE hp rfl [(0, (.int .i64 p1))] ⟨⟨rfl, rfl⟩, trivial⟩ [(.int .i64 p1)] 3 (fun w => by simp [Instr.buildSlice, Instr.fill, Value.cells, go_sem]) ?_
                intro a w b7 hE hp
                have hp : Hp Z ρ (Pt b7 (.cells #[(.int .i64 p1)] 3 (0, 0)) :: _ :: L) w := hp
                refine s_nil (and_with ⟨fun _ => ⟨_, hp⟩, trivial⟩ fun hS => ?_)
                refine v_all [7] (by kernel_rfl) rfl ?_
                refine List.forall_mem_cons.2 ⟨?_, fun _ h => absurd h (by simp)⟩
                ·
                  refine h_op rfl ?_
                  refine s_app (wk0 rfl) rfl rfl hE hp rfl slty23 rfl rfl 1 rfl rfl (l2 := [p1]) rfl (fun j u hj => by have := Hp.cN 0 rfl 0 _ (sub_all rfl) w hp j u hj; simpa using this) ex6 ?_
                  intro v9 a w hE hp
                  have hp : Hp Z ρ (_ :: OwnSl 3 v9 x6 :: L) w := hp
                  refine s_nil (and_with ⟨fun _ => ⟨_, hp⟩, trivial⟩ fun hS => ?_)
                  refine v_all [11] (by kernel_rfl) rfl ?_
                  refine List.forall_mem_cons.2 ⟨?_, fun _ h => absurd h (by simp)⟩
                  ·
                    refine h_op rfl ?_
                    refine s_apps (wk0 rfl) rfl rfl hE hp rfl slty23 rfl rfl 1 rfl rfl f4 ex8 ?_
                    intro v10 a w hE hp
                    have hp : Hp Z ρ (_ :: OwnSl 3 v10 x8 :: L) w := hp
                    refine s_nil (and_with ⟨fun _ => ⟨_, hp⟩, trivial⟩ fun hS => ?_)
                    refine v_take0 12 (wk0 rfl) rfl rfl rfl hE (by kernel_rfl) (by kernel_rfl) (by kernel_rfl) rfl (by kernel_rfl) hS (v := v10) (fun _ => ex_asn rfl hE rfl) ?_
                    intro a hE hS
                    exact v_done (by kernel_rfl) ⟨_, _, hE.cut ⟨rfl, trivial⟩, hp⟩
            ·
              refine h_op rfl ?_
              refine s_lit (wk0 rfl) rfl rfl hE hp rfl [(0, (.int .i64 p1))] ⟨⟨rfl, rfl⟩, trivial⟩ [(.int .i64 p1)] 3 (fun w => by simp [Instr.buildSlice, Instr.fill, Value.cells, go_sem]) ?_
              intro a w b8 hE hp
              have hp : Hp Z ρ (Pt b8 (.cells #[(.int .i64 p1)] 3 (0, 0)) :: _ :: L) w := hp
              refine s_nil (and_with ⟨fun _ => ⟨_, hp⟩, trivial⟩ fun hS => ?_)
              refine v_all [4] (by kernel_rfl) rfl ?_
              refine List.forall_mem_cons.2 ⟨?_, fun _ h => absurd h (by simp)⟩
              ·
                refine h_op rfl ?_
                have hp := (hp.get 1 rfl).imp (own_of_pt (l := (([] : List Int) : List Int)) (n := 0) rfl (by decide) rfl)
                have hp : Hp Z ρ (OwnSl 3 (.slice (some ⟨b6, 0, none⟩) 0 0) ([] : List Int) :: _ :: L) w := hp
                refine s_apps (wk0 rfl) rfl rfl hE hp rfl slty23 rfl rfl 0 rfl rfl f3 ex5 ?_
                intro v11 a w hE hp
                have hp : Hp Z ρ (OwnSl 3 v11 x5 :: _ :: L) w := hp
                refine s_nil (and_with ⟨fun _ => ⟨_, hp⟩, trivial⟩ fun hS => ?_)
                refine v_all [7] (by kernel_rfl) rfl ?_
                refine List.forall_mem_cons.2 ⟨?_, fun _ h => absurd h (by simp)⟩
                ·
                  refine h_op rfl ?_
                  refine s_app (wk0 rfl) rfl rfl hE hp rfl slty23 rfl rfl 0 rfl rfl (l2 := [p1]) rfl (fun j u hj => by have := Hp.cN 1 rfl 0 _ (sub_all rfl) w hp j u hj; simpa using this) ex6 ?_
                  intro v12 a w hE hp
                  have hp : Hp Z ρ (OwnSl 3 v12 x6 :: _ :: L) w := hp
                  refine s_nil (and_with ⟨fun _ => ⟨_, hp⟩, trivial⟩ fun hS => ?_)
                  refine v_all [11] (by kernel_rfl) rfl ?_
                  refine List.forall_mem_cons.2 ⟨?_, fun _ h => absurd h (by simp)⟩
                  ·
                    refine h_op rfl ?_
                    refine s_apps (wk0 rfl) rfl rfl hE hp rfl slty23 rfl rfl 0 rfl rfl f4 ex8 ?_
                    intro v13 a w hE hp
                    have hp : Hp Z ρ (OwnSl 3 v13 x8 :: _ :: L) w := hp
                    refine s_nil (and_with ⟨fun _ => ⟨_, hp⟩, trivial⟩ fun hS => ?_)
                    refine v_take0 12 (wk0 rfl) rfl rfl rfl hE (by kernel_rfl) (by kernel_rfl) (by kernel_rfl) rfl (by kernel_rfl) hS (v := v13) (fun _ => ex_asn rfl hE rfl) ?_
                    intro a hE hS
                    exact v_done (by kernel_rfl) ⟨_, _, hE.cut ⟨rfl, trivial⟩, ((hp.get 0 rfl).get 1 rfl)⟩
          ·
            refine h_op rfl ?_
            refine s_lit (wk0 rfl) rfl rfl hE hp rfl [(0, (.int .i64 p1))] ⟨⟨rfl, rfl⟩, trivial⟩ [(.int .i64 p1)] 3 (fun w => by simp [Instr.buildSlice, Instr.fill, Value.cells, go_sem]) ?_
            intro a w b9 hE hp
            have hp : Hp Z ρ (Pt b9 (.cells #[(.int .i64 p1)] 3 (0, 0)) :: L) w := hp
            refine s_nil (and_with ⟨fun _ => ⟨_, hp⟩, trivial⟩ fun hS => ?_)
            refine v_all [0] (by kernel_rfl) rfl ?_
            refine List.forall_mem_cons.2 ⟨?_, fun _ h => absurd h (by simp)⟩
            ·
              refine h_op rfl ?_
              refine s_lit (wk0 rfl) rfl rfl hE hp rfl [] trivial [] 3 (fun w => by simp [Instr.buildSlice, Instr.fill, Value.cells, go_sem]) ?_
              intro a w b10 hE hp
              have hp : Hp Z ρ (Pt b10 (.cells #[] 3 (0, 0)) :: _ :: L) w := hp
              refine s_nil (and_with ⟨fun _ => ⟨_, hp⟩, trivial⟩ fun hS => ?_)
              refine v_all [4] (by kernel_rfl) rfl ?_
              refine List.forall_mem_cons.2 ⟨?_, fun _ h => absurd h (by simp)⟩
              ·
                refine h_op rfl ?_
                have hp := (hp.get 0 rfl).imp (own_of_pt (l := (([] : List Int) : List Int)) (n := 0) rfl (by decide) rfl)
                have hp : Hp Z ρ (OwnSl 3 (.slice (some ⟨b10, 0, none⟩) 0 0) ([] : List Int) :: _ :: L) w := hp
                refine s_apps (wk0 rfl) rfl rfl hE hp rfl slty23 rfl rfl 0 rfl rfl f3 ex5 ?_
                intro v14 a w hE hp
                have hp : Hp Z ρ (OwnSl 3 v14 x5 :: _ :: L) w := hp
                refine s_nil (and_with ⟨fun _ => ⟨_, hp⟩, trivial⟩ fun hS => ?_)
                refine v_all [7] (by kernel_rfl) rfl ?_
                refine List.forall_mem_cons.2 ⟨?_, fun _ h => absurd h (by simp)⟩
                ·
                  refine h_op rfl ?_
                  refine s_app (wk0 rfl) rfl rfl hE hp rfl slty23 rfl rfl 0 rfl rfl (l2 := [p1]) rfl (fun j u hj => by have := Hp.cN 1 rfl 0 _ (sub_all rfl) w hp j u hj; simpa using this) ex6 ?_
                  intro v15 a w hE hp
                  have hp : Hp Z ρ (OwnSl 3 v15 x6 :: _ :: L) w := hp
                  refine s_nil (and_with ⟨fun _ => ⟨_, hp⟩, trivial⟩ fun hS => ?_)
                  refine v_all [11] (by kernel_rfl) rfl ?_
                  refine List.forall_mem_cons.2 ⟨?_, fun _ h => absurd h (by simp)⟩
                  ·
                    refine h_op rfl ?_
                    refine s_apps (wk0 rfl) rfl rfl hE hp rfl slty23 rfl rfl 0 rfl rfl f4 ex8 ?_
                    intro v16 a w hE hp
                    have hp : Hp Z ρ (OwnSl 3 v16 x8 :: _ :: L) w := hp
                    refine s_nil (and_with ⟨fun _ => ⟨_, hp⟩, trivial⟩ fun hS => ?_)
                    refine v_take0 12 (wk0 rfl) rfl rfl rfl hE (by kernel_rfl) (by kernel_rfl) (by kernel_rfl) rfl (by kernel_rfl) hS (v := v16) (fun _ => ex_asn rfl hE rfl) ?_
                    intro a hE hS
                    exact v_done (by kernel_rfl) ⟨_, _, hE.cut ⟨rfl, trivial⟩, ((hp.get 0 rfl).get 1 rfl)⟩
        · rintro a w ⟨y3, y2, hE, hp⟩
          refine k_ret ?_
          obtain rfl := Option.some.inj hm
          exact ret1 hE rfl rfl ⟨_, rfl, _, rfl, Or.inr ((hp.drop))⟩
theorem c_assessorref43_Add_own {Z : World} {ρ : PH} {L : List Atom} {w : World} (p0 : (List Int)) (vp0 : Value) (p1 : Int) (hp : Hp Z ρ (OwnSl 3 vp0 p0 :: L) w) (r : (List Int)) (hm : m_assessorref43_Add p0 p1 = some r) :
    Calls Try.prog 35 #[vp0, (.int .i64 p1)] w (Ret fun v w' => ∃ v1, v = v1 ∧ Hp Z ρ (OwnSl 3 v1 r :: L) w') := by
  obtain ⟨k, ka, kd, h⟩ := hp.lend
  refine Calls.mono (c_assessorref43_Add p0 vp0 (OwnSl.ro kd ka) p1 h r hm) fun e w' he => ?_
  obtain ⟨v, rfl, v1, rfl, hh⟩ := he
  refine ⟨_, rfl, _, rfl, ?_⟩
  rcases hh with ⟨rfl, rfl, hh⟩ | hh
  · exact Hp.back ka kd hh
  · exact hh.less (PH.le_un _ _)
/- assessor/assessorref43.Same -/
set_option maxRecDepth 100000 in
set_option maxHeartbeats 4000000 in
theorem c_assessorref43_Same {Z : World} {ρ : PH} {L : List Atom} {w : World} (p0 : (List Mark)) (vp0 : Value) (hp0 : RoSl ρ vp0 p0) (p1 : (List Mark)) (vp1 : Value) (hp1 : RoSl ρ vp1 p1) (hp : Hp Z ρ (L) w) (r : Bool) (hm : m_assessorref43_Same p0 p1 = some r) :
    Calls Try.prog 15 #[vp0, vp1] w (Ret fun v w' => v = (.bool r) ∧ Hp Z ρ (L) w') := by
  refine enter (N := 26) Try.func15 rfl rfl [(0, vp0), (1, vp1)] rfl (argsIn_mem ⟨rfl, rfl, trivial⟩) fun a hE => ?_
  unfold m_assessorref43_Same at hm
  refine k_seq ?_
  refine k_region ?_
  refine s_val (wk0 rfl) rfl rfl hE hp (v := (.bool false)) (ex_asn rfl hE rfl) ?_
  intro a hE
  refine s_nil ?_
  refine k_seq ?_
  refine k_seq ?_
  refine k_region ?_
  refine s_val (wk0 rfl) rfl rfl hE hp (v := vp0) (ex_move rfl hE rfl) ?_
  intro a hE
  refine s_val (wk0 rfl) rfl rfl hE hp (v := (.int .i64 (p0.length : Int))) (ex_len rfl hE rfl (RoSl.len hp0 slty26)) ?_
  intro a hE
  refine s_val (wk0 rfl) rfl rfl hE hp (v := vp1) (ex_move rfl hE rfl) ?_
  intro a hE
  refine s_val (wk0 rfl) rfl rfl hE hp (v := (.int .i64 (p1.length : Int))) (ex_len rfl hE rfl (RoSl.len hp1 slty26)) ?_
  intro a hE
  refine s_val (wk0 rfl) rfl rfl hE hp (v := (.bool (!decide ((p0.length : Int) = (p1.length : Int))))) (ex_neq rfl hE rfl rfl) ?_
  intro a hE
  refine s_nil ?_
  refine k_if hE rfl (fun hb1 => ?_) (fun hb1 => ?_)
  · replace hm := (it hb1).symm.trans hm
    refine k_seq ?_
    refine k_region ?_
    refine s_val (wk0 rfl) rfl rfl hE hp (v := (.bool false)) (ex_asn rfl hE rfl) ?_
    intro a hE
    refine s_nil ?_
    refine k_ret ?_
    obtain rfl := Option.some.inj hm
    exact ret1 hE rfl rfl ⟨_, rfl, rfl, hp⟩
  · replace hm := (ie hb1).symm.trans hm
    refine k_skip ?_
    refine k_seq ?_
    refine k_seq ?_
    refine k_region ?_
    refine s_val (wk0 rfl) rfl rfl hE hp (v := (.int .i64 0)) (ex_asn rfl hE rfl) ?_
    intro a hE
    refine s_nil ?_
    obtain ⟨b1, hb2, hm⟩ := bnd hm
    refine k_block (fun a w => ∃ s : Unit, b1 = .brk s ∧ (Env 26 [] a ∧ Hp Z ρ (L) w)) ?_ ?_
    · refine k_loop hb2 (fun s a w => Env 26 [(0, vp0), (1, vp1), (5, (.int .i64 s))] a ∧ Hp Z ρ (L) w) ?_ ?_
      · exact ⟨hE.cut ⟨rfl, rfl, rfl, trivial⟩, hp⟩
      · rintro lp1_0 st a w ⟨hE, hp⟩ hl1
        have hE : Env 26 [(0, vp0), (1, vp1), (5, (.int .i64 lp1_0))] a := hE
        have hp : Hp Z ρ (L) w := hp
        replace hl1 : m_assessorref43_Same_lp1 p0 p1 lp1_0 = some st := hl1
        unfold m_assessorref43_Same_lp1 at hl1
        refine k_seq ?_
        refine k_seq ?_
        refine k_region ?_
        refine s_val (wk0 rfl) rfl rfl hE hp (v := (.int .i64 lp1_0)) (ex_move rfl hE rfl) ?_
        intro a hE
        refine s_val (wk0 rfl) rfl rfl hE hp (v := vp0) (ex_move rfl hE rfl) ?_
        intro a hE
        refine s_val (wk0 rfl) rfl rfl hE hp (v := (.int .i64 (p0.length : Int))) (ex_len rfl hE rfl (RoSl.len hp0 slty26)) ?_
        intro a hE
        refine s_val (wk0 rfl) rfl rfl hE hp (v := (.bool (decide (lp1_0 < (p0.length : Int))))) (ex_lss rfl hE rfl rfl) ?_
        intro a hE
        refine s_nil ?_
        refine k_if hE rfl (fun hb3 => ?_) (fun hb3 => ?_)
        · replace hl1 := (it hb3).symm.trans hl1
          refine k_skip ?_
          refine k_seq ?_
          refine k_plain ?_
          refine k_seq ?_
          refine k_quiet (by kernel_rfl) (by kernel_rfl) hp ?_
          refine q_val (wk0 rfl) rfl rfl hE (v := vp0) (ex_move rfl hE rfl) ?_
          intro a hE
          refine q_val (wk0 rfl) rfl rfl hE (v := (.int .i64 lp1_0)) (ex_move rfl hE rfl) ?_
          intro a hE
          obtain ⟨x1, ex1, hl1⟩ := bnd hl1
          obtain ⟨b2, b2o, b2c, b2r, b2k, b2f⟩ := RoSl.at hp0 slty26 ex1
          obtain rfl : b2c = Enc.enc x1 := b2k
          have b2f : AtP ρ b2 b2o [(.int .i64 x1.hash), (.int .i64 x1.at_)] := b2f
          refine q_val (wk0 rfl) rfl rfl hE (v := (.pointer (some ⟨b2, b2o, none⟩))) (ex_index rfl hE rfl rfl b2r) ?_
          intro a hE
          refine q_val (wk0 rfl) rfl rfl hE (v := (.agg #[(.int .i64 x1.hash), (.int .i64 x1.at_)])) (ex_load rfl hE rfl (fun w hw => run_ldN (cs := [(.int .i64 x1.hash), (.int .i64 x1.at_)]) varty65 (fun j u hj => cell_of hw.le (b2f j u hj)))) ?_
          intro a hE
          refine q_val (wk0 rfl) rfl rfl hE (v := vp1) (ex_move rfl hE rfl) ?_
          intro a hE
          refine q_val (wk0 rfl) rfl rfl hE (v := (.int .i64 lp1_0)) (ex_move rfl hE rfl) ?_
          intro a hE
          obtain ⟨x2, ex2, hl1⟩ := bnd hl1
          obtain ⟨b3, b3o, b3c, b3r, b3k, b3f⟩ := RoSl.at hp1 slty26 ex2
          obtain rfl : b3c = Enc.enc x2 := b3k
          have b3f : AtP ρ b3 b3o [(.int .i64 x2.hash), (.int .i64 x2.at_)] := b3f
          refine q_val (wk0 rfl) rfl rfl hE (v := (.pointer (some ⟨b3, b3o, none⟩))) (ex_index rfl hE rfl rfl b3r) ?_
          intro a hE
          refine q_val (wk0 rfl) rfl rfl hE (v := (.agg #[(.int .i64 x2.hash), (.int .i64 x2.at_)])) (ex_load rfl hE rfl (fun w hw => run_ldN (cs := [(.int .i64 x2.hash), (.int .i64 x2.at_)]) varty65 (fun j u hj => cell_of hw.le (b3f j u hj)))) ?_
          intro a hE
          refine q_val (wk0 rfl) rfl rfl hE (v := (.bool (!((decide (x1.hash = x2.hash)) && (decide (x1.at_ = x2.at_)))))) (ex_stneq (eqst65 x1.hash x1.at_ x2.hash x2.at_) rfl hE rfl rfl) ?_
          intro a hE
          refine q_nil fun w hp => ?_
          have hp : Hp Z ρ (L) w := hp
          refine k_if hE rfl (fun hb4 => ?_) (fun hb4 => ?_)
          · replace hl1 := (it hb4).symm.trans hl1
            refine k_seq ?_
            refine k_region ?_
            refine s_val (wk0 rfl) rfl rfl hE hp (v := (.bool false)) (ex_asn rfl hE rfl) ?_
            intro a hE
            refine s_nil ?_
            refine k_ret ?_
            refine ⟨_, (Option.some.inj hl1).symm, fun hb => ?_⟩
            subst hb
            obtain rfl := Option.some.inj hm
            exact ret1 hE rfl rfl ⟨_, rfl, rfl, hp⟩
          · replace hl1 := (ie hb4).symm.trans hl1
            refine k_skip ?_
            refine k_region ?_
            refine s_val (wk0 rfl) rfl rfl hE hp (v := (.int .i64 lp1_0)) (ex_move rfl hE rfl) ?_
            intro a hE
            obtain ⟨x3, ex3, hl1⟩ := bnd hl1
            refine s_val (wk0 rfl) rfl rfl hE hp (v := (.int .i64 x3)) (ex_add rfl hE rfl rfl (inK_some ex3)) ?_
            intro a hE
            refine s_val (wk0 rfl) rfl rfl hE hp (v := (.int .i64 x3)) (ex_asn rfl hE rfl) ?_
            intro a hE
            refine s_nil ?_
            exact ⟨_, (Option.some.inj hl1).symm, hE.cut ⟨rfl, rfl, rfl, trivial⟩, hp⟩
        · replace hl1 := (ie hb3).symm.trans hl1
          refine k_exit ?_
          refine ⟨_, (Option.some.inj hl1).symm, fun hbb => ?_⟩
          exact ⟨_, hbb.symm, hE.cut trivial, hp⟩
    · rintro a w ⟨b1s, rfl, hE, hp⟩
      dsimp only at hm
      refine k_seq ?_
      refine k_region ?_
      refine s_val (wk0 rfl) rfl rfl hE hp (v := (.bool true)) (ex_asn rfl hE rfl) ?_
      intro a hE
      refine s_nil ?_
      refine k_ret ?_
      obtain rfl := Option.some.inj hm
      exact ret1 hE rfl rfl ⟨_, rfl, rfl, hp⟩
/- assessor/assessorref35.Same -/
set_option maxRecDepth 100000 in
set_option maxHeartbeats 4000000 in
theorem c_assessorref35_Same {Z : World} {ρ : PH} {L : List Atom} {w : World} (p0 : (List Int)) (vp0 : Value) (hp0 : RoSl ρ vp0 p0) (p1 : (List Int)) (vp1 : Value) (hp1 : RoSl ρ vp1 p1) (hp : Hp Z ρ (L) w) (r : Bool) (hm : m_assessorref35_Same p0 p1 = some r) :
    Calls Try.prog 12 #[vp0, vp1] w (Ret fun v w' => v = (.bool r) ∧ Hp Z ρ (L) w') := by
  refine enter (N := 26) Try.func12 rfl rfl [(0, vp0), (1, vp1)] rfl (argsIn_mem ⟨rfl, rfl, trivial⟩) fun a hE => ?_
  unfold m_assessorref35_Same at hm
  refine k_seq ?_
  refine k_region ?_
  refine s_val (wk0 rfl) rfl rfl hE hp (v := (.bool false)) (ex_asn rfl hE rfl) ?_
  intro a hE
  refine s_nil ?_
  refine k_seq ?_
  refine k_seq ?_
  refine k_region ?_
  refine s_val (wk0 rfl) rfl rfl hE hp (v := vp0) (ex_move rfl hE rfl) ?_
  intro a hE
  refine s_val (wk0 rfl) rfl rfl hE hp (v := (.int .i64 (p0.length : Int))) (ex_len rfl hE rfl (RoSl.len hp0 slty23)) ?_
  intro a hE
  refine s_val (wk0 rfl) rfl rfl hE hp (v := vp1) (ex_move rfl hE rfl) ?_
  intro a hE
  refine s_val (wk0 rfl) rfl rfl hE hp (v := (.int .i64 (p1.length : Int))) (ex_len rfl hE rfl (RoSl.len hp1 slty23)) ?_
  intro a hE
  refine s_val (wk0 rfl) rfl rfl hE hp (v := (.bool (!decide ((p0.length : Int) = (p1.length : Int))))) (ex_neq rfl hE rfl rfl) ?_
  intro a hE
  refine s_nil ?_
  refine k_if hE rfl (fun hb1 => ?_) (fun hb1 => ?_)
  · replace hm := (it hb1).symm.trans hm
    refine k_seq ?_
    refine k_region ?_
    refine s_val (wk0 rfl) rfl rfl hE hp (v := (.bool false)) (ex_asn rfl hE rfl) ?_
    intro a hE
    refine s_nil ?_
    refine k_ret ?_
    obtain rfl := Option.some.inj hm
    exact ret1 hE rfl rfl ⟨_, rfl, rfl, hp⟩
  · replace hm := (ie hb1).symm.trans hm
    refine k_skip ?_
    refine k_seq ?_
    refine k_seq ?_
    refine k_region ?_
    refine s_val (wk0 rfl) rfl rfl hE hp (v := (.int .i64 0)) (ex_asn rfl hE rfl) ?_
    intro a hE
    refine s_nil ?_
    obtain ⟨b1, hb2, hm⟩ := bnd hm
    refine k_block (fun a w => ∃ s : Unit, b1 = .brk s ∧ (Env 26 [] a ∧ Hp Z ρ (L) w)) ?_ ?_
    · refine k_loop hb2 (fun s a w => Env 26 [(0, vp0), (1, vp1), (5, (.int .i64 s))] a ∧ Hp Z ρ (L) w) ?_ ?_
      · exact ⟨hE.cut ⟨rfl, rfl, rfl, trivial⟩, hp⟩
      · rintro lp1_0 st a w ⟨hE, hp⟩ hl1
        have hE : Env 26 [(0, vp0), (1, vp1), (5, (.int .i64 lp1_0))] a := hE
        have hp : Hp Z ρ (L) w := hp
        replace hl1 : m_assessorref35_Same_lp1 p0 p1 lp1_0 = some st := hl1
        unfold m_assessorref35_Same_lp1 at hl1
        refine k_seq ?_
        refine k_seq ?_
        refine k_region ?_
        refine s_val (wk0 rfl) rfl rfl hE hp (v := (.int .i64 lp1_0)) (ex_move rfl hE rfl) ?_
        intro a hE
        refine s_val (wk0 rfl) rfl rfl hE hp (v := vp0) (ex_move rfl hE rfl) ?_
        intro a hE
        refine s_val (wk0 rfl) rfl rfl hE hp (v := (.int .i64 (p0.length : Int))) (ex_len rfl hE rfl (RoSl.len hp0 slty23)) ?_
        intro a hE
        refine s_val (wk0 rfl) rfl rfl hE hp (v := (.bool (decide (lp1_0 < (p0.length : Int))))) (ex_lss rfl hE rfl rfl) ?_
        intro a hE
        refine s_nil ?_
        refine k_if hE rfl (fun hb3 => ?_) (fun hb3 => ?_)
        · replace hl1 := (it hb3).symm.trans hl1
          refine k_skip ?_
          refine k_seq ?_
          refine k_plain ?_
          refine k_seq ?_
          refine k_quiet (by kernel_rfl) (by kernel_rfl) hp ?_
          refine q_val (wk0 rfl) rfl rfl hE (v := vp0) (ex_move rfl hE rfl) ?_
          intro a hE
          refine q_val (wk0 rfl) rfl rfl hE (v := (.int .i64 lp1_0)) (ex_move rfl hE rfl) ?_
          intro a hE
          obtain ⟨x1, ex1, hl1⟩ := bnd hl1
          obtain ⟨b2, b2o, b2c, b2r, b2k, b2f⟩ := RoSl.at hp0 slty23 ex1
          obtain rfl : b2c = Enc.enc x1 := b2k
          have b2f : AtP ρ b2 b2o [(.int .i64 x1)] := b2f
          refine q_val (wk0 rfl) rfl rfl hE (v := (.pointer (some ⟨b2, b2o, none⟩))) (ex_index rfl hE rfl rfl b2r) ?_
          intro a hE
          refine q_val (wk0 rfl) rfl rfl hE (v := (.int .i64 x1)) (ex_load rfl hE rfl (fun w hw => run_ld1 varty3 (b2f.c 0 rfl w hw))) ?_
          intro a hE
          refine q_val (wk0 rfl) rfl rfl hE (v := vp1) (ex_move rfl hE rfl) ?_
          intro a hE
          refine q_val (wk0 rfl) rfl rfl hE (v := (.int .i64 lp1_0)) (ex_move rfl hE rfl) ?_
          intro a hE
          obtain ⟨x2, ex2, hl1⟩ := bnd hl1
          obtain ⟨b3, b3o, b3c, b3r, b3k, b3f⟩ := RoSl.at hp1 slty23 ex2
          obtain rfl : b3c = Enc.enc x2 := b3k
          have b3f : AtP ρ b3 b3o [(.int .i64 x2)] := b3f
          refine q_val (wk0 rfl) rfl rfl hE (v := (.pointer (some ⟨b3, b3o, none⟩))) (ex_index rfl hE rfl rfl b3r) ?_
          intro a hE
          refine q_val (wk0 rfl) rfl rfl hE (v := (.int .i64 x2)) (ex_load rfl hE rfl (fun w hw => run_ld1 varty3 (b3f.c 0 rfl w hw))) ?_
          intro a hE
          refine q_val (wk0 rfl) rfl rfl hE (v := (.bool (!decide (x1 = x2)))) (ex_neq rfl hE rfl rfl) ?_
          intro a hE
          refine q_nil fun w hp => ?_
          have hp : Hp Z ρ (L) w := hp
          refine k_if hE rfl (fun hb4 => ?_) (fun hb4 => ?_)
          · replace hl1 := (it hb4).symm.trans hl1
            refine k_seq ?_
            refine k_region ?_
            refine s_val (wk0 rfl) rfl rfl hE hp (v := (.bool false)) (ex_asn rfl hE rfl) ?_
            intro a hE
            refine s_nil ?_
            refine k_ret ?_
            refine ⟨_, (Option.some.inj hl1).symm, fun hb => ?_⟩
            subst hb
            obtain rfl := Option.some.inj hm
            exact ret1 hE rfl rfl ⟨_, rfl, rfl, hp⟩
          · replace hl1 := (ie hb4).symm.trans hl1
            refine k_skip ?_
            refine k_region ?_
            refine s_val (wk0 rfl) rfl rfl hE hp (v := (.int .i64 lp1_0)) (ex_move rfl hE rfl) ?_
            intro a hE
            obtain ⟨x3, ex3, hl1⟩ := bnd hl1
            refine s_val (wk0 rfl) rfl rfl hE hp (v := (.int .i64 x3)) (ex_add rfl hE rfl rfl (inK_some ex3)) ?_
            intro a hE
            refine s_val (wk0 rfl) rfl rfl hE hp (v := (.int .i64 x3)) (ex_asn rfl hE rfl) ?_
            intro a hE
            refine s_nil ?_
            exact ⟨_, (Option.some.inj hl1).symm, hE.cut ⟨rfl, rfl, rfl, trivial⟩, hp⟩
        · replace hl1 := (ie hb3).symm.trans hl1
          refine k_exit ?_
          refine ⟨_, (Option.some.inj hl1).symm, fun hbb => ?_⟩
          exact ⟨_, hbb.symm, hE.cut trivial, hp⟩
    · rintro a w ⟨b1s, rfl, hE, hp⟩
      dsimp only at hm
      refine k_seq ?_
      refine k_region ?_
      refine s_val (wk0 rfl) rfl rfl hE hp (v := (.bool true)) (ex_asn rfl hE rfl) ?_
      intro a hE
      refine s_nil ?_
      refine k_ret ?_
      obtain rfl := Option.some.inj hm
      exact ret1 hE rfl rfl ⟨_, rfl, rfl, hp⟩
/- assessor/assessorref44.Hashes -/
set_option maxRecDepth 100000 in
set_option maxHeartbeats 4000000 in
theorem c_assessorref44_Hashes {Z : World} {ρ : PH} {L : List Atom} {w : World} (p0 : (List Mark)) (vp0 : Value) (hp0 : RoSl ρ vp0 p0) (hp : Hp Z ρ (L) w) (r : (List Int)) (hm : m_assessorref44_Hashes p0 = some r) :
    Calls Try.prog 14 #[vp0] w (Ret fun v w' => ∃ (vr1 : Value), v = vr1 ∧ Hp Z ρ (OwnSl 3 vr1 r :: L) w') := by
  refine enter (N := 20) Try.func14 rfl rfl [(0, vp0)] rfl (argsIn_mem ⟨rfl, trivial⟩) fun a hE => ?_
  unfold m_assessorref44_Hashes at hm
  refine k_seq ?_
  refine k_region ?_
  refine s_val (wk0 rfl) rfl rfl hE hp (v := (.slice none 0 0)) (ex_asn rfl hE rfl) ?_
  intro a hE
  refine s_nil ?_
  refine k_seq ?_
  refine k_region ?_
  refine s_lit (wk0 rfl) rfl rfl hE hp rfl [] trivial [] 3 (fun w => by simp [Instr.buildSlice, Instr.fill, Value.cells, go_sem]) ?_
  intro a w b1 hE hp
  have hp : Hp Z ρ (Pt b1 (.cells #[] 3 (0, 0)) :: L) w := hp
  refine s_val (wk0 rfl) rfl rfl hE hp (v := (.slice (some ⟨b1, 0, none⟩) 0 0)) (ex_asn rfl hE rfl) ?_
  intro a hE
  refine s_nil ?_
  refine k_seq ?_
  refine k_seq ?_
  refine k_region ?_
  refine s_val (wk0 rfl) rfl rfl hE hp (v := (.int .i64 0)) (ex_asn rfl hE rfl) ?_
  intro a hE
  refine s_nil ?_
  have hp := (hp.get 0 rfl).imp (own_of_pt (l := (([] : List Int) : List Int)) (n := 0) rfl (by decide) rfl)
  have hp : Hp Z ρ (OwnSl 3 (.slice (some ⟨b1, 0, none⟩) 0 0) ([] : List Int) :: L) w := hp
  obtain ⟨b2, hb1, hm⟩ := bnd hm
  refine k_block (fun a w => ∃ (w2 : Value), Env 20 [(3, w2)] a ∧ Hp Z ρ (OwnSl 3 w2 b2 :: L) w) ?_ ?_
  · refine k_loop hb1 (fun s a w => ∃ (w2 : Value), Env 20 [(0, vp0), (3, w2), (4, (.int .i64 s.1))] a ∧ Hp Z ρ (OwnSl 3 w2 s.2 :: L) w) ?_ ?_
    · exact ⟨_, hE.cut ⟨rfl, rfl, rfl, trivial⟩, hp⟩
    · rintro ⟨lp1_0, lp1_1⟩ st a w ⟨w2, hE, hp⟩ hl1
      have hE : Env 20 [(0, vp0), (3, w2), (4, (.int .i64 lp1_0))] a := hE
      have hp : Hp Z ρ (OwnSl 3 w2 lp1_1 :: L) w := hp
      replace hl1 : m_assessorref44_Hashes_lp1 p0 lp1_0 lp1_1 = some st := hl1
      unfold m_assessorref44_Hashes_lp1 at hl1
      refine k_seq ?_
      refine k_seq ?_
      refine k_region ?_
      refine s_val (wk0 rfl) rfl rfl hE hp (v := (.int .i64 lp1_0)) (ex_move rfl hE rfl) ?_
      intro a hE
      refine s_val (wk0 rfl) rfl rfl hE hp (v := vp0) (ex_move rfl hE rfl) ?_
      intro a hE
      refine s_val (wk0 rfl) rfl rfl hE hp (v := (.int .i64 (p0.length : Int))) (ex_len rfl hE rfl (RoSl.len hp0 slty26)) ?_
      intro a hE
      refine s_val (wk0 rfl) rfl rfl hE hp (v := (.bool (decide (lp1_0 < (p0.length : Int))))) (ex_lss rfl hE rfl rfl) ?_
      intro a hE
      refine s_nil ?_
      refine k_if hE rfl (fun hb2 => ?_) (fun hb2 => ?_)
      · replace hl1 := (it hb2).symm.trans hl1
        refine k_skip ?_
        refine k_seq ?_
        refine k_plain ?_
        refine k_region ?_
        refine s_val (wk0 rfl) rfl rfl hE hp (v := w2) (ex_move rfl hE rfl) ?_
        intro a hE
        refine s_val (wk0 rfl) rfl rfl hE hp (v := vp0) (ex_move rfl hE rfl) ?_
        intro a hE
        refine s_val (wk0 rfl) rfl rfl hE hp (v := (.int .i64 lp1_0)) (ex_move rfl hE rfl) ?_
        intro a hE
        obtain ⟨x1, ex1, hl1⟩ := bnd hl1
        obtain ⟨b3, b3o, b3c, b3r, b3k, b3f⟩ := RoSl.at hp0 slty26 ex1
        obtain rfl : b3c = Enc.enc x1 := b3k
        have b3f : AtP ρ b3 b3o [(.int .i64 x1.hash), (.int .i64 x1.at_)] := b3f
        refine s_val (wk0 rfl) rfl rfl hE hp (v := (.pointer (some ⟨b3, b3o, none⟩))) (ex_index rfl hE rfl rfl b3r) ?_
        intro a hE
        refine s_val (wk0 rfl) rfl rfl hE hp (v := (.pointer (some ⟨b3, b3o, none⟩))) (ex_field rfl hE rfl (fldty65_0 _ _)) ?_
        intro a hE
        refine s_val (wk0 rfl) rfl rfl hE hp (v := (.int .i64 x1.hash)) (ex_load rfl hE rfl (fun w hw => run_ld1 varty3 (b3f.c 0 rfl w hw))) ?_
        intro a hE
        obtain ⟨x2, ex2, hl1⟩ := bnd hl1
        refine s_call (wk0 rfl) rfl rfl hE rfl [w2, (.int .i64 x1.hash)] ⟨rfl, rfl, trivial⟩ ent35 (c_assessorref43_Add_own lp1_1 w2 x1.hash (hp.get 0 rfl) x2 ex2) Ret.ret ?_
        intro v1 a w hR hE
        obtain ⟨u, hu, hp⟩ := Ret.of hR
        rw [← hu] at hp
        have hp : Hp Z ρ (OwnSl 3 v1 x2 :: L) w := hp
        refine s_val (wk0 rfl) rfl rfl hE hp (v := v1) (ex_asn rfl hE rfl) ?_
        intro a hE
        refine s_nil ?_
        refine k_region ?_
        refine s_val (wk0 rfl) rfl rfl hE hp (v := (.int .i64 lp1_0)) (ex_move rfl hE rfl) ?_
        intro a hE
        obtain ⟨x3, ex3, hl1⟩ := bnd hl1
        refine s_val (wk0 rfl) rfl rfl hE hp (v := (.int .i64 x3)) (ex_add rfl hE rfl rfl (inK_some ex3)) ?_
        intro a hE
        refine s_val (wk0 rfl) rfl rfl hE hp (v := (.int .i64 x3)) (ex_asn rfl hE rfl) ?_
        intro a hE
        refine s_nil ?_
        exact ⟨_, (Option.some.inj hl1).symm, _, hE.cut ⟨rfl, rfl, rfl, trivial⟩, hp⟩
      · replace hl1 := (ie hb2).symm.trans hl1
        refine k_exit ?_
        refine ⟨_, (Option.some.inj hl1).symm, fun hbb => ?_⟩
        subst hbb
        exact ⟨_, hE.cut ⟨rfl, trivial⟩, hp⟩
  · rintro a w ⟨w2, hE, hp⟩
    refine k_seq ?_
    refine k_region ?_
    refine s_val (wk0 rfl) rfl rfl hE hp (v := w2) (ex_move rfl hE rfl) ?_
    intro a hE
    refine s_val (wk0 rfl) rfl rfl hE hp (v := w2) (ex_asn rfl hE rfl) ?_
    intro a hE
    refine s_nil ?_
    refine k_ret ?_
    obtain rfl := Option.some.inj hm
    exact ret1 hE rfl rfl ⟨_, rfl, _, rfl, hp⟩
/- assessor/assessorref44.Has -/
set_option maxRecDepth 100000 in
set_option maxHeartbeats 4000000 in
theorem c_assessorref44_Has {Z : World} {ρ : PH} {L : List Atom} {w : World} (p0 : (List Int)) (vp0 : Value) (hp0 : RoSl ρ vp0 p0) (p1 : Int) (hp : Hp Z ρ (L) w) (r : Bool) (hm : m_assessorref44_Has p0 p1 = some r) :
    Calls Try.prog 28 #[vp0, (.int .i64 p1)] w (Ret fun v w' => v = (.bool r) ∧ Hp Z ρ (L) w') := by
  refine enter (N := 18) Try.func28 rfl rfl [(0, vp0), (1, (.int .i64 p1))] rfl (argsIn_mem ⟨rfl, rfl, trivial⟩) fun a hE => ?_
  unfold m_assessorref44_Has at hm
  refine k_seq ?_
  refine k_region ?_
  refine s_val (wk0 rfl) rfl rfl hE hp (v := (.bool false)) (ex_asn rfl hE rfl) ?_
  intro a hE
  refine s_nil ?_
  refine k_seq ?_
  refine k_seq ?_
  refine k_region ?_
  refine s_val (wk0 rfl) rfl rfl hE hp (v := (.int .i64 0)) (ex_asn rfl hE rfl) ?_
  intro a hE
  refine s_nil ?_
  obtain ⟨b1, hb1, hm⟩ := bnd hm
  refine k_block (fun a w => ∃ s : Unit, b1 = .brk s ∧ (Env 18 [] a ∧ Hp Z ρ (L) w)) ?_ ?_
  · refine k_loop hb1 (fun s a w => Env 18 [(0, vp0), (1, (.int .i64 p1)), (5, (.int .i64 s))] a ∧ Hp Z ρ (L) w) ?_ ?_
    · exact ⟨hE.cut ⟨rfl, rfl, rfl, trivial⟩, hp⟩
    · rintro lp1_0 st a w ⟨hE, hp⟩ hl1
      have hE : Env 18 [(0, vp0), (1, (.int .i64 p1)), (5, (.int .i64 lp1_0))] a := hE
      have hp : Hp Z ρ (L) w := hp
      replace hl1 : m_assessorref44_Has_lp1 p0 p1 lp1_0 = some st := hl1
      unfold m_assessorref44_Has_lp1 at hl1
      refine k_seq ?_
      refine k_seq ?_
      refine k_region ?_
      refine s_val (wk0 rfl) rfl rfl hE hp (v := (.int .i64 lp1_0)) (ex_move rfl hE rfl) ?_
      intro a hE
      refine s_val (wk0 rfl) rfl rfl hE hp (v := vp0) (ex_move rfl hE rfl) ?_
      intro a hE
      refine s_val (wk0 rfl) rfl rfl hE hp (v := (.int .i64 (p0.length : Int))) (ex_len rfl hE rfl (RoSl.len hp0 slty23)) ?_
      intro a hE
      refine s_val (wk0 rfl) rfl rfl hE hp (v := (.bool (decide (lp1_0 < (p0.length : Int))))) (ex_lss rfl hE rfl rfl) ?_
      intro a hE
      refine s_nil ?_
      refine k_if hE rfl (fun hb2 => ?_) (fun hb2 => ?_)
      · replace hl1 := (it hb2).symm.trans hl1
        refine k_skip ?_
        refine k_seq ?_
        refine k_plain ?_
        refine k_seq ?_
        refine k_region ?_
        refine s_val (wk0 rfl) rfl rfl hE hp (v := vp0) (ex_move rfl hE rfl) ?_
        intro a hE
        refine s_val (wk0 rfl) rfl rfl hE hp (v := (.int .i64 lp1_0)) (ex_move rfl hE rfl) ?_
        intro a hE
        obtain ⟨x1, ex1, hl1⟩ := bnd hl1
        obtain ⟨b2, b2o, b2c, b2r, b2k, b2f⟩ := RoSl.at hp0 slty23 ex1
        obtain rfl : b2c = Enc.enc x1 := b2k
        have b2f : AtP ρ b2 b2o [(.int .i64 x1)] := b2f
        refine s_val (wk0 rfl) rfl rfl hE hp (v := (.pointer (some ⟨b2, b2o, none⟩))) (ex_index rfl hE rfl rfl b2r) ?_
        intro a hE
        refine s_val (wk0 rfl) rfl rfl hE hp (v := (.int .i64 x1)) (ex_load rfl hE rfl (fun w hw => run_ld1 varty3 (b2f.c 0 rfl w hw))) ?_
        intro a hE
        refine s_val (wk0 rfl) rfl rfl hE hp (v := (.int .i64 p1)) (ex_move rfl hE rfl) ?_
        intro a hE
        refine s_val (wk0 rfl) rfl rfl hE hp (v := (.bool (decide (x1 = p1)))) (ex_eql rfl hE rfl rfl) ?_
        intro a hE
        refine s_nil ?_
        have hE := hE.cut (E' := [(0, vp0), (1, (.int .i64 p1)), (5, (.int .i64 lp1_0)), (17, (.bool (decide (x1 = p1))))]) ⟨rfl, rfl, rfl, rfl, trivial⟩
        refine k_if hE rfl (fun hb3 => ?_) (fun hb3 => ?_)
        · replace hl1 := (it hb3).symm.trans hl1
          refine k_seq ?_
          refine k_region ?_
          refine s_val (wk0 rfl) rfl rfl hE hp (v := (.bool true)) (ex_asn rfl hE rfl) ?_
          intro a hE
          refine s_nil ?_
          refine k_ret ?_
          refine ⟨_, (Option.some.inj hl1).symm, fun hb => ?_⟩
          subst hb
          obtain rfl := Option.some.inj hm
          exact ret1 hE rfl rfl ⟨_, rfl, rfl, hp⟩
        · replace hl1 := (ie hb3).symm.trans hl1
          refine k_skip ?_
          refine k_region ?_
          refine s_val (wk0 rfl) rfl rfl hE hp (v := (.int .i64 lp1_0)) (ex_move rfl hE rfl) ?_
          intro a hE
          obtain ⟨x2, ex2, hl1⟩ := bnd hl1
          refine s_val (wk0 rfl) rfl rfl hE hp (v := (.int .i64 x2)) (ex_add rfl hE rfl rfl (inK_some ex2)) ?_
          intro a hE
          refine s_val (wk0 rfl) rfl rfl hE hp (v := (.int .i64 x2)) (ex_asn rfl hE rfl) ?_
          intro a hE
          refine s_nil ?_
          exact ⟨_, (Option.some.inj hl1).symm, hE.cut ⟨rfl, rfl, rfl, trivial⟩, hp⟩
      · replace hl1 := (ie hb2).symm.trans hl1
        refine k_exit ?_
        refine ⟨_, (Option.some.inj hl1).symm, fun hbb => ?_⟩
        exact ⟨_, hbb.symm, hE.cut trivial, hp⟩
  · rintro a w ⟨b1s, rfl, hE, hp⟩
    dsimp only at hm
    refine k_seq ?_
    refine k_region ?_
    refine s_val (wk0 rfl) rfl rfl hE hp (v := (.bool false)) (ex_asn rfl hE rfl) ?_
    intro a hE
    refine s_nil ?_
    refine k_ret ?_
    obtain rfl := Option.some.inj hm
    exact ret1 hE rfl rfl ⟨_, rfl, rfl, hp⟩
/- assessor/assessorref44.Compare -/
set_option maxRecDepth 100000 in
set_option maxHeartbeats 4000000 in
theorem c_assessorref44_Compare {Z : World} {ρ : PH} {L : List Atom} {w : World} (p0 : (List Mark)) (vp0 : Value) (hp0 : RoSl ρ vp0 p0) (p1 : (List Mark)) (vp1 : Value) (hp1 : RoSl ρ vp1 p1) (hp : Hp Z ρ (L) w) (r : (Int × Int)) (hm : m_assessorref44_Compare p0 p1 = some r) :
    Calls Try.prog 19 #[vp0, vp1] w (Ret fun v w' => v = .tuple #[(.int .i64 r.1), (.int .i64 r.2)] ∧ Hp Z ρ (L) w') := by
  refine enter (N := 36) Try.func19 rfl rfl [(0, vp0), (1, vp1)] rfl (argsIn_mem ⟨rfl, rfl, trivial⟩) fun a hE => ?_
  unfold m_assessorref44_Compare at hm
  refine k_seq ?_
  refine k_region ?_
  refine s_val (wk0 rfl) rfl rfl hE hp (v := (.int .i64 0)) (ex_asn rfl hE rfl) ?_
  intro a hE
  refine s_val (wk0 rfl) rfl rfl hE hp (v := (.int .i64 0)) (ex_asn rfl hE rfl) ?_
  intro a hE
  refine s_nil ?_
  refine k_seq ?_
  refine k_region ?_
  refine s_val (wk0 rfl) rfl rfl hE hp (v := vp0) (ex_move rfl hE rfl) ?_
  intro a hE
  obtain ⟨x1, ex1, hm⟩ := bnd hm
  refine s_call (wk0 rfl) rfl rfl hE rfl [vp0] ⟨rfl, trivial⟩ ent14 (c_assessorref44_Hashes p0 vp0 hp0 hp x1 ex1) Ret.ret ?_
  intro vr1 a w hR hE
  obtain ⟨u, rfl, hp⟩ := Ret.of hR
  have hp : Hp Z ρ (OwnSl 3 vr1 x1 :: L) w := hp
  refine s_val (wk0 rfl) rfl rfl hE hp (v := vp1) (ex_move rfl hE rfl) ?_
  intro a hE
  obtain ⟨x2, ex2, hm⟩ := bnd hm
  refine s_call (wk0 rfl) rfl rfl hE rfl [vp1] ⟨rfl, trivial⟩ ent14 (c_assessorref44_Hashes p1 vp1 hp1 hp x2 ex2) Ret.ret ?_
  intro vr2 a w hR hE
  obtain ⟨u, rfl, hp⟩ := Ret.of hR
  have hp : Hp Z ρ (OwnSl 3 vr2 x2 :: _ :: L) w := hp
  refine s_val (wk0 rfl) rfl rfl hE hp (v := vr1) (ex_asn rfl hE rfl) ?_
  intro a hE
  refine s_val (wk0 rfl) rfl rfl hE hp (v := vr2) (ex_asn rfl hE rfl) ?_
  intro a hE
  refine s_nil ?_
  refine k_seq ?_
  refine k_region ?_
  refine s_val (wk0 rfl) rfl rfl hE hp (v := (.int .i64 0)) (ex_asn rfl hE rfl) ?_
  intro a hE
  refine s_nil ?_
  refine k_seq ?_
  refine k_seq ?_
  refine k_region ?_
  refine s_val (wk0 rfl) rfl rfl hE hp (v := (.int .i64 0)) (ex_asn rfl hE rfl) ?_
  intro a hE
  refine s_nil ?_
  obtain ⟨b1, hb1, hm⟩ := bnd hm
  refine k_block (fun a w => Env 36 [(6, vr1), (7, vr2), (8, (.int .i64 b1))] a ∧ Hp Z ρ (OwnSl 3 vr2 x2 :: OwnSl 3 vr1 x1 :: L) w) ?_ ?_
  · refine k_loop hb1 (fun s a w => Env 36 [(6, vr1), (7, vr2), (8, (.int .i64 s.1)), (9, (.int .i64 s.2))] a ∧ Hp Z ρ (OwnSl 3 vr2 x2 :: OwnSl 3 vr1 x1 :: L) w) ?_ ?_
    · exact ⟨hE.cut ⟨rfl, rfl, rfl, rfl, trivial⟩, hp⟩
    · rintro ⟨lp1_0, lp1_1⟩ st a w ⟨hE, hp⟩ hl1
      have hE : Env 36 [(6, vr1), (7, vr2), (8, (.int .i64 lp1_0)), (9, (.int .i64 lp1_1))] a := hE
      have hp : Hp Z ρ (_ :: _ :: L) w := hp
      replace hl1 : m_assessorref44_Compare_lp1 x1 x2 lp1_0 lp1_1 = some st := hl1
      unfold m_assessorref44_Compare_lp1 at hl1
      refine k_seq ?_
      refine k_seq ?_
      refine k_region ?_
      refine s_val (wk0 rfl) rfl rfl hE hp (v := (.int .i64 lp1_1)) (ex_move rfl hE rfl) ?_
      intro a hE
      refine s_val (wk0 rfl) rfl rfl hE hp (v := vr1) (ex_move rfl hE rfl) ?_
      intro a hE
      refine s_val (wk0 rfl) rfl rfl hE hp (v := (.int .i64 (x1.length : Int))) (ex_len rfl hE rfl (OwnSl.len hp 1 rfl slty23)) ?_
      intro a hE
      refine s_val (wk0 rfl) rfl rfl hE hp (v := (.bool (decide (lp1_1 < (x1.length : Int))))) (ex_lss rfl hE rfl rfl) ?_
      intro a hE
      refine s_nil ?_
      refine k_if hE rfl (fun hb2 => ?_) (fun hb2 => ?_)
      · replace hl1 := (it hb2).symm.trans hl1
        refine k_skip ?_
        refine k_seq ?_
        refine k_plain ?_
        refine k_seq ?_
        refine k_region ?_
        refine s_val (wk0 rfl) rfl rfl hE hp (v := vr2) (ex_move rfl hE rfl) ?_
        intro a hE
        refine s_val (wk0 rfl) rfl rfl hE hp (v := vr1) (ex_move rfl hE rfl) ?_
        intro a hE
        refine s_val (wk0 rfl) rfl rfl hE hp (v := (.int .i64 lp1_1)) (ex_move rfl hE rfl) ?_
        intro a hE
        obtain ⟨x3, ex3, hl1⟩ := bnd hl1
        obtain ⟨b2, b2o, b2r, b2v, b2f⟩ := OwnSl.at hp 1 rfl slty23 ex3
        have b2f : ∀ (j : Nat) (u : Value), ([(.int .i64 x3)] : List Value)[j]? = some u → ∀ ρ' L' w, Hp Z ρ' (OwnSl 3 vr1 x1 :: L') w → w.cell? ⟨b2, b2o + j, none⟩ = some u := b2f
        refine s_val (wk0 rfl) rfl rfl hE hp (v := (.pointer (some ⟨b2, b2o, none⟩))) (ex_index rfl hE rfl rfl b2r) ?_
        intro a hE
        refine s_val (wk0 rfl) rfl rfl hE hp (v := (.int .i64 x3)) (ex_load rfl hE rfl (fun w hw => run_ld1 varty3 (b2f 0 _ rfl _ _ w (hw.get 1 rfl)))) ?_
        intro a hE
        obtain ⟨k1, k1a, k1d, k1h⟩ := (hp.get 0 rfl).lend
        obtain ⟨x4, ex4, hl1⟩ := bnd hl1
        refine s_call (wk0 rfl) rfl rfl hE rfl [vr2, (.int .i64 x3)] ⟨rfl, rfl, trivial⟩ ent28 (c_assessorref44_Has x2 vr2 (OwnSl.ro k1d k1a) x3 k1h x4 ex4) Ret.ret ?_
        intro v a w hR hE
        obtain ⟨rfl, hp⟩ := Ret.of hR
        have hp := Hp.back k1a k1d hp
        have hp : Hp Z ρ (_ :: _ :: L) w := hp
        refine s_nil ?_
        refine k_if hE rfl (fun hb3 => ?_) (fun hb3 => ?_)
        · replace hl1 := (it hb3).symm.trans hl1
          refine k_region ?_
          refine s_val (wk0 rfl) rfl rfl hE hp (v := (.int .i64 lp1_0)) (ex_move rfl hE rfl) ?_
          intro a hE
          obtain ⟨x5, ex5, hl1⟩ := bnd hl1
          refine s_val (wk0 rfl) rfl rfl hE hp (v := (.int .i64 x5)) (ex_add rfl hE rfl rfl (inK_some ex5)) ?_
          intro a hE
          refine s_val (wk0 rfl) rfl rfl hE hp (v := (.int .i64 x5)) (ex_asn rfl hE rfl) ?_
          intro a hE
          refine s_nil ?_
          refine k_region ?_
          refine s_val (wk0 rfl) rfl rfl hE hp (v := (.int .i64 lp1_1)) (ex_move rfl hE rfl) ?_
          intro a hE
          obtain ⟨x6, ex6, hl1⟩ := bnd hl1
          refine s_val (wk0 rfl) rfl rfl hE hp (v := (.int .i64 x6)) (ex_add rfl hE rfl rfl (inK_some ex6)) ?_
          intro a hE
          refine s_val (wk0 rfl) rfl rfl hE hp (v := (.int .i64 x6)) (ex_asn rfl hE rfl) ?_
          intro a hE
          refine s_nil ?_
          exact ⟨_, (Option.some.inj hl1).symm, hE.cut ⟨rfl, rfl, rfl, rfl, trivial⟩, hp⟩
        · replace hl1 := (ie hb3).symm.trans hl1
          refine k_skip ?_
          refine k_region ?_
          refine s_val (wk0 rfl) rfl rfl hE hp (v := (.int .i64 lp1_1)) (ex_move rfl hE rfl) ?_
          intro a hE
          obtain ⟨x7, ex7, hl1⟩ := bnd hl1
          refine s_val (wk0 rfl) rfl rfl hE hp (v := (.int .i64 x7)) (ex_add rfl hE rfl rfl (inK_some ex7)) ?_
          intro a hE
          refine s_val (wk0 rfl) rfl rfl hE hp (v := (.int .i64 x7)) (ex_asn rfl hE rfl) ?_
          intro a hE
          refine s_nil ?_
          have hE := hE.cut (E' := [(6, vr1), (7, vr2), (8, (.int .i64 lp1_0)), (9, (.int .i64 x7))]) ⟨rfl, rfl, rfl, rfl, trivial⟩
          exact ⟨_, (Option.some.inj hl1).symm, hE.cut ⟨rfl, rfl, rfl, rfl, trivial⟩, hp⟩
      · replace hl1 := (ie hb2).symm.trans hl1
        refine k_exit ?_
        refine ⟨_, (Option.some.inj hl1).symm, fun hbb => ?_⟩
        subst hbb
        exact ⟨hE.cut ⟨rfl, rfl, rfl, trivial⟩, hp⟩
  · rintro a w ⟨hE, hp⟩
    refine k_seq ?_
    refine k_region ?_
    refine s_val (wk0 rfl) rfl rfl hE hp (v := (.int .i64 b1)) (ex_move rfl hE rfl) ?_
    intro a hE
    refine s_val (wk0 rfl) rfl rfl hE hp (v := vr1) (ex_move rfl hE rfl) ?_
    intro a hE
    refine s_val (wk0 rfl) rfl rfl hE hp (v := (.int .i64 (x1.length : Int))) (ex_len rfl hE rfl (OwnSl.len hp 1 rfl slty23)) ?_
    intro a hE
    refine s_val (wk0 rfl) rfl rfl hE hp (v := vr2) (ex_move rfl hE rfl) ?_
    intro a hE
    refine s_val (wk0 rfl) rfl rfl hE hp (v := (.int .i64 (x2.length : Int))) (ex_len rfl hE rfl (OwnSl.len hp 0 rfl slty23)) ?_
    intro a hE
    obtain ⟨x8, ex8, hm⟩ := bnd hm
    refine s_val (wk0 rfl) rfl rfl hE hp (v := (.int .i64 x8)) (ex_add rfl hE rfl rfl (inK_some ex8)) ?_
    intro a hE
    refine s_val (wk0 rfl) rfl rfl hE hp (v := (.int .i64 b1)) (ex_move rfl hE rfl) ?_
    intro a hE
    obtain ⟨x9, ex9, hm⟩ := bnd hm
    refine s_val (wk0 rfl) rfl rfl hE hp (v := (.int .i64 x9)) (ex_sub rfl hE rfl rfl (inK_some ex9)) ?_
    intro a hE
    refine s_val (wk0 rfl) rfl rfl hE hp (v := (.int .i64 b1)) (ex_asn rfl hE rfl) ?_
    intro a hE
    refine s_val (wk0 rfl) rfl rfl hE hp (v := (.int .i64 x9)) (ex_asn rfl hE rfl) ?_
    intro a hE
    refine s_nil ?_
    refine k_ret ?_
    obtain rfl := Option.some.inj hm
    exact ret2 hE rfl rfl rfl ⟨_, rfl, rfl, (((hp.get 1 rfl).drop).drop)⟩
/- assessor/assessorref44.Without -/
set_option maxRecDepth 100000 in
set_option maxHeartbeats 4000000 in
theorem c_assessorref44_Without {Z : World} {ρ : PH} {L : List Atom} {w : World} (p0 : (List Mark)) (vp0 : Value) (hp0 : RoSl ρ vp0 p0) (p1 : (List Int)) (vp1 : Value) (hp1 : RoSl ρ vp1 p1) (hp : Hp Z ρ (L) w) (r : (List Mark)) (hm : m_assessorref44_Without p0 p1 = some r) :
    Calls Try.prog 17 #[vp0, vp1] w (Ret fun v w' => ∃ (vr1 : Value), v = vr1 ∧ Hp Z ρ (OwnSl 65 vr1 r :: L) w') := by
  refine enter (N := 30) Try.func17 rfl rfl [(0, vp0), (1, vp1)] rfl (argsIn_mem ⟨rfl, rfl, trivial⟩) fun a hE => ?_
  unfold m_assessorref44_Without at hm
  refine k_seq ?_
  refine k_region ?_
  refine s_val (wk0 rfl) rfl rfl hE hp (v := (.slice none 0 0)) (ex_asn rfl hE rfl) ?_
  intro a hE
  refine s_nil ?_
  refine k_seq ?_
  refine k_region ?_
  refine s_lit (wk0 rfl) rfl rfl hE hp rfl [] trivial [] 65 (fun w => by simp [Instr.buildSlice, Instr.fill, Value.cells, go_sem]) ?_
  intro a w b1 hE hp
  have hp : Hp Z ρ (Pt b1 (.cells #[] 65 (0, 0)) :: L) w := hp
  refine s_val (wk0 rfl) rfl rfl hE hp (v := (.slice (some ⟨b1, 0, none⟩) 0 0)) (ex_asn rfl hE rfl) ?_
  intro a hE
  refine s_nil ?_
  refine k_seq ?_
  refine k_seq ?_
  refine k_region ?_
  refine s_val (wk0 rfl) rfl rfl hE hp (v := (.int .i64 0)) (ex_asn rfl hE rfl) ?_
  intro a hE
  refine s_nil ?_
  have hp := (hp.get 0 rfl).imp (own_of_pt (l := (([] : List Mark) : List Mark)) (n := 0) rfl (by decide) rfl)
  have hp : Hp Z ρ (OwnSl 65 (.slice (some ⟨b1, 0, none⟩) 0 0) ([] : List Mark) :: L) w := hp
  obtain ⟨b2, hb1, hm⟩ := bnd hm
  refine k_block (fun a w => ∃ (w2 : Value), Env 30 [(5, w2)] a ∧ Hp Z ρ (OwnSl 65 w2 b2 :: L) w) ?_ ?_
  · refine k_loop hb1 (fun s a w => ∃ (w2 : Value), Env 30 [(0, vp0), (1, vp1), (5, w2), (6, (.int .i64 s.1))] a ∧ Hp Z ρ (OwnSl 65 w2 s.2 :: L) w) ?_ ?_
    · exact ⟨_, hE.cut ⟨rfl, rfl, rfl, rfl, trivial⟩, hp⟩
    · rintro ⟨lp1_0, lp1_1⟩ st a w ⟨w2, hE, hp⟩ hl1
      have hE : Env 30 [(0, vp0), (1, vp1), (5, w2), (6, (.int .i64 lp1_0))] a := hE
      have hp : Hp Z ρ (OwnSl 65 w2 lp1_1 :: L) w := hp
      replace hl1 : m_assessorref44_Without_lp1 p0 p1 lp1_0 lp1_1 = some st := hl1
      unfold m_assessorref44_Without_lp1 at hl1
      refine k_seq ?_
      refine k_seq ?_
      refine k_region ?_
      refine s_val (wk0 rfl) rfl rfl hE hp (v := (.int .i64 lp1_0)) (ex_move rfl hE rfl) ?_
      intro a hE
      refine s_val (wk0 rfl) rfl rfl hE hp (v := vp0) (ex_move rfl hE rfl) ?_
      intro a hE
      refine s_val (wk0 rfl) rfl rfl hE hp (v := (.int .i64 (p0.length : Int))) (ex_len rfl hE rfl (RoSl.len hp0 slty26)) ?_
      intro a hE
      refine s_val (wk0 rfl) rfl rfl hE hp (v := (.bool (decide (lp1_0 < (p0.length : Int))))) (ex_lss rfl hE rfl rfl) ?_
      intro a hE
      refine s_nil ?_
      refine k_if hE rfl (fun hb2 => ?_) (fun hb2 => ?_)
      · replace hl1 := (it hb2).symm.trans hl1
        refine k_skip ?_
        refine k_seq ?_
        refine k_plain ?_
        refine k_seq ?_
        refine k_region ?_
        refine s_val (wk0 rfl) rfl rfl hE hp (v := vp1) (ex_move rfl hE rfl) ?_
        intro a hE
        refine s_val (wk0 rfl) rfl rfl hE hp (v := vp0) (ex_move rfl hE rfl) ?_
        intro a hE
        refine s_val (wk0 rfl) rfl rfl hE hp (v := (.int .i64 lp1_0)) (ex_move rfl hE rfl) ?_
        intro a hE
        obtain ⟨x1, ex1, hl1⟩ := bnd hl1
        obtain ⟨b3, b3o, b3c, b3r, b3k, b3f⟩ := RoSl.at hp0 slty26 ex1
        obtain rfl : b3c = Enc.enc x1 := b3k
        have b3f : AtP ρ b3 b3o [(.int .i64 x1.hash), (.int .i64 x1.at_)] := b3f
        refine s_val (wk0 rfl) rfl rfl hE hp (v := (.pointer (some ⟨b3, b3o, none⟩))) (ex_index rfl hE rfl rfl b3r) ?_
        intro a hE
        refine s_val (wk0 rfl) rfl rfl hE hp (v := (.pointer (some ⟨b3, b3o, none⟩))) (ex_field rfl hE rfl (fldty65_0 _ _)) ?_
        intro a hE
        refine s_val (wk0 rfl) rfl rfl hE hp (v := (.int .i64 x1.hash)) (ex_load rfl hE rfl (fun w hw => run_ld1 varty3 (b3f.c 0 rfl w hw))) ?_
        intro a hE
        obtain ⟨x2, ex2, hl1⟩ := bnd hl1
        refine s_call (wk0 rfl) rfl rfl hE rfl [vp1, (.int .i64 x1.hash)] ⟨rfl, rfl, trivial⟩ ent28 (c_assessorref44_Has p1 vp1 hp1 x1.hash hp x2 ex2) Ret.ret ?_
        intro v a w hR hE
        obtain ⟨rfl, hp⟩ := Ret.of hR
        have hp : Hp Z ρ (_ :: L) w := hp
        refine s_val (wk0 rfl) rfl rfl hE hp (v := (.bool (!x2))) (ex_not rfl hE rfl) ?_
        intro a hE
        refine s_nil ?_
        refine k_if hE rfl (fun hb3 => ?_) (fun hb3 => ?_)
        · replace hl1 := (it hb3).symm.trans hl1
          refine k_region ?_
          refine s_val (wk0 rfl) rfl rfl hE hp (v := w2) (ex_move rfl hE rfl) ?_
          intro a hE
          refine s_val (wk0 rfl) rfl rfl hE hp (v := vp0) (ex_move rfl hE rfl) ?_
          intro a hE
          refine s_val (wk0 rfl) rfl rfl hE hp (v := (.int .i64 lp1_0)) (ex_move rfl hE rfl) ?_
          intro a hE
          obtain ⟨x3, ex3, hl1⟩ := bnd hl1
          obtain ⟨b4, b4o, b4c, b4r, b4k, b4f⟩ := RoSl.at hp0 slty26 ex3
          obtain rfl : b4c = Enc.enc x3 := b4k
          have b4f : AtP ρ b4 b4o [(.int .i64 x3.hash), (.int .i64 x3.at_)] := b4f
          refine s_val (wk0 rfl) rfl rfl hE hp (v := (.pointer (some ⟨b4, b4o, none⟩))) (ex_index rfl hE rfl rfl b4r) ?_
          intro a hE
          refine s_val (wk0 rfl) rfl rfl hE hp (v := (.agg #[(.int .i64 x3.hash), (.int .i64 x3.at_)])) (ex_load rfl hE rfl (fun w hw => run_ldN (cs := [(.int .i64 x3.hash), (.int .i64 x3.at_)]) varty65 (fun j u hj => cell_of hw.le (b4f j u hj)))) ?_
          intro a hE
          refine s_lit (wk0 rfl) rfl rfl hE hp rfl [(0, (.agg #[(.int .i64 x3.hash), (.int .i64 x3.at_)]))] ⟨⟨rfl, rfl⟩, trivial⟩ [(.int .i64 x3.hash), (.int .i64 x3.at_)] 65 (fun w => by simp [Instr.buildSlice, Instr.fill, Value.cells, go_sem]) ?_
          intro a w b5 hE hp
          have hp : Hp Z ρ (Pt b5 (.cells #[(.int .i64 x3.hash), (.int .i64 x3.at_)] 65 (0, 0)) :: _ :: L) w := hp
          obtain ⟨x4, ex4, hl1⟩ := bnd hl1
          refine s_app (wk0 rfl) rfl rfl hE hp rfl slty26 rfl rfl 1 rfl rfl (l2 := [x3]) rfl (fun j u hj => by have := Hp.cN 0 rfl 0 _ (sub_all rfl) w hp j u hj; simpa using this) ex4 ?_
          intro v1 a w hE hp
          have hp : Hp Z ρ (_ :: OwnSl 65 v1 x4 :: L) w := hp
          refine s_val (wk0 rfl) rfl rfl hE hp (v := v1) (ex_asn rfl hE rfl) ?_
          intro a hE
          refine s_nil ?_
          have hE := hE.cut (E' := [(0, vp0), (1, vp1), (5, v1), (6, (.int .i64 lp1_0))]) ⟨rfl, rfl, rfl, rfl, trivial⟩
          refine k_region ?_
          refine s_val (wk0 rfl) rfl rfl hE hp (v := (.int .i64 lp1_0)) (ex_move rfl hE rfl) ?_
          intro a hE
          obtain ⟨x5, ex5, hl1⟩ := bnd hl1
          refine s_val (wk0 rfl) rfl rfl hE hp (v := (.int .i64 x5)) (ex_add rfl hE rfl rfl (inK_some ex5)) ?_
          intro a hE
          refine s_val (wk0 rfl) rfl rfl hE hp (v := (.int .i64 x5)) (ex_asn rfl hE rfl) ?_
          intro a hE
          refine s_nil ?_
          exact ⟨_, (Option.some.inj hl1).symm, _, hE.cut ⟨rfl, rfl, rfl, rfl, trivial⟩, (hp.drop)⟩
        · replace hl1 := (ie hb3).symm.trans hl1
          refine k_skip ?_
          refine k_region ?_
          refine s_val (wk0 rfl) rfl rfl hE hp (v := (.int .i64 lp1_0)) (ex_move rfl hE rfl) ?_
          intro a hE
          obtain ⟨x6, ex6, hl1⟩ := bnd hl1
          refine s_val (wk0 rfl) rfl rfl hE hp (v := (.int .i64 x6)) (ex_add rfl hE rfl rfl (inK_some ex6)) ?_
          intro a hE
          refine s_val (wk0 rfl) rfl rfl hE hp (v := (.int .i64 x6)) (ex_asn rfl hE rfl) ?_
          intro a hE
          refine s_nil ?_
          exact ⟨_, (Option.some.inj hl1).symm, _, hE.cut ⟨rfl, rfl, rfl, rfl, trivial⟩, hp⟩
      · replace hl1 := (ie hb2).symm.trans hl1
        refine k_exit ?_
        refine ⟨_, (Option.some.inj hl1).symm, fun hbb => ?_⟩
        subst hbb
        exact ⟨_, hE.cut ⟨rfl, trivial⟩, hp⟩
  · rintro a w ⟨w2, hE, hp⟩
    refine k_seq ?_
    refine k_region ?_
    refine s_val (wk0 rfl) rfl rfl hE hp (v := w2) (ex_move rfl hE rfl) ?_
    intro a hE
    refine s_val (wk0 rfl) rfl rfl hE hp (v := w2) (ex_asn rfl hE rfl) ?_
    intro a hE
    refine s_nil ?_
    refine k_ret ?_
    obtain rfl := Option.some.inj hm
    exact ret1 hE rfl rfl ⟨_, rfl, _, rfl, hp⟩
/- assessor/assessorref44.Frequent -/
set_option maxRecDepth 100000 in
set_option maxHeartbeats 4000000 in
theorem c_assessorref44_Frequent {Z : World} {ρ : PH} {L : List Atom} {w : World} (p0 : Int) (p1 : (List (List Mark))) (vp1 : Value) (hp1 : RoSl ρ vp1 p1) (hp : Hp Z ρ (L) w) (r : (List Int)) (hm : m_assessorref44_Frequent p0 p1 = some r) :
    Calls Try.prog 21 #[(.int .i64 p0), vp1] w (Ret fun v w' => ∃ (vr1 : Value), v = vr1 ∧ Hp Z ρ (OwnSl 3 vr1 r :: L) w') := by
  refine enter (N := 57) Try.func21 rfl rfl [(0, (.int .i64 p0)), (1, vp1)] rfl (argsIn_mem ⟨rfl, rfl, trivial⟩) fun a hE => ?_
  unfold m_assessorref44_Frequent at hm
  refine k_seq ?_
  refine k_region ?_
  refine s_val (wk0 rfl) rfl rfl hE hp (v := (.slice none 0 0)) (ex_asn rfl hE rfl) ?_
  intro a hE
  refine s_nil ?_
  refine k_seq ?_
  refine k_region ?_
  refine s_lit (wk0 rfl) rfl rfl hE hp rfl [] trivial [] 3 (fun w => by simp [Instr.buildSlice, Instr.fill, Value.cells, go_sem]) ?_
  intro a w b1 hE hp
  have hp : Hp Z ρ (Pt b1 (.cells #[] 3 (0, 0)) :: L) w := hp
  refine s_val (wk0 rfl) rfl rfl hE hp (v := (.slice (some ⟨b1, 0, none⟩) 0 0)) (ex_asn rfl hE rfl) ?_
  intro a hE
  refine s_nil ?_
  refine k_seq ?_
  refine k_seq ?_
  refine k_region ?_
  refine s_val (wk0 rfl) rfl rfl hE hp (v := (.int .i64 0)) (ex_asn rfl hE rfl) ?_
  intro a hE
  refine s_nil ?_
  have hp := (hp.get 0 rfl).imp (own_of_pt (l := (([] : List Int) : List Int)) (n := 0) rfl (by decide) rfl)
  have hp : Hp Z ρ (OwnSl 3 (.slice (some ⟨b1, 0, none⟩) 0 0) ([] : List Int) :: L) w := hp
  obtain ⟨b2, hb1, hm⟩ := bnd hm
  refine k_block (fun a w => ∃ (w2 : Value), Env 57 [(5, w2)] a ∧ Hp Z ρ (OwnSl 3 w2 b2 :: L) w) ?_ ?_
  · refine k_loop hb1 (fun s a w => ∃ (w2 : Value), Env 57 [(0, (.int .i64 p0)), (1, vp1), (5, w2), (6, (.int .i64 s.1))] a ∧ Hp Z ρ (OwnSl 3 w2 s.2 :: L) w) ?_ ?_
    · exact ⟨_, hE.cut ⟨rfl, rfl, rfl, rfl, trivial⟩, hp⟩
    · rintro ⟨lp1_0, lp1_1⟩ st a w ⟨w2, hE, hp⟩ hl1
      have hE : Env 57 [(0, (.int .i64 p0)), (1, vp1), (5, w2), (6, (.int .i64 lp1_0))] a := hE
      have hp : Hp Z ρ (OwnSl 3 w2 lp1_1 :: L) w := hp
      replace hl1 : m_assessorref44_Frequent_lp1 p0 p1 lp1_0 lp1_1 = some st := hl1
      unfold m_assessorref44_Frequent_lp1 at hl1
      refine k_seq ?_
      refine k_seq ?_
      refine k_region ?_
      refine s_val (wk0 rfl) rfl rfl hE hp (v := (.int .i64 lp1_0)) (ex_move rfl hE rfl) ?_
      intro a hE
      refine s_val (wk0 rfl) rfl rfl hE hp (v := vp1) (ex_move rfl hE rfl) ?_
      intro a hE
      refine s_val (wk0 rfl) rfl rfl hE hp (v := (.int .i64 (p1.length : Int))) (ex_len rfl hE rfl (RoSl.len hp1 slty22)) ?_
      intro a hE
      refine s_val (wk0 rfl) rfl rfl hE hp (v := (.bool (decide (lp1_0 < (p1.length : Int))))) (ex_lss rfl hE rfl rfl) ?_
      intro a hE
      refine s_nil ?_
      refine k_if hE rfl (fun hb2 => ?_) (fun hb2 => ?_)
      · replace hl1 := (it hb2).symm.trans hl1
        refine k_skip ?_
        refine k_seq ?_
        refine k_plain ?_
        refine k_seq ?_
        refine k_region ?_
        refine s_val (wk0 rfl) rfl rfl hE hp (v := vp1) (ex_move rfl hE rfl) ?_
        intro a hE
        refine s_val (wk0 rfl) rfl rfl hE hp (v := (.int .i64 lp1_0)) (ex_move rfl hE rfl) ?_
        intro a hE
        obtain ⟨x1, ex1, hl1⟩ := bnd hl1
        obtain ⟨b3, b3o, b3c, b3r, b3k, b3f⟩ := RoSl.at hp1 slty22 ex1
        obtain ⟨vb3, rfl, hb3⟩ := b3k
        have b3f : AtP ρ b3 b3o [vb3] := b3f
        refine s_val (wk0 rfl) rfl rfl hE hp (v := (.pointer (some ⟨b3, b3o, none⟩))) (ex_index rfl hE rfl rfl b3r) ?_
        intro a hE
        refine s_val (wk0 rfl) rfl rfl hE hp (v := vb3) (ex_load rfl hE rfl (fun w hw => run_ld1 varty26 (b3f.c 0 rfl w hw))) ?_
        intro a hE
        obtain ⟨x2, ex2, hl1⟩ := bnd hl1
        refine s_call (wk0 rfl) rfl rfl hE rfl [vb3] ⟨rfl, trivial⟩ ent14 (c_assessorref44_Hashes x1 vb3 hb3 hp x2 ex2) Ret.ret ?_
        intro vr1 a w hR hE
        obtain ⟨u, rfl, hp⟩ := Ret.of hR
        have hp : Hp Z ρ (OwnSl 3 vr1 x2 :: _ :: L) w := hp
        refine s_val (wk0 rfl) rfl rfl hE hp (v := vr1) (ex_asn rfl hE rfl) ?_
        intro a hE
        refine s_nil ?_
        have hE := hE.cut (E' := [(0, (.int .i64 p0)), (1, vp1), (5, w2), (6, (.int .i64 lp1_0)), (7, vr1)]) ⟨rfl, rfl, rfl, rfl, rfl, trivial⟩
        refine k_seq ?_
        refine k_region ?_
        refine s_val (wk0 rfl) rfl rfl hE hp (v := (.int .i64 0)) (ex_asn rfl hE rfl) ?_
        intro a hE
        refine s_nil ?_
        obtain ⟨b4, hb3, hl1⟩ := bnd hl1
        refine k_block (fun a w => ∃ (w2 : Value), Env 57 [(0, (.int .i64 p0)), (1, vp1), (5, w2), (6, (.int .i64 lp1_0))] a ∧ Hp Z ρ (OwnSl 3 vr1 x2 :: OwnSl 3 w2 b4 :: L) w) ?_ ?_
        · refine k_loop hb3 (fun s a w => ∃ (w2 : Value), Env 57 [(0, (.int .i64 p0)), (1, vp1), (5, w2), (6, (.int .i64 lp1_0)), (7, vr1), (8, (.int .i64 s.1))] a ∧ Hp Z ρ (OwnSl 3 vr1 x2 :: OwnSl 3 w2 s.2 :: L) w) ?_ ?_
          · exact ⟨_, hE.cut ⟨rfl, rfl, rfl, rfl, rfl, rfl, trivial⟩, hp⟩
          · rintro ⟨lp2_0, lp2_1⟩ st a w ⟨w2, hE, hp⟩ hl2
            have hE : Env 57 [(0, (.int .i64 p0)), (1, vp1), (5, w2), (6, (.int .i64 lp1_0)), (7, vr1), (8, (.int .i64 lp2_0))] a := hE
            have hp : Hp Z ρ (_ :: OwnSl 3 w2 lp2_1 :: L) w := hp
            replace hl2 : m_assessorref44_Frequent_lp2 p0 p1 x2 lp2_0 lp2_1 = some st := hl2
            unfold m_assessorref44_Frequent_lp2 at hl2
            refine k_seq ?_
            refine k_seq ?_
            refine k_region ?_
            refine s_val (wk0 rfl) rfl rfl hE hp (v := (.int .i64 lp2_0)) (ex_move rfl hE rfl) ?_
            intro a hE
            refine s_val (wk0 rfl) rfl rfl hE hp (v := vr1) (ex_move rfl hE rfl) ?_
            intro a hE
            refine s_val (wk0 rfl) rfl rfl hE hp (v := (.int .i64 (x2.length : Int))) (ex_len rfl hE rfl (OwnSl.len hp 0 rfl slty23)) ?_
            intro a hE
            refine s_val (wk0 rfl) rfl rfl hE hp (v := (.bool (decide (lp2_0 < (x2.length : Int))))) (ex_lss rfl hE rfl rfl) ?_
            intro a hE
            refine s_nil ?_
            refine k_if hE rfl (fun hb4 => ?_) (fun hb4 => ?_)
            · replace hl2 := (it hb4).symm.trans hl2
              refine k_skip ?_
              refine k_seq ?_
              refine k_plain ?_
              refine k_seq ?_
              refine k_region ?_
              refine s_val (wk0 rfl) rfl rfl hE hp (v := (.int .i64 0)) (ex_asn rfl hE rfl) ?_
              intro a hE
              refine s_nil ?_
              refine k_seq ?_
              refine k_seq ?_
              refine k_region ?_
              refine s_val (wk0 rfl) rfl rfl hE hp (v := (.int .i64 0)) (ex_asn rfl hE rfl) ?_
              intro a hE
              refine s_nil ?_
              obtain ⟨b5, hb5, hl2⟩ := bnd hl2
              refine k_block (fun a w => Env 57 [(0, (.int .i64 p0)), (1, vp1), (5, w2), (6, (.int .i64 lp1_0)), (7, vr1), (8, (.int .i64 lp2_0)), (9, (.int .i64 b5))] a ∧ Hp Z ρ (OwnSl 3 vr1 x2 :: OwnSl 3 w2 lp2_1 :: L) w) ?_ ?_
              · refine k_loop hb5 (fun s a w => Env 57 [(0, (.int .i64 p0)), (1, vp1), (5, w2), (6, (.int .i64 lp1_0)), (7, vr1), (8, (.int .i64 lp2_0)), (9, (.int .i64 s.1)), (10, (.int .i64 s.2))] a ∧ Hp Z ρ (OwnSl 3 vr1 x2 :: OwnSl 3 w2 lp2_1 :: L) w) ?_ ?_
                · exact ⟨hE.cut ⟨rfl, rfl, rfl, rfl, rfl, rfl, rfl, rfl, trivial⟩, hp⟩
                · rintro ⟨lp3_0, lp3_1⟩ st a w ⟨hE, hp⟩ hl3
                  have hE : Env 57 [(0, (.int .i64 p0)), (1, vp1), (5, w2), (6, (.int .i64 lp1_0)), (7, vr1), (8, (.int .i64 lp2_0)), (9, (.int .i64 lp3_0)), (10, (.int .i64 lp3_1))] a := hE
                  have hp : Hp Z ρ (_ :: _ :: L) w := hp
                  replace hl3 : m_assessorref44_Frequent_lp3 p1 x2 lp2_0 lp3_0 lp3_1 = some st := hl3
                  unfold m_assessorref44_Frequent_lp3 at hl3
                  refine k_seq ?_
                  refine k_seq ?_
                  refine k_region ?_
                  refine s_val (wk0 rfl) rfl rfl hE hp (v := (.int .i64 lp3_1)) (ex_move rfl hE rfl) ?_
                  intro a hE
                  refine s_val (wk0 rfl) rfl rfl hE hp (v := vp1) (ex_move rfl hE rfl) ?_
                  intro a hE
                  refine s_val (wk0 rfl) rfl rfl hE hp (v := (.int .i64 (p1.length : Int))) (ex_len rfl hE rfl (RoSl.len hp1 slty22)) ?_
                  intro a hE
                  refine s_val (wk0 rfl) rfl rfl hE hp (v := (.bool (decide (lp3_1 < (p1.length : Int))))) (ex_lss rfl hE rfl rfl) ?_
                  intro a hE
                  refine s_nil ?_
                  refine k_if hE rfl (fun hb6 => ?_) (fun hb6 => ?_)
                  · replace hl3 := (it hb6).symm.trans hl3
                    refine k_skip ?_
                    refine k_seq ?_
                    refine k_plain ?_
                    refine k_seq ?_
                    obtain ⟨x3, ex3, hl3⟩ := bnd hl3
                    obtain ⟨x4, ex4, hl3⟩ := bnd hl3
                    obtain ⟨x5, ex5, hl3⟩ := bnd hl3
                    obtain ⟨x6, ex6, hl3⟩ := bnd hl3
                    have hp := hp.drew
                    refine k_heldV ([([], At0 Z ρ), ([], At1 Z ρ (OwnSl 3 vr1 x2))] : Facts) (fun a w => ∃ y19 : Value, Env 57 [(0, (.int .i64 p0)), (1, vp1), (5, w2), (6, (.int .i64 lp1_0)), (7, vr1), (8, (.int .i64 lp2_0)), (9, (.int .i64 lp3_0)), (10, (.int .i64 lp3_1)), (44, (.bool x6))] a ∧ Hp Z ρ (OwnSl 3 y19 x4 :: OwnSl 3 vr1 x2 :: OwnSl 3 w2 lp2_1 :: L) w) (by kernel_rfl) ⟨fun _ => ⟨_, hp⟩, fun _ => ⟨_, (hp.get 0 rfl)⟩, trivial⟩ (fun hS => ?_) ?_
                    ·
                      generalize w.drew = w at hS hp ⊢
                      refine v_take0 0 (wk0 rfl) rfl rfl rfl hE (by kernel_rfl) (by kernel_rfl) (by kernel_rfl) rfl (by kernel_rfl) hS (v := vp1) (fun _ => ex_move rfl hE rfl) ?_
                      intro a hE hS
                      refine v_take0 1 (wk0 rfl) rfl rfl rfl hE (by kernel_rfl) (by kernel_rfl) (by kernel_rfl) rfl (by kernel_rfl) hS (v := (.int .i64 lp3_1)) (fun _ => ex_move rfl hE rfl) ?_
                      intro a hE hS
                      obtain ⟨b8, b8o, b8c, b8r, b8k, b8f⟩ := RoSl.at hp1 slty22 ex3
                      obtain ⟨vb8, rfl, hb8⟩ := b8k
                      have b8f : AtP ρ b8 b8o [vb8] := b8f
                      refine v_take0 2 (wk0 rfl) rfl rfl rfl hE (by kernel_rfl) (by kernel_rfl) (by kernel_rfl) rfl (by kernel_rfl) hS (v := (.pointer (some ⟨b8, b8o, none⟩))) (fun _ => ex_index rfl hE rfl rfl b8r) ?_
                      intro a hE hS
                      refine v_take0 3 (wk0 rfl) rfl rfl rfl hE (by kernel_rfl) (by kernel_rfl) (by kernel_rfl) rfl (by kernel_rfl) hS (v := vb8) (fun _ => ex_load rfl hE rfl (fun w hw => run_ld1 varty26 (b8f.c 0 rfl w hw))) ?_
                      intro a hE hS
                      refine v_take0 5 (wk0 rfl) rfl rfl rfl hE (by kernel_rfl) (by kernel_rfl) (by kernel_rfl) rfl (by kernel_rfl) hS (v := vr1) (fun _ => ex_move rfl hE rfl) ?_
                      intro a hE hS
                      refine v_take0 6 (wk0 rfl) rfl rfl rfl hE (by kernel_rfl) (by kernel_rfl) (by kernel_rfl) rfl (by kernel_rfl) hS (v := (.int .i64 lp2_0)) (fun _ => ex_move rfl hE rfl) ?_
                      intro a hE hS
                      obtain ⟨b9, b9o, b9r, b9v, b9f⟩ := OwnSl.at hp 0 rfl slty23 ex5
                      have b9f : ∀ (j : Nat) (u : Value), ([(.int .i64 x5)] : List Value)[j]? = some u → ∀ ρ' L' w, Hp Z ρ' (OwnSl 3 vr1 x2 :: L') w → w.cell? ⟨b9, b9o + j, none⟩ = some u := b9f
                      refine v_take0 7 (wk0 rfl) rfl rfl rfl hE (by kernel_rfl) (by kernel_rfl) (by kernel_rfl) rfl (by kernel_rfl) hS (v := (.pointer (some ⟨b9, b9o, none⟩))) (fun _ => ex_index rfl hE rfl rfl b9r) ?_
                      intro a hE hS
                      refine v_take1 8 1 (wk0 rfl) rfl rfl rfl hE (by kernel_rfl) (by kernel_rfl) (by kernel_rfl) rfl (by kernel_rfl) hS (v := (.int .i64 x5)) (fun _ => ex_load rfl hE rfl (fun w hw => run_ld1 varty3 (b9f 0 _ rfl _ _ w (hw.get 0 rfl)))) ?_
                      intro a hE hS
                      refine v_all [4] (by kernel_rfl) rfl ?_
                      refine List.forall_mem_cons.2 ⟨?_, fun _ h => absurd h (by simp)⟩
                      ·
                        refine h_op rfl ?_
                        refine s_call (wk0 rfl) rfl rfl hE rfl [vb8] ⟨rfl, trivial⟩ ent14 (c_assessorref44_Hashes x3 vb8 hb8 hp x4 ex4) Ret.ret ?_
                        intro vr4 a w hR hE
                        obtain ⟨u, rfl, hp⟩ := Ret.of hR
                        have hp : Hp Z ρ (OwnSl 3 vr4 x4 :: _ :: _ :: L) w := hp
                        refine s_nil (and_with ⟨fun _ => ⟨_, hp⟩, fun _ => ⟨_, (hp.get 1 rfl)⟩, trivial⟩ fun hS => ?_)
                        refine v_all [9] (by kernel_rfl) rfl ?_
                        refine List.forall_mem_cons.2 ⟨?_, fun _ h => absurd h (by simp)⟩
                        ·
                          refine h_op rfl ?_
                          obtain ⟨k2, k2a, k2d, k2h⟩ := (hp.get 0 rfl).lend
                          refine s_call (wk0 rfl) rfl rfl hE rfl [vr4, (.int .i64 x5)] ⟨rfl, rfl, trivial⟩ ent28 (c_assessorref44_Has x4 vr4 (OwnSl.ro k2d k2a) x5 k2h x6 ex6) Ret.ret ?_
                          intro v a w hR hE
                          obtain ⟨rfl, hp⟩ := Ret.of hR
                          have hp := Hp.back k2a k2d hp
                          have hp : Hp Z ρ (_ :: _ :: _ :: L) w := hp
                          refine s_nil (and_with ⟨fun _ => ⟨_, hp⟩, fun _ => ⟨_, (hp.get 1 rfl)⟩, trivial⟩ fun hS => ?_)
                          exact v_done (by kernel_rfl) ⟨_, hE.cut ⟨rfl, rfl, rfl, rfl, rfl, rfl, rfl, rfl, rfl, trivial⟩, hp⟩
                    · rintro a w ⟨y19, hE, hp⟩
                      refine k_if hE rfl (fun hb7 => ?_) (fun hb7 => ?_)
                      · replace hl3 := (it hb7).symm.trans hl3
                        refine k_region ?_
                        refine s_val (wk0 rfl) rfl rfl hE hp (v := (.int .i64 lp3_0)) (ex_move rfl hE rfl) ?_
                        intro a hE
                        obtain ⟨x7, ex7, hl3⟩ := bnd hl3
                        refine s_val (wk0 rfl) rfl rfl hE hp (v := (.int .i64 x7)) (ex_add rfl hE rfl rfl (inK_some ex7)) ?_
                        intro a hE
                        refine s_val (wk0 rfl) rfl rfl hE hp (v := (.int .i64 x7)) (ex_asn rfl hE rfl) ?_
                        intro a hE
                        refine s_nil ?_
                        refine k_region ?_
                        refine s_val (wk0 rfl) rfl rfl hE hp (v := (.int .i64 lp3_1)) (ex_move rfl hE rfl) ?_
                        intro a hE
                        obtain ⟨x8, ex8, hl3⟩ := bnd hl3
                        refine s_val (wk0 rfl) rfl rfl hE hp (v := (.int .i64 x8)) (ex_add rfl hE rfl rfl (inK_some ex8)) ?_
                        intro a hE
                        refine s_val (wk0 rfl) rfl rfl hE hp (v := (.int .i64 x8)) (ex_asn rfl hE rfl) ?_
                        intro a hE
                        refine s_nil ?_
                        exact ⟨_, (Option.some.inj hl3).symm, hE.cut ⟨rfl, rfl, rfl, rfl, rfl, rfl, rfl, rfl, trivial⟩, (hp.drop)⟩
                      · replace hl3 := (ie hb7).symm.trans hl3
                        refine k_skip ?_
                        refine k_region ?_
                        refine s_val (wk0 rfl) rfl rfl hE hp (v := (.int .i64 lp3_1)) (ex_move rfl hE rfl) ?_
                        intro a hE
                        obtain ⟨x9, ex9, hl3⟩ := bnd hl3
                        refine s_val (wk0 rfl) rfl rfl hE hp (v := (.int .i64 x9)) (ex_add rfl hE rfl rfl (inK_some ex9)) ?_
                        intro a hE
                        refine s_val (wk0 rfl) rfl rfl hE hp (v := (.int .i64 x9)) (ex_asn rfl hE rfl) ?_
                        intro a hE
                        refine s_nil ?_
                        exact ⟨_, (Option.some.inj hl3).symm, hE.cut ⟨rfl, rfl, rfl, rfl, rfl, rfl, rfl, rfl, trivial⟩, (hp.drop)⟩
                  · replace hl3 := (ie hb6).symm.trans hl3
                    refine k_exit ?_
                    refine ⟨_, (Option.some.inj hl3).symm, fun hbb => ?_⟩
                    subst hbb
                    exact ⟨hE.cut ⟨rfl, rfl, rfl, rfl, rfl, rfl, rfl, trivial⟩, hp⟩
              · rintro a w ⟨hE, hp⟩
                refine k_seq ?_
                refine k_region ?_
                refine s_val (wk0 rfl) rfl rfl hE hp (v := (.int .i64 b5)) (ex_move rfl hE rfl) ?_
                intro a hE
                refine s_val (wk0 rfl) rfl rfl hE hp (v := (.int .i64 p0)) (ex_move rfl hE rfl) ?_
                intro a hE
                refine s_val (wk0 rfl) rfl rfl hE hp (v := (.bool (decide (p0 < b5)))) (ex_gtr rfl hE rfl rfl) ?_
                intro a hE
                refine s_nil ?_
                refine k_if hE rfl (fun hb8 => ?_) (fun hb8 => ?_)
                · replace hl2 := (it hb8).symm.trans hl2
                  refine k_region ?_
                  refine s_val (wk0 rfl) rfl rfl hE hp (v := w2) (ex_move rfl hE rfl) ?_
                  intro a hE
                  refine s_val (wk0 rfl) rfl rfl hE hp (v := vr1) (ex_move rfl hE rfl) ?_
                  intro a hE
                  refine s_val (wk0 rfl) rfl rfl hE hp (v := (.int .i64 lp2_0)) (ex_move rfl hE rfl) ?_
                  intro a hE
                  obtain ⟨x10, ex10, hl2⟩ := bnd hl2
                  obtain ⟨b10, b10o, b10r, b10v, b10f⟩ := OwnSl.at hp 0 rfl slty23 ex10
                  have b10f : ∀ (j : Nat) (u : Value), ([(.int .i64 x10)] : List Value)[j]? = some u → ∀ ρ' L' w, Hp Z ρ' (OwnSl 3 vr1 x2 :: L') w → w.cell? ⟨b10, b10o + j, none⟩ = some u := b10f
                  refine s_val (wk0 rfl) rfl rfl hE hp (v := (.pointer (some ⟨b10, b10o, none⟩))) (ex_index rfl hE rfl rfl b10r) ?_
                  intro a hE
                  refine s_val (wk0 rfl) rfl rfl hE hp (v := (.int .i64 x10)) (ex_load rfl hE rfl (fun w hw => run_ld1 varty3 (b10f 0 _ rfl _ _ w (hw.get 0 rfl)))) ?_
                  intro a hE
                  obtain ⟨x11, ex11, hl2⟩ := bnd hl2
                  refine s_call (wk0 rfl) rfl rfl hE rfl [w2, (.int .i64 x10)] ⟨rfl, rfl, trivial⟩ ent35 (c_assessorref43_Add_own lp2_1 w2 x10 (hp.get 1 rfl) x11 ex11) Ret.ret ?_
                  intro v1 a w hR hE
                  obtain ⟨u, hu, hp⟩ := Ret.of hR
                  rw [← hu] at hp
                  have hp : Hp Z ρ (OwnSl 3 v1 x11 :: _ :: L) w := hp
                  refine s_val (wk0 rfl) rfl rfl hE hp (v := v1) (ex_asn rfl hE rfl) ?_
                  intro a hE
                  refine s_nil ?_
                  have hE := hE.cut (E' := [(0, (.int .i64 p0)), (1, vp1), (5, v1), (6, (.int .i64 lp1_0)), (7, vr1), (8, (.int .i64 lp2_0))]) ⟨rfl, rfl, rfl, rfl, rfl, rfl, trivial⟩
                  refine k_region ?_
                  refine s_val (wk0 rfl) rfl rfl hE hp (v := (.int .i64 lp2_0)) (ex_move rfl hE rfl) ?_
                  intro a hE
                  obtain ⟨x12, ex12, hl2⟩ := bnd hl2
                  refine s_val (wk0 rfl) rfl rfl hE hp (v := (.int .i64 x12)) (ex_add rfl hE rfl rfl (inK_some ex12)) ?_
                  intro a hE
                  refine s_val (wk0 rfl) rfl rfl hE hp (v := (.int .i64 x12)) (ex_asn rfl hE rfl) ?_
                  intro a hE
                  refine s_nil ?_
                  exact ⟨_, (Option.some.inj hl2).symm, _, hE.cut ⟨rfl, rfl, rfl, rfl, rfl, rfl, trivial⟩, ((hp.get 0 rfl).get 1 rfl)⟩
                · replace hl2 := (ie hb8).symm.trans hl2
                  refine k_skip ?_
                  refine k_region ?_
                  refine s_val (wk0 rfl) rfl rfl hE hp (v := (.int .i64 lp2_0)) (ex_move rfl hE rfl) ?_
                  intro a hE
                  obtain ⟨x13, ex13, hl2⟩ := bnd hl2
                  refine s_val (wk0 rfl) rfl rfl hE hp (v := (.int .i64 x13)) (ex_add rfl hE rfl rfl (inK_some ex13)) ?_
                  intro a hE
                  refine s_val (wk0 rfl) rfl rfl hE hp (v := (.int .i64 x13)) (ex_asn rfl hE rfl) ?_
                  intro a hE
                  refine s_nil ?_
                  exact ⟨_, (Option.some.inj hl2).symm, _, hE.cut ⟨rfl, rfl, rfl, rfl, rfl, rfl, trivial⟩, hp⟩
            · replace hl2 := (ie hb4).symm.trans hl2
              refine k_exit ?_
              refine ⟨_, (Option.some.inj hl2).symm, fun hbb => ?_⟩
              subst hbb
              exact ⟨_, hE.cut ⟨rfl, rfl, rfl, rfl, trivial⟩, hp⟩
        · rintro a w ⟨w2, hE, hp⟩
          refine k_region ?_
          refine s_val (wk0 rfl) rfl rfl hE hp (v := (.int .i64 lp1_0)) (ex_move rfl hE rfl) ?_
          intro a hE
          obtain ⟨x14, ex14, hl1⟩ := bnd hl1
          refine s_val (wk0 rfl) rfl rfl hE hp (v := (.int .i64 x14)) (ex_add rfl hE rfl rfl (inK_some ex14)) ?_
          intro a hE
          refine s_val (wk0 rfl) rfl rfl hE hp (v := (.int .i64 x14)) (ex_asn rfl hE rfl) ?_
          intro a hE
          refine s_nil ?_
          exact ⟨_, (Option.some.inj hl1).symm, _, hE.cut ⟨rfl, rfl, rfl, rfl, trivial⟩, (hp.drop)⟩
      · replace hl1 := (ie hb2).symm.trans hl1
        refine k_exit ?_
        refine ⟨_, (Option.some.inj hl1).symm, fun hbb => ?_⟩
        subst hbb
        exact ⟨_, hE.cut ⟨rfl, trivial⟩, hp⟩
  · rintro a w ⟨w2, hE, hp⟩
    refine k_seq ?_
    refine k_region ?_
    refine s_val (wk0 rfl) rfl rfl hE hp (v := w2) (ex_move rfl hE rfl) ?_
    intro a hE
    refine s_val (wk0 rfl) rfl rfl hE hp (v := w2) (ex_asn rfl hE rfl) ?_
    intro a hE
    refine s_nil ?_
    refine k_ret ?_
    obtain rfl := Option.some.inj hm
    exact ret1 hE rfl rfl ⟨_, rfl, _, rfl, hp⟩
/- assessor/assessorref44.before -/
set_option maxRecDepth 100000 in
set_option maxHeartbeats 4000000 in
theorem c_assessorref44_before {Z : World} {ρ : PH} {L : List Atom} {w : World} (p0 : Pair) (p1 : Pair) (hp : Hp Z ρ (L) w) (r : Bool) (hm : m_assessorref44_before p0 p1 = some r) :
    Calls Try.prog 47 #[(.agg #[(.int .i64 p0.a), (.int .i64 p0.b), (.int .i64 p0.shared), (.int .i64 p0.total)]), (.agg #[(.int .i64 p1.a), (.int .i64 p1.b), (.int .i64 p1.shared), (.int .i64 p1.total)])] w (Ret fun v w' => v = (.bool r) ∧ Hp Z ρ (L) w') := by
  refine enter (N := 46) Try.func47 rfl rfl [(0, (.agg #[(.int .i64 p0.a), (.int .i64 p0.b), (.int .i64 p0.shared), (.int .i64 p0.total)])), (1, (.agg #[(.int .i64 p1.a), (.int .i64 p1.b), (.int .i64 p1.shared), (.int .i64 p1.total)]))] rfl (argsIn_mem ⟨rfl, rfl, trivial⟩) fun a hE => ?_
  unfold m_assessorref44_before at hm
  refine k_seq ?_
  refine k_region ?_
  refine s_box (wk0 rfl) rfl rfl hE hp rfl (v := (.agg #[(.int .i64 p0.a), (.int .i64 p0.b), (.int .i64 p0.shared), (.int .i64 p0.total)])) rfl ?_
  intro a w b1 hE hp
  have hp : Hp Z ρ (Pt b1 (.cells #[(.int .i64 p0.a), (.int .i64 p0.b), (.int .i64 p0.shared), (.int .i64 p0.total)] 52 (0, 0)) :: L) w := hp
  refine s_box (wk0 rfl) rfl rfl hE hp rfl (v := (.agg #[(.int .i64 p1.a), (.int .i64 p1.b), (.int .i64 p1.shared), (.int .i64 p1.total)])) rfl ?_
  intro a w b2 hE hp
  have hp : Hp Z ρ (Pt b2 (.cells #[(.int .i64 p1.a), (.int .i64 p1.b), (.int .i64 p1.shared), (.int .i64 p1.total)] 52 (0, 0)) :: _ :: L) w := hp
  refine s_val (wk0 rfl) rfl rfl hE hp (v := (.bool false)) (ex_asn rfl hE rfl) ?_
  intro a hE
  refine s_nil ?_
  refine k_seq ?_
  refine k_seq ?_
  refine k_region ?_
  refine s_val (wk0 rfl) rfl rfl hE hp (v := (.pointer (some ⟨b1, 2, none⟩))) (ex_field rfl hE rfl (fldty52_2 _ _)) ?_
  intro a hE
  refine s_val (wk0 rfl) rfl rfl hE hp (v := (.int .i64 p0.shared)) (ex_load rfl hE rfl (fun w hw => run_ld1 varty3 (Hp.c 1 rfl 2 rfl w hw))) ?_
  intro a hE
  refine s_val (wk0 rfl) rfl rfl hE hp (v := (.pointer (some ⟨b2, 3, none⟩))) (ex_field rfl hE rfl (fldty52_3 _ _)) ?_
  intro a hE
  refine s_val (wk0 rfl) rfl rfl hE hp (v := (.int .i64 p1.total)) (ex_load rfl hE rfl (fun w hw => run_ld1 varty3 (Hp.c 0 rfl 3 rfl w hw))) ?_
  intro a hE
  obtain ⟨x1, ex1, hm⟩ := bnd hm
  refine s_val (wk0 rfl) rfl rfl hE hp (v := (.int .i64 x1)) (ex_mul rfl hE rfl rfl (inK_some ex1)) ?_
  intro a hE
  refine s_val (wk0 rfl) rfl rfl hE hp (v := (.pointer (some ⟨b2, 2, none⟩))) (ex_field rfl hE rfl (fldty52_2 _ _)) ?_
  intro a hE
  refine s_val (wk0 rfl) rfl rfl hE hp (v := (.int .i64 p1.shared)) (ex_load rfl hE rfl (fun w hw => run_ld1 varty3 (Hp.c 0 rfl 2 rfl w hw))) ?_
  intro a hE
  refine s_val (wk0 rfl) rfl rfl hE hp (v := (.pointer (some ⟨b1, 3, none⟩))) (ex_field rfl hE rfl (fldty52_3 _ _)) ?_
  intro a hE
  refine s_val (wk0 rfl) rfl rfl hE hp (v := (.int .i64 p0.total)) (ex_load rfl hE rfl (fun w hw => run_ld1 varty3 (Hp.c 1 rfl 3 rfl w hw))) ?_
  intro a hE
  obtain ⟨x2, ex2, hm⟩ := bnd hm
  refine s_val (wk0 rfl) rfl rfl hE hp (v := (.int .i64 x2)) (ex_mul rfl hE rfl rfl (inK_some ex2)) ?_
  intro a hE
  refine s_val (wk0 rfl) rfl rfl hE hp (v := (.bool (!decide (x1 = x2)))) (ex_neq rfl hE rfl rfl) ?_
  intro a hE
  refine s_nil ?_
  refine k_if hE rfl (fun hb1 => ?_) (fun hb1 => ?_)
  · replace hm := (it hb1).symm.trans hm
    refine k_seq ?_
    refine k_region ?_
    refine s_val (wk0 rfl) rfl rfl hE hp (v := (.pointer (some ⟨b1, 2, none⟩))) (ex_field rfl hE rfl (fldty52_2 _ _)) ?_
    intro a hE
    refine s_val (wk0 rfl) rfl rfl hE hp (v := (.int .i64 p0.shared)) (ex_load rfl hE rfl (fun w hw => run_ld1 varty3 (Hp.c 1 rfl 2 rfl w hw))) ?_
    intro a hE
    refine s_val (wk0 rfl) rfl rfl hE hp (v := (.pointer (some ⟨b2, 3, none⟩))) (ex_field rfl hE rfl (fldty52_3 _ _)) ?_
    intro a hE
    refine s_val (wk0 rfl) rfl rfl hE hp (v := (.int .i64 p1.total)) (ex_load rfl hE rfl (fun w hw => run_ld1 varty3 (Hp.c 0 rfl 3 rfl w hw))) ?_
    intro a hE
    obtain ⟨x3, ex3, hm⟩ := bnd hm
    refine s_val (wk0 rfl) rfl rfl hE hp (v := (.int .i64 x3)) (ex_mul rfl hE rfl rfl (inK_some ex3)) ?_
    intro a hE
    refine s_val (wk0 rfl) rfl rfl hE hp (v := (.pointer (some ⟨b2, 2, none⟩))) (ex_field rfl hE rfl (fldty52_2 _ _)) ?_
    intro a hE
    refine s_val (wk0 rfl) rfl rfl hE hp (v := (.int .i64 p1.shared)) (ex_load rfl hE rfl (fun w hw => run_ld1 varty3 (Hp.c 0 rfl 2 rfl w hw))) ?_
    intro a hE
    refine s_val (wk0 rfl) rfl rfl hE hp (v := (.pointer (some ⟨b1, 3, none⟩))) (ex_field rfl hE rfl (fldty52_3 _ _)) ?_
    intro a hE
    refine s_val (wk0 rfl) rfl rfl hE hp (v := (.int .i64 p0.total)) (ex_load rfl hE rfl (fun w hw => run_ld1 varty3 (Hp.c 1 rfl 3 rfl w hw))) ?_
    intro a hE
    obtain ⟨x4, ex4, hm⟩ := bnd hm
    refine s_val (wk0 rfl) rfl rfl hE hp (v := (.int .i64 x4)) (ex_mul rfl hE rfl rfl (inK_some ex4)) ?_
    intro a hE
    refine s_val (wk0 rfl) rfl rfl hE hp (v := (.bool (decide (x4 < x3)))) (ex_gtr rfl hE rfl rfl) ?_
    intro a hE
    refine s_val (wk0 rfl) rfl rfl hE hp (v := (.bool (decide (x4 < x3)))) (ex_asn rfl hE rfl) ?_
    intro a hE
    refine s_nil ?_
    have hE := hE.cut (E' := [(4, (.bool (decide (x4 < x3))))]) ⟨rfl, trivial⟩
    refine k_ret ?_
    obtain rfl := Option.some.inj hm
    exact ret1 hE rfl rfl ⟨_, rfl, rfl, (((hp.get 1 rfl).drop).drop)⟩
  · replace hm := (ie hb1).symm.trans hm
    refine k_skip ?_
    refine k_seq ?_
    refine k_region ?_
    refine s_val (wk0 rfl) rfl rfl hE hp (v := (.pointer (some ⟨b1, 0, none⟩))) (ex_field rfl hE rfl (fldty52_0 _ _)) ?_
    intro a hE
    refine s_val (wk0 rfl) rfl rfl hE hp (v := (.int .i64 p0.a)) (ex_load rfl hE rfl (fun w hw => run_ld1 varty3 (Hp.c 1 rfl 0 rfl w hw))) ?_
    intro a hE
    refine s_val (wk0 rfl) rfl rfl hE hp (v := (.pointer (some ⟨b2, 0, none⟩))) (ex_field rfl hE rfl (fldty52_0 _ _)) ?_
    intro a hE
    refine s_val (wk0 rfl) rfl rfl hE hp (v := (.int .i64 p1.a)) (ex_load rfl hE rfl (fun w hw => run_ld1 varty3 (Hp.c 0 rfl 0 rfl w hw))) ?_
    intro a hE
    refine s_val (wk0 rfl) rfl rfl hE hp (v := (.bool (decide (p0.a < p1.a)))) (ex_lss rfl hE rfl rfl) ?_
    intro a hE
    refine s_val (wk0 rfl) rfl rfl hE hp (v := (.bool (decide (p0.a < p1.a)))) (ex_move rfl hE rfl) ?_
    intro a hE
    refine s_cut [_, _, _, _, _, _, _, _, _, _, _, _, _] (fun a w => Env 46 [(45, (.bool ((decide (p0.a < p1.a)) || ((decide (p0.a = p1.a)) && (decide (p0.b < p1.b))))))] a ∧ Hp Z ρ (Pt b2 (.cells #[(.int .i64 p1.a), (.int .i64 p1.b), (.int .i64 p1.shared), (.int .i64 p1.total)] 52 (0, 0)) :: Pt b1 (.cells #[(.int .i64 p0.a), (.int .i64 p0.b), (.int .i64 p0.shared), (.int .i64 p0.total)] 52 (0, 0)) :: L) w) ?_ ?_
    · rcases Bool.eq_false_or_eq_true (decide (p0.a < p1.a)) with hb2 | hb2
      ·
        refine s_skip (wk2 hE rfl rfl rfl hb2) rfl rfl hE ?_
        intro a hE
        refine s_skip (wk2 hE rfl rfl rfl hb2) rfl rfl hE ?_
        intro a hE
        refine s_skip (wk2 hE rfl rfl rfl hb2) rfl rfl hE ?_
        intro a hE
        refine s_skip (wk2 hE rfl rfl rfl hb2) rfl rfl hE ?_
        intro a hE
        refine s_skip (wk2 hE rfl rfl rfl hb2) rfl rfl hE ?_
        intro a hE
        refine s_skip (wk2 hE rfl rfl rfl hb2) rfl rfl hE ?_
        intro a hE
        refine s_skip (wk3 hE rfl rfl rfl) rfl rfl hE ?_
        intro a hE
        refine s_skip (wk3 hE rfl rfl rfl) rfl rfl hE ?_
        intro a hE
        refine s_skip (wk3 hE rfl rfl rfl) rfl rfl hE ?_
        intro a hE
        refine s_skip (wk3 hE rfl rfl rfl) rfl rfl hE ?_
        intro a hE
        refine s_skip (wk3 hE rfl rfl rfl) rfl rfl hE ?_
        intro a hE
        refine s_skip (wk2 hE rfl rfl rfl hb2) rfl rfl hE ?_
        intro a hE
        refine s_val (wk0 rfl) rfl rfl hE hp (v := (.bool true)) (ex_pick1 rfl hE rfl hb2 rfl) ?_
        intro a hE
        have hE := hE.eqv (v' := (.bool ((decide (p0.a < p1.a)) || ((decide (p0.a = p1.a)) && (decide (p0.b < p1.b)))))) (by rw [hb2]; rfl)
        exact s_nil ⟨hE.cut ⟨rfl, trivial⟩, hp⟩
      ·
        refine s_val (wk1 hE rfl rfl rfl hb2) rfl rfl hE hp (v := (.pointer (some ⟨b1, 0, none⟩))) (ex_field rfl hE rfl (fldty52_0 _ _)) ?_
        intro a hE
        refine s_val (wk1 hE rfl rfl rfl hb2) rfl rfl hE hp (v := (.int .i64 p0.a)) (ex_load rfl hE rfl (fun w hw => run_ld1 varty3 (Hp.c 1 rfl 0 rfl w hw))) ?_
        intro a hE
        refine s_val (wk1 hE rfl rfl rfl hb2) rfl rfl hE hp (v := (.pointer (some ⟨b2, 0, none⟩))) (ex_field rfl hE rfl (fldty52_0 _ _)) ?_
        intro a hE
        refine s_val (wk1 hE rfl rfl rfl hb2) rfl rfl hE hp (v := (.int .i64 p1.a)) (ex_load rfl hE rfl (fun w hw => run_ld1 varty3 (Hp.c 0 rfl 0 rfl w hw))) ?_
        intro a hE
        refine s_val (wk1 hE rfl rfl rfl hb2) rfl rfl hE hp (v := (.bool (decide (p0.a = p1.a)))) (ex_eql rfl hE rfl rfl) ?_
        intro a hE
        refine s_val (wk1 hE rfl rfl rfl hb2) rfl rfl hE hp (v := (.bool (decide (p0.a = p1.a)))) (ex_move rfl hE rfl) ?_
        intro a hE
        refine s_cut [_, _, _, _, _, _] (fun a w => Env 46 [(44, (.bool ((decide (p0.a = p1.a)) && (decide (p0.b < p1.b))))), (32, (.bool (decide (p0.a < p1.a))))] a ∧ Hp Z ρ (Pt b2 (.cells #[(.int .i64 p1.a), (.int .i64 p1.b), (.int .i64 p1.shared), (.int .i64 p1.total)] 52 (0, 0)) :: Pt b1 (.cells #[(.int .i64 p0.a), (.int .i64 p0.b), (.int .i64 p0.shared), (.int .i64 p0.total)] 52 (0, 0)) :: L) w) ?_ ?_
        · rcases Bool.eq_false_or_eq_true (decide (p0.a = p1.a)) with hb3 | hb3
          ·
            refine s_val (wk1 hE rfl rfl rfl hb3) rfl rfl hE hp (v := (.pointer (some ⟨b1, 1, none⟩))) (ex_field rfl hE rfl (fldty52_1 _ _)) ?_
            intro a hE
            refine s_val (wk1 hE rfl rfl rfl hb3) rfl rfl hE hp (v := (.int .i64 p0.b)) (ex_load rfl hE rfl (fun w hw => run_ld1 varty3 (Hp.c 1 rfl 1 rfl w hw))) ?_
            intro a hE
            refine s_val (wk1 hE rfl rfl rfl hb3) rfl rfl hE hp (v := (.pointer (some ⟨b2, 1, none⟩))) (ex_field rfl hE rfl (fldty52_1 _ _)) ?_
            intro a hE
            refine s_val (wk1 hE rfl rfl rfl hb3) rfl rfl hE hp (v := (.int .i64 p1.b)) (ex_load rfl hE rfl (fun w hw => run_ld1 varty3 (Hp.c 0 rfl 1 rfl w hw))) ?_
            intro a hE
            refine s_val (wk1 hE rfl rfl rfl hb3) rfl rfl hE hp (v := (.bool (decide (p0.b < p1.b)))) (ex_lss rfl hE rfl rfl) ?_
            intro a hE
            refine s_val (wk1 hE rfl rfl rfl hb2) rfl rfl hE hp (v := (.bool (decide (p0.b < p1.b)))) (ex_pick1 rfl hE rfl hb3 rfl) ?_
            intro a hE
            have hE := hE.eqv (v' := (.bool ((decide (p0.a = p1.a)) && (decide (p0.b < p1.b))))) (by rw [hb3]; rfl)
            exact s_nil ⟨hE.cut ⟨rfl, rfl, trivial⟩, hp⟩
          ·
            refine s_skip (wk2 hE rfl rfl rfl hb3) rfl rfl hE ?_
            intro a hE
            refine s_skip (wk2 hE rfl rfl rfl hb3) rfl rfl hE ?_
            intro a hE
            refine s_skip (wk2 hE rfl rfl rfl hb3) rfl rfl hE ?_
            intro a hE
            refine s_skip (wk2 hE rfl rfl rfl hb3) rfl rfl hE ?_
            intro a hE
            refine s_skip (wk2 hE rfl rfl rfl hb3) rfl rfl hE ?_
            intro a hE
            refine s_val (wk1 hE rfl rfl rfl hb2) rfl rfl hE hp (v := (.bool false)) (ex_pick0 rfl hE rfl hb3 rfl) ?_
            intro a hE
            have hE := hE.eqv (v' := (.bool ((decide (p0.a = p1.a)) && (decide (p0.b < p1.b))))) (by rw [hb3]; rfl)
            exact s_nil ⟨hE.cut ⟨rfl, rfl, trivial⟩, hp⟩
        · rintro a w ⟨hE, hp⟩
          refine s_val (wk0 rfl) rfl rfl hE hp (v := (.bool ((decide (p0.a = p1.a)) && (decide (p0.b < p1.b))))) (ex_pick0 rfl hE rfl hb2 rfl) ?_
          intro a hE
          have hE := hE.eqv (v' := (.bool ((decide (p0.a < p1.a)) || ((decide (p0.a = p1.a)) && (decide (p0.b < p1.b)))))) (by rw [hb2]; rfl)
          exact s_nil ⟨hE.cut ⟨rfl, trivial⟩, hp⟩
    · rintro a w ⟨hE, hp⟩
      refine s_val (wk0 rfl) rfl rfl hE hp (v := (.bool ((decide (p0.a < p1.a)) || ((decide (p0.a = p1.a)) && (decide (p0.b < p1.b)))))) (ex_asn rfl hE rfl) ?_
      intro a hE
      refine s_nil ?_
      refine k_ret ?_
      obtain rfl := Option.some.inj hm
      exact ret1 hE rfl rfl ⟨_, rfl, rfl, (((hp.get 1 rfl).drop).drop)⟩
/- assessor/assessorref44.Pairs -/
set_option maxRecDepth 100000 in
set_option maxHeartbeats 4000000 in
theorem c_assessorref44_Pairs {Z : World} {ρ : PH} {L : List Atom} {w : World} (p0 : Int) (p1 : Int) (p2 : (List (List Mark))) (vp2 : Value) (hp2 : RoSl ρ vp2 p2) (hp : Hp Z ρ (L) w) (r : ((List Pair) × Int)) (hm : m_assessorref44_Pairs p0 p1 p2 = some r) :
    Calls Try.prog 23 #[(.int .i64 p0), (.int .i64 p1), vp2] w (Ret fun v w' => ∃ (vr1 : Value), v = .tuple #[vr1, (.int .i64 r.2)] ∧ Hp Z ρ (OwnSl 52 vr1 r.1 :: L) w') := by
  refine enter (N := 106) Try.func23 rfl rfl [(0, (.int .i64 p0)), (1, (.int .i64 p1)), (2, vp2)] rfl (argsIn_mem ⟨rfl, rfl, rfl, trivial⟩) fun a hE => ?_
  unfold m_assessorref44_Pairs at hm
  refine k_seq ?_
  refine k_region ?_
  refine s_val (wk0 rfl) rfl rfl hE hp (v := (.slice none 0 0)) (ex_asn rfl hE rfl) ?_
  intro a hE
  refine s_val (wk0 rfl) rfl rfl hE hp (v := (.int .i64 0)) (ex_asn rfl hE rfl) ?_
  intro a hE
  refine s_nil ?_
  refine k_seq ?_
  refine k_seq ?_
  refine k_region ?_
  refine s_val (wk0 rfl) rfl rfl hE hp (v := (.int .i64 p1)) (ex_move rfl hE rfl) ?_
  intro a hE
  refine s_val (wk0 rfl) rfl rfl hE hp (v := (.bool (decide (p1 < 1)))) (ex_lss rfl hE rfl rfl) ?_
  intro a hE
  refine s_val (wk0 rfl) rfl rfl hE hp (v := (.bool (decide (p1 < 1)))) (ex_move rfl hE rfl) ?_
  intro a hE
  refine s_cut [_, _, _] (fun a w => Env 106 [(20, (.bool ((decide (p1 < 1)) || (decide (10000 < p1))))), (0, (.int .i64 p0)), (1, (.int .i64 p1)), (2, vp2)] a ∧ Hp Z ρ (L) w) ?_ ?_
  · rcases Bool.eq_false_or_eq_true (decide (p1 < 1)) with hb1 | hb1
    ·
      refine s_skip (wk2 hE rfl rfl rfl hb1) rfl rfl hE ?_
      intro a hE
      refine s_skip (wk2 hE rfl rfl rfl hb1) rfl rfl hE ?_
      intro a hE
      refine s_val (wk0 rfl) rfl rfl hE hp (v := (.bool true)) (ex_pick1 rfl hE rfl hb1 rfl) ?_
      intro a hE
      have hE := hE.eqv (v' := (.bool ((decide (p1 < 1)) || (decide (10000 < p1))))) (by rw [hb1]; rfl)
      exact s_nil ⟨hE.cut ⟨rfl, rfl, rfl, rfl, trivial⟩, hp⟩
    ·
      refine s_val (wk1 hE rfl rfl rfl hb1) rfl rfl hE hp (v := (.int .i64 p1)) (ex_move rfl hE rfl) ?_
      intro a hE
      refine s_val (wk1 hE rfl rfl rfl hb1) rfl rfl hE hp (v := (.bool (decide (10000 < p1)))) (ex_gtr rfl hE rfl rfl) ?_
      intro a hE
      refine s_val (wk0 rfl) rfl rfl hE hp (v := (.bool (decide (10000 < p1)))) (ex_pick0 rfl hE rfl hb1 rfl) ?_
      intro a hE
      have hE := hE.eqv (v' := (.bool ((decide (p1 < 1)) || (decide (10000 < p1))))) (by rw [hb1]; rfl)
      exact s_nil ⟨hE.cut ⟨rfl, rfl, rfl, rfl, trivial⟩, hp⟩
  · rintro a w ⟨hE, hp⟩
    refine s_val (wk0 rfl) rfl rfl hE hp (v := (.bool ((decide (p1 < 1)) || (decide (10000 < p1))))) (ex_move rfl hE rfl) ?_
    intro a hE
    refine s_cut [_, _, _] (fun a w => Env 106 [(24, (.bool (((decide (p1 < 1)) || (decide (10000 < p1))) || (decide (p0 < 0))))), (0, (.int .i64 p0)), (1, (.int .i64 p1)), (2, vp2)] a ∧ Hp Z ρ (L) w) ?_ ?_
    · rcases Bool.eq_false_or_eq_true ((decide (p1 < 1)) || (decide (10000 < p1))) with hb2 | hb2
      ·
        refine s_skip (wk2 hE rfl rfl rfl hb2) rfl rfl hE ?_
        intro a hE
        refine s_skip (wk2 hE rfl rfl rfl hb2) rfl rfl hE ?_
        intro a hE
        refine s_val (wk0 rfl) rfl rfl hE hp (v := (.bool true)) (ex_pick1 rfl hE rfl hb2 rfl) ?_
        intro a hE
        have hE := hE.eqv (v' := (.bool (((decide (p1 < 1)) || (decide (10000 < p1))) || (decide (p0 < 0))))) (by rw [hb2]; rfl)
        exact s_nil ⟨hE.cut ⟨rfl, rfl, rfl, rfl, trivial⟩, hp⟩
      ·
        refine s_val (wk1 hE rfl rfl rfl hb2) rfl rfl hE hp (v := (.int .i64 p0)) (ex_move rfl hE rfl) ?_
        intro a hE
        refine s_val (wk1 hE rfl rfl rfl hb2) rfl rfl hE hp (v := (.bool (decide (p0 < 0)))) (ex_lss rfl hE rfl rfl) ?_
        intro a hE
        refine s_val (wk0 rfl) rfl rfl hE hp (v := (.bool (decide (p0 < 0)))) (ex_pick0 rfl hE rfl hb2 rfl) ?_
        intro a hE
        have hE := hE.eqv (v' := (.bool (((decide (p1 < 1)) || (decide (10000 < p1))) || (decide (p0 < 0))))) (by rw [hb2]; rfl)
        exact s_nil ⟨hE.cut ⟨rfl, rfl, rfl, rfl, trivial⟩, hp⟩
    · rintro a w ⟨hE, hp⟩
      refine s_val (wk0 rfl) rfl rfl hE hp (v := (.bool (((decide (p1 < 1)) || (decide (10000 < p1))) || (decide (p0 < 0))))) (ex_move rfl hE rfl) ?_
      intro a hE
      refine s_cut [_, _, _, _] (fun a w => Env 106 [(29, (.bool ((((decide (p1 < 1)) || (decide (10000 < p1))) || (decide (p0 < 0))) || (decide (p1 < p0))))), (0, (.int .i64 p0)), (1, (.int .i64 p1)), (2, vp2)] a ∧ Hp Z ρ (L) w) ?_ ?_
      · rcases Bool.eq_false_or_eq_true (((decide (p1 < 1)) || (decide (10000 < p1))) || (decide (p0 < 0))) with hb3 | hb3
        ·
          refine s_skip (wk2 hE rfl rfl rfl hb3) rfl rfl hE ?_
          intro a hE
          refine s_skip (wk2 hE rfl rfl rfl hb3) rfl rfl hE ?_
          intro a hE
          refine s_skip (wk2 hE rfl rfl rfl hb3) rfl rfl hE ?_
          intro a hE
          refine s_val (wk0 rfl) rfl rfl hE hp (v := (.bool true)) (ex_pick1 rfl hE rfl hb3 rfl) ?_
          intro a hE
          have hE := hE.eqv (v' := (.bool ((((decide (p1 < 1)) || (decide (10000 < p1))) || (decide (p0 < 0))) || (decide (p1 < p0))))) (by rw [hb3]; rfl)
          exact s_nil ⟨hE.cut ⟨rfl, rfl, rfl, rfl, trivial⟩, hp⟩
        ·
          refine s_val (wk1 hE rfl rfl rfl hb3) rfl rfl hE hp (v := (.int .i64 p0)) (ex_move rfl hE rfl) ?_
          intro a hE
          refine s_val (wk1 hE rfl rfl rfl hb3) rfl rfl hE hp (v := (.int .i64 p1)) (ex_move rfl hE rfl) ?_
          intro a hE
          refine s_val (wk1 hE rfl rfl rfl hb3) rfl rfl hE hp (v := (.bool (decide (p1 < p0)))) (ex_gtr rfl hE rfl rfl) ?_
          intro a hE
          refine s_val (wk0 rfl) rfl rfl hE hp (v := (.bool (decide (p1 < p0)))) (ex_pick0 rfl hE rfl hb3 rfl) ?_
          intro a hE
          have hE := hE.eqv (v' := (.bool ((((decide (p1 < 1)) || (decide (10000 < p1))) || (decide (p0 < 0))) || (decide (p1 < p0))))) (by rw [hb3]; rfl)
          exact s_nil ⟨hE.cut ⟨rfl, rfl, rfl, rfl, trivial⟩, hp⟩
      · rintro a w ⟨hE, hp⟩
        refine s_nil ?_
        refine k_if hE rfl (fun hb4 => ?_) (fun hb4 => ?_)
        · replace hm := (it hb4).symm.trans hm
          refine k_seq ?_
          refine k_region ?_
          refine s_lit (wk0 rfl) rfl rfl hE hp rfl [] trivial [] 52 (fun w => by simp [Instr.buildSlice, Instr.fill, Value.cells, go_sem]) ?_
          intro a w b1 hE hp
          have hp : Hp Z ρ (Pt b1 (.cells #[] 52 (0, 0)) :: L) w := hp
          refine s_val (wk0 rfl) rfl rfl hE hp (v := (.slice (some ⟨b1, 0, none⟩) 0 0)) (ex_asn rfl hE rfl) ?_
          intro a hE
          refine s_val (wk0 rfl) rfl rfl hE hp (v := (.int .i64 1)) (ex_asn rfl hE rfl) ?_
          intro a hE
          refine s_nil ?_
          refine k_ret ?_
          have hp := (hp.get 0 rfl).imp (own_of_pt (l := (([] : List Pair) : List Pair)) (n := 0) rfl (by decide) rfl)
          have hp : Hp Z ρ (OwnSl 52 (.slice (some ⟨b1, 0, none⟩) 0 0) ([] : List Pair) :: L) w := hp
          obtain rfl := Option.some.inj hm
          exact ret2 hE rfl rfl rfl ⟨_, rfl, _, rfl, hp⟩
        · replace hm := (ie hb4).symm.trans hm
          refine k_skip ?_
          refine k_seq ?_
          refine k_seq ?_
          refine k_region ?_
          refine s_val (wk0 rfl) rfl rfl hE hp (v := vp2) (ex_move rfl hE rfl) ?_
          intro a hE
          refine s_val (wk0 rfl) rfl rfl hE hp (v := (.int .i64 (p2.length : Int))) (ex_len rfl hE rfl (RoSl.len hp2 slty22)) ?_
          intro a hE
          refine s_val (wk0 rfl) rfl rfl hE hp (v := (.bool (decide (64 < (p2.length : Int))))) (ex_gtr rfl hE rfl rfl) ?_
          intro a hE
          refine s_nil ?_
          refine k_if hE rfl (fun hb5 => ?_) (fun hb5 => ?_)
          · replace hm := (it hb5).symm.trans hm
            refine k_seq ?_
            refine k_region ?_
            refine s_lit (wk0 rfl) rfl rfl hE hp rfl [] trivial [] 52 (fun w => by simp [Instr.buildSlice, Instr.fill, Value.cells, go_sem]) ?_
            intro a w b2 hE hp
            have hp : Hp Z ρ (Pt b2 (.cells #[] 52 (0, 0)) :: L) w := hp
            refine s_val (wk0 rfl) rfl rfl hE hp (v := (.slice (some ⟨b2, 0, none⟩) 0 0)) (ex_asn rfl hE rfl) ?_
            intro a hE
            refine s_val (wk0 rfl) rfl rfl hE hp (v := (.int .i64 8)) (ex_asn rfl hE rfl) ?_
            intro a hE
            refine s_nil ?_
            refine k_ret ?_
            have hp := (hp.get 0 rfl).imp (own_of_pt (l := (([] : List Pair) : List Pair)) (n := 0) rfl (by decide) rfl)
            have hp : Hp Z ρ (OwnSl 52 (.slice (some ⟨b2, 0, none⟩) 0 0) ([] : List Pair) :: L) w := hp
            obtain rfl := Option.some.inj hm
            exact ret2 hE rfl rfl rfl ⟨_, rfl, _, rfl, hp⟩
          · replace hm := (ie hb5).symm.trans hm
            refine k_skip ?_
            refine k_seq ?_
            refine k_region ?_
            refine s_lit (wk0 rfl) rfl rfl hE hp rfl [] trivial [] 52 (fun w => by simp [Instr.buildSlice, Instr.fill, Value.cells, go_sem]) ?_
            intro a w b3 hE hp
            have hp : Hp Z ρ (Pt b3 (.cells #[] 52 (0, 0)) :: L) w := hp
            refine s_val (wk0 rfl) rfl rfl hE hp (v := (.slice (some ⟨b3, 0, none⟩) 0 0)) (ex_asn rfl hE rfl) ?_
            intro a hE
            refine s_nil ?_
            refine k_seq ?_
            refine k_seq ?_
            refine k_region ?_
            refine s_val (wk0 rfl) rfl rfl hE hp (v := (.int .i64 0)) (ex_asn rfl hE rfl) ?_
            intro a hE
            refine s_nil ?_
            have hp := (hp.get 0 rfl).imp (own_of_pt (l := (([] : List Pair) : List Pair)) (n := 0) rfl (by decide) rfl)
            have hp : Hp Z ρ (OwnSl 52 (.slice (some ⟨b3, 0, none⟩) 0 0) ([] : List Pair) :: L) w := hp
            obtain ⟨b4, hb6, hm⟩ := bnd hm
            refine k_block (fun a w => ∃ (w4 : Value), Env 106 [(8, w4)] a ∧ Hp Z ρ (OwnSl 52 w4 b4 :: L) w) ?_ ?_
            · refine k_loop hb6 (fun s a w => ∃ (w4 : Value), Env 106 [(0, (.int .i64 p0)), (1, (.int .i64 p1)), (2, vp2), (8, w4), (9, (.int .i64 s.1))] a ∧ Hp Z ρ (OwnSl 52 w4 s.2 :: L) w) ?_ ?_
              · exact ⟨_, hE.cut ⟨rfl, rfl, rfl, rfl, rfl, trivial⟩, hp⟩
              · rintro ⟨lp1_0, lp1_1⟩ st a w ⟨w4, hE, hp⟩ hl1
                have hE : Env 106 [(0, (.int .i64 p0)), (1, (.int .i64 p1)), (2, vp2), (8, w4), (9, (.int .i64 lp1_0))] a := hE
                have hp : Hp Z ρ (OwnSl 52 w4 lp1_1 :: L) w := hp
                replace hl1 : m_assessorref44_Pairs_lp1 p0 p1 p2 lp1_0 lp1_1 = some st := hl1
                unfold m_assessorref44_Pairs_lp1 at hl1
                refine k_seq ?_
                refine k_seq ?_
                refine k_region ?_
                refine s_val (wk0 rfl) rfl rfl hE hp (v := (.int .i64 lp1_0)) (ex_move rfl hE rfl) ?_
                intro a hE
                refine s_val (wk0 rfl) rfl rfl hE hp (v := vp2) (ex_move rfl hE rfl) ?_
                intro a hE
                refine s_val (wk0 rfl) rfl rfl hE hp (v := (.int .i64 (p2.length : Int))) (ex_len rfl hE rfl (RoSl.len hp2 slty22)) ?_
                intro a hE
                refine s_val (wk0 rfl) rfl rfl hE hp (v := (.bool (decide (lp1_0 < (p2.length : Int))))) (ex_lss rfl hE rfl rfl) ?_
                intro a hE
                refine s_nil ?_
                refine k_if hE rfl (fun hb7 => ?_) (fun hb7 => ?_)
                · replace hl1 := (it hb7).symm.trans hl1
                  refine k_skip ?_
                  refine k_seq ?_
                  refine k_plain ?_
                  refine k_seq ?_
                  refine k_region ?_
                  refine s_val (wk0 rfl) rfl rfl hE hp (v := (.int .i64 lp1_0)) (ex_move rfl hE rfl) ?_
                  intro a hE
                  obtain ⟨x1, ex1, hl1⟩ := bnd hl1
                  refine s_val (wk0 rfl) rfl rfl hE hp (v := (.int .i64 x1)) (ex_add rfl hE rfl rfl (inK_some ex1)) ?_
                  intro a hE
                  refine s_val (wk0 rfl) rfl rfl hE hp (v := (.int .i64 x1)) (ex_asn rfl hE rfl) ?_
                  intro a hE
                  refine s_nil ?_
                  obtain ⟨b5, hb8, hl1⟩ := bnd hl1
                  refine k_block (fun a w => ∃ (w4 : Value), Env 106 [(0, (.int .i64 p0)), (1, (.int .i64 p1)), (2, vp2), (8, w4), (9, (.int .i64 lp1_0))] a ∧ Hp Z ρ (OwnSl 52 w4 b5 :: L) w) ?_ ?_
                  · refine k_loop hb8 (fun s a w => ∃ (w4 : Value), Env 106 [(0, (.int .i64 p0)), (1, (.int .i64 p1)), (2, vp2), (8, w4), (9, (.int .i64 lp1_0)), (10, (.int .i64 s.1))] a ∧ Hp Z ρ (OwnSl 52 w4 s.2 :: L) w) ?_ ?_
                    · exact ⟨_, hE.cut ⟨rfl, rfl, rfl, rfl, rfl, rfl, trivial⟩, hp⟩
                    · rintro ⟨lp2_0, lp2_1⟩ st a w ⟨w4, hE, hp⟩ hl2
                      have hE : Env 106 [(0, (.int .i64 p0)), (1, (.int .i64 p1)), (2, vp2), (8, w4), (9, (.int .i64 lp1_0)), (10, (.int .i64 lp2_0))] a := hE
                      have hp : Hp Z ρ (OwnSl 52 w4 lp2_1 :: L) w := hp
                      replace hl2 : m_assessorref44_Pairs_lp2 p0 p1 p2 lp1_0 lp2_0 lp2_1 = some st := hl2
                      unfold m_assessorref44_Pairs_lp2 at hl2
                      refine k_seq ?_
                      refine k_seq ?_
                      refine k_region ?_
                      refine s_val (wk0 rfl) rfl rfl hE hp (v := (.int .i64 lp2_0)) (ex_move rfl hE rfl) ?_
                      intro a hE
                      refine s_val (wk0 rfl) rfl rfl hE hp (v := vp2) (ex_move rfl hE rfl) ?_
                      intro a hE
                      refine s_val (wk0 rfl) rfl rfl hE hp (v := (.int .i64 (p2.length : Int))) (ex_len rfl hE rfl (RoSl.len hp2 slty22)) ?_
                      intro a hE
                      refine s_val (wk0 rfl) rfl rfl hE hp (v := (.bool (decide (lp2_0 < (p2.length : Int))))) (ex_lss rfl hE rfl rfl) ?_
                      intro a hE
                      refine s_nil ?_
                      refine k_if hE rfl (fun hb9 => ?_) (fun hb9 => ?_)
                      · replace hl2 := (it hb9).symm.trans hl2
                        refine k_skip ?_
                        refine k_seq ?_
                        refine k_plain ?_
                        refine k_seq ?_
                        refine k_quiet (by kernel_rfl) (by kernel_rfl) hp ?_
                        refine q_val (wk0 rfl) rfl rfl hE (v := vp2) (ex_move rfl hE rfl) ?_
                        intro a hE
                        refine q_val (wk0 rfl) rfl rfl hE (v := (.int .i64 lp1_0)) (ex_move rfl hE rfl) ?_
                        intro a hE
                        obtain ⟨x2, ex2, hl2⟩ := bnd hl2
                        obtain ⟨b6, b6o, b6c, b6r, b6k, b6f⟩ := RoSl.at hp2 slty22 ex2
                        obtain ⟨vb6, rfl, hb6⟩ := b6k
                        have b6f : AtP ρ b6 b6o [vb6] := b6f
                        refine q_val (wk0 rfl) rfl rfl hE (v := (.pointer (some ⟨b6, b6o, none⟩))) (ex_index rfl hE rfl rfl b6r) ?_
                        intro a hE
                        refine q_val (wk0 rfl) rfl rfl hE (v := vb6) (ex_load rfl hE rfl (fun w hw => run_ld1 varty26 (b6f.c 0 rfl w hw))) ?_
                        intro a hE
                        refine q_val (wk0 rfl) rfl rfl hE (v := vp2) (ex_move rfl hE rfl) ?_
                        intro a hE
                        refine q_val (wk0 rfl) rfl rfl hE (v := (.int .i64 lp2_0)) (ex_move rfl hE rfl) ?_
                        intro a hE
                        obtain ⟨x3, ex3, hl2⟩ := bnd hl2
                        obtain ⟨b7, b7o, b7c, b7r, b7k, b7f⟩ := RoSl.at hp2 slty22 ex3
                        obtain ⟨vb7, rfl, hb7⟩ := b7k
                        have b7f : AtP ρ b7 b7o [vb7] := b7f
                        refine q_val (wk0 rfl) rfl rfl hE (v := (.pointer (some ⟨b7, b7o, none⟩))) (ex_index rfl hE rfl rfl b7r) ?_
                        intro a hE
                        refine q_val (wk0 rfl) rfl rfl hE (v := vb7) (ex_load rfl hE rfl (fun w hw => run_ld1 varty26 (b7f.c 0 rfl w hw))) ?_
                        intro a hE
                        obtain ⟨x4, ex4, hl2⟩ := bnd hl2
                        refine q_call (wk0 rfl) rfl rfl hE rfl [vb6, vb7] ⟨rfl, rfl, trivial⟩ ent19 (v := (.tuple #[(.int .i64 x4.1), (.int .i64 x4.2)])) (fun w hw => Calls.mono (c_assessorref44_Compare x2 vb6 hb6 x3 vb7 hb7 hw x4 ex4) fun e w' ⟨v, he, hv, hh⟩ => ⟨by rw [he, hv], hh⟩) ?_
                        intro a hE
                        refine q_val (wk0 rfl) rfl rfl hE (v := (.tuple #[(.int .i64 x4.1), (.int .i64 x4.2)])) (ex_move rfl hE rfl) ?_
                        intro a hE
                        refine q_val (wk0 rfl) rfl rfl hE (v := (.int .i64 x4.1)) (ex_extract rfl hE rfl rfl) ?_
                        intro a hE
                        refine q_val (wk0 rfl) rfl rfl hE (v := (.int .i64 x4.2)) (ex_extract rfl hE rfl rfl) ?_
                        intro a hE
                        refine q_val (wk0 rfl) rfl rfl hE (v := (.int .i64 x4.1)) (ex_asn rfl hE rfl) ?_
                        intro a hE
                        refine q_val (wk0 rfl) rfl rfl hE (v := (.int .i64 x4.2)) (ex_asn rfl hE rfl) ?_
                        intro a hE
                        refine q_nil fun w hp => ?_
                        have hp : Hp Z ρ (_ :: L) w := hp
                        have hE := hE.cut (E' := [(0, (.int .i64 p0)), (1, (.int .i64 p1)), (2, vp2), (8, w4), (9, (.int .i64 lp1_0)), (10, (.int .i64 lp2_0)), (11, (.int .i64 x4.1)), (12, (.int .i64 x4.2))]) ⟨rfl, rfl, rfl, rfl, rfl, rfl, rfl, rfl, trivial⟩
                        refine k_seq ?_
                        refine k_region ?_
                        refine s_val (wk0 rfl) rfl rfl hE hp (v := (.int .i64 lp1_0)) (ex_move rfl hE rfl) ?_
                        intro a hE
                        refine s_val (wk0 rfl) rfl rfl hE hp (v := (.int .i64 lp2_0)) (ex_move rfl hE rfl) ?_
                        intro a hE
                        refine s_val (wk0 rfl) rfl rfl hE hp (v := (.int .i64 x4.1)) (ex_move rfl hE rfl) ?_
                        intro a hE
                        refine s_val (wk0 rfl) rfl rfl hE hp (v := (.int .i64 x4.2)) (ex_move rfl hE rfl) ?_
                        intro a hE
                        refine s_val (wk0 rfl) rfl rfl hE hp (v := (.agg #[(.int .i64 lp1_0), (.int .i64 lp2_0), (.int .i64 x4.1), (.int .i64 x4.2)])) (ex_bld rfl hE [(0, (.int .i64 lp1_0)), (1, (.int .i64 lp2_0)), (2, (.int .i64 x4.1)), (3, (.int .i64 x4.2))] (by exact ⟨⟨rfl, rfl⟩, ⟨rfl, rfl⟩, ⟨rfl, rfl⟩, ⟨rfl, rfl⟩, trivial⟩) (fun w => by simp [Instr.build, Instr.fill, Value.cells, go_sem])) ?_
                        intro a hE
                        refine s_new (wk0 rfl) rfl rfl hE hp rfl [(.int .i64 0), (.int .i64 0), (.int .i64 0), (.int .i64 0)] (fun w => by simp [Instr.alloc, go_sem] <;> rfl) ?_
                        intro a w b8 hE hp
                        have hp : Hp Z ρ (Pt b8 (.cells #[(.int .i64 0), (.int .i64 0), (.int .i64 0), (.int .i64 0)] 52 (0, 0)) :: _ :: L) w := hp
                        refine s_store (wk0 rfl) rfl hE hp rfl rfl rfl 0 rfl varty52.size_ rfl (allOne_mem ⟨rfl, rfl, rfl, rfl, trivial⟩) [(.int .i64 lp1_0), (.int .i64 lp2_0), (.int .i64 x4.1), (.int .i64 x4.2)] rfl ?_
                        intro w hp
                        have hp : Hp Z ρ (Pt b8 (.cells #[(.int .i64 lp1_0), (.int .i64 lp2_0), (.int .i64 x4.1), (.int .i64 x4.2)] 52 (0, 0)) :: _ :: L) w := hp
                        refine s_nil ?_
                        refine k_seq ?_
                        refine k_region ?_
                        refine s_val (wk0 rfl) rfl rfl hE hp (v := (.int .i64 x4.2)) (ex_move rfl hE rfl) ?_
                        intro a hE
                        refine s_val (wk0 rfl) rfl rfl hE hp (v := (.bool (decide (0 < x4.2)))) (ex_gtr rfl hE rfl rfl) ?_
                        intro a hE
                        refine s_val (wk0 rfl) rfl rfl hE hp (v := (.bool (decide (0 < x4.2)))) (ex_move rfl hE rfl) ?_
                        intro a hE
                        obtain ⟨m1, hg1, hl2⟩ := bnd hl2
                        refine s_cut [_, _, _, _, _, _, _, _] (fun a w => Env 106 [(77, (.bool m1)), (0, (.int .i64 p0)), (1, (.int .i64 p1)), (2, vp2), (8, w4), (9, (.int .i64 lp1_0)), (10, (.int .i64 lp2_0)), (13, (.pointer (some ⟨b8, 0, none⟩)))] a ∧ Hp Z ρ (Pt b8 (.cells #[(.int .i64 lp1_0), (.int .i64 lp2_0), (.int .i64 x4.1), (.int .i64 x4.2)] 52 (0, 0)) :: OwnSl 52 w4 lp2_1 :: L) w) ?_ ?_
                        · rcases Bool.eq_false_or_eq_true (decide (0 < x4.2)) with hb10 | hb10
                          ·
                            replace hg1 := (it hb10).symm.trans hg1
                            refine s_val (wk1 hE rfl rfl rfl hb10) rfl rfl hE hp (v := (.int .i64 x4.1)) (ex_move rfl hE rfl) ?_
                            intro a hE
                            refine s_val (wk1 hE rfl rfl rfl hb10) rfl rfl hE hp (v := (.int .i64 p1)) (ex_move rfl hE rfl) ?_
                            intro a hE
                            obtain ⟨x5, ex5, hg1⟩ := bnd hg1
                            refine s_val (wk1 hE rfl rfl rfl hb10) rfl rfl hE hp (v := (.int .i64 x5)) (ex_mul rfl hE rfl rfl (inK_some ex5)) ?_
                            intro a hE
                            refine s_val (wk1 hE rfl rfl rfl hb10) rfl rfl hE hp (v := (.int .i64 p0)) (ex_move rfl hE rfl) ?_
                            intro a hE
                            refine s_val (wk1 hE rfl rfl rfl hb10) rfl rfl hE hp (v := (.int .i64 x4.2)) (ex_move rfl hE rfl) ?_
                            intro a hE
                            obtain ⟨x6, ex6, hg1⟩ := bnd hg1
                            refine s_val (wk1 hE rfl rfl rfl hb10) rfl rfl hE hp (v := (.int .i64 x6)) (ex_mul rfl hE rfl rfl (inK_some ex6)) ?_
                            intro a hE
                            refine s_val (wk1 hE rfl rfl rfl hb10) rfl rfl hE hp (v := (.bool (decide (x6 ≤ x5)))) (ex_geq rfl hE rfl rfl) ?_
                            intro a hE
                            refine s_val (wk0 rfl) rfl rfl hE hp (v := (.bool (decide (x6 ≤ x5)))) (ex_pick1 rfl hE rfl hb10 rfl) ?_
                            intro a hE
                            obtain rfl := Option.some.inj hg1
                            exact s_nil ⟨hE.cut ⟨rfl, rfl, rfl, rfl, rfl, rfl, rfl, rfl, trivial⟩, hp⟩
                          ·
                            replace hg1 := (ie hb10).symm.trans hg1
                            refine s_skip (wk2 hE rfl rfl rfl hb10) rfl rfl hE ?_
                            intro a hE
                            refine s_skip (wk2 hE rfl rfl rfl hb10) rfl rfl hE ?_
                            intro a hE
                            refine s_skip (wk2 hE rfl rfl rfl hb10) rfl rfl hE ?_
                            intro a hE
                            refine s_skip (wk2 hE rfl rfl rfl hb10) rfl rfl hE ?_
                            intro a hE
                            refine s_skip (wk2 hE rfl rfl rfl hb10) rfl rfl hE ?_
                            intro a hE
                            refine s_skip (wk2 hE rfl rfl rfl hb10) rfl rfl hE ?_
                            intro a hE
                            refine s_skip (wk2 hE rfl rfl rfl hb10) rfl rfl hE ?_
                            intro a hE
                            refine s_val (wk0 rfl) rfl rfl hE hp (v := (.bool false)) (ex_pick0 rfl hE rfl hb10 rfl) ?_
                            intro a hE
                            obtain rfl := Option.some.inj hg1
                            exact s_nil ⟨hE.cut ⟨rfl, rfl, rfl, rfl, rfl, rfl, rfl, rfl, trivial⟩, hp⟩
                        · rintro a w ⟨hE, hp⟩
                          refine s_nil ?_
                          refine k_if hE rfl (fun hb11 => ?_) (fun hb11 => ?_)
                          · replace hl2 := (it hb11).symm.trans hl2
                            refine k_seq ?_
                            refine k_region ?_
                            refine s_val (wk0 rfl) rfl rfl hE hp (v := w4) (ex_move rfl hE rfl) ?_
                            intro a hE
                            refine s_val (wk0 rfl) rfl rfl hE hp (v := (.int .i64 (lp2_1.length : Int))) (ex_len rfl hE rfl (OwnSl.len hp 1 rfl slty37)) ?_
                            intro a hE
                            refine s_val (wk0 rfl) rfl rfl hE hp (v := (.int .i64 (lp2_1.length : Int))) (ex_asn rfl hE rfl) ?_
                            intro a hE
                            refine s_nil ?_
                            refine k_seq ?_
                            obtain ⟨b9, hb12, hl2⟩ := bnd hl2
                            refine k_block (fun a w => Env 106 [(0, (.int .i64 p0)), (1, (.int .i64 p1)), (2, vp2), (8, w4), (9, (.int .i64 lp1_0)), (10, (.int .i64 lp2_0)), (13, (.pointer (some ⟨b8, 0, none⟩))), (14, (.int .i64 b9))] a ∧ Hp Z ρ (Pt b8 (.cells #[(.int .i64 lp1_0), (.int .i64 lp2_0), (.int .i64 x4.1), (.int .i64 x4.2)] 52 (0, 0)) :: OwnSl 52 w4 lp2_1 :: L) w) ?_ ?_
                            · refine k_loop hb12 (fun s a w => Env 106 [(0, (.int .i64 p0)), (1, (.int .i64 p1)), (2, vp2), (8, w4), (9, (.int .i64 lp1_0)), (10, (.int .i64 lp2_0)), (13, (.pointer (some ⟨b8, 0, none⟩))), (14, (.int .i64 s))] a ∧ Hp Z ρ (Pt b8 (.cells #[(.int .i64 lp1_0), (.int .i64 lp2_0), (.int .i64 x4.1), (.int .i64 x4.2)] 52 (0, 0)) :: OwnSl 52 w4 lp2_1 :: L) w) ?_ ?_
                              · exact ⟨hE.cut ⟨rfl, rfl, rfl, rfl, rfl, rfl, rfl, rfl, trivial⟩, hp⟩
                              · rintro lp3_0 st a w ⟨hE, hp⟩ hl3
                                have hE : Env 106 [(0, (.int .i64 p0)), (1, (.int .i64 p1)), (2, vp2), (8, w4), (9, (.int .i64 lp1_0)), (10, (.int .i64 lp2_0)), (13, (.pointer (some ⟨b8, 0, none⟩))), (14, (.int .i64 lp3_0))] a := hE
                                have hp : Hp Z ρ (_ :: _ :: L) w := hp
                                replace hl3 : m_assessorref44_Pairs_lp3 lp1_0 lp2_0 lp2_1 x4 lp3_0 = some st := hl3
                                unfold m_assessorref44_Pairs_lp3 at hl3
                                refine k_seq ?_
                                refine k_seq ?_
                                refine k_quiet (by kernel_rfl) (by kernel_rfl) hp ?_
                                refine q_val (wk0 rfl) rfl rfl hE (v := (.int .i64 lp3_0)) (ex_move rfl hE rfl) ?_
                                intro a hE
                                refine q_val (wk0 rfl) rfl rfl hE (v := (.bool (decide (0 < lp3_0)))) (ex_gtr rfl hE rfl rfl) ?_
                                intro a hE
                                refine q_val (wk0 rfl) rfl rfl hE (v := (.bool (decide (0 < lp3_0)))) (ex_move rfl hE rfl) ?_
                                intro a hE
                                obtain ⟨m2, hg2, hl3⟩ := bnd hl3
                                refine q_cut [_, _, _, _, _, _, _, _] (fun a => Env 106 [(90, (.bool m2)), (0, (.int .i64 p0)), (1, (.int .i64 p1)), (2, vp2), (8, w4), (9, (.int .i64 lp1_0)), (10, (.int .i64 lp2_0)), (13, (.pointer (some ⟨b8, 0, none⟩))), (14, (.int .i64 lp3_0))] a) ?_ ?_
                                · rcases Bool.eq_false_or_eq_true (decide (0 < lp3_0)) with hb13 | hb13
                                  ·
                                    replace hg2 := (it hb13).symm.trans hg2
                                    refine q_val (wk1 hE rfl rfl rfl hb13) rfl rfl hE (v := (.agg #[(.int .i64 lp1_0), (.int .i64 lp2_0), (.int .i64 x4.1), (.int .i64 x4.2)])) (ex_load rfl hE rfl (fun w hw => run_ldN (cs := [(.int .i64 lp1_0), (.int .i64 lp2_0), (.int .i64 x4.1), (.int .i64 x4.2)]) varty52 (Hp.cN 0 rfl 0 _ (sub_all rfl) w hw))) ?_
                                    intro a hE
                                    refine q_val (wk1 hE rfl rfl rfl hb13) rfl rfl hE (v := w4) (ex_move rfl hE rfl) ?_
                                    intro a hE
                                    refine q_val (wk1 hE rfl rfl rfl hb13) rfl rfl hE (v := (.int .i64 lp3_0)) (ex_move rfl hE rfl) ?_
                                    intro a hE
                                    obtain ⟨x7, ex7, hg2⟩ := bnd hg2
                                    refine q_val (wk1 hE rfl rfl rfl hb13) rfl rfl hE (v := (.int .i64 x7)) (ex_sub rfl hE rfl rfl (inK_some ex7)) ?_
                                    intro a hE
                                    obtain ⟨x8, ex8, hg2⟩ := bnd hg2
                                    obtain ⟨b10, b10o, b10r, b10v, b10f⟩ := OwnSl.at hp 1 rfl slty37 ex8
                                    have b10f : ∀ (j : Nat) (u : Value), ([(.int .i64 x8.a), (.int .i64 x8.b), (.int .i64 x8.shared), (.int .i64 x8.total)] : List Value)[j]? = some u → ∀ ρ' L' w, Hp Z ρ' (OwnSl 52 w4 lp2_1 :: L') w → w.cell? ⟨b10, b10o + j, none⟩ = some u := b10f
                                    refine q_val (wk1 hE rfl rfl rfl hb13) rfl rfl hE (v := (.pointer (some ⟨b10, b10o, none⟩))) (ex_index rfl hE rfl rfl b10r) ?_
                                    intro a hE
                                    refine q_val (wk1 hE rfl rfl rfl hb13) rfl rfl hE (v := (.agg #[(.int .i64 x8.a), (.int .i64 x8.b), (.int .i64 x8.shared), (.int .i64 x8.total)])) (ex_load rfl hE rfl (fun w hw => run_ldN (cs := [(.int .i64 x8.a), (.int .i64 x8.b), (.int .i64 x8.shared), (.int .i64 x8.total)]) varty52 (fun j u hj => b10f j u hj _ _ w (hw.get 1 rfl)))) ?_
                                    intro a hE
                                    obtain ⟨x9, ex9, hg2⟩ := bnd hg2
                                    refine q_call (wk1 hE rfl rfl rfl hb13) rfl rfl hE rfl [(.agg #[(.int .i64 lp1_0), (.int .i64 lp2_0), (.int .i64 x4.1), (.int .i64 x4.2)]), (.agg #[(.int .i64 x8.a), (.int .i64 x8.b), (.int .i64 x8.shared), (.int .i64 x8.total)])] ⟨rfl, rfl, trivial⟩ ent47 (v := (.bool x9)) (fun w hw => Calls.mono (c_assessorref44_before (Pair.mk lp1_0 lp2_0 x4.1 x4.2) x8 hw x9 ex9) fun e w' ⟨v, he, hv, hh⟩ => ⟨by rw [he, hv], hh⟩) ?_
                                    intro a hE
                                    refine q_val (wk0 rfl) rfl rfl hE (v := (.bool x9)) (ex_pick1 rfl hE rfl hb13 rfl) ?_
                                    intro a hE
                                    obtain rfl := Option.some.inj hg2
                                    exact q_nil (hE.cut ⟨rfl, rfl, rfl, rfl, rfl, rfl, rfl, rfl, rfl, trivial⟩)
                                  ·
                                    replace hg2 := (ie hb13).symm.trans hg2
                                    refine q_skip (wk2 hE rfl rfl rfl hb13) rfl rfl hE ?_
                                    intro a hE
                                    refine q_skip (wk2 hE rfl rfl rfl hb13) rfl rfl hE ?_
                                    intro a hE
                                    refine q_skip (wk2 hE rfl rfl rfl hb13) rfl rfl hE ?_
                                    intro a hE
                                    refine q_skip (wk2 hE rfl rfl rfl hb13) rfl rfl hE ?_
                                    intro a hE
                                    refine q_skip (wk2 hE rfl rfl rfl hb13) rfl rfl hE ?_
                                    intro a hE
                                    refine q_skip (wk2 hE rfl rfl rfl hb13) rfl rfl hE ?_
                                    intro a hE
                                    refine q_skip (wk2 hE rfl rfl rfl hb13) rfl rfl hE ?_
                                    intro a hE
                                    refine q_val (wk0 rfl) rfl rfl hE (v := (.bool false)) (ex_pick0 rfl hE rfl hb13 rfl) ?_
                                    intro a hE
                                    obtain rfl := Option.some.inj hg2
                                    exact q_nil (hE.cut ⟨rfl, rfl, rfl, rfl, rfl, rfl, rfl, rfl, rfl, trivial⟩)
                                · intro a hE
                                  refine q_nil fun w hp => ?_
                                  have hp : Hp Z ρ (_ :: _ :: L) w := hp
                                  refine k_if hE rfl (fun hb14 => ?_) (fun hb14 => ?_)
                                  · replace hl3 := (it hb14).symm.trans hl3
                                    refine k_skip ?_
                                    refine k_plain ?_
                                    refine k_region ?_
                                    refine s_val (wk0 rfl) rfl rfl hE hp (v := (.int .i64 lp3_0)) (ex_move rfl hE rfl) ?_
                                    intro a hE
                                    obtain ⟨x10, ex10, hl3⟩ := bnd hl3
                                    refine s_val (wk0 rfl) rfl rfl hE hp (v := (.int .i64 x10)) (ex_sub rfl hE rfl rfl (inK_some ex10)) ?_
                                    intro a hE
                                    refine s_val (wk0 rfl) rfl rfl hE hp (v := (.int .i64 x10)) (ex_asn rfl hE rfl) ?_
                                    intro a hE
                                    refine s_nil ?_
                                    exact ⟨_, (Option.some.inj hl3).symm, hE.cut ⟨rfl, rfl, rfl, rfl, rfl, rfl, rfl, rfl, trivial⟩, hp⟩
                                  · replace hl3 := (ie hb14).symm.trans hl3
                                    refine k_exit ?_
                                    refine ⟨_, (Option.some.inj hl3).symm, fun hbb => ?_⟩
                                    subst hbb
                                    exact ⟨hE.cut ⟨rfl, rfl, rfl, rfl, rfl, rfl, rfl, rfl, trivial⟩, hp⟩
                            · rintro a w ⟨hE, hp⟩
                              obtain ⟨x11, ex11, hl2⟩ := bnd hl2
                              obtain ⟨x12, ex12, hl2⟩ := bnd hl2
                              obtain ⟨x13, ex13, hl2⟩ := bnd hl2
                              obtain ⟨x14, ex14, hl2⟩ := bnd hl2
                              obtain ⟨x15, ex15, hl2⟩ := bnd hl2
                              have hp := hp.drew
                              refine k_heldV ([([], At0 Z ρ), ([], At1 Z ρ (Pt b8 (.cells #[(.int .i64 lp1_0), (.int .i64 lp2_0), (.int .i64 x4.1), (.int .i64 x4.2)] 52 (0, 0))))] : Facts) (fun a w => ∃ y25 : Nat, ∃ y24 : Value, Env 106 [(0, (.int .i64 p0)), (1, (.int .i64 p1)), (2, vp2), (8, y24), (9, (.int .i64 lp1_0)), (10, (.int .i64 lp2_0))] a ∧ Hp Z ρ (OwnSl 52 w4 lp2_1 :: Pt y25 (.cells #[(.int .i64 lp1_0), (.int .i64 lp2_0), (.int .i64 x4.1), (.int .i64 x4.2)] 52 (0, 0)) :: OwnSl 52 y24 x15 :: Pt b8 (.cells #[(.int .i64 lp1_0), (.int .i64 lp2_0), (.int .i64 x4.1), (.int .i64 x4.2)] 52 (0, 0)) :: L) w) (by kernel_rfl) ⟨fun _ => ⟨_, hp⟩, fun _ => ⟨_, (hp.get 0 rfl)⟩, trivial⟩ (fun hS => ?_) ?_
                              ·
                                generalize w.drew = w at hS hp ⊢
                                refine v_take0 1 (wk0 rfl) rfl rfl rfl hE (by kernel_rfl) (by kernel_rfl) (by kernel_rfl) rfl (by kernel_rfl) hS (v := w4) (fun _ => ex_move rfl hE rfl) ?_
                                intro a hE hS
                                refine v_take0 2 (wk0 rfl) rfl rfl rfl hE (by kernel_rfl) (by kernel_rfl) (by kernel_rfl) rfl (by kernel_rfl) hS (v := (.int .i64 b9)) (fun _ => ex_move rfl hE rfl) ?_
                                intro a hE hS
                                obtain ⟨v8, v8r⟩ := OwnSl.view hp 1 rfl slty37 none (some (.i64, b9)) rfl rfl ex11
                                refine v_take0 3 (wk0 rfl) rfl rfl rfl hE (by kernel_rfl) (by kernel_rfl) (by kernel_rfl) rfl (by kernel_rfl) hS (v := v8) (fun _ => ex_sl rfl hE rfl none (some (.i64, b9)) (by exact trivial) (by exact rfl) v8r) ?_
                                intro a hE hS
                                refine v_take1 5 1 (wk0 rfl) rfl rfl rfl hE (by kernel_rfl) (by kernel_rfl) (by kernel_rfl) rfl (by kernel_rfl) hS (v := (.agg #[(.int .i64 lp1_0), (.int .i64 lp2_0), (.int .i64 x4.1), (.int .i64 x4.2)])) (fun _ => ex_load rfl hE rfl (fun w hw => run_ldN (cs := [(.int .i64 lp1_0), (.int .i64 lp2_0), (.int .i64 x4.1), (.int .i64 x4.2)]) varty52 (Hp.cN 0 rfl 0 _ (sub_all rfl) w hw))) ?_
                                intro a hE hS
                                refine v_take0 8 (wk0 rfl) rfl rfl rfl hE (by kernel_rfl) (by kernel_rfl) (by kernel_rfl) rfl (by kernel_rfl) hS (v := w4) (fun _ => ex_move rfl hE rfl) ?_
                                intro a hE hS
                                refine v_take0 9 (wk0 rfl) rfl rfl rfl hE (by kernel_rfl) (by kernel_rfl) (by kernel_rfl) rfl (by kernel_rfl) hS (v := (.int .i64 b9)) (fun _ => ex_move rfl hE rfl) ?_
                                intro a hE hS
                                obtain ⟨v9, v9r⟩ := OwnSl.view hp 1 rfl slty37 (some (.i64, b9)) none rfl rfl ex14
                                refine v_take0 10 (wk0 rfl) rfl rfl rfl hE (by kernel_rfl) (by kernel_rfl) (by kernel_rfl) rfl (by kernel_rfl) hS (v := v9) (fun _ => ex_sl rfl hE rfl (some (.i64, b9)) none (by exact rfl) (by exact trivial) v9r) ?_
                                intro a hE hS
                                refine v_all [0, 6] (by kernel_rfl) rfl ?_
                                refine List.forall_mem_cons.2 ⟨?_, List.forall_mem_cons.2 ⟨?_, fun _ h => absurd h (by simp)⟩⟩
                                ·
                                  refine h_op rfl ?_
                                  refine s_lit (wk0 rfl) rfl rfl hE hp rfl [] trivial [] 52 (fun w => by simp [Instr.buildSlice, Instr.fill, Value.cells, go_sem]) ?_
                                  intro a w b13 hE hp
                                  have hp : Hp Z ρ (Pt b13 (.cells #[] 52 (0, 0)) :: _ :: _ :: L) w := hp
                                  refine s_nil (and_with ⟨fun _ => ⟨_, hp⟩, fun _ => ⟨_, (hp.get 1 rfl)⟩, trivial⟩ fun hS => ?_)
                                  refine v_all [4, 6] (by kernel_rfl) rfl ?_
                                  refine List.forall_mem_cons.2 ⟨?_, List.forall_mem_cons.2 ⟨?_, fun _ h => absurd h (by simp)⟩⟩
                                  ·
                                    refine h_op rfl ?_
                                    have hp := (hp.get 0 rfl).imp (own_of_pt (l := (([] : List Pair) : List Pair)) (n := 0) rfl (by decide) rfl)
                                    have hp : Hp Z ρ (OwnSl 52 (.slice (some ⟨b13, 0, none⟩) 0 0) ([] : List Pair) :: _ :: _ :: L) w := hp
                                    obtain ⟨k3, k3a, k3d, k3h⟩ := (hp.get 2 rfl).lend
                                    obtain ⟨v11, v11r, f3⟩ := RoSl.part (OwnSl.ro k3d k3a) slty37 none (some (.i64, b9)) rfl rfl ex11
                                    have f3 := sl_det w v11r v8r f3
                                    refine s_apps (wk0 rfl) rfl rfl hE k3h rfl slty37 rfl rfl 0 rfl rfl f3 ex12 ?_
                                    intro v10 a w hE hp
                                    have hp := Hp.back k3a k3d hp
                                    have hp : Hp Z ρ (_ :: OwnSl 52 v10 x12 :: _ :: L) w := hp
                                    refine s_nil (and_with ⟨fun _ => ⟨_, hp⟩, fun _ => ⟨_, (hp.get 2 rfl)⟩, trivial⟩ fun hS => ?_)
                                    refine v_all [6] (by kernel_rfl) rfl ?_
                                    refine List.forall_mem_cons.2 ⟨?_, fun _ h => absurd h (by simp)⟩
                                    ·
                                      refine h_op rfl ?_
                                      refine s_lit (wk0 rfl) rfl rfl hE hp rfl [(0, (.agg #[(.int .i64 lp1_0), (.int .i64 lp2_0), (.int .i64 x4.1), (.int .i64 x4.2)]))] ⟨⟨rfl, rfl⟩, trivial⟩ [(.int .i64 lp1_0), (.int .i64 lp2_0), (.int .i64 x4.1), (.int .i64 x4.2)] 52 (fun w => by simp [Instr.buildSlice, Instr.fill, Value.cells, go_sem]) ?_
                                      intro a w b14 hE hp
                                      have hp : Hp Z ρ (Pt b14 (.cells #[(.int .i64 lp1_0), (.int .i64 lp2_0), (.int .i64 x4.1), (.int .i64 x4.2)] 52 (0, 0)) :: _ :: _ :: _ :: L) w := hp
                                      refine s_nil (and_with ⟨fun _ => ⟨_, hp⟩, fun _ => ⟨_, (hp.get 3 rfl)⟩, trivial⟩ fun hS => ?_)
                                      refine v_all [7] (by kernel_rfl) rfl ?_
                                      refine List.forall_mem_cons.2 ⟨?_, fun _ h => absurd h (by simp)⟩
                                      ·
                                        refine h_op rfl ?_
                                        refine s_app (wk0 rfl) rfl rfl hE hp rfl slty37 rfl rfl 2 rfl rfl (l2 := [(Pair.mk lp1_0 lp2_0 x4.1 x4.2)]) rfl (fun j u hj => by have := Hp.cN 0 rfl 0 _ (sub_all rfl) w hp j u hj; simpa using this) ex13 ?_
                                        intro v12 a w hE hp
                                        have hp : Hp Z ρ (_ :: _ :: OwnSl 52 v12 x13 :: _ :: L) w := hp
                                        refine s_nil (and_with ⟨fun _ => ⟨_, hp⟩, fun _ => ⟨_, (hp.get 3 rfl)⟩, trivial⟩ fun hS => ?_)
                                        refine v_all [11] (by kernel_rfl) rfl ?_
                                        refine List.forall_mem_cons.2 ⟨?_, fun _ h => absurd h (by simp)⟩
                                        ·
                                          refine h_op rfl ?_
                                          obtain ⟨k4, k4a, k4d, k4h⟩ := (hp.get 1 rfl).lend
                                          obtain ⟨v14, v14r, f4⟩ := RoSl.part (OwnSl.ro k4d k4a) slty37 (some (.i64, b9)) none rfl rfl ex14
                                          have f4 := sl_det w v14r v9r f4
                                          refine s_apps (wk0 rfl) rfl rfl hE k4h rfl slty37 rfl rfl 1 rfl rfl f4 ex15 ?_
                                          intro v13 a w hE hp
                                          have hp := Hp.back k4a k4d hp
                                          have hp : Hp Z ρ (_ :: _ :: OwnSl 52 v13 x15 :: _ :: L) w := hp
                                          refine s_nil (and_with ⟨fun _ => ⟨_, hp⟩, fun _ => ⟨_, (hp.get 3 rfl)⟩, trivial⟩ fun hS => ?_)
                                          refine v_take0 12 (wk0 rfl) rfl rfl rfl hE (by kernel_rfl) (by kernel_rfl) (by kernel_rfl) rfl (by kernel_rfl) hS (v := v13) (fun _ => ex_asn rfl hE rfl) ?_
                                          intro a hE hS
                                          exact v_done (by kernel_rfl) ⟨_, _, hE.cut ⟨rfl, rfl, rfl, rfl, rfl, rfl, trivial⟩, hp⟩
                                  ·
                                    refine h_op rfl ?_
                                    refine s_lit (wk0 rfl) rfl rfl hE hp rfl [(0, (.agg #[(.int .i64 lp1_0), (.int .i64 lp2_0), (.int .i64 x4.1), (.int .i64 x4.2)]))] ⟨⟨rfl, rfl⟩, trivial⟩ [(.int .i64 lp1_0), (.int .i64 lp2_0), (.int .i64 x4.1), (.int .i64 x4.2)] 52 (fun w => by simp [Instr.buildSlice, Instr.fill, Value.cells, go_sem]) ?_
                                    intro a w b15 hE hp
                                    have hp : Hp Z ρ (Pt b15 (.cells #[(.int .i64 lp1_0), (.int .i64 lp2_0), (.int .i64 x4.1), (.int .i64 x4.2)] 52 (0, 0)) :: _ :: _ :: _ :: L) w := hp
                                    refine s_nil (and_with ⟨fun _ => ⟨_, hp⟩, fun _ => ⟨_, (hp.get 2 rfl)⟩, trivial⟩ fun hS => ?_)
                                    refine v_all [4] (by kernel_rfl) rfl ?_
                                    refine List.forall_mem_cons.2 ⟨?_, fun _ h => absurd h (by simp)⟩
                                    ·
                                      refine h_op rfl ?_
                                      have hp := (hp.get 1 rfl).imp (own_of_pt (l := (([] : List Pair) : List Pair)) (n := 0) rfl (by decide) rfl)
                                      have hp : Hp Z ρ (OwnSl 52 (.slice (some ⟨b13, 0, none⟩) 0 0) ([] : List Pair) :: _ :: _ :: _ :: L) w := hp
                                      obtain ⟨k5, k5a, k5d, k5h⟩ := (hp.get 3 rfl).lend
                                      obtain ⟨v16, v16r, f5⟩ := RoSl.part (OwnSl.ro k5d k5a) slty37 none (some (.i64, b9)) rfl rfl ex11
                                      have f5 := sl_det w v16r v8r f5
                                      refine s_apps (wk0 rfl) rfl rfl hE k5h rfl slty37 rfl rfl 0 rfl rfl f5 ex12 ?_
                                      intro v15 a w hE hp
                                      have hp := Hp.back k5a k5d hp
                                      have hp : Hp Z ρ (_ :: OwnSl 52 v15 x12 :: _ :: _ :: L) w := hp
                                      refine s_nil (and_with ⟨fun _ => ⟨_, hp⟩, fun _ => ⟨_, (hp.get 3 rfl)⟩, trivial⟩ fun hS => ?_)
                                      refine v_all [7] (by kernel_rfl) rfl ?_
                                      refine List.forall_mem_cons.2 ⟨?_, fun _ h => absurd h (by simp)⟩
                                      ·
                                        refine h_op rfl ?_
                                        refine s_app (wk0 rfl) rfl rfl hE hp rfl slty37 rfl rfl 1 rfl rfl (l2 := [(Pair.mk lp1_0 lp2_0 x4.1 x4.2)]) rfl (fun j u hj => by have := Hp.cN 2 rfl 0 _ (sub_all rfl) w hp j u hj; simpa using this) ex13 ?_
                                        intro v17 a w hE hp
                                        have hp : Hp Z ρ (_ :: OwnSl 52 v17 x13 :: _ :: _ :: L) w := hp
                                        refine s_nil (and_with ⟨fun _ => ⟨_, hp⟩, fun _ => ⟨_, (hp.get 3 rfl)⟩, trivial⟩ fun hS => ?_)
                                        refine v_all [11] (by kernel_rfl) rfl ?_
                                        refine List.forall_mem_cons.2 ⟨?_, fun _ h => absurd h (by simp)⟩
                                        ·
                                          refine h_op rfl ?_
                                          obtain ⟨k6, k6a, k6d, k6h⟩ := (hp.get 0 rfl).lend
                                          obtain ⟨v19, v19r, f6⟩ := RoSl.part (OwnSl.ro k6d k6a) slty37 (some (.i64, b9)) none rfl rfl ex14
                                          have f6 := sl_det w v19r v9r f6
                                          refine s_apps (wk0 rfl) rfl rfl hE k6h rfl slty37 rfl rfl 0 rfl rfl f6 ex15 ?_
                                          intro v18 a w hE hp
                                          have hp := Hp.back k6a k6d hp
                                          have hp : Hp Z ρ (_ :: OwnSl 52 v18 x15 :: _ :: _ :: L) w := hp
                                          refine s_nil (and_with ⟨fun _ => ⟨_, hp⟩, fun _ => ⟨_, (hp.get 3 rfl)⟩, trivial⟩ fun hS => ?_)
                                          refine v_take0 12 (wk0 rfl) rfl rfl rfl hE (by kernel_rfl) (by kernel_rfl) (by kernel_rfl) rfl (by kernel_rfl) hS (v := v18) (fun _ => ex_asn rfl hE rfl) ?_
                                          intro a hE hS
                                          exact v_done (by kernel_rfl) ⟨_, _, hE.cut ⟨rfl, rfl, rfl, rfl, rfl, rfl, trivial⟩, ((((hp.get 3 rfl).get 2 rfl).get 3 rfl).get 3 rfl)⟩
                                ·
                                  refine h_op rfl ?_
                                  refine s_lit (wk0 rfl) rfl rfl hE hp rfl [(0, (.agg #[(.int .i64 lp1_0), (.int .i64 lp2_0), (.int .i64 x4.1), (.int .i64 x4.2)]))] ⟨⟨rfl, rfl⟩, trivial⟩ [(.int .i64 lp1_0), (.int .i64 lp2_0), (.int .i64 x4.1), (.int .i64 x4.2)] 52 (fun w => by simp [Instr.buildSlice, Instr.fill, Value.cells, go_sem]) ?_
                                  intro a w b16 hE hp
                                  have hp : Hp Z ρ (Pt b16 (.cells #[(.int .i64 lp1_0), (.int .i64 lp2_0), (.int .i64 x4.1), (.int .i64 x4.2)] 52 (0, 0)) :: _ :: _ :: L) w := hp
                                  refine s_nil (and_with ⟨fun _ => ⟨_, hp⟩, fun _ => ⟨_, (hp.get 1 rfl)⟩, trivial⟩ fun hS => ?_)
                                  refine v_all [0] (by kernel_rfl) rfl ?_
                                  refine List.forall_mem_cons.2 ⟨?_, fun _ h => absurd h (by simp)⟩
                                  ·
                                    refine h_op rfl ?_
                                    refine s_lit (wk0 rfl) rfl rfl hE hp rfl [] trivial [] 52 (fun w => by simp [Instr.buildSlice, Instr.fill, Value.cells, go_sem]) ?_
                                    intro a w b17 hE hp
                                    have hp : Hp Z ρ (Pt b17 (.cells #[] 52 (0, 0)) :: _ :: _ :: _ :: L) w := hp
                                    refine s_nil (and_with ⟨fun _ => ⟨_, hp⟩, fun _ => ⟨_, (hp.get 2 rfl)⟩, trivial⟩ fun hS => ?_)
                                    refine v_all [4] (by kernel_rfl) rfl ?_
                                    refine List.forall_mem_cons.2 ⟨?_, fun _ h => absurd h (by simp)⟩
                                    ·
                                      refine h_op rfl ?_
                                      have hp := (hp.get 0 rfl).imp (own_of_pt (l := (([] : List Pair) : List Pair)) (n := 0) rfl (by decide) rfl)
                                      have hp : Hp Z ρ (OwnSl 52 (.slice (some ⟨b17, 0, none⟩) 0 0) ([] : List Pair) :: _ :: _ :: _ :: L) w := hp
                                      obtain ⟨k7, k7a, k7d, k7h⟩ := (hp.get 3 rfl).lend
                                      obtain ⟨v21, v21r, f7⟩ := RoSl.part (OwnSl.ro k7d k7a) slty37 none (some (.i64, b9)) rfl rfl ex11
                                      have f7 := sl_det w v21r v8r f7
                                      refine s_apps (wk0 rfl) rfl rfl hE k7h rfl slty37 rfl rfl 0 rfl rfl f7 ex12 ?_
                                      intro v20 a w hE hp
                                      have hp := Hp.back k7a k7d hp
                                      have hp : Hp Z ρ (_ :: OwnSl 52 v20 x12 :: _ :: _ :: L) w := hp
                                      refine s_nil (and_with ⟨fun _ => ⟨_, hp⟩, fun _ => ⟨_, (hp.get 3 rfl)⟩, trivial⟩ fun hS => ?_)
                                      refine v_all [7] (by kernel_rfl) rfl ?_
                                      refine List.forall_mem_cons.2 ⟨?_, fun _ h => absurd h (by simp)⟩
                                      ·
                                        refine h_op rfl ?_
                                        refine s_app (wk0 rfl) rfl rfl hE hp rfl slty37 rfl rfl 1 rfl rfl (l2 := [(Pair.mk lp1_0 lp2_0 x4.1 x4.2)]) rfl (fun j u hj => by have := Hp.cN 2 rfl 0 _ (sub_all rfl) w hp j u hj; simpa using this) ex13 ?_
                                        intro v22 a w hE hp
                                        have hp : Hp Z ρ (_ :: OwnSl 52 v22 x13 :: _ :: _ :: L) w := hp
                                        refine s_nil (and_with ⟨fun _ => ⟨_, hp⟩, fun _ => ⟨_, (hp.get 3 rfl)⟩, trivial⟩ fun hS => ?_)
                                        refine v_all [11] (by kernel_rfl) rfl ?_
                                        refine List.forall_mem_cons.2 ⟨?_, fun _ h => absurd h (by simp)⟩
                                        ·
                                          refine h_op rfl ?_
                                          obtain ⟨k8, k8a, k8d, k8h⟩ := (hp.get 0 rfl).lend
                                          obtain ⟨v24, v24r, f8⟩ := RoSl.part (OwnSl.ro k8d k8a) slty37 (some (.i64, b9)) none rfl rfl ex14
                                          have f8 := sl_det w v24r v9r f8
                                          refine s_apps (wk0 rfl) rfl rfl hE k8h rfl slty37 rfl rfl 0 rfl rfl f8 ex15 ?_
                                          intro v23 a w hE hp
                                          have hp := Hp.back k8a k8d hp
                                          have hp : Hp Z ρ (_ :: OwnSl 52 v23 x15 :: _ :: _ :: L) w := hp
                                          refine s_nil (and_with ⟨fun _ => ⟨_, hp⟩, fun _ => ⟨_, (hp.get 3 rfl)⟩, trivial⟩ fun hS => ?_)
                                          refine v_take0 12 (wk0 rfl) rfl rfl rfl hE (by kernel_rfl) (by kernel_rfl) (by kernel_rfl) rfl (by kernel_rfl) hS (v := v23) (fun _ => ex_asn rfl hE rfl) ?_
                                          intro a hE hS
                                          exact v_done (by kernel_rfl) ⟨_, _, hE.cut ⟨rfl, rfl, rfl, rfl, rfl, rfl, trivial⟩, ((((hp.get 3 rfl).get 2 rfl).get 3 rfl).get 3 rfl)⟩
                              · rintro a w ⟨y25, y24, hE, hp⟩
                                refine k_region ?_
                                refine s_val (wk0 rfl) rfl rfl hE hp (v := (.int .i64 lp2_0)) (ex_move rfl hE rfl) ?_
                                intro a hE
                                obtain ⟨x16, ex16, hl2⟩ := bnd hl2
                                refine s_val (wk0 rfl) rfl rfl hE hp (v := (.int .i64 x16)) (ex_add rfl hE rfl rfl (inK_some ex16)) ?_
                                intro a hE
                                refine s_val (wk0 rfl) rfl rfl hE hp (v := (.int .i64 x16)) (ex_asn rfl hE rfl) ?_
                                intro a hE
                                refine s_nil ?_
                                have hp := (hp.get 0 rfl).drop
                                have hp : Hp Z ρ (Pt y25 (.cells #[(.int .i64 lp1_0), (.int .i64 lp2_0), (.int .i64 x4.1), (.int .i64 x4.2)] 52 (0, 0)) :: OwnSl 52 y24 x15 :: _ :: L) w := hp
                                exact ⟨_, (Option.some.inj hl2).symm, _, hE.cut ⟨rfl, rfl, rfl, rfl, rfl, rfl, trivial⟩, (((hp.get 2 rfl).drop).drop)⟩
                          · replace hl2 := (ie hb11).symm.trans hl2
                            refine k_skip ?_
                            refine k_region ?_
                            refine s_val (wk0 rfl) rfl rfl hE hp (v := (.int .i64 lp2_0)) (ex_move rfl hE rfl) ?_
                            intro a hE
                            obtain ⟨x17, ex17, hl2⟩ := bnd hl2
                            refine s_val (wk0 rfl) rfl rfl hE hp (v := (.int .i64 x17)) (ex_add rfl hE rfl rfl (inK_some ex17)) ?_
                            intro a hE
                            refine s_val (wk0 rfl) rfl rfl hE hp (v := (.int .i64 x17)) (ex_asn rfl hE rfl) ?_
                            intro a hE
                            refine s_nil ?_
                            exact ⟨_, (Option.some.inj hl2).symm, _, hE.cut ⟨rfl, rfl, rfl, rfl, rfl, rfl, trivial⟩, (hp.drop)⟩
                      · replace hl2 := (ie hb9).symm.trans hl2
                        refine k_exit ?_
                        refine ⟨_, (Option.some.inj hl2).symm, fun hbb => ?_⟩
                        subst hbb
                        exact ⟨_, hE.cut ⟨rfl, rfl, rfl, rfl, rfl, trivial⟩, hp⟩
                  · rintro a w ⟨w4, hE, hp⟩
                    refine k_region ?_
                    refine s_val (wk0 rfl) rfl rfl hE hp (v := (.int .i64 lp1_0)) (ex_move rfl hE rfl) ?_
                    intro a hE
                    obtain ⟨x18, ex18, hl1⟩ := bnd hl1
                    refine s_val (wk0 rfl) rfl rfl hE hp (v := (.int .i64 x18)) (ex_add rfl hE rfl rfl (inK_some ex18)) ?_
                    intro a hE
                    refine s_val (wk0 rfl) rfl rfl hE hp (v := (.int .i64 x18)) (ex_asn rfl hE rfl) ?_
                    intro a hE
                    refine s_nil ?_
                    exact ⟨_, (Option.some.inj hl1).symm, _, hE.cut ⟨rfl, rfl, rfl, rfl, rfl, trivial⟩, hp⟩
                · replace hl1 := (ie hb7).symm.trans hl1
                  refine k_exit ?_
                  refine ⟨_, (Option.some.inj hl1).symm, fun hbb => ?_⟩
                  subst hbb
                  exact ⟨_, hE.cut ⟨rfl, trivial⟩, hp⟩
            · rintro a w ⟨w4, hE, hp⟩
              refine k_seq ?_
              refine k_region ?_
              refine s_val (wk0 rfl) rfl rfl hE hp (v := w4) (ex_move rfl hE rfl) ?_
              intro a hE
              refine s_val (wk0 rfl) rfl rfl hE hp (v := w4) (ex_asn rfl hE rfl) ?_
              intro a hE
              refine s_val (wk0 rfl) rfl rfl hE hp (v := (.int .i64 0)) (ex_asn rfl hE rfl) ?_
              intro a hE
              refine s_nil ?_
              refine k_ret ?_
              obtain rfl := Option.some.inj hm
              exact ret2 hE rfl rfl rfl ⟨_, rfl, _, rfl, hp⟩
end Go.Proofs.Ytmfepkadggigpaa

/- The code goes as its model: assessor/proof.index, assessor/proof.normal, assessor/proof.valid, assessor/proof.without, assessor/proof.Format, assessor/proof.Par -/
import Derived.Test.YtfajmelamonolaaGreatDoorKNe4
import Derived.Test.YtfajmelamonolaaGreatDoorKNe6
set_option linter.unusedVariables false
set_option linter.unusedSimpArgs false
namespace Go.Proofs.YtfajmelamonolaaGreatDoor
open Go.RowKit
set_option maxRecDepth 100000 in
set_option maxHeartbeats 4000000 in
theorem c_proof_index {Z : World} {ρ : PH} {L : List Atom} {w : World} (hT : Tabs ρ) (p0 : Int) (hp : Hp Z ρ (L) w) (r : Int) (hm : m_proof_index p0 = some r) :
    Calls Tryz.prog 77 #[(.int .i64 p0)] w (Ret fun v w' => v = (.int .i64 r) ∧ Hp Z ρ (L) w') := by
  refine enter (N := 10) Tryz.func77 rfl rfl [(0, (.int .i64 p0))] rfl (argsIn_mem ⟨rfl, trivial⟩) fun a hE => ?_
  unfold m_proof_index at hm
  refine k_seq ?_
  refine k_region ?_
  refine s_val (wk0 rfl) rfl rfl hE hp (v := (.int .i64 0)) (ex_asn rfl hE rfl) ?_
  intro a hE
  refine s_nil ?_
  refine k_seq ?_
  refine k_seq ?_
  refine k_region ?_
  refine s_val (wk0 rfl) rfl rfl hE hp (v := (.int .i64 p0)) (ex_move rfl hE rfl) ?_
  intro a hE
  refine s_val (wk0 rfl) rfl rfl hE hp (v := (.bool (decide (p0 < 0)))) (ex_lss rfl hE rfl rfl) ?_
  intro a hE
  refine s_nil ?_
  refine k_if hE rfl (fun hc1 => ?_) (fun hc1 => ?_)
  · replace hm := (it hc1).symm.trans hm
    refine k_seq ?_
    refine k_region ?_
    refine s_val (wk0 rfl) rfl rfl hE hp (v := (.int .i64 p0)) (ex_move rfl hE rfl) ?_
    intro a hE
    obtain ⟨x1, ex1, hm⟩ := bnd hm
    refine s_val (wk0 rfl) rfl rfl hE hp (v := (.int .i64 x1)) (ex_mul rfl hE rfl rfl (inK_some ex1)) ?_
    intro a hE
    obtain ⟨x2, ex2, hm⟩ := bnd hm
    refine s_val (wk0 rfl) rfl rfl hE hp (v := (.int .i64 x2)) (ex_add rfl hE rfl rfl (inK_some ex2)) ?_
    intro a hE
    refine s_val (wk0 rfl) rfl rfl hE hp (v := (.int .i64 x2)) (ex_asn rfl hE rfl) ?_
    intro a hE
    refine s_nil ?_
    refine k_ret ?_
    obtain rfl := Option.some.inj hm
    exact ret1 hE rfl rfl ⟨_, rfl, rfl, hp⟩
  · replace hm := (ie hc1).symm.trans hm
    refine k_skip ?_
    refine k_seq ?_
    refine k_region ?_
    refine s_val (wk0 rfl) rfl rfl hE hp (v := (.int .i64 p0)) (ex_move rfl hE rfl) ?_
    intro a hE
    obtain ⟨x3, ex3, hm⟩ := bnd hm
    refine s_val (wk0 rfl) rfl rfl hE hp (v := (.int .i64 x3)) (ex_mul rfl hE rfl rfl (inK_some ex3)) ?_
    intro a hE
    refine s_val (wk0 rfl) rfl rfl hE hp (v := (.int .i64 x3)) (ex_asn rfl hE rfl) ?_
    intro a hE
    refine s_nil ?_
    refine k_ret ?_
    obtain rfl := Option.some.inj hm
    exact ret1 hE rfl rfl ⟨_, rfl, rfl, hp⟩
set_option maxRecDepth 100000 in
set_option maxHeartbeats 4000000 in
theorem c_proof_normal {Z : World} {ρ : PH} {L : List Atom} {w : World} (hT : Tabs ρ) (p0 : (List Int)) (vp0 : Value) (hp0 : RoSl ρ vp0 p0) (p1 : Int) (hp : Hp Z ρ (L) w) (r : Bool) (hm : m_proof_normal p0 p1 = some r) :
    Calls Tryz.prog 40 #[vp0, (.int .i64 p1)] w (Ret fun v w' => v = (.bool r) ∧ Hp Z ρ (L) w') := by
  refine enter (N := 35) Tryz.func40 rfl rfl [(0, vp0), (1, (.int .i64 p1))] rfl (argsIn_mem ⟨rfl, rfl, trivial⟩) fun a hE => ?_
  unfold m_proof_normal at hm
  refine k_seq ?_
  refine k_region ?_
  refine s_val (wk0 rfl) rfl rfl hE hp (v := (.bool false)) (ex_asn rfl hE rfl) ?_
  intro a hE
  refine s_nil ?_
  refine k_seq ?_
  refine k_region ?_
  refine s_val (wk0 rfl) rfl rfl hE hp (v := (.int .i64 0)) (ex_asn rfl hE rfl) ?_
  intro a hE
  refine s_nil ?_
  refine k_seq ?_
  refine k_seq ?_
  refine k_region ?_
  refine s_val (wk0 rfl) rfl rfl hE hp (v := vp0) (ex_move rfl hE rfl) ?_
  intro a hE
  refine s_val (wk0 rfl) rfl rfl hE hp (v := (.int .i64 (p0.length : Int))) (ex_len rfl hE rfl (RoSl.len hp0 slty25)) ?_
  intro a hE
  refine s_val (wk0 rfl) rfl rfl hE hp (v := (.int .i64 0)) (ex_move rfl hE rfl) ?_
  intro a hE
  refine s_nil ?_
  obtain ⟨b1, hc1, hm⟩ := bnd hm
  refine k_block (fun a w => ∃ s : Unit, b1 = .brk s ∧ (Env 35 [] a ∧ Hp Z ρ (L) w)) ?_ ?_
  · refine k_loop hc1 (fun s a w => Env 35 [(1, (.int .i64 p1)), (5, (.int .i64 s.1)), (9, vp0), (10, (.int .i64 (p0.length : Int))), (11, (.int .i64 s.2))] a ∧ Hp Z ρ (L) w) ?_ ?_
    · exact ⟨hE.cut ⟨rfl, rfl, rfl, rfl, rfl, trivial⟩, hp⟩
    · rintro ⟨lp1_0, lp1_1⟩ st a w ⟨hE, hp⟩ hl1
      have hE : Env 35 [(1, (.int .i64 p1)), (5, (.int .i64 lp1_0)), (9, vp0), (10, (.int .i64 (p0.length : Int))), (11, (.int .i64 lp1_1))] a := hE
      have hp : Hp Z ρ (L) w := hp
      replace hl1 : m_proof_normal_lp1 p0 p1 lp1_0 lp1_1 = some st := hl1
      unfold m_proof_normal_lp1 at hl1
      refine k_seq ?_
      refine k_region ?_
      refine s_val (wk0 rfl) rfl rfl hE hp (v := (.bool (decide (lp1_1 < (p0.length : Int))))) (ex_lss rfl hE rfl rfl) ?_
      intro a hE
      refine s_nil ?_
      refine k_seq ?_
      refine k_if hE rfl (fun hc2 => ?_) (fun hc2 => ?_)
      · replace hl1 := (it hc2).symm.trans hl1
        refine k_skip ?_
        refine k_seq ?_
        refine k_plain ?_
        refine k_seq ?_
        refine k_region ?_
        obtain ⟨x1, ex1, hl1⟩ := bnd hl1
        obtain ⟨b2, b2o, b2c, b2r, b2k, b2f⟩ := RoSl.at hp0 slty25 ex1
        obtain rfl : b2c = Enc.enc x1 := b2k
        have b2f : AtP ρ b2 b2o [(.int .i64 x1)] := b2f
        refine s_val (wk0 rfl) rfl rfl hE hp (v := (.pointer (some ⟨b2, b2o, none⟩))) (ex_index rfl hE rfl rfl b2r) ?_
        intro a hE
        refine s_val (wk0 rfl) rfl rfl hE hp (v := (.int .i64 x1)) (ex_load rfl hE rfl (fun w hw => run_ld1 varty3 (b2f.c 0 rfl w hw))) ?_
        intro a hE
        refine s_val (wk0 rfl) rfl rfl hE hp (v := (.int .i64 x1)) (ex_asn rfl hE rfl) ?_
        intro a hE
        refine s_nil ?_
        refine k_seq ?_
        refine k_region ?_
        refine s_val (wk0 rfl) rfl rfl hE hp (v := (.int .i64 x1)) (ex_move rfl hE rfl) ?_
        intro a hE
        refine s_val (wk0 rfl) rfl rfl hE hp (v := (.int .i64 x1)) (ex_move rfl hE rfl) ?_
        intro a hE
        refine s_val (wk0 rfl) rfl rfl hE hp (v := (.int .i64 (IntKind.wrap .i64 (0 - x1)))) (ex_neg rfl hE rfl rfl) ?_
        intro a hE
        refine s_val (wk0 rfl) rfl rfl hE hp (v := (.int .i64 (max x1 (IntKind.wrap .i64 (0 - x1))))) (ex_max rfl hE rfl rfl) ?_
        intro a hE
        refine s_val (wk0 rfl) rfl rfl hE hp (v := (.int .i64 (max x1 (IntKind.wrap .i64 (0 - x1))))) (ex_asn rfl hE rfl) ?_
        intro a hE
        refine s_nil ?_
        refine k_seq ?_
        refine k_seq ?_
        refine k_region ?_
        refine s_val (wk0 rfl) rfl rfl hE hp (v := (.int .i64 x1)) (ex_move rfl hE rfl) ?_
        intro a hE
        refine s_val (wk0 rfl) rfl rfl hE hp (v := (.int .i64 p1)) (ex_move rfl hE rfl) ?_
        intro a hE
        refine s_val (wk0 rfl) rfl rfl hE hp (v := (.int .i64 (IntKind.wrap .i64 (0 - p1)))) (ex_neg rfl hE rfl rfl) ?_
        intro a hE
        refine s_val (wk0 rfl) rfl rfl hE hp (v := (.bool (decide (x1 < (IntKind.wrap .i64 (0 - p1)))))) (ex_lss rfl hE rfl rfl) ?_
        intro a hE
        refine s_val (wk0 rfl) rfl rfl hE hp (v := (.bool (decide (x1 < (IntKind.wrap .i64 (0 - p1)))))) (ex_move rfl hE rfl) ?_
        intro a hE
        refine s_cut [_, _, _, _] (fun a w => Env 35 [(27, (.bool ((decide (x1 < (IntKind.wrap .i64 (0 - p1)))) || (decide (p1 < x1))))), (1, (.int .i64 p1)), (5, (.int .i64 lp1_0)), (8, (.int .i64 (max x1 (IntKind.wrap .i64 (0 - x1))))), (9, vp0), (10, (.int .i64 (p0.length : Int))), (11, (.int .i64 lp1_1))] a ∧ Hp Z ρ (L) w) ?_ ?_
        · rcases Bool.eq_false_or_eq_true (decide (x1 < (IntKind.wrap .i64 (0 - p1)))) with hc3 | hc3
          ·
            refine s_skip (wk2 hE rfl rfl rfl hc3) rfl rfl hE ?_
            intro a hE
            refine s_skip (wk2 hE rfl rfl rfl hc3) rfl rfl hE ?_
            intro a hE
            refine s_skip (wk2 hE rfl rfl rfl hc3) rfl rfl hE ?_
            intro a hE
            refine s_val (wk0 rfl) rfl rfl hE hp (v := (.bool true)) (ex_pick1 rfl hE rfl hc3 rfl) ?_
            intro a hE
            have hE := hE.eqv (v' := (.bool ((decide (x1 < (IntKind.wrap .i64 (0 - p1)))) || (decide (p1 < x1))))) (by rw [hc3]; rfl)
            exact s_nil ⟨hE.cut ⟨rfl, rfl, rfl, rfl, rfl, rfl, rfl, trivial⟩, hp⟩
          ·
            refine s_val (wk1 hE rfl rfl rfl hc3) rfl rfl hE hp (v := (.int .i64 x1)) (ex_move rfl hE rfl) ?_
            intro a hE
            refine s_val (wk1 hE rfl rfl rfl hc3) rfl rfl hE hp (v := (.int .i64 p1)) (ex_move rfl hE rfl) ?_
            intro a hE
            refine s_val (wk1 hE rfl rfl rfl hc3) rfl rfl hE hp (v := (.bool (decide (p1 < x1)))) (ex_gtr rfl hE rfl rfl) ?_
            intro a hE
            refine s_val (wk0 rfl) rfl rfl hE hp (v := (.bool (decide (p1 < x1)))) (ex_pick0 rfl hE rfl hc3 rfl) ?_
            intro a hE
            have hE := hE.eqv (v' := (.bool ((decide (x1 < (IntKind.wrap .i64 (0 - p1)))) || (decide (p1 < x1))))) (by rw [hc3]; rfl)
            exact s_nil ⟨hE.cut ⟨rfl, rfl, rfl, rfl, rfl, rfl, rfl, trivial⟩, hp⟩
        · rintro a w ⟨hE, hp⟩
          refine s_val (wk0 rfl) rfl rfl hE hp (v := (.bool ((decide (x1 < (IntKind.wrap .i64 (0 - p1)))) || (decide (p1 < x1))))) (ex_move rfl hE rfl) ?_
          intro a hE
          refine s_cut [_, _, _, _] (fun a w => Env 35 [(32, (.bool (((decide (x1 < (IntKind.wrap .i64 (0 - p1)))) || (decide (p1 < x1))) || (decide ((max x1 (IntKind.wrap .i64 (0 - x1))) ≤ lp1_0))))), (1, (.int .i64 p1)), (8, (.int .i64 (max x1 (IntKind.wrap .i64 (0 - x1))))), (9, vp0), (10, (.int .i64 (p0.length : Int))), (11, (.int .i64 lp1_1))] a ∧ Hp Z ρ (L) w) ?_ ?_
          · rcases Bool.eq_false_or_eq_true ((decide (x1 < (IntKind.wrap .i64 (0 - p1)))) || (decide (p1 < x1))) with hc4 | hc4
            ·
              refine s_skip (wk2 hE rfl rfl rfl hc4) rfl rfl hE ?_
              intro a hE
              refine s_skip (wk2 hE rfl rfl rfl hc4) rfl rfl hE ?_
              intro a hE
              refine s_skip (wk2 hE rfl rfl rfl hc4) rfl rfl hE ?_
              intro a hE
              refine s_val (wk0 rfl) rfl rfl hE hp (v := (.bool true)) (ex_pick1 rfl hE rfl hc4 rfl) ?_
              intro a hE
              have hE := hE.eqv (v' := (.bool (((decide (x1 < (IntKind.wrap .i64 (0 - p1)))) || (decide (p1 < x1))) || (decide ((max x1 (IntKind.wrap .i64 (0 - x1))) ≤ lp1_0))))) (by rw [hc4]; rfl)
              exact s_nil ⟨hE.cut ⟨rfl, rfl, rfl, rfl, rfl, rfl, trivial⟩, hp⟩
            ·
              refine s_val (wk1 hE rfl rfl rfl hc4) rfl rfl hE hp (v := (.int .i64 (max x1 (IntKind.wrap .i64 (0 - x1))))) (ex_move rfl hE rfl) ?_
              intro a hE
              refine s_val (wk1 hE rfl rfl rfl hc4) rfl rfl hE hp (v := (.int .i64 lp1_0)) (ex_move rfl hE rfl) ?_
              intro a hE
              refine s_val (wk1 hE rfl rfl rfl hc4) rfl rfl hE hp (v := (.bool (decide ((max x1 (IntKind.wrap .i64 (0 - x1))) ≤ lp1_0)))) (ex_leq rfl hE rfl rfl) ?_
              intro a hE
              refine s_val (wk0 rfl) rfl rfl hE hp (v := (.bool (decide ((max x1 (IntKind.wrap .i64 (0 - x1))) ≤ lp1_0)))) (ex_pick0 rfl hE rfl hc4 rfl) ?_
              intro a hE
              have hE := hE.eqv (v' := (.bool (((decide (x1 < (IntKind.wrap .i64 (0 - p1)))) || (decide (p1 < x1))) || (decide ((max x1 (IntKind.wrap .i64 (0 - x1))) ≤ lp1_0))))) (by rw [hc4]; rfl)
              exact s_nil ⟨hE.cut ⟨rfl, rfl, rfl, rfl, rfl, rfl, trivial⟩, hp⟩
          · rintro a w ⟨hE, hp⟩
            refine s_nil ?_
            refine k_if hE rfl (fun hc5 => ?_) (fun hc5 => ?_)
            · replace hl1 := (it hc5).symm.trans hl1
              refine k_seq ?_
              refine k_region ?_
              refine s_val (wk0 rfl) rfl rfl hE hp (v := (.bool false)) (ex_asn rfl hE rfl) ?_
              intro a hE
              refine s_nil ?_
              refine k_ret ?_
              refine ⟨_, (Option.some.inj hl1).symm, fun hb => ?_⟩
              subst hb
              obtain rfl := Option.some.inj hm
              exact ret1 hE rfl rfl ⟨_, rfl, rfl, hp⟩
            · replace hl1 := (ie hc5).symm.trans hl1
              refine k_skip ?_
              refine k_region ?_
              refine s_val (wk0 rfl) rfl rfl hE hp (v := (.int .i64 (max x1 (IntKind.wrap .i64 (0 - x1))))) (ex_move rfl hE rfl) ?_
              intro a hE
              refine s_val (wk0 rfl) rfl rfl hE hp (v := (.int .i64 (max x1 (IntKind.wrap .i64 (0 - x1))))) (ex_asn rfl hE rfl) ?_
              intro a hE
              refine s_nil ?_
              refine k_region ?_
              obtain ⟨x2, ex2, hl1⟩ := bnd hl1
              refine s_val (wk0 rfl) rfl rfl hE hp (v := (.int .i64 x2)) (ex_add rfl hE rfl rfl (inK_some ex2)) ?_
              intro a hE
              refine s_val (wk0 rfl) rfl rfl hE hp (v := (.int .i64 x2)) (ex_move rfl hE rfl) ?_
              intro a hE
              refine s_nil ?_
              exact ⟨_, (Option.some.inj hl1).symm, hE.cut ⟨rfl, rfl, rfl, rfl, rfl, trivial⟩, hp⟩
      · replace hl1 := (ie hc2).symm.trans hl1
        refine k_exit ?_
        refine ⟨_, (Option.some.inj hl1).symm, fun hbb => ?_⟩
        exact ⟨_, hbb.symm, hE.cut trivial, hp⟩
  · rintro a w ⟨b1s, rfl, hE, hp⟩
    dsimp only at hm
    refine k_seq ?_
    refine k_region ?_
    refine s_val (wk0 rfl) rfl rfl hE hp (v := (.bool true)) (ex_asn rfl hE rfl) ?_
    intro a hE
    refine s_nil ?_
    refine k_ret ?_
    obtain rfl := Option.some.inj hm
    exact ret1 hE rfl rfl ⟨_, rfl, rfl, hp⟩
set_option maxRecDepth 100000 in
set_option maxHeartbeats 4000000 in
theorem c_proof_valid {Z : World} {ρ : PH} {L : List Atom} {w : World} (hT : Tabs ρ) (p0 : (List (List Int))) (vp0 : Value) (hp0 : RoSl ρ vp0 p0) (p1 : Int) (hp : Hp Z ρ (L) w) (r : Bool) (hm : m_proof_valid p0 p1 = some r) :
    Calls Tryz.prog 28 #[vp0, (.int .i64 p1)] w (Ret fun v w' => v = (.bool r) ∧ Hp Z ρ (L) w') := by
  refine enter (N := 27) Tryz.func28 rfl rfl [(0, vp0), (1, (.int .i64 p1))] rfl (argsIn_mem ⟨rfl, rfl, trivial⟩) fun a hE => ?_
  unfold m_proof_valid at hm
  refine k_seq ?_
  refine k_region ?_
  refine s_val (wk0 rfl) rfl rfl hE hp (v := (.bool false)) (ex_asn rfl hE rfl) ?_
  intro a hE
  refine s_nil ?_
  refine k_seq ?_
  refine k_region ?_
  refine s_val (wk0 rfl) rfl rfl hE hp (v := (.int .i64 0)) (ex_asn rfl hE rfl) ?_
  intro a hE
  refine s_nil ?_
  refine k_seq ?_
  refine k_seq ?_
  refine k_region ?_
  refine s_val (wk0 rfl) rfl rfl hE hp (v := vp0) (ex_move rfl hE rfl) ?_
  intro a hE
  refine s_val (wk0 rfl) rfl rfl hE hp (v := (.int .i64 (p0.length : Int))) (ex_len rfl hE rfl (RoSl.len hp0 slty22)) ?_
  intro a hE
  refine s_val (wk0 rfl) rfl rfl hE hp (v := (.int .i64 0)) (ex_move rfl hE rfl) ?_
  intro a hE
  refine s_nil ?_
  obtain ⟨b1, hc1, hm⟩ := bnd hm
  refine k_block (fun a w => ∃ s : Unit, b1 = .brk s ∧ (Env 27 [] a ∧ Hp Z ρ (L) w)) ?_ ?_
  · refine k_loop hc1 (fun s a w => Env 27 [(1, (.int .i64 p1)), (5, (.int .i64 s.1)), (8, vp0), (9, (.int .i64 (p0.length : Int))), (10, (.int .i64 s.2))] a ∧ Hp Z ρ (L) w) ?_ ?_
    · exact ⟨hE.cut ⟨rfl, rfl, rfl, rfl, rfl, trivial⟩, hp⟩
    · rintro ⟨lp1_0, lp1_1⟩ st a w ⟨hE, hp⟩ hl1
      have hE : Env 27 [(1, (.int .i64 p1)), (5, (.int .i64 lp1_0)), (8, vp0), (9, (.int .i64 (p0.length : Int))), (10, (.int .i64 lp1_1))] a := hE
      have hp : Hp Z ρ (L) w := hp
      replace hl1 : m_proof_valid_lp1 p0 p1 lp1_0 lp1_1 = some st := hl1
      unfold m_proof_valid_lp1 at hl1
      refine k_seq ?_
      refine k_region ?_
      refine s_val (wk0 rfl) rfl rfl hE hp (v := (.bool (decide (lp1_1 < (p0.length : Int))))) (ex_lss rfl hE rfl rfl) ?_
      intro a hE
      refine s_nil ?_
      refine k_seq ?_
      refine k_if hE rfl (fun hc2 => ?_) (fun hc2 => ?_)
      · replace hl1 := (it hc2).symm.trans hl1
        refine k_skip ?_
        refine k_seq ?_
        refine k_plain ?_
        refine k_seq ?_
        refine k_region ?_
        obtain ⟨x1, ex1, hl1⟩ := bnd hl1
        obtain ⟨b2, b2o, b2c, b2r, b2k, b2f⟩ := RoSl.at hp0 slty22 ex1
        obtain ⟨vb2, rfl, hb2⟩ := b2k
        have b2f : AtP ρ b2 b2o [vb2] := b2f
        refine s_val (wk0 rfl) rfl rfl hE hp (v := (.pointer (some ⟨b2, b2o, none⟩))) (ex_index rfl hE rfl rfl b2r) ?_
        intro a hE
        refine s_val (wk0 rfl) rfl rfl hE hp (v := vb2) (ex_load rfl hE rfl (fun w hw => run_ld1 varty25 (b2f.c 0 rfl w hw))) ?_
        intro a hE
        refine s_val (wk0 rfl) rfl rfl hE hp (v := vb2) (ex_asn rfl hE rfl) ?_
        intro a hE
        refine s_nil ?_
        refine k_seq ?_
        refine k_region ?_
        refine s_val (wk0 rfl) rfl rfl hE hp (v := (.int .i64 lp1_0)) (ex_move rfl hE rfl) ?_
        intro a hE
        refine s_val (wk0 rfl) rfl rfl hE hp (v := vb2) (ex_move rfl hE rfl) ?_
        intro a hE
        refine s_val (wk0 rfl) rfl rfl hE hp (v := (.int .i64 (x1.length : Int))) (ex_len rfl hE rfl (RoSl.len hb2 slty25)) ?_
        intro a hE
        obtain ⟨x2, ex2, hl1⟩ := bnd hl1
        refine s_val (wk0 rfl) rfl rfl hE hp (v := (.int .i64 x2)) (ex_add rfl hE rfl rfl (inK_some ex2)) ?_
        intro a hE
        refine s_val (wk0 rfl) rfl rfl hE hp (v := (.int .i64 x2)) (ex_asn rfl hE rfl) ?_
        intro a hE
        refine s_nil ?_
        refine k_seq ?_
        refine k_region ?_
        refine s_val (wk0 rfl) rfl rfl hE hp (v := vb2) (ex_move rfl hE rfl) ?_
        intro a hE
        refine s_val (wk0 rfl) rfl rfl hE hp (v := (.int .i64 p1)) (ex_move rfl hE rfl) ?_
        intro a hE
        obtain ⟨x3, ex3, hl1⟩ := bnd hl1
        refine s_call (wk0 rfl) rfl rfl hE rfl [vb2, (.int .i64 p1)] ⟨rfl, rfl, trivial⟩ ent40 (c_proof_normal hT x1 vb2 hb2 p1 hp x3 ex3) Ret.ret ?_
        intro v a w hR hE
        obtain ⟨rfl, hp⟩ := Ret.of hR
        have hp : Hp Z ρ (L) w := hp
        refine s_val (wk0 rfl) rfl rfl hE hp (v := (.bool (!x3))) (ex_not rfl hE rfl) ?_
        intro a hE
        refine s_val (wk0 rfl) rfl rfl hE hp (v := (.bool (!x3))) (ex_move rfl hE rfl) ?_
        intro a hE
        refine s_cut [_, _, _] (fun a w => Env 27 [(25, (.bool ((!x3) || (decide (1048576 < x2))))), (1, (.int .i64 p1)), (5, (.int .i64 x2)), (8, vp0), (9, (.int .i64 (p0.length : Int))), (10, (.int .i64 lp1_1))] a ∧ Hp Z ρ (L) w) ?_ ?_
        · rcases Bool.eq_false_or_eq_true (!x3) with hc3 | hc3
          ·
            refine s_skip (wk2 hE rfl rfl rfl hc3) rfl rfl hE ?_
            intro a hE
            refine s_skip (wk2 hE rfl rfl rfl hc3) rfl rfl hE ?_
            intro a hE
            refine s_val (wk0 rfl) rfl rfl hE hp (v := (.bool true)) (ex_pick1 rfl hE rfl hc3 rfl) ?_
            intro a hE
            have hE := hE.eqv (v' := (.bool ((!x3) || (decide (1048576 < x2))))) (by rw [hc3]; rfl)
            exact s_nil ⟨hE.cut ⟨rfl, rfl, rfl, rfl, rfl, rfl, trivial⟩, hp⟩
          ·
            refine s_val (wk1 hE rfl rfl rfl hc3) rfl rfl hE hp (v := (.int .i64 x2)) (ex_move rfl hE rfl) ?_
            intro a hE
            refine s_val (wk1 hE rfl rfl rfl hc3) rfl rfl hE hp (v := (.bool (decide (1048576 < x2)))) (ex_gtr rfl hE rfl rfl) ?_
            intro a hE
            refine s_val (wk0 rfl) rfl rfl hE hp (v := (.bool (decide (1048576 < x2)))) (ex_pick0 rfl hE rfl hc3 rfl) ?_
            intro a hE
            have hE := hE.eqv (v' := (.bool ((!x3) || (decide (1048576 < x2))))) (by rw [hc3]; rfl)
            exact s_nil ⟨hE.cut ⟨rfl, rfl, rfl, rfl, rfl, rfl, trivial⟩, hp⟩
        · rintro a w ⟨hE, hp⟩
          refine s_nil ?_
          refine k_if hE rfl (fun hc4 => ?_) (fun hc4 => ?_)
          · replace hl1 := (it hc4).symm.trans hl1
            refine k_seq ?_
            refine k_region ?_
            refine s_val (wk0 rfl) rfl rfl hE hp (v := (.bool false)) (ex_asn rfl hE rfl) ?_
            intro a hE
            refine s_nil ?_
            refine k_ret ?_
            refine ⟨_, (Option.some.inj hl1).symm, fun hb => ?_⟩
            subst hb
            obtain rfl := Option.some.inj hm
            exact ret1 hE rfl rfl ⟨_, rfl, rfl, hp⟩
          · replace hl1 := (ie hc4).symm.trans hl1
            refine k_skip ?_
            refine k_region ?_
            obtain ⟨x4, ex4, hl1⟩ := bnd hl1
            refine s_val (wk0 rfl) rfl rfl hE hp (v := (.int .i64 x4)) (ex_add rfl hE rfl rfl (inK_some ex4)) ?_
            intro a hE
            refine s_val (wk0 rfl) rfl rfl hE hp (v := (.int .i64 x4)) (ex_move rfl hE rfl) ?_
            intro a hE
            refine s_nil ?_
            exact ⟨_, (Option.some.inj hl1).symm, hE.cut ⟨rfl, rfl, rfl, rfl, rfl, trivial⟩, hp⟩
      · replace hl1 := (ie hc2).symm.trans hl1
        refine k_exit ?_
        refine ⟨_, (Option.some.inj hl1).symm, fun hbb => ?_⟩
        exact ⟨_, hbb.symm, hE.cut trivial, hp⟩
  · rintro a w ⟨b1s, rfl, hE, hp⟩
    dsimp only at hm
    refine k_seq ?_
    refine k_region ?_
    refine s_val (wk0 rfl) rfl rfl hE hp (v := (.bool true)) (ex_asn rfl hE rfl) ?_
    intro a hE
    refine s_nil ?_
    refine k_ret ?_
    obtain rfl := Option.some.inj hm
    exact ret1 hE rfl rfl ⟨_, rfl, rfl, hp⟩
set_option maxRecDepth 100000 in
set_option maxHeartbeats 4000000 in
theorem c_proof_without {Z : World} {ρ : PH} {L : List Atom} {w : World} (hT : Tabs ρ) (p0 : (List (List Int))) (vp0 : Value) (hp0 : RoSl ρ vp0 p0) (p1 : Int) (hp : Hp Z ρ (L) w) (r : (List (List Int))) (hm : m_proof_without p0 p1 = some r) :
    Calls Tryz.prog 30 #[vp0, (.int .i64 p1)] w (Ret fun v w' => ∃ (ρ' : PH) (vr1 : Value), ρ.le ρ' ∧ v = vr1 ∧ RoSl ρ' vr1 r ∧ Hp Z ρ' (L) w') := by
  refine enter (N := 15) Tryz.func30 rfl rfl [(0, vp0), (1, (.int .i64 p1))] rfl (argsIn_mem ⟨rfl, rfl, trivial⟩) fun a hE => ?_
  unfold m_proof_without at hm
  refine k_seq ?_
  refine k_region ?_
  refine s_val (wk0 rfl) rfl rfl hE hp (v := (.slice none 0 0)) (ex_asn rfl hE rfl) ?_
  intro a hE
  refine s_nil ?_
  refine k_seq ?_
  obtain ⟨x1, ex1, hm⟩ := bnd hm
  obtain ⟨x2, ex2, hm⟩ := bnd hm
  obtain ⟨x3, ex3, hm⟩ := bnd hm
  obtain ⟨x4, ex4, hm⟩ := bnd hm
  obtain ⟨x5, ex5, hm⟩ := bnd hm
  have hp := hp.drew
  refine k_heldV ([([], At0 Z ρ)] : Facts) (fun a w => ∃ y1 : Value, ∃ yxs1 : List Value, RepAll ρ (x5 : (List (List Int))) yxs1 ∧ Env 15 [(4, y1)] a ∧ Hp Z ρ (RowR 25 y1 (x5 : (List (List Int))) yxs1 :: L) w) (by kernel_rfl) ⟨fun _ => ⟨_, hp⟩, trivial⟩ (fun hS => ?_) ?_
  ·
    generalize w.drew = w at hS hp ⊢
    refine v_take0 1 (wk0 rfl) rfl rfl rfl hE (by kernel_rfl) (by kernel_rfl) (by kernel_rfl) rfl (by kernel_rfl) hS (v := vp0) (fun _ => ex_move rfl hE rfl) ?_
    intro a hE hS
    refine v_take0 2 (wk0 rfl) rfl rfl rfl hE (by kernel_rfl) (by kernel_rfl) (by kernel_rfl) rfl (by kernel_rfl) hS (v := (.int .i64 p1)) (fun _ => ex_move rfl hE rfl) ?_
    intro a hE hS
    obtain ⟨v5, v5r, f3⟩ := RoSl.part hp0 slty22 none (some (.i64, p1)) rfl rfl ex1
    refine v_take0 3 (wk0 rfl) rfl rfl rfl hE (by kernel_rfl) (by kernel_rfl) (by kernel_rfl) rfl (by kernel_rfl) hS (v := v5) (fun _ => ex_sl rfl hE rfl none (some (.i64, p1)) (by exact trivial) (by exact rfl) v5r) ?_
    intro a hE hS
    refine v_take0 5 (wk0 rfl) rfl rfl rfl hE (by kernel_rfl) (by kernel_rfl) (by kernel_rfl) rfl (by kernel_rfl) hS (v := vp0) (fun _ => ex_move rfl hE rfl) ?_
    intro a hE hS
    refine v_take0 6 (wk0 rfl) rfl rfl rfl hE (by kernel_rfl) (by kernel_rfl) (by kernel_rfl) rfl (by kernel_rfl) hS (v := (.int .i64 p1)) (fun _ => ex_move rfl hE rfl) ?_
    intro a hE hS
    refine v_take0 7 (wk0 rfl) rfl rfl rfl hE (by kernel_rfl) (by kernel_rfl) (by kernel_rfl) rfl (by kernel_rfl) hS (v := (.int .i64 x3)) (fun _ => ex_add rfl hE rfl rfl (inK_some ex3)) ?_
    intro a hE hS
    obtain ⟨v6, v6r, f4⟩ := RoSl.part hp0 slty22 (some (.i64, x3)) none rfl rfl ex4
    refine v_take0 8 (wk0 rfl) rfl rfl rfl hE (by kernel_rfl) (by kernel_rfl) (by kernel_rfl) rfl (by kernel_rfl) hS (v := v6) (fun _ => ex_sl rfl hE rfl (some (.i64, x3)) none (by exact rfl) (by exact trivial) v6r) ?_
    intro a hE hS
    refine v_all [0] (by kernel_rfl) rfl ?_
    refine List.forall_mem_cons.2 ⟨?_, fun _ h => absurd h (by simp)⟩
    ·
      refine h_op rfl ?_
      refine s_lit (wk0 rfl) rfl rfl hE hp rfl [] trivial [] 25 (fun w => by simp [Instr.buildSlice, Instr.fill, Value.cells, go_sem]) ?_
      intro a w b2 hE hp
      have hp : Hp Z ρ (Pt b2 (.cells #[] 25 (0, 0)) :: L) w := hp
      refine s_nil (and_with ⟨fun _ => ⟨_, hp⟩, trivial⟩ fun hS => ?_)
      refine v_all [4] (by kernel_rfl) rfl ?_
      refine List.forall_mem_cons.2 ⟨?_, fun _ h => absurd h (by simp)⟩
      ·
        refine h_op rfl ?_
        have hR6 : RepAll ρ ([] : List (List Int)) [] := rfl
        have hp := (hp.get 0 rfl).imp (rowR_of_pt (l := ([] : List (List Int))) (n := 0) (cs := []) rfl (by decide) rfl)
        have hp : Hp Z ρ (RowR 25 (.slice (some ⟨b2, 0, none⟩) 0 0) (([] : List (List Int)) : (List (List Int))) ([]) :: L) w := hp
        refine s_appsR (wk0 rfl) rfl rfl hE hp rfl slty22 rfl rfl 0 rfl rfl f3 ex2 ?_
        intro v7 ys3 a w hR8 hE hp
        have hR7 : RepAll ρ x2 (([]) ++ ys3) := (app_some ex2).2 ▸ RepAll.app hR6 hR8
        have hp : Hp Z ρ (RowR 25 v7 (x2 : (List (List Int))) (([]) ++ ys3) :: L) w := hp
        refine s_nil (and_with ⟨fun _ => ⟨_, hp⟩, trivial⟩ fun hS => ?_)
        refine v_all [9] (by kernel_rfl) rfl ?_
        refine List.forall_mem_cons.2 ⟨?_, fun _ h => absurd h (by simp)⟩
        ·
          refine h_op rfl ?_
          refine s_appsR (wk0 rfl) rfl rfl hE hp rfl slty22 rfl rfl 0 rfl rfl f4 ex5 ?_
          intro v8 ys4 a w hR10 hE hp
          have hR9 : RepAll ρ x5 ((([]) ++ ys3) ++ ys4) := (app_some ex5).2 ▸ RepAll.app hR7 hR10
          have hp : Hp Z ρ (RowR 25 v8 (x5 : (List (List Int))) ((([]) ++ ys3) ++ ys4) :: L) w := hp
          refine s_nil (and_with ⟨fun _ => ⟨_, hp⟩, trivial⟩ fun hS => ?_)
          refine v_take0 10 (wk0 rfl) rfl rfl rfl hE (by kernel_rfl) (by kernel_rfl) (by kernel_rfl) rfl (by kernel_rfl) hS (v := v8) (fun _ => ex_asn rfl hE rfl) ?_
          intro a hE hS
          exact v_done (by kernel_rfl) ⟨_, _, hR9, hE.cut ⟨rfl, trivial⟩, hp⟩
  · rintro a w ⟨y1, yxs1, yhR1, hE, hp⟩
    refine k_ret ?_
    obtain ⟨k1, k1a, k1d, hp⟩ := (hp.get 0 rfl).lend
    have f5 : RoSl (ρ.un k1) y1 x5 := RowR.ro k1d k1a yhR1
    have hp : Hp Z (ρ.un k1) (L) w := hp
    obtain rfl := Option.some.inj hm
    exact ret1 hE rfl rfl ⟨_, rfl, _, _, (PH.le_un _ k1), rfl, f5, hp⟩
set_option maxRecDepth 100000 in
set_option maxHeartbeats 4000000 in
theorem c_proof_Format {Z : World} {ρ : PH} {L : List Atom} {w : World} (hT : Tabs ρ) (p0 : (List (List Int))) (vp0 : Value) (hp0 : RoSl ρ vp0 p0) (hp : Hp Z ρ (L) w) (r : ByteArray) (hm : m_proof_Format p0 = some r) :
    Calls Tryz.prog 27 #[vp0] w (Ret fun v w' => v = (.string r) ∧ Hp Z ρ (L) w') := by
  refine enter (N := 31) Tryz.func27 rfl rfl [(0, vp0)] rfl (argsIn_mem ⟨rfl, trivial⟩) fun a hE => ?_
  unfold m_proof_Format at hm
  refine k_seq ?_
  refine k_region ?_
  refine s_val (wk0 rfl) rfl rfl hE hp (v := (.string (ByteArray.mk #[]))) (ex_asn rfl hE rfl) ?_
  intro a hE
  refine s_nil ?_
  refine k_seq ?_
  refine k_seq ?_
  refine k_region ?_
  refine s_val (wk0 rfl) rfl rfl hE hp (v := vp0) (ex_move rfl hE rfl) ?_
  intro a hE
  obtain ⟨x1, ex1, hm⟩ := bnd hm
  refine s_call (wk0 rfl) rfl rfl hE rfl [vp0, (.int .i64 65536)] ⟨rfl, rfl, trivial⟩ ent28 (c_proof_valid hT p0 vp0 hp0 65536 hp x1 ex1) Ret.ret ?_
  intro v a w hR hE
  obtain ⟨rfl, hp⟩ := Ret.of hR
  have hp : Hp Z ρ (L) w := hp
  refine s_val (wk0 rfl) rfl rfl hE hp (v := (.bool (!x1))) (ex_not rfl hE rfl) ?_
  intro a hE
  refine s_nil ?_
  refine k_if hE rfl (fun hc1 => ?_) (fun hc1 => ?_)
  · replace hm := (it hc1).symm.trans hm
    refine k_seq ?_
    refine k_region ?_
    refine s_val (wk0 rfl) rfl rfl hE hp (v := (.string (ByteArray.mk #[]))) (ex_asn rfl hE rfl) ?_
    intro a hE
    refine s_nil ?_
    refine k_ret ?_
    obtain rfl := Option.some.inj hm
    exact ret1 hE rfl rfl ⟨_, rfl, rfl, hp⟩
  · replace hm := (ie hc1).symm.trans hm
    refine k_skip ?_
    refine k_seq ?_
    refine k_region ?_
    refine s_new (wk0 rfl) rfl rfl hE hp rfl [.pointer none, .slice none 0 0] (fun w => by simp [Instr.alloc, go_sem] <;> rfl) ?_
    intro a w b1 hE hp
    have hp := hp.imp (bldS_new b1)
    have hp : Hp Z ρ (BldS b1 ByteArray.empty :: L) w := hp
    refine s_nil ?_
    refine k_seq ?_
    refine k_seq ?_
    refine k_region ?_
    refine s_val (wk0 rfl) rfl rfl hE hp (v := vp0) (ex_move rfl hE rfl) ?_
    intro a hE
    refine s_val (wk0 rfl) rfl rfl hE hp (v := (.int .i64 (p0.length : Int))) (ex_len rfl hE rfl (RoSl.len hp0 slty22)) ?_
    intro a hE
    refine s_val (wk0 rfl) rfl rfl hE hp (v := (.int .i64 0)) (ex_move rfl hE rfl) ?_
    intro a hE
    refine s_nil ?_
    obtain ⟨b2, hc2, hm⟩ := bnd hm
    refine k_block (fun a w => Env 31 [(3, (.pointer (some ⟨b1, 0, none⟩)))] a ∧ Hp Z ρ (BldS b1 b2 :: L) w) ?_ ?_
    · refine k_loop hc2 (fun s a w => Env 31 [(3, (.pointer (some ⟨b1, 0, none⟩))), (11, vp0), (12, (.int .i64 (p0.length : Int))), (13, (.int .i64 s.1))] a ∧ Hp Z ρ (BldS b1 s.2 :: L) w) ?_ ?_
      · exact ⟨hE.cut ⟨rfl, rfl, rfl, rfl, trivial⟩, hp⟩
      · rintro ⟨lp1_0, lp1_1⟩ st a w ⟨hE, hp⟩ hl1
        have hE : Env 31 [(3, (.pointer (some ⟨b1, 0, none⟩))), (11, vp0), (12, (.int .i64 (p0.length : Int))), (13, (.int .i64 lp1_0))] a := hE
        have hp : Hp Z ρ (BldS b1 lp1_1 :: L) w := hp
        replace hl1 : m_proof_Format_lp1 p0 lp1_0 lp1_1 = some st := hl1
        unfold m_proof_Format_lp1 at hl1
        refine k_seq ?_
        refine k_region ?_
        refine s_val (wk0 rfl) rfl rfl hE hp (v := (.bool (decide (lp1_0 < (p0.length : Int))))) (ex_lss rfl hE rfl rfl) ?_
        intro a hE
        refine s_nil ?_
        refine k_seq ?_
        refine k_if hE rfl (fun hc3 => ?_) (fun hc3 => ?_)
        · replace hl1 := (it hc3).symm.trans hl1
          refine k_skip ?_
          refine k_seq ?_
          refine k_plain ?_
          refine k_seq ?_
          refine k_region ?_
          obtain ⟨x2, ex2, hl1⟩ := bnd hl1
          obtain ⟨b3, b3o, b3c, b3r, b3k, b3f⟩ := RoSl.at hp0 slty22 ex2
          obtain ⟨vb3, rfl, hb3⟩ := b3k
          have b3f : AtP ρ b3 b3o [vb3] := b3f
          refine s_val (wk0 rfl) rfl rfl hE hp (v := (.pointer (some ⟨b3, b3o, none⟩))) (ex_index rfl hE rfl rfl b3r) ?_
          intro a hE
          refine s_val (wk0 rfl) rfl rfl hE hp (v := vb3) (ex_load rfl hE rfl (fun w hw => run_ld1 varty25 (b3f.c 0 rfl w hw))) ?_
          intro a hE
          refine s_val (wk0 rfl) rfl rfl hE hp (v := vb3) (ex_asn rfl hE rfl) ?_
          intro a hE
          refine s_nil ?_
          refine k_seq ?_
          refine k_seq ?_
          refine k_region ?_
          refine s_val (wk0 rfl) rfl rfl hE hp (v := vb3) (ex_move rfl hE rfl) ?_
          intro a hE
          refine s_val (wk0 rfl) rfl rfl hE hp (v := (.int .i64 (x2.length : Int))) (ex_len rfl hE rfl (RoSl.len hb3 slty25)) ?_
          intro a hE
          refine s_val (wk0 rfl) rfl rfl hE hp (v := (.int .i64 0)) (ex_move rfl hE rfl) ?_
          intro a hE
          refine s_nil ?_
          have hE := hE.cut (E' := [(3, (.pointer (some ⟨b1, 0, none⟩))), (11, vp0), (12, (.int .i64 (p0.length : Int))), (13, (.int .i64 lp1_0)), (17, vb3), (18, (.int .i64 (x2.length : Int))), (19, (.int .i64 0))]) ⟨rfl, rfl, rfl, rfl, rfl, rfl, rfl, trivial⟩
          obtain ⟨b4, hc4, hl1⟩ := bnd hl1
          refine k_block (fun a w => Env 31 [(3, (.pointer (some ⟨b1, 0, none⟩))), (11, vp0), (12, (.int .i64 (p0.length : Int))), (13, (.int .i64 lp1_0))] a ∧ Hp Z ρ (BldS b1 b4 :: L) w) ?_ ?_
          · refine k_loop hc4 (fun s a w => Env 31 [(3, (.pointer (some ⟨b1, 0, none⟩))), (11, vp0), (12, (.int .i64 (p0.length : Int))), (13, (.int .i64 lp1_0)), (17, vb3), (18, (.int .i64 (x2.length : Int))), (19, (.int .i64 s.1))] a ∧ Hp Z ρ (BldS b1 s.2 :: L) w) ?_ ?_
            · exact ⟨hE.cut ⟨rfl, rfl, rfl, rfl, rfl, rfl, rfl, trivial⟩, hp⟩
            · rintro ⟨lp2_0, lp2_1⟩ st a w ⟨hE, hp⟩ hl2
              have hE : Env 31 [(3, (.pointer (some ⟨b1, 0, none⟩))), (11, vp0), (12, (.int .i64 (p0.length : Int))), (13, (.int .i64 lp1_0)), (17, vb3), (18, (.int .i64 (x2.length : Int))), (19, (.int .i64 lp2_0))] a := hE
              have hp : Hp Z ρ (BldS b1 lp2_1 :: L) w := hp
              replace hl2 : m_proof_Format_lp2 x2 lp2_0 lp2_1 = some st := hl2
              unfold m_proof_Format_lp2 at hl2
              refine k_seq ?_
              refine k_region ?_
              refine s_val (wk0 rfl) rfl rfl hE hp (v := (.bool (decide (lp2_0 < (x2.length : Int))))) (ex_lss rfl hE rfl rfl) ?_
              intro a hE
              refine s_nil ?_
              refine k_seq ?_
              refine k_if hE rfl (fun hc5 => ?_) (fun hc5 => ?_)
              · replace hl2 := (it hc5).symm.trans hl2
                refine k_skip ?_
                refine k_seq ?_
                refine k_plain ?_
                refine k_seq ?_
                refine k_region ?_
                obtain ⟨x3, ex3, hl2⟩ := bnd hl2
                obtain ⟨b5, b5o, b5c, b5r, b5k, b5f⟩ := RoSl.at hb3 slty25 ex3
                obtain rfl : b5c = Enc.enc x3 := b5k
                have b5f : AtP ρ b5 b5o [(.int .i64 x3)] := b5f
                refine s_val (wk0 rfl) rfl rfl hE hp (v := (.pointer (some ⟨b5, b5o, none⟩))) (ex_index rfl hE rfl rfl b5r) ?_
                intro a hE
                refine s_val (wk0 rfl) rfl rfl hE hp (v := (.int .i64 x3)) (ex_load rfl hE rfl (fun w hw => run_ld1 varty3 (b5f.c 0 rfl w hw))) ?_
                intro a hE
                refine s_val (wk0 rfl) rfl rfl hE hp (v := (.int .i64 x3)) (ex_asn rfl hE rfl) ?_
                intro a hE
                refine s_nil ?_
                refine k_region ?_
                refine s_val (wk0 rfl) rfl rfl hE hp (v := (.int .i64 x3)) (ex_move rfl hE rfl) ?_
                intro a hE
                obtain ⟨x4, ex4, hl2⟩ := bnd hl2
                refine s_call (wk0 rfl) rfl rfl hE rfl [(.int .i64 x3)] ⟨rfl, trivial⟩ ent50 (c_itoa hT x3 hp x4 ex4) Ret.ret ?_
                intro v a w hR hE
                obtain ⟨rfl, hp⟩ := Ret.of hR
                have hp : Hp Z ρ (_ :: L) w := hp
                obtain ⟨x5, ex5, hl2⟩ := bnd hl2
                refine s_val (wk0 rfl) rfl rfl hE hp (v := (.string x5)) (ex_cat rfl hE rfl rfl ex5) ?_
                intro a hE
                obtain ⟨x6, ex6, hl2⟩ := bnd hl2
                refine s_call (wk0 rfl) rfl rfl hE rfl [(.pointer (some ⟨b1, 0, none⟩)), (.string x5)] ⟨rfl, rfl, trivial⟩ ent49 (c_WStr b1 lp2_1 x5 hp x6 ex6) Ret.ret ?_
                intro v a w hR hE
                obtain ⟨rfl, hp⟩ := Ret.of hR
                have hp : Hp Z ρ (BldS b1 x6 :: L) w := hp
                refine s_nil ?_
                have hE := hE.cut (E' := [(3, (.pointer (some ⟨b1, 0, none⟩))), (11, vp0), (12, (.int .i64 (p0.length : Int))), (13, (.int .i64 lp1_0)), (17, vb3), (18, (.int .i64 (x2.length : Int))), (19, (.int .i64 lp2_0))]) ⟨rfl, rfl, rfl, rfl, rfl, rfl, rfl, trivial⟩
                refine k_region ?_
                obtain ⟨x7, ex7, hl2⟩ := bnd hl2
                refine s_val (wk0 rfl) rfl rfl hE hp (v := (.int .i64 x7)) (ex_add rfl hE rfl rfl (inK_some ex7)) ?_
                intro a hE
                refine s_val (wk0 rfl) rfl rfl hE hp (v := (.int .i64 x7)) (ex_move rfl hE rfl) ?_
                intro a hE
                refine s_nil ?_
                exact ⟨_, (Option.some.inj hl2).symm, hE.cut ⟨rfl, rfl, rfl, rfl, rfl, rfl, rfl, trivial⟩, hp⟩
              · replace hl2 := (ie hc5).symm.trans hl2
                refine k_exit ?_
                refine ⟨_, (Option.some.inj hl2).symm, fun hbb => ?_⟩
                subst hbb
                exact ⟨hE.cut ⟨rfl, rfl, rfl, rfl, trivial⟩, hp⟩
          · rintro a w ⟨hE, hp⟩
            refine k_region ?_
            obtain ⟨x8, ex8, hl1⟩ := bnd hl1
            refine s_call (wk0 rfl) rfl rfl hE rfl [(.pointer (some ⟨b1, 0, none⟩)), (.string (ByteArray.mk #[48, 10]))] ⟨rfl, rfl, trivial⟩ ent49 (c_WStr b1 b4 (ByteArray.mk #[48, 10]) hp x8 ex8) Ret.ret ?_
            intro v a w hR hE
            obtain ⟨rfl, hp⟩ := Ret.of hR
            have hp : Hp Z ρ (BldS b1 x8 :: L) w := hp
            refine s_nil ?_
            refine k_region ?_
            obtain ⟨x9, ex9, hl1⟩ := bnd hl1
            refine s_val (wk0 rfl) rfl rfl hE hp (v := (.int .i64 x9)) (ex_add rfl hE rfl rfl (inK_some ex9)) ?_
            intro a hE
            refine s_val (wk0 rfl) rfl rfl hE hp (v := (.int .i64 x9)) (ex_move rfl hE rfl) ?_
            intro a hE
            refine s_nil ?_
            exact ⟨_, (Option.some.inj hl1).symm, hE.cut ⟨rfl, rfl, rfl, rfl, trivial⟩, hp⟩
        · replace hl1 := (ie hc3).symm.trans hl1
          refine k_exit ?_
          refine ⟨_, (Option.some.inj hl1).symm, fun hbb => ?_⟩
          subst hbb
          exact ⟨hE.cut ⟨rfl, trivial⟩, hp⟩
    · rintro a w ⟨hE, hp⟩
      refine k_seq ?_
      refine k_region ?_
      obtain ⟨x10, ex10, hm⟩ := bnd hm
      refine s_call (wk0 rfl) rfl rfl hE rfl [(.pointer (some ⟨b1, 0, none⟩))] ⟨rfl, trivial⟩ ent51 (c_BStr b1 b2 hp x10 ex10) Ret.ret ?_
      intro v a w hR hE
      obtain ⟨rfl, hp⟩ := Ret.of hR
      have hp : Hp Z ρ (L) w := hp
      refine s_val (wk0 rfl) rfl rfl hE hp (v := (.string x10)) (ex_asn rfl hE rfl) ?_
      intro a hE
      refine s_nil ?_
      refine k_ret ?_
      obtain rfl := Option.some.inj hm
      exact ret1 hE rfl rfl ⟨_, rfl, rfl, hp⟩
set_option maxRecDepth 100000 in
set_option maxHeartbeats 4000000 in
theorem c_proof_Parse {Z : World} {ρ : PH} {L : List Atom} {w : World} (hT : Tabs ρ) (p0 : ByteArray) (hp : Hp Z ρ (L) w) (r : ((List (List Int)) × Int)) (hm : m_proof_Parse p0 = some r) :
    Calls Tryz.prog 26 #[(.string p0)] w (Ret fun v w' => ∃ (vr1 : Value) (usr1 : List Sl), v = .tuple #[vr1, (.int .i64 r.2)] ∧ Hp Z ρ (TblA 25 3 vr1 usr1 (r.1 : (List (List Int))) :: L) w') := by
  refine enter (N := 57) Tryz.func26 rfl rfl [(0, (.string p0))] rfl (argsIn_mem ⟨rfl, trivial⟩) fun a hE => ?_
  unfold m_proof_Parse at hm
  refine k_seq ?_
  refine k_region ?_
  refine s_val (wk0 rfl) rfl rfl hE hp (v := (.slice none 0 0)) (ex_asn rfl hE rfl) ?_
  intro a hE
  refine s_val (wk0 rfl) rfl rfl hE hp (v := (.int .i64 0)) (ex_asn rfl hE rfl) ?_
  intro a hE
  refine s_nil ?_
  refine k_seq ?_
  refine k_region ?_
  refine s_val (wk0 rfl) rfl rfl hE hp (v := (.slice none 0 0)) (ex_asn rfl hE rfl) ?_
  intro a hE
  refine s_nil ?_
  refine k_seq ?_
  refine k_seq ?_
  refine k_region ?_
  refine s_val (wk0 rfl) rfl rfl hE hp (v := (.string p0)) (ex_move rfl hE rfl) ?_
  intro a hE
  refine s_val (wk0 rfl) rfl rfl hE hp (v := (.string p0)) (ex_asn rfl hE rfl) ?_
  intro a hE
  refine s_nil ?_
  have hp := hp.emp (TblA.none (α := Int) 25 3 none)
  have hp : Hp Z ρ (TblA 25 3 (.slice none 0 0) ([]) ([] : (List (List Int))) :: L) w := hp
  obtain ⟨b1, hc1, hm⟩ := bnd hm
  refine k_block (fun a w => ∃ (w9 : Value) (us9 : List Sl), Env 57 [(0, (.string p0)), (4, w9)] a ∧ Hp Z ρ (TblA 25 3 w9 us9 (b1 : (List (List Int))) :: L) w) ?_ ?_
  · refine k_loop hc1 (fun s a w => ∃ (w9 : Value) (us9 : List Sl), Env 57 [(0, (.string p0)), (4, w9), (5, (.string s.1))] a ∧ Hp Z ρ (TblA 25 3 w9 us9 (s.2 : (List (List Int))) :: L) w) ?_ ?_
    · exact ⟨_, _, hE.cut ⟨rfl, rfl, rfl, trivial⟩, hp⟩
    · rintro ⟨lp1_0, lp1_1⟩ st a w ⟨w9, us9, hE, hp⟩ hl1
      have hE : Env 57 [(0, (.string p0)), (4, w9), (5, (.string lp1_0))] a := hE
      have hp : Hp Z ρ (TblA 25 3 w9 us9 (lp1_1 : (List (List Int))) :: L) w := hp
      replace hl1 : m_proof_Parse_lp1  lp1_0 lp1_1 = some st := hl1
      unfold m_proof_Parse_lp1 at hl1
      refine k_seq ?_
      refine k_seq ?_
      refine k_region ?_
      refine s_val (wk0 rfl) rfl rfl hE hp (v := (.string lp1_0)) (ex_move rfl hE rfl) ?_
      intro a hE
      refine s_val (wk0 rfl) rfl rfl hE hp (v := (.bool (!decide (lp1_0 = (ByteArray.mk #[]))))) (ex_sneq rfl hE rfl rfl) ?_
      intro a hE
      refine s_nil ?_
      refine k_if hE rfl (fun hc2 => ?_) (fun hc2 => ?_)
      · replace hl1 := (it hc2).symm.trans hl1
        refine k_skip ?_
        refine k_plain ?_
        refine k_seq ?_
        refine k_region ?_
        refine s_val (wk0 rfl) rfl rfl hE hp (v := (.string lp1_0)) (ex_move rfl hE rfl) ?_
        intro a hE
        obtain ⟨x1, ex1, hl1⟩ := bnd hl1
        refine s_call (wk0 rfl) rfl rfl hE rfl [(.string lp1_0), (.string (ByteArray.mk #[10]))] ⟨rfl, rfl, trivial⟩ ent46 (c_cut hT lp1_0 (ByteArray.mk #[10]) hp x1 ex1) Ret.ret ?_
        intro v a w hR hE
        obtain ⟨rfl, hp⟩ := Ret.of hR
        have hp : Hp Z ρ (_ :: L) w := hp
        refine s_val (wk0 rfl) rfl rfl hE hp (v := (.tuple #[(.string x1.1), (.string x1.2.1), (.bool x1.2.2)])) (ex_move rfl hE rfl) ?_
        intro a hE
        refine s_val (wk0 rfl) rfl rfl hE hp (v := (.string x1.1)) (ex_extract rfl hE rfl rfl) ?_
        intro a hE
        refine s_val (wk0 rfl) rfl rfl hE hp (v := (.string x1.2.1)) (ex_extract rfl hE rfl rfl) ?_
        intro a hE
        refine s_val (wk0 rfl) rfl rfl hE hp (v := (.bool x1.2.2)) (ex_extract rfl hE rfl rfl) ?_
        intro a hE
        refine s_val (wk0 rfl) rfl rfl hE hp (v := (.string x1.1)) (ex_asn rfl hE rfl) ?_
        intro a hE
        refine s_val (wk0 rfl) rfl rfl hE hp (v := (.string x1.2.1)) (ex_asn rfl hE rfl) ?_
        intro a hE
        refine s_val (wk0 rfl) rfl rfl hE hp (v := (.bool x1.2.2)) (ex_asn rfl hE rfl) ?_
        intro a hE
        refine s_nil ?_
        have hE := hE.cut (E' := [(0, (.string p0)), (4, w9), (6, (.string x1.1)), (7, (.string x1.2.1))]) ⟨rfl, rfl, rfl, rfl, trivial⟩
        refine k_seq ?_
        refine k_region ?_
        refine s_val (wk0 rfl) rfl rfl hE hp (v := (.string x1.1)) (ex_move rfl hE rfl) ?_
        intro a hE
        obtain ⟨x2, ex2, hl1⟩ := bnd hl1
        refine s_call (wk0 rfl) rfl rfl hE rfl [(.string x1.1), (.string (ByteArray.mk #[32]))] ⟨rfl, rfl, trivial⟩ ent47 (c_split hT x1.1 (ByteArray.mk #[32]) hp x2 ex2) Ret.ret ?_
        intro v1 a w hR hE
        obtain ⟨u, hu, hp⟩ := Ret.of hR
        rw [← hu] at hp
        have hp : Hp Z ρ (OwnSl 9 v1 x2 :: _ :: L) w := hp
        refine s_val (wk0 rfl) rfl rfl hE hp (v := v1) (ex_asn rfl hE rfl) ?_
        intro a hE
        refine s_nil ?_
        refine k_seq ?_
        refine k_region ?_
        refine s_lit (wk0 rfl) rfl rfl hE hp rfl [] trivial [] 3 (fun w => by simp [Instr.buildSlice, Instr.fill, Value.cells, go_sem]) ?_
        intro a w b2 hE hp
        have hp : Hp Z ρ (Pt b2 (.cells #[] 3 (0, 0)) :: _ :: _ :: L) w := hp
        refine s_val (wk0 rfl) rfl rfl hE hp (v := (.slice (some ⟨b2, 0, none⟩) 0 0)) (ex_asn rfl hE rfl) ?_
        intro a hE
        refine s_nil ?_
        refine k_seq ?_
        refine k_seq ?_
        refine k_region ?_
        refine s_val (wk0 rfl) rfl rfl hE hp (v := v1) (ex_move rfl hE rfl) ?_
        intro a hE
        refine s_val (wk0 rfl) rfl rfl hE hp (v := v1) (ex_move rfl hE rfl) ?_
        intro a hE
        refine s_val (wk0 rfl) rfl rfl hE hp (v := (.int .i64 (x2.length : Int))) (ex_len rfl hE rfl (OwnSl.len hp 1 rfl slty68)) ?_
        intro a hE
        obtain ⟨x3, ex3, hl1⟩ := bnd hl1
        refine s_val (wk0 rfl) rfl rfl hE hp (v := (.int .i64 x3)) (ex_sub rfl hE rfl rfl (inK_some ex3)) ?_
        intro a hE
        obtain ⟨x4, ex4, hl1⟩ := bnd hl1
        obtain ⟨v2, v2r, hp⟩ := OwnSl.head (hp.get 1 rfl) slty68 (some (.i64, x3)) rfl ex4
        have hp : Hp Z ρ (OwnSl 9 v2 x4 :: _ :: _ :: L) w := hp
        refine s_val (wk0 rfl) rfl rfl hE hp (v := v2) (ex_sl rfl hE rfl none (some (.i64, x3)) (by exact trivial) (by exact rfl) v2r) ?_
        intro a hE
        refine s_val (wk0 rfl) rfl rfl hE hp (v := (.int .i64 (x4.length : Int))) (ex_len rfl hE rfl (OwnSl.len hp 0 rfl slty68)) ?_
        intro a hE
        refine s_val (wk0 rfl) rfl rfl hE hp (v := (.int .i64 0)) (ex_move rfl hE rfl) ?_
        intro a hE
        refine s_nil ?_
        have hp := (hp.get 1 rfl).imp (own_of_pt (l := (([] : List Int) : List Int)) (n := 0) rfl (by decide) rfl)
        have hp : Hp Z ρ (OwnSl 3 (.slice (some ⟨b2, 0, none⟩) 0 0) ([] : List Int) :: _ :: _ :: L) w := hp
        obtain ⟨b3, hc3, hl1⟩ := bnd hl1
        refine k_block (fun a w => ∃ (w17 : Value), Env 57 [(0, (.string p0)), (4, w9), (7, (.string x1.2.1)), (10, w17)] a ∧ Hp Z ρ (OwnSl 3 w17 b3 :: OwnSl 9 v2 x4 :: TblA 25 3 w9 us9 (lp1_1 : (List (List Int))) :: L) w) ?_ ?_
        · refine k_loop hc3 (fun s a w => ∃ (w17 : Value), Env 57 [(0, (.string p0)), (4, w9), (7, (.string x1.2.1)), (10, w17), (31, v2), (32, (.int .i64 (x4.length : Int))), (33, (.int .i64 s.1))] a ∧ Hp Z ρ (OwnSl 3 w17 s.2 :: OwnSl 9 v2 x4 :: TblA 25 3 w9 us9 (lp1_1 : (List (List Int))) :: L) w) ?_ ?_
          · exact ⟨_, hE.cut ⟨rfl, rfl, rfl, rfl, rfl, rfl, rfl, trivial⟩, hp⟩
          · rintro ⟨lp2_0, lp2_1⟩ st a w ⟨w17, hE, hp⟩ hl2
            have hE : Env 57 [(0, (.string p0)), (4, w9), (7, (.string x1.2.1)), (10, w17), (31, v2), (32, (.int .i64 (x4.length : Int))), (33, (.int .i64 lp2_0))] a := hE
            have hp : Hp Z ρ (OwnSl 3 w17 lp2_1 :: _ :: _ :: L) w := hp
            replace hl2 : m_proof_Parse_lp2 x4 lp2_0 lp2_1 = some st := hl2
            unfold m_proof_Parse_lp2 at hl2
            refine k_seq ?_
            refine k_region ?_
            refine s_val (wk0 rfl) rfl rfl hE hp (v := (.bool (decide (lp2_0 < (x4.length : Int))))) (ex_lss rfl hE rfl rfl) ?_
            intro a hE
            refine s_nil ?_
            refine k_seq ?_
            refine k_if hE rfl (fun hc4 => ?_) (fun hc4 => ?_)
            · replace hl2 := (it hc4).symm.trans hl2
              refine k_skip ?_
              refine k_seq ?_
              refine k_plain ?_
              refine k_seq ?_
              refine k_region ?_
              obtain ⟨x5, ex5, hl2⟩ := bnd hl2
              obtain ⟨b4, b4o, b4r, b4v, b4f⟩ := OwnSl.at hp 1 rfl slty68 ex5
              have b4f : ∀ (j : Nat) (u : Value), ([(.string x5)] : List Value)[j]? = some u → ∀ ρ' L' w, Hp Z ρ' (OwnSl 9 v2 x4 :: L') w → w.cell? ⟨b4, b4o + j, none⟩ = some u := b4f
              refine s_val (wk0 rfl) rfl rfl hE hp (v := (.pointer (some ⟨b4, b4o, none⟩))) (ex_index rfl hE rfl rfl b4r) ?_
              intro a hE
              refine s_val (wk0 rfl) rfl rfl hE hp (v := (.string x5)) (ex_load rfl hE rfl (fun w hw => run_ld1 varty9 (b4f 0 _ rfl _ _ w (hw.get 1 rfl)))) ?_
              intro a hE
              refine s_val (wk0 rfl) rfl rfl hE hp (v := (.string x5)) (ex_asn rfl hE rfl) ?_
              intro a hE
              refine s_nil ?_
              refine k_seq ?_
              refine k_region ?_
              refine s_val (wk0 rfl) rfl rfl hE hp (v := (.string x5)) (ex_move rfl hE rfl) ?_
              intro a hE
              obtain ⟨x6, ex6, hl2⟩ := bnd hl2
              refine s_call (wk0 rfl) rfl rfl hE rfl [(.string x5)] ⟨rfl, trivial⟩ ent48 (c_atoi hT x5 hp x6 ex6) Ret.ret ?_
              intro v a w hR hE
              obtain ⟨ev1, rfl, hp⟩ := Ret.of hR
              have hp : Hp Z ρ (_ :: _ :: _ :: L) w := hp
              refine s_val (wk0 rfl) rfl rfl hE hp (v := (.tuple #[(.int .i64 x6), ev1])) (ex_move rfl hE rfl) ?_
              intro a hE
              refine s_val (wk0 rfl) rfl rfl hE hp (v := (.int .i64 x6)) (ex_extract rfl hE rfl rfl) ?_
              intro a hE
              refine s_val (wk0 rfl) rfl rfl hE hp (v := ev1) (ex_extract rfl hE rfl rfl) ?_
              intro a hE
              refine s_val (wk0 rfl) rfl rfl hE hp (v := (.int .i64 x6)) (ex_asn rfl hE rfl) ?_
              intro a hE
              refine s_val (wk0 rfl) rfl rfl hE hp (v := ev1) (ex_asn rfl hE rfl) ?_
              intro a hE
              refine s_nil ?_
              have hE := hE.cut (E' := [(0, (.string p0)), (4, w9), (7, (.string x1.2.1)), (10, w17), (13, (.int .i64 x6)), (31, v2), (32, (.int .i64 (x4.length : Int))), (33, (.int .i64 lp2_0))]) ⟨rfl, rfl, rfl, rfl, rfl, rfl, rfl, rfl, trivial⟩
              refine k_region ?_
              refine s_val (wk0 rfl) rfl rfl hE hp (v := w17) (ex_move rfl hE rfl) ?_
              intro a hE
              refine s_val (wk0 rfl) rfl rfl hE hp (v := (.int .i64 x6)) (ex_move rfl hE rfl) ?_
              intro a hE
              refine s_lit (wk0 rfl) rfl rfl hE hp rfl [(0, (.int .i64 x6))] ⟨⟨rfl, rfl⟩, trivial⟩ [(.int .i64 x6)] 3 (fun w => by simp [Instr.buildSlice, Instr.fill, Value.cells, go_sem]) ?_
              intro a w b5 hE hp
              have hp : Hp Z ρ (Pt b5 (.cells #[(.int .i64 x6)] 3 (0, 0)) :: _ :: _ :: _ :: L) w := hp
              obtain ⟨x7, ex7, hl2⟩ := bnd hl2
              refine s_app (wk0 rfl) rfl rfl hE hp rfl slty25 rfl rfl 1 rfl rfl (l2 := [x6]) rfl (fun j u hj => by have := Hp.cN 0 rfl 0 _ (sub_all rfl) w hp j u hj; simpa using this) ex7 ?_
              intro v3 a w hE hp
              have hp : Hp Z ρ (_ :: OwnSl 3 v3 x7 :: _ :: _ :: L) w := hp
              refine s_val (wk0 rfl) rfl rfl hE hp (v := v3) (ex_asn rfl hE rfl) ?_
              intro a hE
              refine s_nil ?_
              refine k_region ?_
              obtain ⟨x8, ex8, hl2⟩ := bnd hl2
              refine s_val (wk0 rfl) rfl rfl hE hp (v := (.int .i64 x8)) (ex_add rfl hE rfl rfl (inK_some ex8)) ?_
              intro a hE
              refine s_val (wk0 rfl) rfl rfl hE hp (v := (.int .i64 x8)) (ex_move rfl hE rfl) ?_
              intro a hE
              refine s_nil ?_
              exact ⟨_, (Option.some.inj hl2).symm, _, hE.cut ⟨rfl, rfl, rfl, rfl, rfl, rfl, rfl, trivial⟩, (hp.drop)⟩
            · replace hl2 := (ie hc4).symm.trans hl2
              refine k_exit ?_
              refine ⟨_, (Option.some.inj hl2).symm, fun hbb => ?_⟩
              subst hbb
              exact ⟨_, hE.cut ⟨rfl, rfl, rfl, rfl, trivial⟩, hp⟩
        · rintro a w ⟨w17, hE, hp⟩
          refine k_region ?_
          refine s_val (wk0 rfl) rfl rfl hE hp (v := w9) (ex_move rfl hE rfl) ?_
          intro a hE
          refine s_val (wk0 rfl) rfl rfl hE hp (v := w17) (ex_move rfl hE rfl) ?_
          intro a hE
          refine s_lit (wk0 rfl) rfl rfl hE hp rfl [(0, w17)] ⟨⟨rfl, rfl⟩, trivial⟩ [w17] 25 (fun w => by have hc0 := OwnSl.cells hp 0 rfl; simp only [Value.cells] at hc0; simp [Instr.buildSlice, Instr.fill, Value.cells, hc0, go_sem]) ?_
          intro a w b6 hE hp
          have hp : Hp Z ρ (Pt b6 (.cells #[w17] 25 (0, 0)) :: OwnSl 3 w17 b3 :: _ :: _ :: L) w := hp
          obtain ⟨x9, ex9, hl1⟩ := bnd hl1
          obtain ⟨sl1, sl1e⟩ := OwnSl.toSl hp 1 rfl
          refine s_tapp (wk0 rfl) rfl rfl hE sl1e (hp.get 1 rfl) rfl slty22 rfl rfl 2 rfl rfl (Hp.c 0 rfl 0 rfl w hp) ex9 ?_
          intro v4 us1 a w hE hp
          have hp : Hp Z ρ (_ :: _ :: TblA 25 3 v4 us1 (x9 : (List (List Int))) :: L) w := hp
          refine s_val (wk0 rfl) rfl rfl hE hp (v := (.string x1.2.1)) (ex_move rfl hE rfl) ?_
          intro a hE
          refine s_val (wk0 rfl) rfl rfl hE hp (v := v4) (ex_asn rfl hE rfl) ?_
          intro a hE
          refine s_val (wk0 rfl) rfl rfl hE hp (v := (.string x1.2.1)) (ex_asn rfl hE rfl) ?_
          intro a hE
          refine s_nil ?_
          exact ⟨_, (Option.some.inj hl1).symm, _, _, hE.cut ⟨rfl, rfl, rfl, trivial⟩, (((hp.get 1 rfl).drop).drop)⟩
      · replace hl1 := (ie hc2).symm.trans hl1
        refine k_exit ?_
        refine ⟨_, (Option.some.inj hl1).symm, fun hbb => ?_⟩
        subst hbb
        exact ⟨_, _, hE.cut ⟨rfl, rfl, trivial⟩, hp⟩
  · rintro a w ⟨w9, us9, hE, hp⟩
    refine k_seq ?_
    refine k_seq ?_
    refine k_region ?_
    refine s_val (wk0 rfl) rfl rfl hE hp (v := w9) (ex_move rfl hE rfl) ?_
    intro a hE
    obtain ⟨k1, k1a, k1d, k1h⟩ := (hp.get 0 rfl).lend
    obtain ⟨x10, ex10, hm⟩ := bnd hm
    refine s_call (wk0 rfl) rfl rfl hE rfl [w9] ⟨rfl, trivial⟩ ent27 (c_proof_Format (Tabs.mono hT (PH.le_un _ k1)) b1 w9 (TblA.ro k1d k1a) k1h x10 ex10) Ret.ret ?_
    intro v a w hR hE
    obtain ⟨rfl, hp⟩ := Ret.of hR
    have hp := Hp.back k1a k1d hp
    have hp : Hp Z ρ (TblA 25 3 w9 us9 (b1 : (List (List Int))) :: L) w := hp
    refine s_val (wk0 rfl) rfl rfl hE hp (v := (.string p0)) (ex_move rfl hE rfl) ?_
    intro a hE
    refine s_val (wk0 rfl) rfl rfl hE hp (v := (.bool (!decide (x10 = p0)))) (ex_sneq rfl hE rfl rfl) ?_
    intro a hE
    refine s_nil ?_
    have hE := hE.cut (E' := [(4, w9), (55, (.bool (!decide (x10 = p0))))]) ⟨rfl, rfl, trivial⟩
    refine k_if hE rfl (fun hc5 => ?_) (fun hc5 => ?_)
    · replace hm := (it hc5).symm.trans hm
      refine k_seq ?_
      refine k_region ?_
      refine s_val (wk0 rfl) rfl rfl hE hp (v := (.slice none 0 0)) (ex_asn rfl hE rfl) ?_
      intro a hE
      refine s_val (wk0 rfl) rfl rfl hE hp (v := (.int .i64 3)) (ex_asn rfl hE rfl) ?_
      intro a hE
      refine s_nil ?_
      refine k_ret ?_
      have hp := hp.emp (TblA.none (α := Int) 25 3 none)
      have hp : Hp Z ρ (TblA 25 3 (.slice none 0 0) ([]) ([] : (List (List Int))) :: _ :: L) w := hp
      obtain rfl := Option.some.inj hm
      exact ret2 hE rfl rfl rfl ⟨_, rfl, _, _, rfl, ((hp.get 1 rfl).drop)⟩
    · replace hm := (ie hc5).symm.trans hm
      refine k_skip ?_
      refine k_seq ?_
      refine k_region ?_
      refine s_val (wk0 rfl) rfl rfl hE hp (v := w9) (ex_move rfl hE rfl) ?_
      intro a hE
      refine s_val (wk0 rfl) rfl rfl hE hp (v := w9) (ex_asn rfl hE rfl) ?_
      intro a hE
      refine s_val (wk0 rfl) rfl rfl hE hp (v := (.int .i64 0)) (ex_asn rfl hE rfl) ?_
      intro a hE
      refine s_nil ?_
      refine k_ret ?_
      obtain rfl := Option.some.inj hm
      exact ret2 hE rfl rfl rfl ⟨_, rfl, _, _, rfl, hp⟩
end Go.Proofs.YtfajmelamonolaaGreatDoor

/- The code goes as its model: slices.Equal[[]int,int], slices.Index[[]int,int], slices.Contains[[]int,int]. (Printed by wip/sp/gen.py.) -/
set_option linter.unusedVariables false
set_option linter.unusedSimpArgs false
namespace Go.Proofs.YtfajmelamonolaaGreatDoor
open Go.RowKit
set_option maxRecDepth 100000 in
set_option maxHeartbeats 4000000 in
theorem c_slices_Equal_int_int_ {Z : World} {ρ : PH} {L : List Atom} {w : World} (hT : Tabs ρ) (p0 : (List Int)) (vp0 : Value) (hp0 : RoSl ρ vp0 p0) (p1 : (List Int)) (vp1 : Value) (hp1 : RoSl ρ vp1 p1) (hp : Hp Z ρ (L) w) (r : Bool) (hm : m_slices_Equal_int_int_ p0 p1 = some r) :
    Calls Tryz.prog 12 #[vp0, vp1] w (Ret fun v w' => v = (.bool r) ∧ Hp Z ρ (L) w') := by
  refine enter (N := 26) Tryz.func12 rfl rfl [(0, vp0), (1, vp1)] rfl (argsIn_mem ⟨rfl, rfl, trivial⟩) fun a hE => ?_
  unfold m_slices_Equal_int_int_ at hm
  refine k_seq ?_
  refine k_region ?_
  refine s_val (wk0 rfl) rfl rfl hE hp (v := (.bool false)) (ex_asn rfl hE rfl) ?_
  intro a hE
  refine s_nil ?_
  refine k_seq ?_
  refine k_seq ?_
  refine k_region ?_
  refine s_val (wk0 rfl) rfl rfl hE hp (v := vp0) (ex_move rfl hE rfl) ?_
  intro a hE
  refine s_val (wk0 rfl) rfl rfl hE hp (v := (.int .i64 (p0.length : Int))) (ex_len rfl hE rfl (RoSl.len hp0 slty25)) ?_
  intro a hE
  refine s_val (wk0 rfl) rfl rfl hE hp (v := vp1) (ex_move rfl hE rfl) ?_
  intro a hE
  refine s_val (wk0 rfl) rfl rfl hE hp (v := (.int .i64 (p1.length : Int))) (ex_len rfl hE rfl (RoSl.len hp1 slty25)) ?_
  intro a hE
  refine s_val (wk0 rfl) rfl rfl hE hp (v := (.bool (!decide ((p0.length : Int) = (p1.length : Int))))) (ex_neq rfl hE rfl rfl) ?_
  intro a hE
  refine s_nil ?_
  refine k_if hE rfl (fun hc1 => ?_) (fun hc1 => ?_)
  · replace hm := (it hc1).symm.trans hm
    refine k_seq ?_
    refine k_region ?_
    refine s_val (wk0 rfl) rfl rfl hE hp (v := (.bool false)) (ex_asn rfl hE rfl) ?_
    intro a hE
    refine s_nil ?_
    refine k_ret ?_
    obtain rfl := Option.some.inj hm
    exact ret1 hE rfl rfl ⟨_, rfl, rfl, hp⟩
  · replace hm := (ie hc1).symm.trans hm
    refine k_skip ?_
    refine k_seq ?_
    refine k_seq ?_
    refine k_region ?_
    refine s_val (wk0 rfl) rfl rfl hE hp (v := vp0) (ex_move rfl hE rfl) ?_
    intro a hE
    refine s_val (wk0 rfl) rfl rfl hE hp (v := (.int .i64 (p0.length : Int))) (ex_len rfl hE rfl (RoSl.len hp0 slty25)) ?_
    intro a hE
    refine s_val (wk0 rfl) rfl rfl hE hp (v := (.int .i64 0)) (ex_move rfl hE rfl) ?_
    intro a hE
    refine s_nil ?_
    obtain ⟨b1, hc2, hm⟩ := bnd hm
    refine k_block (fun a w => ∃ s : Unit, b1 = .brk s ∧ (Env 26 [] a ∧ Hp Z ρ (L) w)) ?_ ?_
    · refine k_loop hc2 (fun s a w => Env 26 [(0, vp0), (1, vp1), (12, (.int .i64 (p0.length : Int))), (13, (.int .i64 s))] a ∧ Hp Z ρ (L) w) ?_ ?_
      · exact ⟨hE.cut ⟨rfl, rfl, rfl, rfl, trivial⟩, hp⟩
      · rintro lp1_0 st a w ⟨hE, hp⟩ hl1
        have hE : Env 26 [(0, vp0), (1, vp1), (12, (.int .i64 (p0.length : Int))), (13, (.int .i64 lp1_0))] a := hE
        have hp : Hp Z ρ (L) w := hp
        replace hl1 : m_slices_Equal_int_int__lp1 p0 p1 lp1_0 = some st := hl1
        unfold m_slices_Equal_int_int__lp1 at hl1
        refine k_seq ?_
        refine k_region ?_
        refine s_val (wk0 rfl) rfl rfl hE hp (v := (.bool (decide (lp1_0 < (p0.length : Int))))) (ex_lss rfl hE rfl rfl) ?_
        intro a hE
        refine s_nil ?_
        refine k_seq ?_
        refine k_if hE rfl (fun hc3 => ?_) (fun hc3 => ?_)
        · replace hl1 := (it hc3).symm.trans hl1
          refine k_skip ?_
          refine k_seq ?_
          refine k_plain ?_
          refine k_seq ?_
          refine k_region ?_
          refine s_val (wk0 rfl) rfl rfl hE hp (v := (.int .i64 lp1_0)) (ex_move rfl hE rfl) ?_
          intro a hE
          refine s_val (wk0 rfl) rfl rfl hE hp (v := (.int .i64 lp1_0)) (ex_asn rfl hE rfl) ?_
          intro a hE
          refine s_nil ?_
          refine k_seq ?_
          refine k_quiet (by kernel_rfl) (by kernel_rfl) hp ?_
          refine q_val (wk0 rfl) rfl rfl hE (v := vp0) (ex_move rfl hE rfl) ?_
          intro a hE
          refine q_val (wk0 rfl) rfl rfl hE (v := (.int .i64 lp1_0)) (ex_move rfl hE rfl) ?_
          intro a hE
          obtain ⟨x1, ex1, hl1⟩ := bnd hl1
          obtain ⟨b2, b2o, b2c, b2r, b2k, b2f⟩ := RoSl.at hp0 slty25 ex1
          obtain rfl : b2c = Enc.enc x1 := b2k
          have b2f : AtP ρ b2 b2o [(.int .i64 x1)] := b2f
          refine q_val (wk0 rfl) rfl rfl hE (v := (.pointer (some ⟨b2, b2o, none⟩))) (ex_index rfl hE rfl rfl b2r) ?_
          intro a hE
          refine q_val (wk0 rfl) rfl rfl hE (v := (.int .i64 x1)) (ex_load rfl hE rfl (fun w hw => run_ld1 varty3 (b2f.c 0 rfl w hw))) ?_
          intro a hE
          refine q_val (wk0 rfl) rfl rfl hE (v := vp1) (ex_move rfl hE rfl) ?_
          intro a hE
          refine q_val (wk0 rfl) rfl rfl hE (v := (.int .i64 lp1_0)) (ex_move rfl hE rfl) ?_
          intro a hE
          obtain ⟨x2, ex2, hl1⟩ := bnd hl1
          obtain ⟨b3, b3o, b3c, b3r, b3k, b3f⟩ := RoSl.at hp1 slty25 ex2
          obtain rfl : b3c = Enc.enc x2 := b3k
          have b3f : AtP ρ b3 b3o [(.int .i64 x2)] := b3f
          refine q_val (wk0 rfl) rfl rfl hE (v := (.pointer (some ⟨b3, b3o, none⟩))) (ex_index rfl hE rfl rfl b3r) ?_
          intro a hE
          refine q_val (wk0 rfl) rfl rfl hE (v := (.int .i64 x2)) (ex_load rfl hE rfl (fun w hw => run_ld1 varty3 (b3f.c 0 rfl w hw))) ?_
          intro a hE
          refine q_val (wk0 rfl) rfl rfl hE (v := (.bool (!decide (x1 = x2)))) (ex_neq rfl hE rfl rfl) ?_
          intro a hE
          refine q_nil fun w hp => ?_
          have hp : Hp Z ρ (L) w := hp
          refine k_if hE rfl (fun hc4 => ?_) (fun hc4 => ?_)
          · replace hl1 := (it hc4).symm.trans hl1
            refine k_seq ?_
            refine k_region ?_
            refine s_val (wk0 rfl) rfl rfl hE hp (v := (.bool false)) (ex_asn rfl hE rfl) ?_
            intro a hE
            refine s_nil ?_
            refine k_ret ?_
            refine ⟨_, (Option.some.inj hl1).symm, fun hb => ?_⟩
            subst hb
            obtain rfl := Option.some.inj hm
            exact ret1 hE rfl rfl ⟨_, rfl, rfl, hp⟩
          · replace hl1 := (ie hc4).symm.trans hl1
            refine k_skip ?_
            refine k_region ?_
            obtain ⟨x3, ex3, hl1⟩ := bnd hl1
            refine s_val (wk0 rfl) rfl rfl hE hp (v := (.int .i64 x3)) (ex_add rfl hE rfl rfl (inK_some ex3)) ?_
            intro a hE
            refine s_val (wk0 rfl) rfl rfl hE hp (v := (.int .i64 x3)) (ex_move rfl hE rfl) ?_
            intro a hE
            refine s_nil ?_
            exact ⟨_, (Option.some.inj hl1).symm, hE.cut ⟨rfl, rfl, rfl, rfl, trivial⟩, hp⟩
        · replace hl1 := (ie hc3).symm.trans hl1
          refine k_exit ?_
          refine ⟨_, (Option.some.inj hl1).symm, fun hbb => ?_⟩
          exact ⟨_, hbb.symm, hE.cut trivial, hp⟩
    · rintro a w ⟨b1s, rfl, hE, hp⟩
      dsimp only at hm
      refine k_seq ?_
      refine k_region ?_
      refine s_val (wk0 rfl) rfl rfl hE hp (v := (.bool true)) (ex_asn rfl hE rfl) ?_
      intro a hE
      refine s_nil ?_
      refine k_ret ?_
      obtain rfl := Option.some.inj hm
      exact ret1 hE rfl rfl ⟨_, rfl, rfl, hp⟩
end Go.Proofs.YtfajmelamonolaaGreatDoor

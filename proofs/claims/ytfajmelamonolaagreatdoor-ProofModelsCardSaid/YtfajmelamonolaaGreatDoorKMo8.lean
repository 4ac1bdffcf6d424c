/- The code goes as its model: slices.Equal[[]int,int], slices.Index[[]int,int], slices.Contains[[]int,int]. (Printed by wip/sp/gen.py.) -/
import Derived.Test.YtfajmelamonolaaGreatDoorKMo4
set_option linter.unusedVariables false
set_option linter.unusedSimpArgs false
namespace Go.Proofs.YtfajmelamonolaaGreatDoor
open Go.RowKit
set_option maxRecDepth 100000 in
set_option maxHeartbeats 4000000 in
theorem c_slices_Equal_int_int_ {Z : World} {ρ : PH} {L : List Atom} {w : World} (hT : Tabs ρ) (p0 : (List Int)) (vp0 : Value) (hp0 : RoSl ρ vp0 p0) (p1 : (List Int)) (vp1 : Value) (hp1 : RoSl ρ vp1 p1) (hp : Hp Z ρ (L) w) (r : Bool) (hm : m_slices_Equal_int_int_ p0 p1 = some r) :
    Calls Tryz.prog 12 #[vp0, vp1] w (Ret fun v w' => v = (.bool r) ∧ Hp Z ρ (L) w') := by
  refine enter (N := 26) Tryz.func12 rfl rfl [(0, vp0), (1, vp1)] rfl (argsIn_mem ⟨rfl, rfl, trivial⟩) fun a hE => ?_
  unfold m_slices_Equal_int_int_ at hm
  refine k_seq ?_
  refine k_region ?_
  refine s_val (wk0 rfl) rfl rfl hE hp (v := (.bool false)) (ex_asn rfl hE rfl) ?_
  intro a hE
  refine s_nil ?_
  refine k_seq ?_
  refine k_seq ?_
  refine k_region ?_
  refine s_val (wk0 rfl) rfl rfl hE hp (v := vp0) (ex_move rfl hE rfl) ?_
  intro a hE
  refine s_val (wk0 rfl) rfl rfl hE hp (v := (.int .i64 (p0.length : Int))) (ex_len rfl hE rfl (RoSl.len hp0 slty25)) ?_
  intro a hE
  refine s_val (wk0 rfl) rfl rfl hE hp (v := vp1) (ex_move rfl hE rfl) ?_
  intro a hE
  refine s_val (wk0 rfl) rfl rfl hE hp (v := (.int .i64 (p1.length : Int))) (ex_len rfl hE rfl (RoSl.len hp1 slty25)) ?_
  intro a hE
  refine s_val (wk0 rfl) rfl rfl hE hp (v := (.bool (!decide ((p0.length : Int) = (p1.length : Int))))) (ex_neq rfl hE rfl rfl) ?_
  intro a hE
  refine s_nil ?_
  refine k_if hE rfl (fun hc1 => ?_) (fun hc1 => ?_)
  · replace hm := (it hc1).symm.trans hm
    refine k_seq ?_
    refine k_region ?_
    refine s_val (wk0 rfl) rfl rfl hE hp (v := (.bool false)) (ex_asn rfl hE rfl) ?_
    intro a hE
    refine s_nil ?_
    refine k_ret ?_
    obtain rfl := Option.some.inj hm
    exact ret1 hE rfl rfl ⟨_, rfl, rfl, hp⟩
  · replace hm := (ie hc1).symm.trans hm
    refine k_skip ?_
    refine k_seq ?_
    refine k_seq ?_
    refine k_region ?_
    refine s_val (wk0 rfl) rfl rfl hE hp (v := vp0) (ex_move rfl hE rfl) ?_
    intro a hE
    refine s_val (wk0 rfl) rfl rfl hE hp (v := (.int .i64 (p0.length : Int))) (ex_len rfl hE rfl (RoSl.len hp0 slty25)) ?_
    intro a hE
    refine s_val (wk0 rfl) rfl rfl hE hp (v := (.int .i64 0)) (ex_move rfl hE rfl) ?_
    intro a hE
    refine s_nil ?_
    obtain ⟨b1, hc2, hm⟩ := bnd hm
    refine k_block (fun a w => ∃ s : Unit, b1 = .brk s ∧ (Env 26 [] a ∧ Hp Z ρ (L) w)) ?_ ?_
    · refine k_loop hc2 (fun s a w => Env 26 [(0, vp0), (1, vp1), (12, (.int .i64 (p0.length : Int))), (13, (.int .i64 s))] a ∧ Hp Z ρ (L) w) ?_ ?_
      · exact ⟨hE.cut ⟨rfl, rfl, rfl, rfl, trivial⟩, hp⟩
      · rintro lp1_0 st a w ⟨hE, hp⟩ hl1
        have hE : Env 26 [(0, vp0), (1, vp1), (12, (.int .i64 (p0.length : Int))), (13, (.int .i64 lp1_0))] a := hE
        have hp : Hp Z ρ (L) w := hp
        replace hl1 : m_slices_Equal_int_int__lp1 p0 p1 lp1_0 = some st := hl1
        unfold m_slices_Equal_int_int__lp1 at hl1
        refine k_seq ?_
        refine k_region ?_
        refine s_val (wk0 rfl) rfl rfl hE hp (v := (.bool (decide (lp1_0 < (p0.length : Int))))) (ex_lss rfl hE rfl rfl) ?_
        intro a hE
        refine s_nil ?_
        refine k_seq ?_
        refine k_if hE rfl (fun hc3 => ?_) (fun hc3 => ?_)
        · replace hl1 := (it hc3).symm.trans hl1
          refine k_skip ?_
          refine k_seq ?_
          refine k_plain ?_
          refine k_seq ?_
          refine k_region ?_
          refine s_val (wk0 rfl) rfl rfl hE hp (v := (.int .i64 lp1_0)) (ex_move rfl hE rfl) ?_
          intro a hE
          refine s_val (wk0 rfl) rfl rfl hE hp (v := (.int .i64 lp1_0)) (ex_asn rfl hE rfl) ?_
          intro a hE
          refine s_nil ?_
          refine k_seq ?_
          refine k_quiet (by kernel_rfl) (by kernel_rfl) hp ?_
          refine q_val (wk0 rfl) rfl rfl hE (v := vp0) (ex_move rfl hE rfl) ?_
          intro a hE
          refine q_val (wk0 rfl) rfl rfl hE (v := (.int .i64 lp1_0)) (ex_move rfl hE rfl) ?_
          intro a hE
          obtain ⟨x1, ex1, hl1⟩ := bnd hl1
          obtain ⟨b2, b2o, b2c, b2r, b2k, b2f⟩ := RoSl.at hp0 slty25 ex1
          obtain rfl : b2c = Enc.enc x1 := b2k
          have b2f : AtP ρ b2 b2o [(.int .i64 x1)] := b2f
          refine q_val (wk0 rfl) rfl rfl hE (v := (.pointer (some ⟨b2, b2o, none⟩))) (ex_index rfl hE rfl rfl b2r) ?_
          intro a hE
          refine q_val (wk0 rfl) rfl rfl hE (v := (.int .i64 x1)) (ex_load rfl hE rfl (fun w hw => run_ld1 varty3 (b2f.c 0 rfl w hw))) ?_
          intro a hE
          refine q_val (wk0 rfl) rfl rfl hE (v := vp1) (ex_move rfl hE rfl) ?_
          intro a hE
          refine q_val (wk0 rfl) rfl rfl hE (v := (.int .i64 lp1_0)) (ex_move rfl hE rfl) ?_
          intro a hE
          obtain ⟨x2, ex2, hl1⟩ := bnd hl1
          obtain ⟨b3, b3o, b3c, b3r, b3k, b3f⟩ := RoSl.at hp1 slty25 ex2
          obtain rfl : b3c = Enc.enc x2 := b3k
          have b3f : AtP ρ b3 b3o [(.int .i64 x2)] := b3f
          refine q_val (wk0 rfl) rfl rfl hE (v := (.pointer (some ⟨b3, b3o, none⟩))) (ex_index rfl hE rfl rfl b3r) ?_
          intro a hE
          refine q_val (wk0 rfl) rfl rfl hE (v := (.int .i64 x2)) (ex_load rfl hE rfl (fun w hw => run_ld1 varty3 (b3f.c 0 rfl w hw))) ?_
          intro a hE
          refine q_val (wk0 rfl) rfl rfl hE (v := (.bool (!decide (x1 = x2)))) (ex_neq rfl hE rfl rfl) ?_
          intro a hE
          refine q_nil fun w hp => ?_
          have hp : Hp Z ρ (L) w := hp
          refine k_if hE rfl (fun hc4 => ?_) (fun hc4 => ?_)
          · replace hl1 := (it hc4).symm.trans hl1
            refine k_seq ?_
            refine k_region ?_
            refine s_val (wk0 rfl) rfl rfl hE hp (v := (.bool false)) (ex_asn rfl hE rfl) ?_
            intro a hE
            refine s_nil ?_
            refine k_ret ?_
            refine ⟨_, (Option.some.inj hl1).symm, fun hb => ?_⟩
            subst hb
            obtain rfl := Option.some.inj hm
            exact ret1 hE rfl rfl ⟨_, rfl, rfl, hp⟩
          · replace hl1 := (ie hc4).symm.trans hl1
            refine k_skip ?_
            refine k_region ?_
            obtain ⟨x3, ex3, hl1⟩ := bnd hl1
            refine s_val (wk0 rfl) rfl rfl hE hp (v := (.int .i64 x3)) (ex_add rfl hE rfl rfl (inK_some ex3)) ?_
            intro a hE
            refine s_val (wk0 rfl) rfl rfl hE hp (v := (.int .i64 x3)) (ex_move rfl hE rfl) ?_
            intro a hE
            refine s_nil ?_
            exact ⟨_, (Option.some.inj hl1).symm, hE.cut ⟨rfl, rfl, rfl, rfl, trivial⟩, hp⟩
        · replace hl1 := (ie hc3).symm.trans hl1
          refine k_exit ?_
          refine ⟨_, (Option.some.inj hl1).symm, fun hbb => ?_⟩
          exact ⟨_, hbb.symm, hE.cut trivial, hp⟩
    · rintro a w ⟨b1s, rfl, hE, hp⟩
      dsimp only at hm
      refine k_seq ?_
      refine k_region ?_
      refine s_val (wk0 rfl) rfl rfl hE hp (v := (.bool true)) (ex_asn rfl hE rfl) ?_
      intro a hE
      refine s_nil ?_
      refine k_ret ?_
      obtain rfl := Option.some.inj hm
      exact ret1 hE rfl rfl ⟨_, rfl, rfl, hp⟩
set_option maxRecDepth 100000 in
set_option maxHeartbeats 4000000 in
theorem c_slices_Index_int_int_ {Z : World} {ρ : PH} {L : List Atom} {w : World} (hT : Tabs ρ) (p0 : (List Int)) (vp0 : Value) (hp0 : RoSl ρ vp0 p0) (p1 : Int) (hp : Hp Z ρ (L) w) (r : Int) (hm : m_slices_Index_int_int_ p0 p1 = some r) :
    Calls Tryz.prog 45 #[vp0, (.int .i64 p1)] w (Ret fun v w' => v = (.int .i64 r) ∧ Hp Z ρ (L) w') := by
  refine enter (N := 19) Tryz.func45 rfl rfl [(0, vp0), (1, (.int .i64 p1))] rfl (argsIn_mem ⟨rfl, rfl, trivial⟩) fun a hE => ?_
  unfold m_slices_Index_int_int_ at hm
  refine k_seq ?_
  refine k_region ?_
  refine s_val (wk0 rfl) rfl rfl hE hp (v := (.int .i64 0)) (ex_asn rfl hE rfl) ?_
  intro a hE
  refine s_nil ?_
  refine k_seq ?_
  refine k_seq ?_
  refine k_region ?_
  refine s_val (wk0 rfl) rfl rfl hE hp (v := vp0) (ex_move rfl hE rfl) ?_
  intro a hE
  refine s_val (wk0 rfl) rfl rfl hE hp (v := (.int .i64 (p0.length : Int))) (ex_len rfl hE rfl (RoSl.len hp0 slty25)) ?_
  intro a hE
  refine s_val (wk0 rfl) rfl rfl hE hp (v := (.int .i64 0)) (ex_move rfl hE rfl) ?_
  intro a hE
  refine s_nil ?_
  obtain ⟨b1, hc1, hm⟩ := bnd hm
  refine k_block (fun a w => ∃ s : Unit, b1 = .brk s ∧ (Env 19 [] a ∧ Hp Z ρ (L) w)) ?_ ?_
  · refine k_loop hc1 (fun s a w => Env 19 [(0, vp0), (1, (.int .i64 p1)), (7, (.int .i64 (p0.length : Int))), (8, (.int .i64 s))] a ∧ Hp Z ρ (L) w) ?_ ?_
    · exact ⟨hE.cut ⟨rfl, rfl, rfl, rfl, trivial⟩, hp⟩
    · rintro lp1_0 st a w ⟨hE, hp⟩ hl1
      have hE : Env 19 [(0, vp0), (1, (.int .i64 p1)), (7, (.int .i64 (p0.length : Int))), (8, (.int .i64 lp1_0))] a := hE
      have hp : Hp Z ρ (L) w := hp
      replace hl1 : m_slices_Index_int_int__lp1 p0 p1 lp1_0 = some st := hl1
      unfold m_slices_Index_int_int__lp1 at hl1
      refine k_seq ?_
      refine k_region ?_
      refine s_val (wk0 rfl) rfl rfl hE hp (v := (.bool (decide (lp1_0 < (p0.length : Int))))) (ex_lss rfl hE rfl rfl) ?_
      intro a hE
      refine s_nil ?_
      refine k_seq ?_
      refine k_if hE rfl (fun hc2 => ?_) (fun hc2 => ?_)
      · replace hl1 := (it hc2).symm.trans hl1
        refine k_skip ?_
        refine k_seq ?_
        refine k_plain ?_
        refine k_seq ?_
        refine k_region ?_
        refine s_val (wk0 rfl) rfl rfl hE hp (v := (.int .i64 lp1_0)) (ex_move rfl hE rfl) ?_
        intro a hE
        refine s_val (wk0 rfl) rfl rfl hE hp (v := (.int .i64 lp1_0)) (ex_asn rfl hE rfl) ?_
        intro a hE
        refine s_nil ?_
        refine k_seq ?_
        refine k_region ?_
        refine s_val (wk0 rfl) rfl rfl hE hp (v := (.int .i64 p1)) (ex_move rfl hE rfl) ?_
        intro a hE
        refine s_val (wk0 rfl) rfl rfl hE hp (v := vp0) (ex_move rfl hE rfl) ?_
        intro a hE
        refine s_val (wk0 rfl) rfl rfl hE hp (v := (.int .i64 lp1_0)) (ex_move rfl hE rfl) ?_
        intro a hE
        obtain ⟨x1, ex1, hl1⟩ := bnd hl1
        obtain ⟨b2, b2o, b2c, b2r, b2k, b2f⟩ := RoSl.at hp0 slty25 ex1
        obtain rfl : b2c = Enc.enc x1 := b2k
        have b2f : AtP ρ b2 b2o [(.int .i64 x1)] := b2f
        refine s_val (wk0 rfl) rfl rfl hE hp (v := (.pointer (some ⟨b2, b2o, none⟩))) (ex_index rfl hE rfl rfl b2r) ?_
        intro a hE
        refine s_val (wk0 rfl) rfl rfl hE hp (v := (.int .i64 x1)) (ex_load rfl hE rfl (fun w hw => run_ld1 varty3 (b2f.c 0 rfl w hw))) ?_
        intro a hE
        refine s_val (wk0 rfl) rfl rfl hE hp (v := (.bool (decide (p1 = x1)))) (ex_eql rfl hE rfl rfl) ?_
        intro a hE
        refine s_nil ?_
        have hE := hE.cut (E' := [(0, vp0), (1, (.int .i64 p1)), (5, (.int .i64 lp1_0)), (7, (.int .i64 (p0.length : Int))), (8, (.int .i64 lp1_0)), (16, (.bool (decide (p1 = x1))))]) ⟨rfl, rfl, rfl, rfl, rfl, rfl, trivial⟩
        refine k_if hE rfl (fun hc3 => ?_) (fun hc3 => ?_)
        · replace hl1 := (it hc3).symm.trans hl1
          refine k_seq ?_
          refine k_region ?_
          refine s_val (wk0 rfl) rfl rfl hE hp (v := (.int .i64 lp1_0)) (ex_move rfl hE rfl) ?_
          intro a hE
          refine s_val (wk0 rfl) rfl rfl hE hp (v := (.int .i64 lp1_0)) (ex_asn rfl hE rfl) ?_
          intro a hE
          refine s_nil ?_
          refine k_ret ?_
          refine ⟨_, (Option.some.inj hl1).symm, fun hb => ?_⟩
          subst hb
          obtain rfl := Option.some.inj hm
          exact ret1 hE rfl rfl ⟨_, rfl, rfl, hp⟩
        · replace hl1 := (ie hc3).symm.trans hl1
          refine k_skip ?_
          refine k_region ?_
          obtain ⟨x2, ex2, hl1⟩ := bnd hl1
          refine s_val (wk0 rfl) rfl rfl hE hp (v := (.int .i64 x2)) (ex_add rfl hE rfl rfl (inK_some ex2)) ?_
          intro a hE
          refine s_val (wk0 rfl) rfl rfl hE hp (v := (.int .i64 x2)) (ex_move rfl hE rfl) ?_
          intro a hE
          refine s_nil ?_
          exact ⟨_, (Option.some.inj hl1).symm, hE.cut ⟨rfl, rfl, rfl, rfl, trivial⟩, hp⟩
      · replace hl1 := (ie hc2).symm.trans hl1
        refine k_exit ?_
        refine ⟨_, (Option.some.inj hl1).symm, fun hbb => ?_⟩
        exact ⟨_, hbb.symm, hE.cut trivial, hp⟩
  · rintro a w ⟨b1s, rfl, hE, hp⟩
    dsimp only at hm
    refine k_seq ?_
    refine k_region ?_
    refine s_val (wk0 rfl) rfl rfl hE hp (v := (.int .i64 (-1))) (ex_asn rfl hE rfl) ?_
    intro a hE
    refine s_nil ?_
    refine k_ret ?_
    obtain rfl := Option.some.inj hm
    exact ret1 hE rfl rfl ⟨_, rfl, rfl, hp⟩
set_option maxRecDepth 100000 in
set_option maxHeartbeats 4000000 in
theorem c_slices_Contains_int_int_ {Z : World} {ρ : PH} {L : List Atom} {w : World} (hT : Tabs ρ) (p0 : (List Int)) (vp0 : Value) (hp0 : RoSl ρ vp0 p0) (p1 : Int) (hp : Hp Z ρ (L) w) (r : Bool) (hm : m_slices_Contains_int_int_ p0 p1 = some r) :
    Calls Tryz.prog 24 #[vp0, (.int .i64 p1)] w (Ret fun v w' => v = (.bool r) ∧ Hp Z ρ (L) w') := by
  refine enter (N := 9) Tryz.func24 rfl rfl [(0, vp0), (1, (.int .i64 p1))] rfl (argsIn_mem ⟨rfl, rfl, trivial⟩) fun a hE => ?_
  unfold m_slices_Contains_int_int_ at hm
  refine k_seq ?_
  refine k_region ?_
  refine s_val (wk0 rfl) rfl rfl hE hp (v := (.bool false)) (ex_asn rfl hE rfl) ?_
  intro a hE
  refine s_nil ?_
  refine k_seq ?_
  refine k_region ?_
  refine s_val (wk0 rfl) rfl rfl hE hp (v := vp0) (ex_move rfl hE rfl) ?_
  intro a hE
  refine s_val (wk0 rfl) rfl rfl hE hp (v := (.int .i64 p1)) (ex_move rfl hE rfl) ?_
  intro a hE
  obtain ⟨x1, ex1, hm⟩ := bnd hm
  refine s_call (wk0 rfl) rfl rfl hE rfl [vp0, (.int .i64 p1)] ⟨rfl, rfl, trivial⟩ ent45 (c_slices_Index_int_int_ hT p0 vp0 hp0 p1 hp x1 ex1) Ret.ret ?_
  intro v a w hR hE
  obtain ⟨rfl, hp⟩ := Ret.of hR
  have hp : Hp Z ρ (L) w := hp
  refine s_val (wk0 rfl) rfl rfl hE hp (v := (.bool (decide (0 ≤ x1)))) (ex_geq rfl hE rfl rfl) ?_
  intro a hE
  refine s_val (wk0 rfl) rfl rfl hE hp (v := (.bool (decide (0 ≤ x1)))) (ex_asn rfl hE rfl) ?_
  intro a hE
  refine s_nil ?_
  refine k_ret ?_
  obtain rfl := Option.some.inj hm
  exact ret1 hE rfl rfl ⟨_, rfl, rfl, hp⟩
end Go.Proofs.YtfajmelamonolaaGreatDoor

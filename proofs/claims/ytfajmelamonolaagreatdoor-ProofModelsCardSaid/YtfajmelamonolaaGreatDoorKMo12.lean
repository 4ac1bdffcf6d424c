/- The code goes as its model: assessor/assessorlaw27.ProofModels$1, slices.IndexFunc[[]int,int]@assessor/assessorlaw27.ProofModels$1, slices.ContainsFunc[[]int,in -/
import Derived.Test.YtfajmelamonolaaGreatDoorKMo4
import Derived.Test.YtfajmelamonolaaGreatDoorKMo11
import Derived.Test.YtfajmelamonolaaGreatDoorKMo2
import Derived.Test.YtfajmelamonolaaGreatDoorKMo3
set_option linter.unusedVariables false
set_option linter.unusedSimpArgs false
namespace Go.Proofs.YtfajmelamonolaaGreatDoor
open Go.RowKit
set_option maxRecDepth 100000 in
set_option maxHeartbeats 4000000 in
theorem c_assessorlaw27_ProofModels_1 {Z : World} {ρ : PH} {L : List Atom} {w : World} (hT : Tabs ρ) (p0 : Int) (bcp0 : Nat) (cp0 : (List Int)) (vcp0 : Value) (hcp0 : RoSl ρ vcp0 cp0) (hp : Hp Z ρ (Pt bcp0 (.cells #[vcp0] 25 (0, 0)) :: L) w) (r : Bool) (hm : m_assessorlaw27_ProofModels_1 p0 cp0 = some r) :
    Calls Tryz.prog 23 #[(.int .i64 p0), (.pointer (some ⟨bcp0, 0, none⟩))] w (Ret fun v w' => v = (.bool r) ∧ Hp Z ρ (Pt bcp0 (.cells #[vcp0] 25 (0, 0)) :: L) w') := by
  refine enter (N := 7) Tryz.func23 rfl rfl [(0, (.int .i64 p0)), (1, (.pointer (some ⟨bcp0, 0, none⟩)))] rfl (argsIn_mem ⟨rfl, rfl, trivial⟩) fun a hE => ?_
  unfold m_assessorlaw27_ProofModels_1 at hm
  refine k_seq ?_
  refine k_region ?_
  refine s_val (wk0 rfl) rfl rfl hE hp (v := (.bool false)) (ex_asn rfl hE rfl) ?_
  intro a hE
  refine s_nil ?_
  refine k_seq ?_
  refine k_region ?_
  refine s_val (wk0 rfl) rfl rfl hE hp (v := vcp0) (ex_load rfl hE rfl (fun w hw => run_ld1 varty25 (Hp.c 0 rfl 0 rfl w hw))) ?_
  intro a hE
  refine s_val (wk0 rfl) rfl rfl hE hp (v := (.int .i64 p0)) (ex_move rfl hE rfl) ?_
  intro a hE
  obtain ⟨x1, ex1, hm⟩ := bnd hm
  refine s_call (wk0 rfl) rfl rfl hE rfl [vcp0, (.int .i64 p0)] ⟨rfl, rfl, trivial⟩ ent24 (c_slices_Contains_int_int_ hT cp0 vcp0 hcp0 p0 hp x1 ex1) Ret.ret ?_
  intro v a w hR hE
  obtain ⟨rfl, hp⟩ := Ret.of hR
  have hp : Hp Z ρ (Pt bcp0 (.cells #[vcp0] 25 (0, 0)) :: L) w := hp
  refine s_val (wk0 rfl) rfl rfl hE hp (v := (.bool x1)) (ex_asn rfl hE rfl) ?_
  intro a hE
  refine s_nil ?_
  refine k_ret ?_
  obtain rfl := Option.some.inj hm
  exact ret1 hE rfl rfl ⟨_, rfl, rfl, hp⟩
set_option maxRecDepth 100000 in
set_option maxHeartbeats 4000000 in
theorem c_slices_IndexFunc_assessorlaw27_ProofModels_1 {Z : World} {ρ : PH} {L : List Atom} {w : World} (hT : Tabs ρ) (p0 : (List Int)) (vp0 : Value) (hp0 : RoSl ρ vp0 p0) (bp1c0 : Nat) (p1c0 : (List Int)) (vp1c0 : Value) (hp1c0 : RoSl ρ vp1c0 p1c0) (hp : Hp Z ρ (Pt bp1c0 (.cells #[vp1c0] 25 (0, 0)) :: L) w) (r : Int) (hm : m_slices_IndexFunc_assessorlaw27_ProofModels_1 p0 p1c0 = some r) :
    Calls Tryz.prog 44 #[vp0, (.func (.func 23) #[] #[(.pointer (some ⟨bp1c0, 0, none⟩))])] w (Ret fun v w' => v = (.int .i64 r) ∧ Hp Z ρ (Pt bp1c0 (.cells #[vp1c0] 25 (0, 0)) :: L) w') := by
  refine enter (N := 19) Tryz.func44 rfl rfl [(0, vp0), (1, (.func (.func 23) #[] #[(.pointer (some ⟨bp1c0, 0, none⟩))]))] rfl (argsIn_mem ⟨rfl, rfl, trivial⟩) fun a hE => ?_
  unfold m_slices_IndexFunc_assessorlaw27_ProofModels_1 at hm
  refine k_seq ?_
  refine k_region ?_
  refine s_val (wk0 rfl) rfl rfl hE hp (v := (.int .i64 0)) (ex_asn rfl hE rfl) ?_
  intro a hE
  refine s_nil ?_
  refine k_seq ?_
  refine k_seq ?_
  refine k_region ?_
  refine s_val (wk0 rfl) rfl rfl hE hp (v := vp0) (ex_move rfl hE rfl) ?_
  intro a hE
  refine s_val (wk0 rfl) rfl rfl hE hp (v := (.int .i64 (p0.length : Int))) (ex_len rfl hE rfl (RoSl.len hp0 slty25)) ?_
  intro a hE
  refine s_val (wk0 rfl) rfl rfl hE hp (v := (.int .i64 0)) (ex_move rfl hE rfl) ?_
  intro a hE
  refine s_nil ?_
  obtain ⟨b1, hc1, hm⟩ := bnd hm
  refine k_block (fun a w => ∃ s : Unit, b1 = .brk s ∧ (Env 19 [] a ∧ Hp Z ρ (Pt bp1c0 (.cells #[vp1c0] 25 (0, 0)) :: L) w)) ?_ ?_
  · refine k_loop hc1 (fun s a w => Env 19 [(0, vp0), (1, (.func (.func 23) #[] #[(.pointer (some ⟨bp1c0, 0, none⟩))])), (7, (.int .i64 (p0.length : Int))), (8, (.int .i64 s))] a ∧ Hp Z ρ (Pt bp1c0 (.cells #[vp1c0] 25 (0, 0)) :: L) w) ?_ ?_
    · exact ⟨hE.cut ⟨rfl, rfl, rfl, rfl, trivial⟩, hp⟩
    · rintro lp1_0 st a w ⟨hE, hp⟩ hl1
      have hE : Env 19 [(0, vp0), (1, (.func (.func 23) #[] #[(.pointer (some ⟨bp1c0, 0, none⟩))])), (7, (.int .i64 (p0.length : Int))), (8, (.int .i64 lp1_0))] a := hE
      have hp : Hp Z ρ (Pt bp1c0 (.cells #[vp1c0] 25 (0, 0)) :: L) w := hp
      replace hl1 : m_slices_IndexFunc_assessorlaw27_ProofModels_1_lp1 p0 p1c0 lp1_0 = some st := hl1
      unfold m_slices_IndexFunc_assessorlaw27_ProofModels_1_lp1 at hl1
      refine k_seq ?_
      refine k_region ?_
      refine s_val (wk0 rfl) rfl rfl hE hp (v := (.bool (decide (lp1_0 < (p0.length : Int))))) (ex_lss rfl hE rfl rfl) ?_
      intro a hE
      refine s_nil ?_
      refine k_seq ?_
      refine k_if hE rfl (fun hc2 => ?_) (fun hc2 => ?_)
      · replace hl1 := (it hc2).symm.trans hl1
        refine k_skip ?_
        refine k_seq ?_
        refine k_plain ?_
        refine k_seq ?_
        refine k_region ?_
        refine s_val (wk0 rfl) rfl rfl hE hp (v := (.int .i64 lp1_0)) (ex_move rfl hE rfl) ?_
        intro a hE
        refine s_val (wk0 rfl) rfl rfl hE hp (v := (.int .i64 lp1_0)) (ex_asn rfl hE rfl) ?_
        intro a hE
        refine s_nil ?_
        refine k_seq ?_
        refine k_region ?_
        refine s_val (wk0 rfl) rfl rfl hE hp (v := (.func (.func 23) #[] #[(.pointer (some ⟨bp1c0, 0, none⟩))])) (ex_move rfl hE rfl) ?_
        intro a hE
        refine s_val (wk0 rfl) rfl rfl hE hp (v := vp0) (ex_move rfl hE rfl) ?_
        intro a hE
        refine s_val (wk0 rfl) rfl rfl hE hp (v := (.int .i64 lp1_0)) (ex_move rfl hE rfl) ?_
        intro a hE
        obtain ⟨x1, ex1, hl1⟩ := bnd hl1
        obtain ⟨b2, b2o, b2c, b2r, b2k, b2f⟩ := RoSl.at hp0 slty25 ex1
        obtain rfl : b2c = Enc.enc x1 := b2k
        have b2f : AtP ρ b2 b2o [(.int .i64 x1)] := b2f
        refine s_val (wk0 rfl) rfl rfl hE hp (v := (.pointer (some ⟨b2, b2o, none⟩))) (ex_index rfl hE rfl rfl b2r) ?_
        intro a hE
        refine s_val (wk0 rfl) rfl rfl hE hp (v := (.int .i64 x1)) (ex_load rfl hE rfl (fun w hw => run_ld1 varty3 (b2f.c 0 rfl w hw))) ?_
        intro a hE
        obtain ⟨x2, ex2, hl1⟩ := bnd hl1
        refine s_callv (wk0 rfl) rfl rfl hE rfl rfl [(.int .i64 x1)] ⟨rfl, trivial⟩ ent23 (c_assessorlaw27_ProofModels_1 hT x1 bp1c0 p1c0 vp1c0 hp1c0 hp x2 ex2) Ret.ret ?_
        intro v a w hR hE
        obtain ⟨rfl, hp⟩ := Ret.of hR
        have hp : Hp Z ρ (_ :: L) w := hp
        refine s_nil ?_
        have hE := hE.cut (E' := [(0, vp0), (1, (.func (.func 23) #[] #[(.pointer (some ⟨bp1c0, 0, none⟩))])), (5, (.int .i64 lp1_0)), (7, (.int .i64 (p0.length : Int))), (8, (.int .i64 lp1_0)), (16, (.bool x2))]) ⟨rfl, rfl, rfl, rfl, rfl, rfl, trivial⟩
        refine k_if hE rfl (fun hc3 => ?_) (fun hc3 => ?_)
        · replace hl1 := (it hc3).symm.trans hl1
          refine k_seq ?_
          refine k_region ?_
          refine s_val (wk0 rfl) rfl rfl hE hp (v := (.int .i64 lp1_0)) (ex_move rfl hE rfl) ?_
          intro a hE
          refine s_val (wk0 rfl) rfl rfl hE hp (v := (.int .i64 lp1_0)) (ex_asn rfl hE rfl) ?_
          intro a hE
          refine s_nil ?_
          refine k_ret ?_
          refine ⟨_, (Option.some.inj hl1).symm, fun hb => ?_⟩
          subst hb
          obtain rfl := Option.some.inj hm
          exact ret1 hE rfl rfl ⟨_, rfl, rfl, hp⟩
        · replace hl1 := (ie hc3).symm.trans hl1
          refine k_skip ?_
          refine k_region ?_
          obtain ⟨x3, ex3, hl1⟩ := bnd hl1
          refine s_val (wk0 rfl) rfl rfl hE hp (v := (.int .i64 x3)) (ex_add rfl hE rfl rfl (inK_some ex3)) ?_
          intro a hE
          refine s_val (wk0 rfl) rfl rfl hE hp (v := (.int .i64 x3)) (ex_move rfl hE rfl) ?_
          intro a hE
          refine s_nil ?_
          exact ⟨_, (Option.some.inj hl1).symm, hE.cut ⟨rfl, rfl, rfl, rfl, trivial⟩, hp⟩
      · replace hl1 := (ie hc2).symm.trans hl1
        refine k_exit ?_
        refine ⟨_, (Option.some.inj hl1).symm, fun hbb => ?_⟩
        exact ⟨_, hbb.symm, hE.cut trivial, hp⟩
  · rintro a w ⟨b1s, rfl, hE, hp⟩
    dsimp only at hm
    refine k_seq ?_
    refine k_region ?_
    refine s_val (wk0 rfl) rfl rfl hE hp (v := (.int .i64 (-1))) (ex_asn rfl hE rfl) ?_
    intro a hE
    refine s_nil ?_
    refine k_ret ?_
    obtain rfl := Option.some.inj hm
    exact ret1 hE rfl rfl ⟨_, rfl, rfl, hp⟩
set_option maxRecDepth 100000 in
set_option maxHeartbeats 4000000 in
theorem c_slices_ContainsFunc_assessorlaw27_ProofModels_1 {Z : World} {ρ : PH} {L : List Atom} {w : World} (hT : Tabs ρ) (p0 : (List Int)) (vp0 : Value) (hp0 : RoSl ρ vp0 p0) (bp1c0 : Nat) (p1c0 : (List Int)) (vp1c0 : Value) (hp1c0 : RoSl ρ vp1c0 p1c0) (hp : Hp Z ρ (Pt bp1c0 (.cells #[vp1c0] 25 (0, 0)) :: L) w) (r : Bool) (hm : m_slices_ContainsFunc_assessorlaw27_ProofModels_1 p0 p1c0 = some r) :
    Calls Tryz.prog 22 #[vp0, (.func (.func 23) #[] #[(.pointer (some ⟨bp1c0, 0, none⟩))])] w (Ret fun v w' => v = (.bool r) ∧ Hp Z ρ (Pt bp1c0 (.cells #[vp1c0] 25 (0, 0)) :: L) w') := by
  refine enter (N := 9) Tryz.func22 rfl rfl [(0, vp0), (1, (.func (.func 23) #[] #[(.pointer (some ⟨bp1c0, 0, none⟩))]))] rfl (argsIn_mem ⟨rfl, rfl, trivial⟩) fun a hE => ?_
  unfold m_slices_ContainsFunc_assessorlaw27_ProofModels_1 at hm
  refine k_seq ?_
  refine k_region ?_
  refine s_val (wk0 rfl) rfl rfl hE hp (v := (.bool false)) (ex_asn rfl hE rfl) ?_
  intro a hE
  refine s_nil ?_
  refine k_seq ?_
  refine k_region ?_
  refine s_val (wk0 rfl) rfl rfl hE hp (v := vp0) (ex_move rfl hE rfl) ?_
  intro a hE
  refine s_val (wk0 rfl) rfl rfl hE hp (v := (.func (.func 23) #[] #[(.pointer (some ⟨bp1c0, 0, none⟩))])) (ex_move rfl hE rfl) ?_
  intro a hE
  obtain ⟨x1, ex1, hm⟩ := bnd hm
  refine s_call (wk0 rfl) rfl rfl hE rfl [vp0, (.func (.func 23) #[] #[(.pointer (some ⟨bp1c0, 0, none⟩))])] ⟨rfl, rfl, trivial⟩ ent44 (c_slices_IndexFunc_assessorlaw27_ProofModels_1 hT p0 vp0 hp0 bp1c0 p1c0 vp1c0 hp1c0 hp x1 ex1) Ret.ret ?_
  intro v a w hR hE
  obtain ⟨rfl, hp⟩ := Ret.of hR
  have hp : Hp Z ρ (Pt bp1c0 (.cells #[vp1c0] 25 (0, 0)) :: L) w := hp
  refine s_val (wk0 rfl) rfl rfl hE hp (v := (.bool (decide (0 ≤ x1)))) (ex_geq rfl hE rfl rfl) ?_
  intro a hE
  refine s_val (wk0 rfl) rfl rfl hE hp (v := (.bool (decide (0 ≤ x1)))) (ex_asn rfl hE rfl) ?_
  intro a hE
  refine s_nil ?_
  refine k_ret ?_
  obtain rfl := Option.some.inj hm
  exact ret1 hE rfl rfl ⟨_, rfl, rfl, hp⟩
set_option maxRecDepth 100000 in
set_option maxHeartbeats 4000000 in
theorem c_assessorlaw27_ProofModels {Z : World} {ρ : PH} {L : List Atom} {w : World} (hT : Tabs ρ) (p0 : Formula) (vp0_clauses : Value) (hp0_clauses : RoSl ρ vp0_clauses p0.clauses) (p1 : (List Int)) (vp1 : Value) (hp1 : RoSl ρ vp1 p1) (p2 : Int) (hp : Hp Z ρ (L) w) (r : Bool) (hm : m_assessorlaw27_ProofModels p0 p1 p2 = some r) :
    Calls Tryz.prog 4 #[(.agg #[(.int .i64 p0.vars), vp0_clauses]), vp1, (.int .i64 p2)] w (Ret fun v w' => v = (.bool r) ∧ Hp Z ρ (L) w') := by
  refine enter (N := 127) Tryz.func4 rfl rfl [(0, (.agg #[(.int .i64 p0.vars), vp0_clauses])), (1, vp1), (2, (.int .i64 p2))] rfl (argsIn_mem ⟨rfl, rfl, rfl, trivial⟩) fun a hE => ?_
  unfold m_assessorlaw27_ProofModels at hm
  refine k_seq ?_
  refine k_region ?_
  refine s_box (wk0 rfl) rfl rfl hE hp rfl (v := (.agg #[(.int .i64 p0.vars), vp0_clauses])) rfl ?_
  intro a w b1 hE hp
  have hp : Hp Z ρ (Pt b1 (.cells #[(.int .i64 p0.vars), vp0_clauses] 24 (0, 0)) :: L) w := hp
  refine s_val (wk0 rfl) rfl rfl hE hp (v := (.bool false)) (ex_asn rfl hE rfl) ?_
  intro a hE
  refine s_nil ?_
  refine k_seq ?_
  refine k_seq ?_
  refine k_region ?_
  obtain ⟨x1, ex1, hm⟩ := bnd hm
  refine s_call (wk0 rfl) rfl rfl hE rfl [] trivial ent5 (c_assessorlaw27_awake hT hp x1 ex1) Ret.ret ?_
  intro v a w hR hE
  obtain ⟨rfl, hp⟩ := Ret.of hR
  have hp : Hp Z ρ (_ :: L) w := hp
  refine s_val (wk0 rfl) rfl rfl hE hp (v := (.bool (!x1))) (ex_not rfl hE rfl) ?_
  intro a hE
  refine s_nil ?_
  refine k_if hE rfl (fun hc1 => ?_) (fun hc1 => ?_)
  · replace hm := (it hc1).symm.trans hm
    refine k_seq ?_
    refine k_region ?_
    refine s_val (wk0 rfl) rfl rfl hE hp (v := (.bool false)) (ex_asn rfl hE rfl) ?_
    intro a hE
    refine s_nil ?_
    refine k_ret ?_
    obtain rfl := Option.some.inj hm
    exact ret1 hE rfl rfl ⟨_, rfl, rfl, (hp.drop)⟩
  · replace hm := (ie hc1).symm.trans hm
    refine k_skip ?_
    refine k_seq ?_
    refine k_seq ?_
    refine k_region ?_
    refine s_val (wk0 rfl) rfl rfl hE hp (v := (.agg #[(.int .i64 p0.vars), vp0_clauses])) (ex_load rfl hE rfl (fun w hw => run_ldN (cs := [(.int .i64 p0.vars), vp0_clauses]) varty24 (Hp.cN 0 rfl 0 _ (sub_all rfl) w hw))) ?_
    intro a hE
    obtain ⟨x2, ex2, hm⟩ := bnd hm
    refine s_call (wk0 rfl) rfl rfl hE rfl [(.agg #[(.int .i64 p0.vars), vp0_clauses]), (.int .i64 8), (.int .i64 30)] ⟨rfl, rfl, rfl, trivial⟩ ent6 (c_assessorref26_Small hT p0 vp0_clauses hp0_clauses 8 30 hp x2 ex2) Ret.ret ?_
    intro v a w hR hE
    obtain ⟨rfl, hp⟩ := Ret.of hR
    have hp : Hp Z ρ (_ :: L) w := hp
    refine s_val (wk0 rfl) rfl rfl hE hp (v := (.bool (!x2))) (ex_not rfl hE rfl) ?_
    intro a hE
    refine s_val (wk0 rfl) rfl rfl hE hp (v := (.bool (!x2))) (ex_move rfl hE rfl) ?_
    intro a hE
    obtain ⟨m1, hg1, hm⟩ := bnd hm
    refine s_cut [_, _, _, _] (fun a w => Env 127 [(26, (.bool m1)), (1, vp1), (2, (.int .i64 p2)), (3, (.pointer (some ⟨b1, 0, none⟩)))] a ∧ Hp Z ρ (Pt b1 (.cells #[(.int .i64 p0.vars), vp0_clauses] 24 (0, 0)) :: L) w) ?_ ?_
    · rcases Bool.eq_false_or_eq_true (!x2) with hc2 | hc2
      ·
        replace hg1 := (it hc2).symm.trans hg1
        refine s_skip (wk2 hE rfl rfl rfl hc2) rfl rfl hE ?_
        intro a hE
        refine s_skip (wk2 hE rfl rfl rfl hc2) rfl rfl hE ?_
        intro a hE
        refine s_skip (wk2 hE rfl rfl rfl hc2) rfl rfl hE ?_
        intro a hE
        refine s_val (wk0 rfl) rfl rfl hE hp (v := (.bool true)) (ex_pick1 rfl hE rfl hc2 rfl) ?_
        intro a hE
        obtain rfl := Option.some.inj hg1
        exact s_nil ⟨hE.cut ⟨rfl, rfl, rfl, rfl, trivial⟩, hp⟩
      ·
        replace hg1 := (ie hc2).symm.trans hg1
        refine s_val (wk1 hE rfl rfl rfl hc2) rfl rfl hE hp (v := (.agg #[(.int .i64 p0.vars), vp0_clauses])) (ex_load rfl hE rfl (fun w hw => run_ldN (cs := [(.int .i64 p0.vars), vp0_clauses]) varty24 (Hp.cN 0 rfl 0 _ (sub_all rfl) w hw))) ?_
        intro a hE
        obtain ⟨x3, ex3, hg1⟩ := bnd hg1
        refine s_call (wk1 hE rfl rfl rfl hc2) rfl rfl hE rfl [(.agg #[(.int .i64 p0.vars), vp0_clauses])] ⟨rfl, trivial⟩ ent18 (c_cnf_Valid hT p0 vp0_clauses hp0_clauses hp x3 ex3) Ret.ret ?_
        intro v a w hR hE
        obtain ⟨rfl, hp⟩ := Ret.of hR
        have hp : Hp Z ρ (_ :: L) w := hp
        refine s_val (wk1 hE rfl rfl rfl hc2) rfl rfl hE hp (v := (.bool (!x3))) (ex_not rfl hE rfl) ?_
        intro a hE
        refine s_val (wk0 rfl) rfl rfl hE hp (v := (.bool (!x3))) (ex_pick0 rfl hE rfl hc2 rfl) ?_
        intro a hE
        obtain rfl := Option.some.inj hg1
        exact s_nil ⟨hE.cut ⟨rfl, rfl, rfl, rfl, trivial⟩, hp⟩
    · rintro a w ⟨hE, hp⟩
      refine s_val (wk0 rfl) rfl rfl hE hp (v := (.bool m1)) (ex_move rfl hE rfl) ?_
      intro a hE
      refine s_cut [_, _, _, _] (fun a w => Env 127 [(31, (.bool (m1 || (decide (8 < (p1.length : Int)))))), (1, vp1), (2, (.int .i64 p2)), (3, (.pointer (some ⟨b1, 0, none⟩)))] a ∧ Hp Z ρ (Pt b1 (.cells #[(.int .i64 p0.vars), vp0_clauses] 24 (0, 0)) :: L) w) ?_ ?_
      · rcases Bool.eq_false_or_eq_true m1 with hc3 | hc3
        ·
          refine s_skip (wk2 hE rfl rfl rfl hc3) rfl rfl hE ?_
          intro a hE
          refine s_skip (wk2 hE rfl rfl rfl hc3) rfl rfl hE ?_
          intro a hE
          refine s_skip (wk2 hE rfl rfl rfl hc3) rfl rfl hE ?_
          intro a hE
          refine s_val (wk0 rfl) rfl rfl hE hp (v := (.bool true)) (ex_pick1 rfl hE rfl hc3 rfl) ?_
          intro a hE
          have hE := hE.eqv (v' := (.bool (m1 || (decide (8 < (p1.length : Int)))))) (by rw [hc3]; rfl)
          exact s_nil ⟨hE.cut ⟨rfl, rfl, rfl, rfl, trivial⟩, hp⟩
        ·
          refine s_val (wk1 hE rfl rfl rfl hc3) rfl rfl hE hp (v := vp1) (ex_move rfl hE rfl) ?_
          intro a hE
          refine s_val (wk1 hE rfl rfl rfl hc3) rfl rfl hE hp (v := (.int .i64 (p1.length : Int))) (ex_len rfl hE rfl (RoSl.len hp1 slty25)) ?_
          intro a hE
          refine s_val (wk1 hE rfl rfl rfl hc3) rfl rfl hE hp (v := (.bool (decide (8 < (p1.length : Int))))) (ex_gtr rfl hE rfl rfl) ?_
          intro a hE
          refine s_val (wk0 rfl) rfl rfl hE hp (v := (.bool (decide (8 < (p1.length : Int))))) (ex_pick0 rfl hE rfl hc3 rfl) ?_
          intro a hE
          have hE := hE.eqv (v' := (.bool (m1 || (decide (8 < (p1.length : Int)))))) (by rw [hc3]; rfl)
          exact s_nil ⟨hE.cut ⟨rfl, rfl, rfl, rfl, trivial⟩, hp⟩
      · rintro a w ⟨hE, hp⟩
        refine s_nil ?_
        refine k_if hE rfl (fun hc4 => ?_) (fun hc4 => ?_)
        · replace hm := (it hc4).symm.trans hm
          refine k_seq ?_
          refine k_region ?_
          refine s_val (wk0 rfl) rfl rfl hE hp (v := (.bool true)) (ex_asn rfl hE rfl) ?_
          intro a hE
          refine s_nil ?_
          refine k_ret ?_
          obtain rfl := Option.some.inj hm
          exact ret1 hE rfl rfl ⟨_, rfl, rfl, (hp.drop)⟩
        · replace hm := (ie hc4).symm.trans hm
          refine k_skip ?_
          refine k_seq ?_
          refine k_seq ?_
          refine k_region ?_
          refine s_val (wk0 rfl) rfl rfl hE hp (v := (.pointer (some ⟨b1, 1, none⟩))) (ex_field rfl hE rfl (fldty24_1 _ _)) ?_
          intro a hE
          refine s_val (wk0 rfl) rfl rfl hE hp (v := vp0_clauses) (ex_load rfl hE rfl (fun w hw => run_ld1 varty22 (Hp.c 0 rfl 1 rfl w hw))) ?_
          intro a hE
          refine s_val (wk0 rfl) rfl rfl hE hp (v := (.int .i64 (p0.clauses.length : Int))) (ex_len rfl hE rfl (RoSl.len hp0_clauses slty22)) ?_
          intro a hE
          refine s_val (wk0 rfl) rfl rfl hE hp (v := (.int .i64 0)) (ex_move rfl hE rfl) ?_
          intro a hE
          refine s_nil ?_
          obtain ⟨b2, hc5, hm⟩ := bnd hm
          refine k_block (fun a w => ∃ s : Unit, b2 = .brk s ∧ (Env 127 [(1, vp1), (2, (.int .i64 p2)), (3, (.pointer (some ⟨b1, 0, none⟩)))] a ∧ Hp Z ρ (Pt b1 (.cells #[(.int .i64 p0.vars), vp0_clauses] 24 (0, 0)) :: L) w)) ?_ ?_
          · refine k_loop hc5 (fun s a w => Env 127 [(1, vp1), (2, (.int .i64 p2)), (3, (.pointer (some ⟨b1, 0, none⟩))), (33, vp0_clauses), (34, (.int .i64 (p0.clauses.length : Int))), (35, (.int .i64 s))] a ∧ Hp Z ρ (Pt b1 (.cells #[(.int .i64 p0.vars), vp0_clauses] 24 (0, 0)) :: L) w) ?_ ?_
            · exact ⟨hE.cut ⟨rfl, rfl, rfl, rfl, rfl, rfl, trivial⟩, hp⟩
            · rintro lp1_0 st a w ⟨hE, hp⟩ hl1
              have hE : Env 127 [(1, vp1), (2, (.int .i64 p2)), (3, (.pointer (some ⟨b1, 0, none⟩))), (33, vp0_clauses), (34, (.int .i64 (p0.clauses.length : Int))), (35, (.int .i64 lp1_0))] a := hE
              have hp : Hp Z ρ (_ :: L) w := hp
              replace hl1 : m_assessorlaw27_ProofModels_lp1 p0 lp1_0 = some st := hl1
              unfold m_assessorlaw27_ProofModels_lp1 at hl1
              refine k_seq ?_
              refine k_region ?_
              refine s_val (wk0 rfl) rfl rfl hE hp (v := (.bool (decide (lp1_0 < (p0.clauses.length : Int))))) (ex_lss rfl hE rfl rfl) ?_
              intro a hE
              refine s_nil ?_
              refine k_seq ?_
              refine k_if hE rfl (fun hc6 => ?_) (fun hc6 => ?_)
              · replace hl1 := (it hc6).symm.trans hl1
                refine k_skip ?_
                refine k_seq ?_
                refine k_plain ?_
                refine k_seq ?_
                refine k_region ?_
                obtain ⟨x4, ex4, hl1⟩ := bnd hl1
                obtain ⟨b3, b3o, b3c, b3r, b3k, b3f⟩ := RoSl.at hp0_clauses slty22 ex4
                obtain ⟨vb3, rfl, hb3⟩ := b3k
                have b3f : AtP ρ b3 b3o [vb3] := b3f
                refine s_val (wk0 rfl) rfl rfl hE hp (v := (.pointer (some ⟨b3, b3o, none⟩))) (ex_index rfl hE rfl rfl b3r) ?_
                intro a hE
                refine s_val (wk0 rfl) rfl rfl hE hp (v := vb3) (ex_load rfl hE rfl (fun w hw => run_ld1 varty25 (b3f.c 0 rfl w hw))) ?_
                intro a hE
                refine s_val (wk0 rfl) rfl rfl hE hp (v := vb3) (ex_asn rfl hE rfl) ?_
                intro a hE
                refine s_nil ?_
                refine k_seq ?_
                refine k_region ?_
                refine s_val (wk0 rfl) rfl rfl hE hp (v := (.agg #[(.int .i64 p0.vars), vp0_clauses])) (ex_load rfl hE rfl (fun w hw => run_ldN (cs := [(.int .i64 p0.vars), vp0_clauses]) varty24 (Hp.cN 0 rfl 0 _ (sub_all rfl) w hw))) ?_
                intro a hE
                refine s_val (wk0 rfl) rfl rfl hE hp (v := vb3) (ex_move rfl hE rfl) ?_
                intro a hE
                obtain ⟨x5, ex5, hl1⟩ := bnd hl1
                refine s_call (wk0 rfl) rfl rfl hE rfl [(.agg #[(.int .i64 p0.vars), vp0_clauses]), vb3] ⟨rfl, rfl, trivial⟩ ent19 (c_proof_Follows hT p0 vp0_clauses hp0_clauses x4 vb3 hb3 hp x5 ex5) Ret.ret ?_
                intro v a w hR hE
                obtain ⟨rfl, hp⟩ := Ret.of hR
                have hp : Hp Z ρ (_ :: L) w := hp
                refine s_val (wk0 rfl) rfl rfl hE hp (v := (.tuple #[(.bool x5.1), (.int .i64 x5.2)])) (ex_move rfl hE rfl) ?_
                intro a hE
                refine s_val (wk0 rfl) rfl rfl hE hp (v := (.bool x5.1)) (ex_extract rfl hE rfl rfl) ?_
                intro a hE
                refine s_val (wk0 rfl) rfl rfl hE hp (v := (.int .i64 x5.2)) (ex_extract rfl hE rfl rfl) ?_
                intro a hE
                refine s_val (wk0 rfl) rfl rfl hE hp (v := (.bool x5.1)) (ex_asn rfl hE rfl) ?_
                intro a hE
                refine s_val (wk0 rfl) rfl rfl hE hp (v := (.int .i64 x5.2)) (ex_asn rfl hE rfl) ?_
                intro a hE
                refine s_nil ?_
                refine k_seq ?_
                refine k_region ?_
                refine s_val (wk0 rfl) rfl rfl hE hp (v := (.bool x5.1)) (ex_move rfl hE rfl) ?_
                intro a hE
                refine s_val (wk0 rfl) rfl rfl hE hp (v := (.bool (!x5.1))) (ex_not rfl hE rfl) ?_
                intro a hE
                refine s_val (wk0 rfl) rfl rfl hE hp (v := (.bool (!x5.1))) (ex_move rfl hE rfl) ?_
                intro a hE
                refine s_cut [_, _, _] (fun a w => Env 127 [(50, (.bool ((!x5.1) || (!decide (x5.2 = 0))))), (1, vp1), (2, (.int .i64 p2)), (3, (.pointer (some ⟨b1, 0, none⟩))), (33, vp0_clauses), (34, (.int .i64 (p0.clauses.length : Int))), (35, (.int .i64 lp1_0))] a ∧ Hp Z ρ (Pt b1 (.cells #[(.int .i64 p0.vars), vp0_clauses] 24 (0, 0)) :: L) w) ?_ ?_
                · rcases Bool.eq_false_or_eq_true (!x5.1) with hc7 | hc7
                  ·
                    refine s_skip (wk2 hE rfl rfl rfl hc7) rfl rfl hE ?_
                    intro a hE
                    refine s_skip (wk2 hE rfl rfl rfl hc7) rfl rfl hE ?_
                    intro a hE
                    refine s_val (wk0 rfl) rfl rfl hE hp (v := (.bool true)) (ex_pick1 rfl hE rfl hc7 rfl) ?_
                    intro a hE
                    have hE := hE.eqv (v' := (.bool ((!x5.1) || (!decide (x5.2 = 0))))) (by rw [hc7]; rfl)
                    exact s_nil ⟨hE.cut ⟨rfl, rfl, rfl, rfl, rfl, rfl, rfl, trivial⟩, hp⟩
                  ·
                    refine s_val (wk1 hE rfl rfl rfl hc7) rfl rfl hE hp (v := (.int .i64 x5.2)) (ex_move rfl hE rfl) ?_
                    intro a hE
                    refine s_val (wk1 hE rfl rfl rfl hc7) rfl rfl hE hp (v := (.bool (!decide (x5.2 = 0)))) (ex_neq rfl hE rfl rfl) ?_
                    intro a hE
                    refine s_val (wk0 rfl) rfl rfl hE hp (v := (.bool (!decide (x5.2 = 0)))) (ex_pick0 rfl hE rfl hc7 rfl) ?_
                    intro a hE
                    have hE := hE.eqv (v' := (.bool ((!x5.1) || (!decide (x5.2 = 0))))) (by rw [hc7]; rfl)
                    exact s_nil ⟨hE.cut ⟨rfl, rfl, rfl, rfl, rfl, rfl, rfl, trivial⟩, hp⟩
                · rintro a w ⟨hE, hp⟩
                  refine s_nil ?_
                  refine k_if hE rfl (fun hc8 => ?_) (fun hc8 => ?_)
                  · replace hl1 := (it hc8).symm.trans hl1
                    refine k_seq ?_
                    refine k_region ?_
                    refine s_val (wk0 rfl) rfl rfl hE hp (v := (.bool false)) (ex_asn rfl hE rfl) ?_
                    intro a hE
                    refine s_nil ?_
                    refine k_ret ?_
                    refine ⟨_, (Option.some.inj hl1).symm, fun hb => ?_⟩
                    subst hb
                    obtain rfl := Option.some.inj hm
                    exact ret1 hE rfl rfl ⟨_, rfl, rfl, (hp.drop)⟩
                  · replace hl1 := (ie hc8).symm.trans hl1
                    refine k_skip ?_
                    refine k_region ?_
                    obtain ⟨x6, ex6, hl1⟩ := bnd hl1
                    refine s_val (wk0 rfl) rfl rfl hE hp (v := (.int .i64 x6)) (ex_add rfl hE rfl rfl (inK_some ex6)) ?_
                    intro a hE
                    refine s_val (wk0 rfl) rfl rfl hE hp (v := (.int .i64 x6)) (ex_move rfl hE rfl) ?_
                    intro a hE
                    refine s_nil ?_
                    exact ⟨_, (Option.some.inj hl1).symm, hE.cut ⟨rfl, rfl, rfl, rfl, rfl, rfl, trivial⟩, hp⟩
              · replace hl1 := (ie hc6).symm.trans hl1
                refine k_exit ?_
                refine ⟨_, (Option.some.inj hl1).symm, fun hbb => ?_⟩
                exact ⟨_, hbb.symm, hE.cut ⟨rfl, rfl, rfl, trivial⟩, hp⟩
          · rintro a w ⟨b2s, rfl, hE, hp⟩
            dsimp only at hm
            refine k_seq ?_
            refine k_region ?_
            refine s_val (wk0 rfl) rfl rfl hE hp (v := (.agg #[(.int .i64 p0.vars), vp0_clauses])) (ex_load rfl hE rfl (fun w hw => run_ldN (cs := [(.int .i64 p0.vars), vp0_clauses]) varty24 (Hp.cN 0 rfl 0 _ (sub_all rfl) w hw))) ?_
            intro a hE
            refine s_val (wk0 rfl) rfl rfl hE hp (v := vp1) (ex_move rfl hE rfl) ?_
            intro a hE
            obtain ⟨x7, ex7, hm⟩ := bnd hm
            refine s_call (wk0 rfl) rfl rfl hE rfl [(.agg #[(.int .i64 p0.vars), vp0_clauses]), vp1] ⟨rfl, rfl, trivial⟩ ent19 (c_proof_Follows hT p0 vp0_clauses hp0_clauses p1 vp1 hp1 hp x7 ex7) Ret.ret ?_
            intro v a w hR hE
            obtain ⟨rfl, hp⟩ := Ret.of hR
            have hp : Hp Z ρ (_ :: L) w := hp
            refine s_val (wk0 rfl) rfl rfl hE hp (v := (.tuple #[(.bool x7.1), (.int .i64 x7.2)])) (ex_move rfl hE rfl) ?_
            intro a hE
            refine s_val (wk0 rfl) rfl rfl hE hp (v := (.bool x7.1)) (ex_extract rfl hE rfl rfl) ?_
            intro a hE
            refine s_val (wk0 rfl) rfl rfl hE hp (v := (.int .i64 x7.2)) (ex_extract rfl hE rfl rfl) ?_
            intro a hE
            refine s_val (wk0 rfl) rfl rfl hE hp (v := (.bool x7.1)) (ex_asn rfl hE rfl) ?_
            intro a hE
            refine s_val (wk0 rfl) rfl rfl hE hp (v := (.int .i64 x7.2)) (ex_asn rfl hE rfl) ?_
            intro a hE
            refine s_nil ?_
            refine k_seq ?_
            refine k_seq ?_
            refine k_region ?_
            refine s_val (wk0 rfl) rfl rfl hE hp (v := (.int .i64 x7.2)) (ex_move rfl hE rfl) ?_
            intro a hE
            refine s_val (wk0 rfl) rfl rfl hE hp (v := (.bool (!decide (x7.2 = 0)))) (ex_neq rfl hE rfl rfl) ?_
            intro a hE
            refine s_val (wk0 rfl) rfl rfl hE hp (v := (.bool (!decide (x7.2 = 0)))) (ex_move rfl hE rfl) ?_
            intro a hE
            refine s_cut [_, _, _] (fun a w => Env 127 [(63, (.bool ((!decide (x7.2 = 0)) || (!x7.1)))), (1, vp1), (2, (.int .i64 p2)), (3, (.pointer (some ⟨b1, 0, none⟩))), (11, (.bool x7.1)), (12, (.int .i64 x7.2))] a ∧ Hp Z ρ (Pt b1 (.cells #[(.int .i64 p0.vars), vp0_clauses] 24 (0, 0)) :: L) w) ?_ ?_
            · rcases Bool.eq_false_or_eq_true (!decide (x7.2 = 0)) with hc9 | hc9
              ·
                refine s_skip (wk2 hE rfl rfl rfl hc9) rfl rfl hE ?_
                intro a hE
                refine s_skip (wk2 hE rfl rfl rfl hc9) rfl rfl hE ?_
                intro a hE
                refine s_val (wk0 rfl) rfl rfl hE hp (v := (.bool true)) (ex_pick1 rfl hE rfl hc9 rfl) ?_
                intro a hE
                have hE := hE.eqv (v' := (.bool ((!decide (x7.2 = 0)) || (!x7.1)))) (by rw [hc9]; rfl)
                exact s_nil ⟨hE.cut ⟨rfl, rfl, rfl, rfl, rfl, rfl, trivial⟩, hp⟩
              ·
                refine s_val (wk1 hE rfl rfl rfl hc9) rfl rfl hE hp (v := (.bool x7.1)) (ex_move rfl hE rfl) ?_
                intro a hE
                refine s_val (wk1 hE rfl rfl rfl hc9) rfl rfl hE hp (v := (.bool (!x7.1))) (ex_not rfl hE rfl) ?_
                intro a hE
                refine s_val (wk0 rfl) rfl rfl hE hp (v := (.bool (!x7.1))) (ex_pick0 rfl hE rfl hc9 rfl) ?_
                intro a hE
                have hE := hE.eqv (v' := (.bool ((!decide (x7.2 = 0)) || (!x7.1)))) (by rw [hc9]; rfl)
                exact s_nil ⟨hE.cut ⟨rfl, rfl, rfl, rfl, rfl, rfl, trivial⟩, hp⟩
            · rintro a w ⟨hE, hp⟩
              refine s_nil ?_
              refine k_if hE rfl (fun hc10 => ?_) (fun hc10 => ?_)
              · replace hm := (it hc10).symm.trans hm
                refine k_seq ?_
                refine k_region ?_
                refine s_val (wk0 rfl) rfl rfl hE hp (v := (.int .i64 x7.2)) (ex_move rfl hE rfl) ?_
                intro a hE
                refine s_val (wk0 rfl) rfl rfl hE hp (v := (.bool (decide (x7.2 = 0)))) (ex_eql rfl hE rfl rfl) ?_
                intro a hE
                refine s_val (wk0 rfl) rfl rfl hE hp (v := (.bool (decide (x7.2 = 0)))) (ex_move rfl hE rfl) ?_
                intro a hE
                refine s_cut [_, _, _] (fun a w => Env 127 [(69, (.bool ((decide (x7.2 = 0)) || (!x7.1))))] a ∧ Hp Z ρ (Pt b1 (.cells #[(.int .i64 p0.vars), vp0_clauses] 24 (0, 0)) :: L) w) ?_ ?_
                · rcases Bool.eq_false_or_eq_true (decide (x7.2 = 0)) with hc11 | hc11
                  ·
                    refine s_skip (wk2 hE rfl rfl rfl hc11) rfl rfl hE ?_
                    intro a hE
                    refine s_skip (wk2 hE rfl rfl rfl hc11) rfl rfl hE ?_
                    intro a hE
                    refine s_val (wk0 rfl) rfl rfl hE hp (v := (.bool true)) (ex_pick1 rfl hE rfl hc11 rfl) ?_
                    intro a hE
                    have hE := hE.eqv (v' := (.bool ((decide (x7.2 = 0)) || (!x7.1)))) (by rw [hc11]; rfl)
                    exact s_nil ⟨hE.cut ⟨rfl, trivial⟩, hp⟩
                  ·
                    refine s_val (wk1 hE rfl rfl rfl hc11) rfl rfl hE hp (v := (.bool x7.1)) (ex_move rfl hE rfl) ?_
                    intro a hE
                    refine s_val (wk1 hE rfl rfl rfl hc11) rfl rfl hE hp (v := (.bool (!x7.1))) (ex_not rfl hE rfl) ?_
                    intro a hE
                    refine s_val (wk0 rfl) rfl rfl hE hp (v := (.bool (!x7.1))) (ex_pick0 rfl hE rfl hc11 rfl) ?_
                    intro a hE
                    have hE := hE.eqv (v' := (.bool ((decide (x7.2 = 0)) || (!x7.1)))) (by rw [hc11]; rfl)
                    exact s_nil ⟨hE.cut ⟨rfl, trivial⟩, hp⟩
                · rintro a w ⟨hE, hp⟩
                  refine s_val (wk0 rfl) rfl rfl hE hp (v := (.bool ((decide (x7.2 = 0)) || (!x7.1)))) (ex_asn rfl hE rfl) ?_
                  intro a hE
                  refine s_nil ?_
                  refine k_ret ?_
                  obtain rfl := Option.some.inj hm
                  exact ret1 hE rfl rfl ⟨_, rfl, rfl, (hp.drop)⟩
              · replace hm := (ie hc10).symm.trans hm
                refine k_skip ?_
                refine k_seq ?_
                refine k_seq ?_
                refine k_region ?_
                refine s_val (wk0 rfl) rfl rfl hE hp (v := (.pointer (some ⟨b1, 0, none⟩))) (ex_field rfl hE rfl (fldty24_0 _ _)) ?_
                intro a hE
                refine s_val (wk0 rfl) rfl rfl hE hp (v := (.int .i64 p0.vars)) (ex_load rfl hE rfl (fun w hw => run_ld1 varty3 (Hp.c 0 rfl 0 rfl w hw))) ?_
                intro a hE
                obtain ⟨x8, ex8, hm⟩ := bnd hm
                refine s_val (wk0 rfl) rfl rfl hE hp (v := (.int .i64 x8)) (ex_shl rfl hE rfl rfl ex8) ?_
                intro a hE
                refine s_val (wk0 rfl) rfl rfl hE hp (v := (.int .i64 0)) (ex_move rfl hE rfl) ?_
                intro a hE
                refine s_nil ?_
                obtain ⟨b4, hc12, hm⟩ := bnd hm
                refine k_block (fun a w => ∃ s : Unit, b4 = .brk s ∧ (Env 127 [(1, vp1), (2, (.int .i64 p2)), (3, (.pointer (some ⟨b1, 0, none⟩)))] a ∧ Hp Z ρ (Pt b1 (.cells #[(.int .i64 p0.vars), vp0_clauses] 24 (0, 0)) :: L) w)) ?_ ?_
                · refine k_loop hc12 (fun s a w => Env 127 [(1, vp1), (2, (.int .i64 p2)), (3, (.pointer (some ⟨b1, 0, none⟩))), (72, (.int .i64 x8)), (73, (.int .i64 s))] a ∧ Hp Z ρ (Pt b1 (.cells #[(.int .i64 p0.vars), vp0_clauses] 24 (0, 0)) :: L) w) ?_ ?_
                  · exact ⟨hE.cut ⟨rfl, rfl, rfl, rfl, rfl, trivial⟩, hp⟩
                  · rintro lp2_0 st a w ⟨hE, hp⟩ hl2
                    have hE : Env 127 [(1, vp1), (2, (.int .i64 p2)), (3, (.pointer (some ⟨b1, 0, none⟩))), (72, (.int .i64 x8)), (73, (.int .i64 lp2_0))] a := hE
                    have hp : Hp Z ρ (_ :: L) w := hp
                    replace hl2 : m_assessorlaw27_ProofModels_lp2 p0 p1 x8 lp2_0 = some st := hl2
                    unfold m_assessorlaw27_ProofModels_lp2 at hl2
                    refine k_seq ?_
                    refine k_region ?_
                    refine s_val (wk0 rfl) rfl rfl hE hp (v := (.bool (decide (lp2_0 < x8)))) (ex_lss rfl hE rfl rfl) ?_
                    intro a hE
                    refine s_nil ?_
                    refine k_seq ?_
                    refine k_if hE rfl (fun hc13 => ?_) (fun hc13 => ?_)
                    · replace hl2 := (it hc13).symm.trans hl2
                      refine k_skip ?_
                      refine k_seq ?_
                      refine k_plain ?_
                      refine k_seq ?_
                      refine k_region ?_
                      refine s_val (wk0 rfl) rfl rfl hE hp (v := (.int .i64 lp2_0)) (ex_move rfl hE rfl) ?_
                      intro a hE
                      refine s_val (wk0 rfl) rfl rfl hE hp (v := (.int .i64 lp2_0)) (ex_asn rfl hE rfl) ?_
                      intro a hE
                      refine s_nil ?_
                      refine k_seq ?_
                      refine k_region ?_
                      refine s_val (wk0 rfl) rfl rfl hE hp (v := (.pointer (some ⟨b1, 0, none⟩))) (ex_field rfl hE rfl (fldty24_0 _ _)) ?_
                      intro a hE
                      refine s_val (wk0 rfl) rfl rfl hE hp (v := (.int .i64 p0.vars)) (ex_load rfl hE rfl (fun w hw => run_ld1 varty3 (Hp.c 0 rfl 0 rfl w hw))) ?_
                      intro a hE
                      refine s_val (wk0 rfl) rfl rfl hE hp (v := (.int .i64 lp2_0)) (ex_move rfl hE rfl) ?_
                      intro a hE
                      obtain ⟨x9, ex9, hl2⟩ := bnd hl2
                      refine s_call (wk0 rfl) rfl rfl hE rfl [(.int .i64 p0.vars), (.int .i64 lp2_0)] ⟨rfl, rfl, trivial⟩ ent20 (c_assessorref27_Model hT p0.vars lp2_0 hp x9 ex9) Ret.ret ?_
                      intro vr8 a w hR hE
                      obtain ⟨u, rfl, hp⟩ := Ret.of hR
                      have hp : Hp Z ρ (OwnSl 3 vr8 x9 :: _ :: L) w := hp
                      refine s_new (wk0 rfl) rfl rfl hE hp rfl [(.slice none 0 0)] (fun w => by simp [Instr.alloc, go_sem] <;> rfl) ?_
                      intro a w b5 hE hp
                      have hp : Hp Z ρ (Pt b5 (.cells #[(.slice none 0 0)] 25 (0, 0)) :: _ :: _ :: L) w := hp
                      refine s_store1 (wk0 rfl) rfl hE hp rfl rfl rfl 0 rfl varty25.size_ (OwnSl.cells hp 1 rfl) (OwnSl.one hp 1 rfl) rfl [vr8] rfl ?_
                      intro w hp
                      have hp : Hp Z ρ (Pt b5 (.cells #[vr8] 25 (0, 0)) :: _ :: _ :: L) w := hp
                      refine s_nil ?_
                      refine k_seq ?_
                      refine k_region ?_
                      refine s_val (wk0 rfl) rfl rfl hE hp (v := (.agg #[(.int .i64 p0.vars), vp0_clauses])) (ex_load rfl hE rfl (fun w hw => run_ldN (cs := [(.int .i64 p0.vars), vp0_clauses]) varty24 (Hp.cN 2 rfl 0 _ (sub_all rfl) w hw))) ?_
                      intro a hE
                      refine s_val (wk0 rfl) rfl rfl hE hp (v := vr8) (ex_load rfl hE rfl (fun w hw => run_ld1 varty25 (Hp.c 0 rfl 0 rfl w hw))) ?_
                      intro a hE
                      obtain ⟨k1, k1a, k1d, k1h⟩ := (hp.get 1 rfl).lend
                      obtain ⟨x10, ex10, hl2⟩ := bnd hl2
                      refine s_call (wk0 rfl) rfl rfl hE rfl [(.agg #[(.int .i64 p0.vars), vp0_clauses]), vr8] ⟨rfl, rfl, trivial⟩ ent21 (c_cnf_Holds (Tabs.mono hT (PH.le_un _ k1)) p0 vp0_clauses (RoSl.mono hp0_clauses (PH.le_un _ _)) x9 vr8 (OwnSl.ro k1d k1a) k1h x10 ex10) Ret.ret ?_
                      intro v a w hR hE
                      obtain ⟨rfl, hp⟩ := Ret.of hR
                      have hp := Hp.back k1a k1d hp
                      have hp : Hp Z ρ (_ :: _ :: _ :: L) w := hp
                      refine s_val (wk0 rfl) rfl rfl hE hp (v := (.bool x10)) (ex_move rfl hE rfl) ?_
                      intro a hE
                      obtain ⟨m2, hg2, hl2⟩ := bnd hl2
                      refine s_cut [_, _, _, _, _] (fun a w => Env 127 [(88, (.bool m2)), (1, vp1), (2, (.int .i64 p2)), (3, (.pointer (some ⟨b1, 0, none⟩))), (72, (.int .i64 x8)), (73, (.int .i64 lp2_0))] a ∧ Hp Z ρ (OwnSl 3 vr8 x9 :: Pt b5 (.cells #[vr8] 25 (0, 0)) :: Pt b1 (.cells #[(.int .i64 p0.vars), vp0_clauses] 24 (0, 0)) :: L) w) ?_ ?_
                      · rcases Bool.eq_false_or_eq_true x10 with hc14 | hc14
                        ·
                          replace hg2 := (it hc14).symm.trans hg2
                          refine s_val (wk1 hE rfl rfl rfl hc14) rfl rfl hE hp (v := vp1) (ex_move rfl hE rfl) ?_
                          intro a hE
                          refine s_val (wk1 hE rfl rfl rfl hc14) rfl rfl hE hp (v := (.func (.func 23) #[] #[(.pointer (some ⟨b5, 0, none⟩))])) (ex_fn rfl hE [(.pointer (some ⟨b5, 0, none⟩))] (by exact ⟨rfl, trivial⟩)) ?_
                          intro a hE
                          obtain ⟨k2, k2a, k2d, k2h⟩ := (hp.get 0 rfl).lend
                          obtain ⟨x11, ex11, hg2⟩ := bnd hg2
                          refine s_call (wk1 hE rfl rfl rfl hc14) rfl rfl hE rfl [vp1, (.func (.func 23) #[] #[(.pointer (some ⟨b5, 0, none⟩))])] ⟨rfl, rfl, trivial⟩ ent22 (c_slices_ContainsFunc_assessorlaw27_ProofModels_1 (Tabs.mono hT (PH.le_un _ k2)) p1 vp1 (RoSl.mono hp1 (PH.le_un _ _)) b5 x9 vr8 (OwnSl.ro k2d k2a) k2h x11 ex11) Ret.ret ?_
                          intro v a w hR hE
                          obtain ⟨rfl, hp⟩ := Ret.of hR
                          have hp := Hp.back k2a k2d hp
                          have hp : Hp Z ρ (_ :: _ :: _ :: L) w := hp
                          refine s_val (wk1 hE rfl rfl rfl hc14) rfl rfl hE hp (v := (.bool (!x11))) (ex_not rfl hE rfl) ?_
                          intro a hE
                          refine s_val (wk0 rfl) rfl rfl hE hp (v := (.bool (!x11))) (ex_pick1 rfl hE rfl hc14 rfl) ?_
                          intro a hE
                          obtain rfl := Option.some.inj hg2
                          exact s_nil ⟨hE.cut ⟨rfl, rfl, rfl, rfl, rfl, rfl, trivial⟩, hp⟩
                        ·
                          replace hg2 := (ie hc14).symm.trans hg2
                          refine s_skip (wk2 hE rfl rfl rfl hc14) rfl rfl hE ?_
                          intro a hE
                          refine s_skip (wk2 hE rfl rfl rfl hc14) rfl rfl hE ?_
                          intro a hE
                          refine s_skip (wk2 hE rfl rfl rfl hc14) rfl rfl hE ?_
                          intro a hE
                          refine s_skip (wk2 hE rfl rfl rfl hc14) rfl rfl hE ?_
                          intro a hE
                          refine s_val (wk0 rfl) rfl rfl hE hp (v := (.bool false)) (ex_pick0 rfl hE rfl hc14 rfl) ?_
                          intro a hE
                          obtain rfl := Option.some.inj hg2
                          exact s_nil ⟨hE.cut ⟨rfl, rfl, rfl, rfl, rfl, rfl, trivial⟩, hp⟩
                      · rintro a w ⟨hE, hp⟩
                        refine s_nil ?_
                        refine k_if hE rfl (fun hc15 => ?_) (fun hc15 => ?_)
                        · replace hl2 := (it hc15).symm.trans hl2
                          refine k_seq ?_
                          refine k_region ?_
                          refine s_val (wk0 rfl) rfl rfl hE hp (v := (.bool false)) (ex_asn rfl hE rfl) ?_
                          intro a hE
                          refine s_nil ?_
                          refine k_ret ?_
                          refine ⟨_, (Option.some.inj hl2).symm, fun hb => ?_⟩
                          subst hb
                          obtain rfl := Option.some.inj hm
                          exact ret1 hE rfl rfl ⟨_, rfl, rfl, (((((hp.get 2 rfl).drop).get 1 rfl).drop).drop)⟩
                        · replace hl2 := (ie hc15).symm.trans hl2
                          refine k_skip ?_
                          refine k_region ?_
                          obtain ⟨x12, ex12, hl2⟩ := bnd hl2
                          refine s_val (wk0 rfl) rfl rfl hE hp (v := (.int .i64 x12)) (ex_add rfl hE rfl rfl (inK_some ex12)) ?_
                          intro a hE
                          refine s_val (wk0 rfl) rfl rfl hE hp (v := (.int .i64 x12)) (ex_move rfl hE rfl) ?_
                          intro a hE
                          refine s_nil ?_
                          exact ⟨_, (Option.some.inj hl2).symm, hE.cut ⟨rfl, rfl, rfl, rfl, rfl, trivial⟩, (((hp.get 1 rfl).drop).drop)⟩
                    · replace hl2 := (ie hc13).symm.trans hl2
                      refine k_exit ?_
                      refine ⟨_, (Option.some.inj hl2).symm, fun hbb => ?_⟩
                      exact ⟨_, hbb.symm, hE.cut ⟨rfl, rfl, rfl, trivial⟩, hp⟩
                · rintro a w ⟨b4s, rfl, hE, hp⟩
                  dsimp only at hm
                  refine k_seq ?_
                  refine k_seq ?_
                  refine k_region ?_
                  refine s_val (wk0 rfl) rfl rfl hE hp (v := (.int .i64 p2)) (ex_move rfl hE rfl) ?_
                  intro a hE
                  refine s_val (wk0 rfl) rfl rfl hE hp (v := (.bool (decide (p2 = 0)))) (ex_eql rfl hE rfl rfl) ?_
                  intro a hE
                  refine s_val (wk0 rfl) rfl rfl hE hp (v := (.bool (decide (p2 = 0)))) (ex_move rfl hE rfl) ?_
                  intro a hE
                  refine s_cut [_, _, _, _, _] (fun a w => Env 127 [(97, (.bool ((decide (p2 = 0)) || (decide (p0.vars < p2))))), (1, vp1), (2, (.int .i64 p2)), (3, (.pointer (some ⟨b1, 0, none⟩)))] a ∧ Hp Z ρ (Pt b1 (.cells #[(.int .i64 p0.vars), vp0_clauses] 24 (0, 0)) :: L) w) ?_ ?_
                  · rcases Bool.eq_false_or_eq_true (decide (p2 = 0)) with hc16 | hc16
                    ·
                      refine s_skip (wk2 hE rfl rfl rfl hc16) rfl rfl hE ?_
                      intro a hE
                      refine s_skip (wk2 hE rfl rfl rfl hc16) rfl rfl hE ?_
                      intro a hE
                      refine s_skip (wk2 hE rfl rfl rfl hc16) rfl rfl hE ?_
                      intro a hE
                      refine s_skip (wk2 hE rfl rfl rfl hc16) rfl rfl hE ?_
                      intro a hE
                      refine s_val (wk0 rfl) rfl rfl hE hp (v := (.bool true)) (ex_pick1 rfl hE rfl hc16 rfl) ?_
                      intro a hE
                      have hE := hE.eqv (v' := (.bool ((decide (p2 = 0)) || (decide (p0.vars < p2))))) (by rw [hc16]; rfl)
                      exact s_nil ⟨hE.cut ⟨rfl, rfl, rfl, rfl, trivial⟩, hp⟩
                    ·
                      refine s_val (wk1 hE rfl rfl rfl hc16) rfl rfl hE hp (v := (.int .i64 p2)) (ex_move rfl hE rfl) ?_
                      intro a hE
                      refine s_val (wk1 hE rfl rfl rfl hc16) rfl rfl hE hp (v := (.pointer (some ⟨b1, 0, none⟩))) (ex_field rfl hE rfl (fldty24_0 _ _)) ?_
                      intro a hE
                      refine s_val (wk1 hE rfl rfl rfl hc16) rfl rfl hE hp (v := (.int .i64 p0.vars)) (ex_load rfl hE rfl (fun w hw => run_ld1 varty3 (Hp.c 0 rfl 0 rfl w hw))) ?_
                      intro a hE
                      refine s_val (wk1 hE rfl rfl rfl hc16) rfl rfl hE hp (v := (.bool (decide (p0.vars < p2)))) (ex_gtr rfl hE rfl rfl) ?_
                      intro a hE
                      refine s_val (wk0 rfl) rfl rfl hE hp (v := (.bool (decide (p0.vars < p2)))) (ex_pick0 rfl hE rfl hc16 rfl) ?_
                      intro a hE
                      have hE := hE.eqv (v' := (.bool ((decide (p2 = 0)) || (decide (p0.vars < p2))))) (by rw [hc16]; rfl)
                      exact s_nil ⟨hE.cut ⟨rfl, rfl, rfl, rfl, trivial⟩, hp⟩
                  · rintro a w ⟨hE, hp⟩
                    refine s_val (wk0 rfl) rfl rfl hE hp (v := (.bool ((decide (p2 = 0)) || (decide (p0.vars < p2))))) (ex_move rfl hE rfl) ?_
                    intro a hE
                    obtain ⟨m3, hg3, hm⟩ := bnd hm
                    refine s_cut [_, _, _, _, _, _] (fun a w => Env 127 [(104, (.bool m3)), (1, vp1), (2, (.int .i64 p2)), (3, (.pointer (some ⟨b1, 0, none⟩)))] a ∧ Hp Z ρ (Pt b1 (.cells #[(.int .i64 p0.vars), vp0_clauses] 24 (0, 0)) :: L) w) ?_ ?_
                    · rcases Bool.eq_false_or_eq_true ((decide (p2 = 0)) || (decide (p0.vars < p2))) with hc17 | hc17
                      ·
                        replace hg3 := (it hc17).symm.trans hg3
                        refine s_skip (wk2 hE rfl rfl rfl hc17) rfl rfl hE ?_
                        intro a hE
                        refine s_skip (wk2 hE rfl rfl rfl hc17) rfl rfl hE ?_
                        intro a hE
                        refine s_skip (wk2 hE rfl rfl rfl hc17) rfl rfl hE ?_
                        intro a hE
                        refine s_skip (wk2 hE rfl rfl rfl hc17) rfl rfl hE ?_
                        intro a hE
                        refine s_skip (wk2 hE rfl rfl rfl hc17) rfl rfl hE ?_
                        intro a hE
                        refine s_val (wk0 rfl) rfl rfl hE hp (v := (.bool true)) (ex_pick1 rfl hE rfl hc17 rfl) ?_
                        intro a hE
                        obtain rfl := Option.some.inj hg3
                        exact s_nil ⟨hE.cut ⟨rfl, rfl, rfl, rfl, trivial⟩, hp⟩
                      ·
                        replace hg3 := (ie hc17).symm.trans hg3
                        refine s_val (wk1 hE rfl rfl rfl hc17) rfl rfl hE hp (v := (.int .i64 p2)) (ex_move rfl hE rfl) ?_
                        intro a hE
                        refine s_val (wk1 hE rfl rfl rfl hc17) rfl rfl hE hp (v := (.pointer (some ⟨b1, 0, none⟩))) (ex_field rfl hE rfl (fldty24_0 _ _)) ?_
                        intro a hE
                        refine s_val (wk1 hE rfl rfl rfl hc17) rfl rfl hE hp (v := (.int .i64 p0.vars)) (ex_load rfl hE rfl (fun w hw => run_ld1 varty3 (Hp.c 0 rfl 0 rfl w hw))) ?_
                        intro a hE
                        obtain ⟨x13, ex13, hg3⟩ := bnd hg3
                        refine s_val (wk1 hE rfl rfl rfl hc17) rfl rfl hE hp (v := (.int .i64 x13)) (ex_neg rfl hE rfl (inK_some ex13)) ?_
                        intro a hE
                        refine s_val (wk1 hE rfl rfl rfl hc17) rfl rfl hE hp (v := (.bool (decide (p2 < x13)))) (ex_lss rfl hE rfl rfl) ?_
                        intro a hE
                        refine s_val (wk0 rfl) rfl rfl hE hp (v := (.bool (decide (p2 < x13)))) (ex_pick0 rfl hE rfl hc17 rfl) ?_
                        intro a hE
                        obtain rfl := Option.some.inj hg3
                        exact s_nil ⟨hE.cut ⟨rfl, rfl, rfl, rfl, trivial⟩, hp⟩
                    · rintro a w ⟨hE, hp⟩
                      refine s_nil ?_
                      refine k_if hE rfl (fun hc18 => ?_) (fun hc18 => ?_)
                      · replace hm := (it hc18).symm.trans hm
                        refine k_seq ?_
                        refine k_region ?_
                        refine s_val (wk0 rfl) rfl rfl hE hp (v := (.bool true)) (ex_asn rfl hE rfl) ?_
                        intro a hE
                        refine s_nil ?_
                        refine k_ret ?_
                        obtain rfl := Option.some.inj hm
                        exact ret1 hE rfl rfl ⟨_, rfl, rfl, (hp.drop)⟩
                      · replace hm := (ie hc18).symm.trans hm
                        refine k_skip ?_
                        refine k_seq ?_
                        refine k_region ?_
                        refine s_val (wk0 rfl) rfl rfl hE hp (v := vp1) (ex_move rfl hE rfl) ?_
                        intro a hE
                        obtain ⟨x14, ex14, hm⟩ := bnd hm
                        refine s_call (wk0 rfl) rfl rfl hE rfl [vp1] ⟨rfl, trivial⟩ ent25 (c_cloneI p1 vp1 hp1 hp x14 ex14) Ret.ret ?_
                        intro v1 a w hR hE
                        obtain ⟨u, hu, hp⟩ := Ret.of hR
                        rw [← hu] at hp
                        have hp : Hp Z ρ (OwnSl 3 v1 x14 :: _ :: L) w := hp
                        refine s_val (wk0 rfl) rfl rfl hE hp (v := (.int .i64 p2)) (ex_move rfl hE rfl) ?_
                        intro a hE
                        refine s_lit (wk0 rfl) rfl rfl hE hp rfl [(0, (.int .i64 p2))] ⟨⟨rfl, rfl⟩, trivial⟩ [(.int .i64 p2)] 3 (fun w => by simp [Instr.buildSlice, Instr.fill, Value.cells, go_sem]) ?_
                        intro a w b6 hE hp
                        have hp : Hp Z ρ (Pt b6 (.cells #[(.int .i64 p2)] 3 (0, 0)) :: _ :: _ :: L) w := hp
                        obtain ⟨x15, ex15, hm⟩ := bnd hm
                        refine s_app (wk0 rfl) rfl rfl hE hp rfl slty25 rfl rfl 1 rfl rfl (l2 := [p2]) rfl (fun j u hj => by have := Hp.cN 0 rfl 0 _ (sub_all rfl) w hp j u hj; simpa using this) ex15 ?_
                        intro v2 a w hE hp
                        have hp : Hp Z ρ (_ :: OwnSl 3 v2 x15 :: _ :: L) w := hp
                        obtain ⟨k3, k3a, k3d, k3h⟩ := (hp.get 1 rfl).lend
                        obtain ⟨x16, ex16, hm⟩ := bnd hm
                        refine s_call (wk0 rfl) rfl rfl hE rfl [v2] ⟨rfl, trivial⟩ ent15 (c_cnf_Normal (Tabs.mono hT (PH.le_un _ k3)) x15 v2 (OwnSl.ro k3d k3a) k3h x16 ex16) Ret.ret ?_
                        intro v a w hR hE
                        obtain ⟨vr11, rfl, hp⟩ := Ret.of hR
                        have hp := Hp.back k3a k3d hp
                        have hp : Hp Z ρ (_ :: OwnSl 3 vr11 x16.1 :: _ :: _ :: L) w := hp
                        refine s_val (wk0 rfl) rfl rfl hE hp (v := (.tuple #[vr11, (.bool x16.2)])) (ex_move rfl hE rfl) ?_
                        intro a hE
                        refine s_val (wk0 rfl) rfl rfl hE hp (v := vr11) (ex_extract rfl hE rfl rfl) ?_
                        intro a hE
                        refine s_val (wk0 rfl) rfl rfl hE hp (v := (.bool x16.2)) (ex_extract rfl hE rfl rfl) ?_
                        intro a hE
                        refine s_val (wk0 rfl) rfl rfl hE hp (v := vr11) (ex_asn rfl hE rfl) ?_
                        intro a hE
                        refine s_val (wk0 rfl) rfl rfl hE hp (v := (.bool x16.2)) (ex_asn rfl hE rfl) ?_
                        intro a hE
                        refine s_nil ?_
                        refine k_seq ?_
                        refine k_seq ?_
                        refine k_region ?_
                        refine s_val (wk0 rfl) rfl rfl hE hp (v := (.bool x16.2)) (ex_move rfl hE rfl) ?_
                        intro a hE
                        refine s_val (wk0 rfl) rfl rfl hE hp (v := (.bool (!x16.2))) (ex_not rfl hE rfl) ?_
                        intro a hE
                        refine s_nil ?_
                        refine k_if hE rfl (fun hc19 => ?_) (fun hc19 => ?_)
                        · replace hm := (it hc19).symm.trans hm
                          refine k_seq ?_
                          refine k_region ?_
                          refine s_val (wk0 rfl) rfl rfl hE hp (v := (.bool true)) (ex_asn rfl hE rfl) ?_
                          intro a hE
                          refine s_nil ?_
                          refine k_ret ?_
                          obtain rfl := Option.some.inj hm
                          exact ret1 hE rfl rfl ⟨_, rfl, rfl, (((((((hp.get 3 rfl).drop).get 2 rfl).drop).get 1 rfl).drop).drop)⟩
                        · replace hm := (ie hc19).symm.trans hm
                          refine k_skip ?_
                          refine k_seq ?_
                          refine k_region ?_
                          refine s_val (wk0 rfl) rfl rfl hE hp (v := (.agg #[(.int .i64 p0.vars), vp0_clauses])) (ex_load rfl hE rfl (fun w hw => run_ldN (cs := [(.int .i64 p0.vars), vp0_clauses]) varty24 (Hp.cN 3 rfl 0 _ (sub_all rfl) w hw))) ?_
                          intro a hE
                          refine s_val (wk0 rfl) rfl rfl hE hp (v := vr11) (ex_move rfl hE rfl) ?_
                          intro a hE
                          obtain ⟨k4, k4a, k4d, k4h⟩ := (hp.get 1 rfl).lend
                          obtain ⟨x17, ex17, hm⟩ := bnd hm
                          refine s_call (wk0 rfl) rfl rfl hE rfl [(.agg #[(.int .i64 p0.vars), vp0_clauses]), vr11] ⟨rfl, rfl, trivial⟩ ent19 (c_proof_Follows (Tabs.mono hT (PH.le_un _ k4)) p0 vp0_clauses (RoSl.mono hp0_clauses (PH.le_un _ _)) x16.1 vr11 (OwnSl.ro k4d k4a) k4h x17 ex17) Ret.ret ?_
                          intro v a w hR hE
                          obtain ⟨rfl, hp⟩ := Ret.of hR
                          have hp := Hp.back k4a k4d hp
                          have hp : Hp Z ρ (_ :: _ :: _ :: _ :: L) w := hp
                          refine s_val (wk0 rfl) rfl rfl hE hp (v := (.tuple #[(.bool x17.1), (.int .i64 x17.2)])) (ex_move rfl hE rfl) ?_
                          intro a hE
                          refine s_val (wk0 rfl) rfl rfl hE hp (v := (.bool x17.1)) (ex_extract rfl hE rfl rfl) ?_
                          intro a hE
                          refine s_val (wk0 rfl) rfl rfl hE hp (v := (.int .i64 x17.2)) (ex_extract rfl hE rfl rfl) ?_
                          intro a hE
                          refine s_val (wk0 rfl) rfl rfl hE hp (v := (.bool x17.1)) (ex_asn rfl hE rfl) ?_
                          intro a hE
                          refine s_val (wk0 rfl) rfl rfl hE hp (v := (.int .i64 x17.2)) (ex_asn rfl hE rfl) ?_
                          intro a hE
                          refine s_nil ?_
                          have hE := hE.cut (E' := [(11, (.bool x17.1)), (12, (.int .i64 x17.2))]) ⟨rfl, rfl, trivial⟩
                          refine k_seq ?_
                          refine k_region ?_
                          refine s_val (wk0 rfl) rfl rfl hE hp (v := (.bool x17.1)) (ex_move rfl hE rfl) ?_
                          intro a hE
                          refine s_val (wk0 rfl) rfl rfl hE hp (v := (.bool x17.1)) (ex_move rfl hE rfl) ?_
                          intro a hE
                          refine s_cut [_, _, _] (fun a w => Env 127 [(126, (.bool (x17.1 && (decide (x17.2 = 0)))))] a ∧ Hp Z ρ (OwnSl 3 vr11 x16.1 :: OwnSl 3 v2 x15 :: Pt b6 (.cells #[(.int .i64 p2)] 3 (0, 0)) :: Pt b1 (.cells #[(.int .i64 p0.vars), vp0_clauses] 24 (0, 0)) :: L) w) ?_ ?_
                          · rcases Bool.eq_false_or_eq_true x17.1 with hc20 | hc20
                            ·
                              refine s_val (wk1 hE rfl rfl rfl hc20) rfl rfl hE hp (v := (.int .i64 x17.2)) (ex_move rfl hE rfl) ?_
                              intro a hE
                              refine s_val (wk1 hE rfl rfl rfl hc20) rfl rfl hE hp (v := (.bool (decide (x17.2 = 0)))) (ex_eql rfl hE rfl rfl) ?_
                              intro a hE
                              refine s_val (wk0 rfl) rfl rfl hE hp (v := (.bool (decide (x17.2 = 0)))) (ex_pick1 rfl hE rfl hc20 rfl) ?_
                              intro a hE
                              have hE := hE.eqv (v' := (.bool (x17.1 && (decide (x17.2 = 0))))) (by rw [hc20]; rfl)
                              exact s_nil ⟨hE.cut ⟨rfl, trivial⟩, hp⟩
                            ·
                              refine s_skip (wk2 hE rfl rfl rfl hc20) rfl rfl hE ?_
                              intro a hE
                              refine s_skip (wk2 hE rfl rfl rfl hc20) rfl rfl hE ?_
                              intro a hE
                              refine s_val (wk0 rfl) rfl rfl hE hp (v := (.bool false)) (ex_pick0 rfl hE rfl hc20 rfl) ?_
                              intro a hE
                              have hE := hE.eqv (v' := (.bool (x17.1 && (decide (x17.2 = 0))))) (by rw [hc20]; rfl)
                              exact s_nil ⟨hE.cut ⟨rfl, trivial⟩, hp⟩
                          · rintro a w ⟨hE, hp⟩
                            refine s_val (wk0 rfl) rfl rfl hE hp (v := (.bool (x17.1 && (decide (x17.2 = 0))))) (ex_asn rfl hE rfl) ?_
                            intro a hE
                            refine s_nil ?_
                            refine k_ret ?_
                            obtain rfl := Option.some.inj hm
                            exact ret1 hE rfl rfl ⟨_, rfl, rfl, (((((((hp.get 3 rfl).drop).get 2 rfl).drop).get 1 rfl).drop).drop)⟩
end Go.Proofs.YtfajmelamonolaaGreatDoor

/- Maps from integers whose entries are told in the order of the keys, wherever they lie. Plain theorems over any program. -/
set_option linter.unusedVariables false
set_option linter.unusedSimpArgs false
namespace Go.Proofs.YtfajmelamonolaaGreatDoor
open Vl (vl)
open Go.RowKit
section
variable {β : Type}
end
def MapU {β : Type} [Vl β] (b : Nat) (l : List (Int × β)) : Atom := fun h => ∃ l', MapA b l' h ∧ l'.Perm l
section
variable {Rn : Option Nat} {P : Program} {ops : Array Oper} {Q : Exit → Act → World → Prop} {rest : List Oper} {o : Oper} {a : Act} {w : World} {Df : List Deferred} {N : Nat} {E : Ent} {d : Nat} {Z : World} {ρ : PH} {L : List Atom}
variable {β : Type} [Vl β] {b : Nat} {l : List (Int × β)}
theorem MapU.of (h : Hp Z ρ (MapA b l :: L) w) : Hp Z ρ (MapU b l :: L) w := h.imp fun _ k => ⟨l, k, List.Perm.refl _⟩
theorem MapU.shut {l' : List (Int × β)} (h : Hp Z ρ (MapA b l' :: L) w) (hp : l'.Perm l) : Hp Z ρ (MapU b l :: L) w := h.imp fun _ k => ⟨l', k, hp⟩
end
end Go.Proofs.YtfajmelamonolaaGreatDoor

/- Words for plain laws: loops that count, part steps that do not fail, sorted lists. No program is named. -/
set_option linter.unusedVariables false
set_option linter.unusedSimpArgs false
namespace Go.Proofs.YtfajmelamonolaaGreatDoor
open Go.RowKit
theorem loop_at {σ β : Type} {body : σ → Option (Step σ β)} {b : β} (S : Nat → σ) : ∀ (n : Nat), (∀ k, k < n → body (S k) = some (.next (S (k + 1)))) → body (S n) = some (.done b) → loopM body (S 0) = some b
  | 0, _, h => loopM_done h
  | n + 1, h1, h2 => by
    rw [loopM_next (h1 0 (by omega))]
    exact loop_at (fun k => S (k + 1)) n (fun k hk => h1 (k + 1) (by omega)) h2
theorem loop_from {σ β : Type} {body : σ → Option (Step σ β)} {b : β} {s : σ} (S : Nat → σ) (n : Nat) (h0 : s = S 0) (h1 : ∀ k, k < n → body (S k) = some (.next (S (k + 1)))) (h2 : body (S n) = some (.done b)) : loopM body s = some b := by
  rw [h0]; exact loop_at S n h1 h2
theorem inK_eq {n : Int} (h : -9223372036854775808 ≤ n ∧ n ≤ 9223372036854775807) : inK .i64 n = some n := inK_ok n h.1 h.2
theorem idx_nat {α : Type} {l : List α} {k : Nat} {a : α} (h : l[k]? = some a) : idx l (k : Int) = some a := by
  unfold idx; rw [if_pos (by omega)]; simpa using h
theorem idx_of {α : Type} {l : List α} {i : Int} {a : α} (h0 : 0 ≤ i) (h : l[i.toNat]? = some a) : idx l i = some a := by
  unfold idx; rw [if_pos h0, h]
theorem get_of_lt {α : Type} {l : List α} {k : Nat} (h : k < l.length) : ∃ a, l[k]? = some a := ⟨_, List.getElem?_eq_getElem h⟩
theorem app_ok {α : Type} {l m : List α} (h : l.length + m.length ≤ 4294967296) : app l m = some (l ++ m) := by unfold app; rw [if_pos h]
theorem sub_ok {α : Type} {l : List α} {i j : Int} (h0 : 0 ≤ i) (h1 : i ≤ j) (h2 : j ≤ l.length) : sub l i j = some ((l.take j.toNat).drop i.toNat) := by unfold sub; rw [if_pos ⟨h0, h1, h2⟩]
theorem mkc_ok {α : Type} {n c : Int} {z : α} (h : 0 ≤ n ∧ n ≤ c ∧ c ≤ 4294967296) : mkc n c z = some (List.replicate n.toNat z) := by unfold mkc; rw [if_pos h]
theorem catK_ok {a b : ByteArray} (h : a.size + b.size ≤ 4294967296) : catK a b = some (a ++ b) := by unfold catK; rw [if_pos h]
theorem I64.r {n : Int} (h : (Lit.int .i64 n).wf = true) : -9223372036854775808 ≤ n ∧ n ≤ 9223372036854775807 := by
  simp [Lit.wf, IntKind.min, IntKind.max, IntKind.signed, IntKind.bits] at h
  exact ⟨by omega, by omega⟩
theorem U8.r {n : Int} (h : (Lit.int .u8 n).wf = true) : 0 ≤ n ∧ n ≤ 255 := by
  simp [Lit.wf, IntKind.min, IntKind.max, IntKind.signed, IntKind.bits] at h
  omega
theorem first_or {α : Type} (p : α → Bool) : ∀ (l : List α), (∃ k a, l[k]? = some a ∧ p a = true ∧ (∀ j b, j < k → l[j]? = some b → p b = false) ∧ l.any p = true ∧ l.findIdx p = k) ∨ ((∀ a ∈ l, p a = false) ∧ l.any p = false ∧ l.findIdx p = l.length)
  | [] => Or.inr ⟨by simp, rfl, rfl⟩
  | x :: l => by
    cases hx : p x with
    | true => exact Or.inl ⟨0, x, rfl, hx, fun j b hj => by omega, by simp [hx], by simp [List.findIdx_cons, hx]⟩
    | false =>
      rcases first_or p l with ⟨k, a, h1, h2, h3, h4, h5⟩ | ⟨h1, h2, h3⟩
      · refine Or.inl ⟨k + 1, a, by simpa using h1, h2, fun j b hj hb => ?_, by simp [hx, h4], by simp [List.findIdx_cons, hx, h5]⟩
        cases j with
        | zero => simp at hb; subst hb; exact hx
        | succ j => exact h3 j b (by omega) (by simpa using hb)
      · refine Or.inr ⟨fun a ha => ?_, by simp [hx, h2], by simp [List.findIdx_cons, hx, h3]⟩
        rcases List.mem_cons.1 ha with rfl | ha
        · exact hx
        · exact h1 a ha
theorem scan_loop {α β : Type} {body : Int → Option (Step Int β)} (l : List α) (p : α → Bool) (hit : Nat → α → β) (miss : β)
    (h1 : ∀ (k : Nat) a, l[k]? = some a → body k = some (if p a = true then .done (hit k a) else .next ((k + 1 : Nat) : Int))) (h2 : body (l.length : Int) = some (.done miss)) :
    (∃ k a, l[k]? = some a ∧ p a = true ∧ (∀ j b, j < k → l[j]? = some b → p b = false) ∧ l.any p = true ∧ l.findIdx p = k ∧ loopM body 0 = some (hit k a)) ∨ ((∀ a ∈ l, p a = false) ∧ l.any p = false ∧ l.findIdx p = l.length ∧ loopM body 0 = some miss) := by
  rcases first_or p l with ⟨k, a, a1, a2, a3, a4, a5⟩ | ⟨a1, a2, a3⟩
  · refine Or.inl ⟨k, a, a1, a2, a3, a4, a5, loop_from (fun j => (j : Int)) k rfl (fun j hj => ?_) ?_⟩
    · obtain ⟨b, hb⟩ := get_of_lt (show j < l.length by have := (List.getElem?_eq_some_iff.1 a1).1; omega)
      rw [h1 j b hb, a3 j b hj hb]; rfl
    · rw [h1 k a a1, a2]; rfl
  · refine Or.inr ⟨a1, a2, a3, loop_from (fun j => (j : Int)) l.length rfl (fun j hj => ?_) h2⟩
    obtain ⟨b, hb⟩ := get_of_lt hj
    rw [h1 j b hb, a1 b (List.mem_of_getElem? hb)]; rfl
theorem any_loop {α β : Type} {body : Int → Option (Step Int β)} (l : List α) (p : α → Bool) (hit miss : β)
    (h1 : ∀ (k : Nat) a, l[k]? = some a → body k = some (if p a = true then .done hit else .next ((k + 1 : Nat) : Int))) (h2 : body (l.length : Int) = some (.done miss)) : loopM body 0 = some (if l.any p = true then hit else miss) := by
  rcases scan_loop l p (fun _ _ => hit) miss h1 h2 with ⟨k, a, _, _, _, h, _, e⟩ | ⟨_, h, _, e⟩
  · rw [e, h]; rfl
  · rw [e, h]; rfl
theorem same_loop {α β : Type} [DecidableEq α] {body : Int → Option (Step Int β)} {a b : List α} (hl : a.length = b.length) (hit miss : β)
    (h1 : ∀ (k : Nat) x y, a[k]? = some x → b[k]? = some y → body k = some (if x = y then .next ((k + 1 : Nat) : Int) else .done hit)) (h2 : body (a.length : Int) = some (.done miss)) : loopM body 0 = some (if a = b then miss else hit) := by
  have hzl : (a.zip b).length = a.length := by rw [List.length_zip]; omega
  have hz : (a.zip b).any (fun p => decide (p.1 ≠ p.2)) = decide (a ≠ b) := by
    clear h1 h2 hzl
    induction a generalizing b with
    | nil => cases b with
      | nil => simp
      | cons y b => simp at hl
    | cons x a ih => cases b with
      | nil => simp at hl
      | cons y b =>
        simp only [List.length_cons, Nat.add_right_cancel_iff] at hl
        simp only [List.zip_cons_cons, List.any_cons, ih hl, ne_eq, List.cons.injEq]
        by_cases hx : x = y <;> by_cases hb : a = b <;> simp [hx, hb]
  have := any_loop (body := body) (a.zip b) (fun p => decide (p.1 ≠ p.2)) hit miss (fun k p hp => by
    obtain ⟨x, y⟩ := p
    have hk := (List.getElem?_eq_some_iff.1 hp).1
    rw [hzl] at hk
    obtain ⟨x', hx⟩ := get_of_lt hk
    obtain ⟨y', hy⟩ := get_of_lt (show k < b.length by omega)
    rw [List.getElem?_zip_eq_some] at hp
    rw [h1 k x y hp.1 hp.2]
    by_cases h : x = y <;> simp [h]) (by rw [hzl]; exact h2)
  rw [this, hz]
  by_cases h : a = b <;> simp [h]
theorem bind_any {α β γ : Type} {body : Int → Option (Step Int β)} {f : β → Option γ} {r : Option γ} (l : List α) (p : α → Bool) (hit miss : β)
    (h1 : ∀ (k : Nat) a, l[k]? = some a → body k = some (if p a = true then .done hit else .next ((k + 1 : Nat) : Int))) (h2 : body (l.length : Int) = some (.done miss)) (hf : f (if l.any p = true then hit else miss) = r) : (loopM body 0).bind f = r := by
  rw [any_loop l p hit miss h1 h2]; exact hf
theorem bind_same {α β γ : Type} [DecidableEq α] {body : Int → Option (Step Int β)} {f : β → Option γ} {r : Option γ} {a b : List α} (hl : a.length = b.length) (hit miss : β)
    (h1 : ∀ (k : Nat) x y, a[k]? = some x → b[k]? = some y → body k = some (if x = y then .next ((k + 1 : Nat) : Int) else .done hit)) (h2 : body (a.length : Int) = some (.done miss)) (hf : f (if a = b then miss else hit) = r) : (loopM body 0).bind f = r := by
  rw [same_loop hl hit miss h1 h2]; exact hf
theorem drop_cons_of {α : Type} {l : List α} {k : Nat} {a : α} (h : l[k]? = some a) : l.drop k = a :: l.drop (k + 1) := by
  obtain ⟨h1, h2⟩ := List.getElem?_eq_some_iff.1 h
  rw [← h2]; exact List.drop_eq_getElem_cons h1
theorem take_snoc_of {α : Type} {l : List α} {k : Nat} {a : α} (h : l[k]? = some a) : l.take (k + 1) = l.take k ++ [a] := by
  obtain ⟨h1, h2⟩ := List.getElem?_eq_some_iff.1 h
  rw [← h2]; exact List.take_succ_eq_append_getElem h1
theorem rising_ext {α : Type} {r : α → α → Prop} (irr : ∀ a, ¬ r a a) (tr : ∀ a b c, r a b → r b c → r a c) : ∀ {l m : List α}, l.Pairwise r → m.Pairwise r → (∀ x, x ∈ l ↔ x ∈ m) → l = m
  | [], [], _, _, _ => rfl
  | [], b :: m, _, _, h => by have := (h b).2 (List.mem_cons_self ..); simp at this
  | a :: l, [], _, _, h => by have := (h a).1 (List.mem_cons_self ..); simp at this
  | a :: l, b :: m, hl, hm, h => by
    obtain ⟨l1, l2⟩ := List.pairwise_cons.1 hl
    obtain ⟨m1, m2⟩ := List.pairwise_cons.1 hm
    have e : a = b := by
      rcases List.mem_cons.1 ((h a).1 (List.mem_cons_self ..)) with e | h1
      · exact e
      · rcases List.mem_cons.1 ((h b).2 (List.mem_cons_self ..)) with e | h2
        · exact e.symm
        · exact absurd (tr _ _ _ (m1 a h1) (l1 b h2)) (irr b)
    subst e
    congr 1
    refine rising_ext irr tr l2 m2 fun x => ?_
    constructor
    · intro hx
      rcases List.mem_cons.1 ((h x).1 (List.mem_cons_of_mem _ hx)) with e | h1
      · subst e; exact absurd (l1 x hx) (irr x)
      · exact h1
    · intro hx
      rcases List.mem_cons.1 ((h x).2 (List.mem_cons_of_mem _ hx)) with e | h1
      · subst e; exact absurd (m1 x hx) (irr x)
      · exact h1
end Go.Proofs.YtfajmelamonolaaGreatDoor

/- Loops over lists with a state, and small words for plain laws. No program is named. -/
set_option linter.unusedVariables false
set_option linter.unusedSimpArgs false
namespace Go.Proofs.YtfajmelamonolaaGreatDoor
open Go.RowKit
def runL {α τ β : Type} (f : α → τ → Step τ β) (g : τ → β) : List α → τ → β
  | [], t => g t
  | a :: l, t => match f a t with
    | .next t' => runL f g l t'
    | .done b => b
theorem loopL {α τ S β : Type} {body : S → Option (Step S β)} {s0 : S} (l : List α) (E : Nat → τ → S) (f : α → τ → Step τ β) (g : τ → β) (I : Nat → τ → Prop) {t0 : τ} (hs0 : s0 = E 0 t0) (h0 : I 0 t0)
    (hs : ∀ k a t, l[k]? = some a → I k t → body (E k t) = some (match f a t with | .next t' => .next (E (k + 1) t') | .done b => .done b) ∧ (∀ t', f a t = .next t' → I (k + 1) t'))
    (he : ∀ t, I l.length t → body (E l.length t) = some (.done (g t))) : loopM body s0 = some (runL f g l t0) := by
  have key : ∀ (m k : Nat) (t : τ), k + m = l.length → I k t → loopM body (E k t) = some (runL f g (l.drop k) t) := by
    intro m
    induction m with
    | zero =>
      intro k t hk hi
      have hk : k = l.length := by omega
      subst hk
      rw [loopM_done (he t hi), List.drop_length]; rfl
    | succ m ih =>
      intro k t hk hi
      obtain ⟨a, ha⟩ := get_of_lt (show k < l.length by omega)
      obtain ⟨h1, h2⟩ := hs k a t ha hi
      rw [drop_cons_of ha]
      unfold runL
      cases hf : f a t with
      | next t' =>
        rw [hf] at h1
        rw [loopM_next h1]
        exact ih (k + 1) t' (by omega) (h2 t' hf)
      | done b =>
        rw [hf] at h1
        exact loopM_done h1
  rw [hs0]
  simpa using key l.length 0 t0 (by omega) h0
theorem loopN {τ S β : Type} {body : S → Option (Step S β)} {s0 : S} (n : Nat) (E : Nat → τ → S) (I : Nat → τ → Prop) (Post : β → Prop) {t0 : τ} (hs0 : s0 = E 0 t0) (h0 : I 0 t0)
    (hs : ∀ k t, k < n → I k t → (∃ t', body (E k t) = some (.next (E (k + 1) t')) ∧ I (k + 1) t') ∨ (∃ b, body (E k t) = some (.done b) ∧ Post b))
    (he : ∀ t, I n t → ∃ b, body (E n t) = some (.done b) ∧ Post b) : ∃ b, loopM body s0 = some b ∧ Post b := by
  have key : ∀ (m k : Nat) (t : τ), k + m = n → I k t → ∃ b, loopM body (E k t) = some b ∧ Post b := by
    intro m
    induction m with
    | zero =>
      intro k t hk hi
      obtain rfl : k = n := by omega
      obtain ⟨b, h1, h2⟩ := he t hi
      exact ⟨b, loopM_done h1, h2⟩
    | succ m ih =>
      intro k t hk hi
      rcases hs k t (by omega) hi with ⟨t', h1, h2⟩ | ⟨b, h1, h2⟩
      · obtain ⟨b, h3, h4⟩ := ih (k + 1) t' (by omega) h2
        exact ⟨b, by rw [loopM_next h1]; exact h3, h4⟩
      · exact ⟨b, loopM_done h1, h2⟩
  rw [hs0]
  exact key n 0 t0 (by omega) h0
theorem bsm {α β : Type} (a : α) (f : α → Option β) : (some a).bind f = f a := Eq.trans (congrArg (fun x => Option.bind x f) (Eq.refl (some a))) rfl
theorem len_lt {α : Type} {l : List α} {k : Nat} {a : α} (h : l[k]? = some a) : k < l.length := (List.getElem?_eq_some_iff.1 h).1
theorem mem_get {α : Type} {l : List α} {k : Nat} {a : α} (h : l[k]? = some a) : a ∈ l := List.mem_of_getElem? h
theorem inK_up {k : Nat} {n : Nat} (h : k < n) (hn : n ≤ 9223372036854775807) : inK .i64 ((k : Int) + 1) = some ((k + 1 : Nat) : Int) := by
  rw [inK_eq ⟨by omega, by omega⟩]; rfl
theorem inK_at {n m : Int} (e : n = m) (h : -9223372036854775808 ≤ m ∧ m ≤ 9223372036854775807) : inK .i64 n = some m := by rw [e]; exact inK_eq h
theorem ltB {k n : Nat} (h : k < n) : (decide ((k : Int) < (n : Int))) = true := by simpa using h
theorem ltB' {n : Nat} : ¬ (decide ((n : Int) < (n : Int))) = true := by simp
theorem vr_nn (l : Int) : 0 ≤ vr l := by unfold vr; omega
theorem vr_neg (l : Int) : vr (-l) = vr l := by unfold vr; omega
theorem vr_cases (l : Int) : l = vr l ∨ l = -vr l := by unfold vr; omega
theorem vr_zero {l : Int} : vr l = 0 ↔ l = 0 := by unfold vr; omega
theorem vr_eq {l m : Int} : vr l = vr m ↔ l = m ∨ l = -m := by unfold vr; omega
theorem vr_le {l v : Int} : vr l ≤ v ↔ -v ≤ l ∧ l ≤ v := by unfold vr; omega
def clF (v : Int) : Int → List Int → Bool
  | _, [] => true
  | last, l :: r => decide (-v ≤ l) && decide (l ≤ v) && decide (last < vr l) && clF v (vr l) r
end Go.Proofs.YtfajmelamonolaaGreatDoor

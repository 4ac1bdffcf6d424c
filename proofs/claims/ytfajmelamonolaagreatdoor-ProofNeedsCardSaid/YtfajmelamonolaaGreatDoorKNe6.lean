/- The code goes as its model: assessor/cnf.variable, assessor/cnf.normal, assessor/cnf.Valid, assessor/cnf.Holds$1, slices.IndexFunc[[]int,int]@assessor/cnf.Holds -/
import Derived.Test.YtfajmelamonolaaGreatDoorKNe3
import Derived.Test.YtfajmelamonolaaGreatDoorKNe4
import Derived.Test.YtfajmelamonolaaGreatDoorKNe5
import Derived.Shelf.Strings.BuilderF
import Derived.Shelf.Strconv.AtoiAll
import Derived.Lib.SplitLaws
set_option linter.unusedVariables false
set_option linter.unusedSimpArgs false
namespace Go.Proofs.YtfajmelamonolaaGreatDoor
open Go.RowKit
set_option maxRecDepth 100000 in
set_option maxHeartbeats 4000000 in
theorem c_cnf_variable {Z : World} {ρ : PH} {L : List Atom} {w : World} (hT : Tabs ρ) (p0 : Int) (hp : Hp Z ρ (L) w) (r : Int) (hm : m_cnf_variable p0 = some r) :
    Calls Tryz.prog 36 #[(.int .i64 p0)] w (Ret fun v w' => v = (.int .i64 r) ∧ Hp Z ρ (L) w') := by
  refine enter (N := 7) Tryz.func36 rfl rfl [(0, (.int .i64 p0))] rfl (argsIn_mem ⟨rfl, trivial⟩) fun a hE => ?_
  unfold m_cnf_variable at hm
  refine k_seq ?_
  refine k_region ?_
  refine s_val (wk0 rfl) rfl rfl hE hp (v := (.int .i64 0)) (ex_asn rfl hE rfl) ?_
  intro a hE
  refine s_nil ?_
  refine k_seq ?_
  refine k_region ?_
  refine s_val (wk0 rfl) rfl rfl hE hp (v := (.int .i64 p0)) (ex_move rfl hE rfl) ?_
  intro a hE
  refine s_val (wk0 rfl) rfl rfl hE hp (v := (.int .i64 p0)) (ex_move rfl hE rfl) ?_
  intro a hE
  obtain ⟨x1, ex1, hm⟩ := bnd hm
  refine s_val (wk0 rfl) rfl rfl hE hp (v := (.int .i64 x1)) (ex_neg rfl hE rfl (inK_some ex1)) ?_
  intro a hE
  refine s_val (wk0 rfl) rfl rfl hE hp (v := (.int .i64 (max p0 x1))) (ex_max rfl hE rfl rfl) ?_
  intro a hE
  refine s_val (wk0 rfl) rfl rfl hE hp (v := (.int .i64 (max p0 x1))) (ex_asn rfl hE rfl) ?_
  intro a hE
  refine s_nil ?_
  refine k_ret ?_
  obtain rfl := Option.some.inj hm
  exact ret1 hE rfl rfl ⟨_, rfl, rfl, hp⟩
set_option maxRecDepth 100000 in
set_option maxHeartbeats 4000000 in
theorem c_cnf_normal {Z : World} {ρ : PH} {L : List Atom} {w : World} (hT : Tabs ρ) (p0 : (List Int)) (vp0 : Value) (hp0 : RoSl ρ vp0 p0) (p1 : Int) (hp : Hp Z ρ (L) w) (r : Bool) (hm : m_cnf_normal p0 p1 = some r) :
    Calls Tryz.prog 39 #[vp0, (.int .i64 p1)] w (Ret fun v w' => v = (.bool r) ∧ Hp Z ρ (L) w') := by
  refine enter (N := 32) Tryz.func39 rfl rfl [(0, vp0), (1, (.int .i64 p1))] rfl (argsIn_mem ⟨rfl, rfl, trivial⟩) fun a hE => ?_
  unfold m_cnf_normal at hm
  refine k_seq ?_
  refine k_region ?_
  refine s_val (wk0 rfl) rfl rfl hE hp (v := (.bool false)) (ex_asn rfl hE rfl) ?_
  intro a hE
  refine s_nil ?_
  refine k_seq ?_
  refine k_region ?_
  refine s_val (wk0 rfl) rfl rfl hE hp (v := (.int .i64 0)) (ex_asn rfl hE rfl) ?_
  intro a hE
  refine s_nil ?_
  refine k_seq ?_
  refine k_seq ?_
  refine k_region ?_
  refine s_val (wk0 rfl) rfl rfl hE hp (v := vp0) (ex_move rfl hE rfl) ?_
  intro a hE
  refine s_val (wk0 rfl) rfl rfl hE hp (v := (.int .i64 (p0.length : Int))) (ex_len rfl hE rfl (RoSl.len hp0 slty25)) ?_
  intro a hE
  refine s_val (wk0 rfl) rfl rfl hE hp (v := (.int .i64 0)) (ex_move rfl hE rfl) ?_
  intro a hE
  refine s_nil ?_
  obtain ⟨b1, hc1, hm⟩ := bnd hm
  refine k_block (fun a w => ∃ s : Unit, b1 = .brk s ∧ (Env 32 [] a ∧ Hp Z ρ (L) w)) ?_ ?_
  · refine k_loop hc1 (fun s a w => Env 32 [(1, (.int .i64 p1)), (5, (.int .i64 s.1)), (8, vp0), (9, (.int .i64 (p0.length : Int))), (10, (.int .i64 s.2))] a ∧ Hp Z ρ (L) w) ?_ ?_
    · exact ⟨hE.cut ⟨rfl, rfl, rfl, rfl, rfl, trivial⟩, hp⟩
    · rintro ⟨lp1_0, lp1_1⟩ st a w ⟨hE, hp⟩ hl1
      have hE : Env 32 [(1, (.int .i64 p1)), (5, (.int .i64 lp1_0)), (8, vp0), (9, (.int .i64 (p0.length : Int))), (10, (.int .i64 lp1_1))] a := hE
      have hp : Hp Z ρ (L) w := hp
      replace hl1 : m_cnf_normal_lp1 p0 p1 lp1_0 lp1_1 = some st := hl1
      unfold m_cnf_normal_lp1 at hl1
      refine k_seq ?_
      refine k_region ?_
      refine s_val (wk0 rfl) rfl rfl hE hp (v := (.bool (decide (lp1_1 < (p0.length : Int))))) (ex_lss rfl hE rfl rfl) ?_
      intro a hE
      refine s_nil ?_
      refine k_seq ?_
      refine k_if hE rfl (fun hc2 => ?_) (fun hc2 => ?_)
      · replace hl1 := (it hc2).symm.trans hl1
        refine k_skip ?_
        refine k_seq ?_
        refine k_plain ?_
        refine k_seq ?_
        refine k_region ?_
        obtain ⟨x1, ex1, hl1⟩ := bnd hl1
        obtain ⟨b2, b2o, b2c, b2r, b2k, b2f⟩ := RoSl.at hp0 slty25 ex1
        obtain rfl : b2c = Enc.enc x1 := b2k
        have b2f : AtP ρ b2 b2o [(.int .i64 x1)] := b2f
        refine s_val (wk0 rfl) rfl rfl hE hp (v := (.pointer (some ⟨b2, b2o, none⟩))) (ex_index rfl hE rfl rfl b2r) ?_
        intro a hE
        refine s_val (wk0 rfl) rfl rfl hE hp (v := (.int .i64 x1)) (ex_load rfl hE rfl (fun w hw => run_ld1 varty3 (b2f.c 0 rfl w hw))) ?_
        intro a hE
        refine s_val (wk0 rfl) rfl rfl hE hp (v := (.int .i64 x1)) (ex_asn rfl hE rfl) ?_
        intro a hE
        refine s_nil ?_
        refine k_seq ?_
        refine k_seq ?_
        refine k_region ?_
        refine s_val (wk0 rfl) rfl rfl hE hp (v := (.int .i64 x1)) (ex_move rfl hE rfl) ?_
        intro a hE
        refine s_val (wk0 rfl) rfl rfl hE hp (v := (.int .i64 p1)) (ex_move rfl hE rfl) ?_
        intro a hE
        obtain ⟨x2, ex2, hl1⟩ := bnd hl1
        refine s_val (wk0 rfl) rfl rfl hE hp (v := (.int .i64 x2)) (ex_neg rfl hE rfl (inK_some ex2)) ?_
        intro a hE
        refine s_val (wk0 rfl) rfl rfl hE hp (v := (.bool (decide (x1 < x2)))) (ex_lss rfl hE rfl rfl) ?_
        intro a hE
        refine s_val (wk0 rfl) rfl rfl hE hp (v := (.bool (decide (x1 < x2)))) (ex_move rfl hE rfl) ?_
        intro a hE
        refine s_cut [_, _, _, _] (fun a w => Env 32 [(22, (.bool ((decide (x1 < x2)) || (decide (p1 < x1))))), (1, (.int .i64 p1)), (5, (.int .i64 lp1_0)), (7, (.int .i64 x1)), (8, vp0), (9, (.int .i64 (p0.length : Int))), (10, (.int .i64 lp1_1))] a ∧ Hp Z ρ (L) w) ?_ ?_
        · rcases Bool.eq_false_or_eq_true (decide (x1 < x2)) with hc3 | hc3
          ·
            refine s_skip (wk2 hE rfl rfl rfl hc3) rfl rfl hE ?_
            intro a hE
            refine s_skip (wk2 hE rfl rfl rfl hc3) rfl rfl hE ?_
            intro a hE
            refine s_skip (wk2 hE rfl rfl rfl hc3) rfl rfl hE ?_
            intro a hE
            refine s_val (wk0 rfl) rfl rfl hE hp (v := (.bool true)) (ex_pick1 rfl hE rfl hc3 rfl) ?_
            intro a hE
            have hE := hE.eqv (v' := (.bool ((decide (x1 < x2)) || (decide (p1 < x1))))) (by rw [hc3]; rfl)
            exact s_nil ⟨hE.cut ⟨rfl, rfl, rfl, rfl, rfl, rfl, rfl, trivial⟩, hp⟩
          ·
            refine s_val (wk1 hE rfl rfl rfl hc3) rfl rfl hE hp (v := (.int .i64 x1)) (ex_move rfl hE rfl) ?_
            intro a hE
            refine s_val (wk1 hE rfl rfl rfl hc3) rfl rfl hE hp (v := (.int .i64 p1)) (ex_move rfl hE rfl) ?_
            intro a hE
            refine s_val (wk1 hE rfl rfl rfl hc3) rfl rfl hE hp (v := (.bool (decide (p1 < x1)))) (ex_gtr rfl hE rfl rfl) ?_
            intro a hE
            refine s_val (wk0 rfl) rfl rfl hE hp (v := (.bool (decide (p1 < x1)))) (ex_pick0 rfl hE rfl hc3 rfl) ?_
            intro a hE
            have hE := hE.eqv (v' := (.bool ((decide (x1 < x2)) || (decide (p1 < x1))))) (by rw [hc3]; rfl)
            exact s_nil ⟨hE.cut ⟨rfl, rfl, rfl, rfl, rfl, rfl, rfl, trivial⟩, hp⟩
        · rintro a w ⟨hE, hp⟩
          refine s_val (wk0 rfl) rfl rfl hE hp (v := (.bool ((decide (x1 < x2)) || (decide (p1 < x1))))) (ex_move rfl hE rfl) ?_
          intro a hE
          obtain ⟨m1, hg1, hl1⟩ := bnd hl1
          refine s_cut [_, _, _, _, _] (fun a w => Env 32 [(28, (.bool m1)), (1, (.int .i64 p1)), (7, (.int .i64 x1)), (8, vp0), (9, (.int .i64 (p0.length : Int))), (10, (.int .i64 lp1_1))] a ∧ Hp Z ρ (L) w) ?_ ?_
          · rcases Bool.eq_false_or_eq_true ((decide (x1 < x2)) || (decide (p1 < x1))) with hc4 | hc4
            ·
              replace hg1 := (it hc4).symm.trans hg1
              refine s_skip (wk2 hE rfl rfl rfl hc4) rfl rfl hE ?_
              intro a hE
              refine s_skip (wk2 hE rfl rfl rfl hc4) rfl rfl hE ?_
              intro a hE
              refine s_skip (wk2 hE rfl rfl rfl hc4) rfl rfl hE ?_
              intro a hE
              refine s_skip (wk2 hE rfl rfl rfl hc4) rfl rfl hE ?_
              intro a hE
              refine s_val (wk0 rfl) rfl rfl hE hp (v := (.bool true)) (ex_pick1 rfl hE rfl hc4 rfl) ?_
              intro a hE
              obtain rfl := Option.some.inj hg1
              exact s_nil ⟨hE.cut ⟨rfl, rfl, rfl, rfl, rfl, rfl, trivial⟩, hp⟩
            ·
              replace hg1 := (ie hc4).symm.trans hg1
              refine s_val (wk1 hE rfl rfl rfl hc4) rfl rfl hE hp (v := (.int .i64 x1)) (ex_move rfl hE rfl) ?_
              intro a hE
              obtain ⟨x3, ex3, hg1⟩ := bnd hg1
              refine s_call (wk1 hE rfl rfl rfl hc4) rfl rfl hE rfl [(.int .i64 x1)] ⟨rfl, trivial⟩ ent36 (c_cnf_variable hT x1 hp x3 ex3) Ret.ret ?_
              intro v a w hR hE
              obtain ⟨rfl, hp⟩ := Ret.of hR
              have hp : Hp Z ρ (L) w := hp
              refine s_val (wk1 hE rfl rfl rfl hc4) rfl rfl hE hp (v := (.int .i64 lp1_0)) (ex_move rfl hE rfl) ?_
              intro a hE
              refine s_val (wk1 hE rfl rfl rfl hc4) rfl rfl hE hp (v := (.bool (decide (x3 ≤ lp1_0)))) (ex_leq rfl hE rfl rfl) ?_
              intro a hE
              refine s_val (wk0 rfl) rfl rfl hE hp (v := (.bool (decide (x3 ≤ lp1_0)))) (ex_pick0 rfl hE rfl hc4 rfl) ?_
              intro a hE
              obtain rfl := Option.some.inj hg1
              exact s_nil ⟨hE.cut ⟨rfl, rfl, rfl, rfl, rfl, rfl, trivial⟩, hp⟩
          · rintro a w ⟨hE, hp⟩
            refine s_nil ?_
            refine k_if hE rfl (fun hc5 => ?_) (fun hc5 => ?_)
            · replace hl1 := (it hc5).symm.trans hl1
              refine k_seq ?_
              refine k_region ?_
              refine s_val (wk0 rfl) rfl rfl hE hp (v := (.bool false)) (ex_asn rfl hE rfl) ?_
              intro a hE
              refine s_nil ?_
              refine k_ret ?_
              refine ⟨_, (Option.some.inj hl1).symm, fun hb => ?_⟩
              subst hb
              obtain rfl := Option.some.inj hm
              exact ret1 hE rfl rfl ⟨_, rfl, rfl, hp⟩
            · replace hl1 := (ie hc5).symm.trans hl1
              refine k_skip ?_
              refine k_region ?_
              refine s_val (wk0 rfl) rfl rfl hE hp (v := (.int .i64 x1)) (ex_move rfl hE rfl) ?_
              intro a hE
              obtain ⟨x4, ex4, hl1⟩ := bnd hl1
              refine s_call (wk0 rfl) rfl rfl hE rfl [(.int .i64 x1)] ⟨rfl, trivial⟩ ent36 (c_cnf_variable hT x1 hp x4 ex4) Ret.ret ?_
              intro v a w hR hE
              obtain ⟨rfl, hp⟩ := Ret.of hR
              have hp : Hp Z ρ (L) w := hp
              refine s_val (wk0 rfl) rfl rfl hE hp (v := (.int .i64 x4)) (ex_asn rfl hE rfl) ?_
              intro a hE
              refine s_nil ?_
              refine k_region ?_
              obtain ⟨x5, ex5, hl1⟩ := bnd hl1
              refine s_val (wk0 rfl) rfl rfl hE hp (v := (.int .i64 x5)) (ex_add rfl hE rfl rfl (inK_some ex5)) ?_
              intro a hE
              refine s_val (wk0 rfl) rfl rfl hE hp (v := (.int .i64 x5)) (ex_move rfl hE rfl) ?_
              intro a hE
              refine s_nil ?_
              exact ⟨_, (Option.some.inj hl1).symm, hE.cut ⟨rfl, rfl, rfl, rfl, rfl, trivial⟩, hp⟩
      · replace hl1 := (ie hc2).symm.trans hl1
        refine k_exit ?_
        refine ⟨_, (Option.some.inj hl1).symm, fun hbb => ?_⟩
        exact ⟨_, hbb.symm, hE.cut trivial, hp⟩
  · rintro a w ⟨b1s, rfl, hE, hp⟩
    dsimp only at hm
    refine k_seq ?_
    refine k_region ?_
    refine s_val (wk0 rfl) rfl rfl hE hp (v := (.bool true)) (ex_asn rfl hE rfl) ?_
    intro a hE
    refine s_nil ?_
    refine k_ret ?_
    obtain rfl := Option.some.inj hm
    exact ret1 hE rfl rfl ⟨_, rfl, rfl, hp⟩
set_option maxRecDepth 100000 in
set_option maxHeartbeats 4000000 in
theorem c_cnf_Valid {Z : World} {ρ : PH} {L : List Atom} {w : World} (hT : Tabs ρ) (p0 : Formula) (vp0_clauses : Value) (hp0_clauses : RoSl ρ vp0_clauses p0.clauses) (hp : Hp Z ρ (L) w) (r : Bool) (hm : m_cnf_Valid p0 = some r) :
    Calls Tryz.prog 18 #[(.agg #[(.int .i64 p0.vars), vp0_clauses])] w (Ret fun v w' => v = (.bool r) ∧ Hp Z ρ (L) w') := by
  refine enter (N := 32) Tryz.func18 rfl rfl [(0, (.agg #[(.int .i64 p0.vars), vp0_clauses]))] rfl (argsIn_mem ⟨rfl, trivial⟩) fun a hE => ?_
  unfold m_cnf_Valid at hm
  refine k_seq ?_
  refine k_region ?_
  refine s_box (wk0 rfl) rfl rfl hE hp rfl (v := (.agg #[(.int .i64 p0.vars), vp0_clauses])) rfl ?_
  intro a w b1 hE hp
  have hp : Hp Z ρ (Pt b1 (.cells #[(.int .i64 p0.vars), vp0_clauses] 24 (0, 0)) :: L) w := hp
  refine s_val (wk0 rfl) rfl rfl hE hp (v := (.bool false)) (ex_asn rfl hE rfl) ?_
  intro a hE
  refine s_nil ?_
  refine k_seq ?_
  refine k_seq ?_
  refine k_region ?_
  refine s_val (wk0 rfl) rfl rfl hE hp (v := (.pointer (some ⟨b1, 0, none⟩))) (ex_field rfl hE rfl (fldty24_0 _ _)) ?_
  intro a hE
  refine s_val (wk0 rfl) rfl rfl hE hp (v := (.int .i64 p0.vars)) (ex_load rfl hE rfl (fun w hw => run_ld1 varty3 (Hp.c 0 rfl 0 rfl w hw))) ?_
  intro a hE
  refine s_val (wk0 rfl) rfl rfl hE hp (v := (.bool (decide (p0.vars < 0)))) (ex_lss rfl hE rfl rfl) ?_
  intro a hE
  refine s_val (wk0 rfl) rfl rfl hE hp (v := (.bool (decide (p0.vars < 0)))) (ex_move rfl hE rfl) ?_
  intro a hE
  refine s_cut [_, _, _, _] (fun a w => Env 32 [(12, (.bool ((decide (p0.vars < 0)) || (decide (65536 < p0.vars))))), (1, (.pointer (some ⟨b1, 0, none⟩)))] a ∧ Hp Z ρ (Pt b1 (.cells #[(.int .i64 p0.vars), vp0_clauses] 24 (0, 0)) :: L) w) ?_ ?_
  · rcases Bool.eq_false_or_eq_true (decide (p0.vars < 0)) with hc1 | hc1
    ·
      refine s_skip (wk2 hE rfl rfl rfl hc1) rfl rfl hE ?_
      intro a hE
      refine s_skip (wk2 hE rfl rfl rfl hc1) rfl rfl hE ?_
      intro a hE
      refine s_skip (wk2 hE rfl rfl rfl hc1) rfl rfl hE ?_
      intro a hE
      refine s_val (wk0 rfl) rfl rfl hE hp (v := (.bool true)) (ex_pick1 rfl hE rfl hc1 rfl) ?_
      intro a hE
      have hE := hE.eqv (v' := (.bool ((decide (p0.vars < 0)) || (decide (65536 < p0.vars))))) (by rw [hc1]; rfl)
      exact s_nil ⟨hE.cut ⟨rfl, rfl, trivial⟩, hp⟩
    ·
      refine s_val (wk1 hE rfl rfl rfl hc1) rfl rfl hE hp (v := (.pointer (some ⟨b1, 0, none⟩))) (ex_field rfl hE rfl (fldty24_0 _ _)) ?_
      intro a hE
      refine s_val (wk1 hE rfl rfl rfl hc1) rfl rfl hE hp (v := (.int .i64 p0.vars)) (ex_load rfl hE rfl (fun w hw => run_ld1 varty3 (Hp.c 0 rfl 0 rfl w hw))) ?_
      intro a hE
      refine s_val (wk1 hE rfl rfl rfl hc1) rfl rfl hE hp (v := (.bool (decide (65536 < p0.vars)))) (ex_gtr rfl hE rfl rfl) ?_
      intro a hE
      refine s_val (wk0 rfl) rfl rfl hE hp (v := (.bool (decide (65536 < p0.vars)))) (ex_pick0 rfl hE rfl hc1 rfl) ?_
      intro a hE
      have hE := hE.eqv (v' := (.bool ((decide (p0.vars < 0)) || (decide (65536 < p0.vars))))) (by rw [hc1]; rfl)
      exact s_nil ⟨hE.cut ⟨rfl, rfl, trivial⟩, hp⟩
  · rintro a w ⟨hE, hp⟩
    refine s_val (wk0 rfl) rfl rfl hE hp (v := (.bool ((decide (p0.vars < 0)) || (decide (65536 < p0.vars))))) (ex_move rfl hE rfl) ?_
    intro a hE
    refine s_cut [_, _, _, _, _] (fun a w => Env 32 [(18, (.bool (((decide (p0.vars < 0)) || (decide (65536 < p0.vars))) || (decide (262144 < (p0.clauses.length : Int)))))), (1, (.pointer (some ⟨b1, 0, none⟩)))] a ∧ Hp Z ρ (Pt b1 (.cells #[(.int .i64 p0.vars), vp0_clauses] 24 (0, 0)) :: L) w) ?_ ?_
    · rcases Bool.eq_false_or_eq_true ((decide (p0.vars < 0)) || (decide (65536 < p0.vars))) with hc2 | hc2
      ·
        refine s_skip (wk2 hE rfl rfl rfl hc2) rfl rfl hE ?_
        intro a hE
        refine s_skip (wk2 hE rfl rfl rfl hc2) rfl rfl hE ?_
        intro a hE
        refine s_skip (wk2 hE rfl rfl rfl hc2) rfl rfl hE ?_
        intro a hE
        refine s_skip (wk2 hE rfl rfl rfl hc2) rfl rfl hE ?_
        intro a hE
        refine s_val (wk0 rfl) rfl rfl hE hp (v := (.bool true)) (ex_pick1 rfl hE rfl hc2 rfl) ?_
        intro a hE
        have hE := hE.eqv (v' := (.bool (((decide (p0.vars < 0)) || (decide (65536 < p0.vars))) || (decide (262144 < (p0.clauses.length : Int)))))) (by rw [hc2]; rfl)
        exact s_nil ⟨hE.cut ⟨rfl, rfl, trivial⟩, hp⟩
      ·
        refine s_val (wk1 hE rfl rfl rfl hc2) rfl rfl hE hp (v := (.pointer (some ⟨b1, 1, none⟩))) (ex_field rfl hE rfl (fldty24_1 _ _)) ?_
        intro a hE
        refine s_val (wk1 hE rfl rfl rfl hc2) rfl rfl hE hp (v := vp0_clauses) (ex_load rfl hE rfl (fun w hw => run_ld1 varty22 (Hp.c 0 rfl 1 rfl w hw))) ?_
        intro a hE
        refine s_val (wk1 hE rfl rfl rfl hc2) rfl rfl hE hp (v := (.int .i64 (p0.clauses.length : Int))) (ex_len rfl hE rfl (RoSl.len hp0_clauses slty22)) ?_
        intro a hE
        refine s_val (wk1 hE rfl rfl rfl hc2) rfl rfl hE hp (v := (.bool (decide (262144 < (p0.clauses.length : Int))))) (ex_gtr rfl hE rfl rfl) ?_
        intro a hE
        refine s_val (wk0 rfl) rfl rfl hE hp (v := (.bool (decide (262144 < (p0.clauses.length : Int))))) (ex_pick0 rfl hE rfl hc2 rfl) ?_
        intro a hE
        have hE := hE.eqv (v' := (.bool (((decide (p0.vars < 0)) || (decide (65536 < p0.vars))) || (decide (262144 < (p0.clauses.length : Int)))))) (by rw [hc2]; rfl)
        exact s_nil ⟨hE.cut ⟨rfl, rfl, trivial⟩, hp⟩
    · rintro a w ⟨hE, hp⟩
      refine s_nil ?_
      refine k_if hE rfl (fun hc3 => ?_) (fun hc3 => ?_)
      · replace hm := (it hc3).symm.trans hm
        refine k_seq ?_
        refine k_region ?_
        refine s_val (wk0 rfl) rfl rfl hE hp (v := (.bool false)) (ex_asn rfl hE rfl) ?_
        intro a hE
        refine s_nil ?_
        refine k_ret ?_
        obtain rfl := Option.some.inj hm
        exact ret1 hE rfl rfl ⟨_, rfl, rfl, (hp.drop)⟩
      · replace hm := (ie hc3).symm.trans hm
        refine k_skip ?_
        refine k_seq ?_
        refine k_seq ?_
        refine k_region ?_
        refine s_val (wk0 rfl) rfl rfl hE hp (v := (.pointer (some ⟨b1, 1, none⟩))) (ex_field rfl hE rfl (fldty24_1 _ _)) ?_
        intro a hE
        refine s_val (wk0 rfl) rfl rfl hE hp (v := vp0_clauses) (ex_load rfl hE rfl (fun w hw => run_ld1 varty22 (Hp.c 0 rfl 1 rfl w hw))) ?_
        intro a hE
        refine s_val (wk0 rfl) rfl rfl hE hp (v := (.int .i64 (p0.clauses.length : Int))) (ex_len rfl hE rfl (RoSl.len hp0_clauses slty22)) ?_
        intro a hE
        refine s_val (wk0 rfl) rfl rfl hE hp (v := (.int .i64 0)) (ex_move rfl hE rfl) ?_
        intro a hE
        refine s_nil ?_
        obtain ⟨b2, hc4, hm⟩ := bnd hm
        refine k_block (fun a w => ∃ s : Unit, b2 = .brk s ∧ (Env 32 [] a ∧ Hp Z ρ (Pt b1 (.cells #[(.int .i64 p0.vars), vp0_clauses] 24 (0, 0)) :: L) w)) ?_ ?_
        · refine k_loop hc4 (fun s a w => Env 32 [(1, (.pointer (some ⟨b1, 0, none⟩))), (20, vp0_clauses), (21, (.int .i64 (p0.clauses.length : Int))), (22, (.int .i64 s))] a ∧ Hp Z ρ (Pt b1 (.cells #[(.int .i64 p0.vars), vp0_clauses] 24 (0, 0)) :: L) w) ?_ ?_
          · exact ⟨hE.cut ⟨rfl, rfl, rfl, rfl, trivial⟩, hp⟩
          · rintro lp1_0 st a w ⟨hE, hp⟩ hl1
            have hE : Env 32 [(1, (.pointer (some ⟨b1, 0, none⟩))), (20, vp0_clauses), (21, (.int .i64 (p0.clauses.length : Int))), (22, (.int .i64 lp1_0))] a := hE
            have hp : Hp Z ρ (_ :: L) w := hp
            replace hl1 : m_cnf_Valid_lp1 p0 lp1_0 = some st := hl1
            unfold m_cnf_Valid_lp1 at hl1
            refine k_seq ?_
            refine k_region ?_
            refine s_val (wk0 rfl) rfl rfl hE hp (v := (.bool (decide (lp1_0 < (p0.clauses.length : Int))))) (ex_lss rfl hE rfl rfl) ?_
            intro a hE
            refine s_nil ?_
            refine k_seq ?_
            refine k_if hE rfl (fun hc5 => ?_) (fun hc5 => ?_)
            · replace hl1 := (it hc5).symm.trans hl1
              refine k_skip ?_
              refine k_seq ?_
              refine k_plain ?_
              refine k_seq ?_
              refine k_region ?_
              obtain ⟨x1, ex1, hl1⟩ := bnd hl1
              obtain ⟨b3, b3o, b3c, b3r, b3k, b3f⟩ := RoSl.at hp0_clauses slty22 ex1
              obtain ⟨vb3, rfl, hb3⟩ := b3k
              have b3f : AtP ρ b3 b3o [vb3] := b3f
              refine s_val (wk0 rfl) rfl rfl hE hp (v := (.pointer (some ⟨b3, b3o, none⟩))) (ex_index rfl hE rfl rfl b3r) ?_
              intro a hE
              refine s_val (wk0 rfl) rfl rfl hE hp (v := vb3) (ex_load rfl hE rfl (fun w hw => run_ld1 varty25 (b3f.c 0 rfl w hw))) ?_
              intro a hE
              refine s_val (wk0 rfl) rfl rfl hE hp (v := vb3) (ex_asn rfl hE rfl) ?_
              intro a hE
              refine s_nil ?_
              refine k_seq ?_
              refine k_region ?_
              refine s_val (wk0 rfl) rfl rfl hE hp (v := vb3) (ex_move rfl hE rfl) ?_
              intro a hE
              refine s_val (wk0 rfl) rfl rfl hE hp (v := (.pointer (some ⟨b1, 0, none⟩))) (ex_field rfl hE rfl (fldty24_0 _ _)) ?_
              intro a hE
              refine s_val (wk0 rfl) rfl rfl hE hp (v := (.int .i64 p0.vars)) (ex_load rfl hE rfl (fun w hw => run_ld1 varty3 (Hp.c 0 rfl 0 rfl w hw))) ?_
              intro a hE
              obtain ⟨x2, ex2, hl1⟩ := bnd hl1
              refine s_call (wk0 rfl) rfl rfl hE rfl [vb3, (.int .i64 p0.vars)] ⟨rfl, rfl, trivial⟩ ent39 (c_cnf_normal hT x1 vb3 hb3 p0.vars hp x2 ex2) Ret.ret ?_
              intro v a w hR hE
              obtain ⟨rfl, hp⟩ := Ret.of hR
              have hp : Hp Z ρ (_ :: L) w := hp
              refine s_val (wk0 rfl) rfl rfl hE hp (v := (.bool (!x2))) (ex_not rfl hE rfl) ?_
              intro a hE
              refine s_nil ?_
              have hE := hE.cut (E' := [(1, (.pointer (some ⟨b1, 0, none⟩))), (20, vp0_clauses), (21, (.int .i64 (p0.clauses.length : Int))), (22, (.int .i64 lp1_0)), (30, (.bool (!x2)))]) ⟨rfl, rfl, rfl, rfl, rfl, trivial⟩
              refine k_if hE rfl (fun hc6 => ?_) (fun hc6 => ?_)
              · replace hl1 := (it hc6).symm.trans hl1
                refine k_seq ?_
                refine k_region ?_
                refine s_val (wk0 rfl) rfl rfl hE hp (v := (.bool false)) (ex_asn rfl hE rfl) ?_
                intro a hE
                refine s_nil ?_
                refine k_ret ?_
                refine ⟨_, (Option.some.inj hl1).symm, fun hb => ?_⟩
                subst hb
                obtain rfl := Option.some.inj hm
                exact ret1 hE rfl rfl ⟨_, rfl, rfl, (hp.drop)⟩
              · replace hl1 := (ie hc6).symm.trans hl1
                refine k_skip ?_
                refine k_region ?_
                obtain ⟨x3, ex3, hl1⟩ := bnd hl1
                refine s_val (wk0 rfl) rfl rfl hE hp (v := (.int .i64 x3)) (ex_add rfl hE rfl rfl (inK_some ex3)) ?_
                intro a hE
                refine s_val (wk0 rfl) rfl rfl hE hp (v := (.int .i64 x3)) (ex_move rfl hE rfl) ?_
                intro a hE
                refine s_nil ?_
                exact ⟨_, (Option.some.inj hl1).symm, hE.cut ⟨rfl, rfl, rfl, rfl, trivial⟩, hp⟩
            · replace hl1 := (ie hc5).symm.trans hl1
              refine k_exit ?_
              refine ⟨_, (Option.some.inj hl1).symm, fun hbb => ?_⟩
              exact ⟨_, hbb.symm, hE.cut trivial, hp⟩
        · rintro a w ⟨b2s, rfl, hE, hp⟩
          dsimp only at hm
          refine k_seq ?_
          refine k_region ?_
          refine s_val (wk0 rfl) rfl rfl hE hp (v := (.bool true)) (ex_asn rfl hE rfl) ?_
          intro a hE
          refine s_nil ?_
          refine k_ret ?_
          obtain rfl := Option.some.inj hm
          exact ret1 hE rfl rfl ⟨_, rfl, rfl, (hp.drop)⟩
set_option maxRecDepth 100000 in
set_option maxHeartbeats 4000000 in
theorem c_cnf_Normal {Z : World} {ρ : PH} {L : List Atom} {w : World} (hT : Tabs ρ) (p0 : (List Int)) (vp0 : Value) (hp0 : RoSl ρ vp0 p0) (hp : Hp Z ρ (L) w) (r : ((List Int) × Bool)) (hm : m_cnf_Normal p0 = some r) :
    Calls Tryz.prog 15 #[vp0] w (Ret fun v w' => ∃ (vr1 : Value), v = .tuple #[vr1, (.bool r.2)] ∧ Hp Z ρ (OwnSl 3 vr1 r.1 :: L) w') := by
  refine enter (N := 49) Tryz.func15 rfl rfl [(0, vp0)] rfl (argsIn_mem ⟨rfl, trivial⟩) fun a hE => ?_
  unfold m_cnf_Normal at hm
  refine k_seq ?_
  refine k_region ?_
  refine s_val (wk0 rfl) rfl rfl hE hp (v := (.slice none 0 0)) (ex_asn rfl hE rfl) ?_
  intro a hE
  refine s_val (wk0 rfl) rfl rfl hE hp (v := (.bool false)) (ex_asn rfl hE rfl) ?_
  intro a hE
  refine s_nil ?_
  refine k_seq ?_
  refine k_seq ?_
  refine k_region ?_
  refine s_val (wk0 rfl) rfl rfl hE hp (v := vp0) (ex_move rfl hE rfl) ?_
  intro a hE
  refine s_val (wk0 rfl) rfl rfl hE hp (v := (.int .i64 (p0.length : Int))) (ex_len rfl hE rfl (RoSl.len hp0 slty25)) ?_
  intro a hE
  refine s_val (wk0 rfl) rfl rfl hE hp (v := (.int .i64 0)) (ex_move rfl hE rfl) ?_
  intro a hE
  refine s_nil ?_
  obtain ⟨b1, hc1, hm⟩ := bnd hm
  refine k_block (fun a w => ∃ s : Unit, b1 = .brk s ∧ (Env 49 [(0, vp0)] a ∧ Hp Z ρ (L) w)) ?_ ?_
  · refine k_loop hc1 (fun s a w => Env 49 [(0, vp0), (8, vp0), (9, (.int .i64 (p0.length : Int))), (10, (.int .i64 s))] a ∧ Hp Z ρ (L) w) ?_ ?_
    · exact ⟨hE.cut ⟨rfl, rfl, rfl, rfl, trivial⟩, hp⟩
    · rintro lp1_0 st a w ⟨hE, hp⟩ hl1
      have hE : Env 49 [(0, vp0), (8, vp0), (9, (.int .i64 (p0.length : Int))), (10, (.int .i64 lp1_0))] a := hE
      have hp : Hp Z ρ (L) w := hp
      replace hl1 : m_cnf_Normal_lp1 p0 lp1_0 = some st := hl1
      unfold m_cnf_Normal_lp1 at hl1
      refine k_seq ?_
      refine k_region ?_
      refine s_val (wk0 rfl) rfl rfl hE hp (v := (.bool (decide (lp1_0 < (p0.length : Int))))) (ex_lss rfl hE rfl rfl) ?_
      intro a hE
      refine s_nil ?_
      refine k_seq ?_
      refine k_if hE rfl (fun hc2 => ?_) (fun hc2 => ?_)
      · replace hl1 := (it hc2).symm.trans hl1
        refine k_skip ?_
        refine k_seq ?_
        refine k_plain ?_
        refine k_seq ?_
        refine k_region ?_
        obtain ⟨x1, ex1, hl1⟩ := bnd hl1
        obtain ⟨b2, b2o, b2c, b2r, b2k, b2f⟩ := RoSl.at hp0 slty25 ex1
        obtain rfl : b2c = Enc.enc x1 := b2k
        have b2f : AtP ρ b2 b2o [(.int .i64 x1)] := b2f
        refine s_val (wk0 rfl) rfl rfl hE hp (v := (.pointer (some ⟨b2, b2o, none⟩))) (ex_index rfl hE rfl rfl b2r) ?_
        intro a hE
        refine s_val (wk0 rfl) rfl rfl hE hp (v := (.int .i64 x1)) (ex_load rfl hE rfl (fun w hw => run_ld1 varty3 (b2f.c 0 rfl w hw))) ?_
        intro a hE
        refine s_val (wk0 rfl) rfl rfl hE hp (v := (.int .i64 x1)) (ex_asn rfl hE rfl) ?_
        intro a hE
        refine s_nil ?_
        refine k_seq ?_
        refine k_region ?_
        refine s_val (wk0 rfl) rfl rfl hE hp (v := (.int .i64 x1)) (ex_move rfl hE rfl) ?_
        intro a hE
        refine s_val (wk0 rfl) rfl rfl hE hp (v := (.bool (decide (x1 = 0)))) (ex_eql rfl hE rfl rfl) ?_
        intro a hE
        refine s_val (wk0 rfl) rfl rfl hE hp (v := (.bool (decide (x1 = 0)))) (ex_move rfl hE rfl) ?_
        intro a hE
        refine s_cut [_, _, _] (fun a w => Env 49 [(19, (.bool ((decide (x1 = 0)) || (decide (x1 < (-1073741824)))))), (0, vp0), (5, (.int .i64 x1)), (8, vp0), (9, (.int .i64 (p0.length : Int))), (10, (.int .i64 lp1_0))] a ∧ Hp Z ρ (L) w) ?_ ?_
        · rcases Bool.eq_false_or_eq_true (decide (x1 = 0)) with hc3 | hc3
          ·
            refine s_skip (wk2 hE rfl rfl rfl hc3) rfl rfl hE ?_
            intro a hE
            refine s_skip (wk2 hE rfl rfl rfl hc3) rfl rfl hE ?_
            intro a hE
            refine s_val (wk0 rfl) rfl rfl hE hp (v := (.bool true)) (ex_pick1 rfl hE rfl hc3 rfl) ?_
            intro a hE
            have hE := hE.eqv (v' := (.bool ((decide (x1 = 0)) || (decide (x1 < (-1073741824)))))) (by rw [hc3]; rfl)
            exact s_nil ⟨hE.cut ⟨rfl, rfl, rfl, rfl, rfl, rfl, trivial⟩, hp⟩
          ·
            refine s_val (wk1 hE rfl rfl rfl hc3) rfl rfl hE hp (v := (.int .i64 x1)) (ex_move rfl hE rfl) ?_
            intro a hE
            refine s_val (wk1 hE rfl rfl rfl hc3) rfl rfl hE hp (v := (.bool (decide (x1 < (-1073741824))))) (ex_lss rfl hE rfl rfl) ?_
            intro a hE
            refine s_val (wk0 rfl) rfl rfl hE hp (v := (.bool (decide (x1 < (-1073741824))))) (ex_pick0 rfl hE rfl hc3 rfl) ?_
            intro a hE
            have hE := hE.eqv (v' := (.bool ((decide (x1 = 0)) || (decide (x1 < (-1073741824)))))) (by rw [hc3]; rfl)
            exact s_nil ⟨hE.cut ⟨rfl, rfl, rfl, rfl, rfl, rfl, trivial⟩, hp⟩
        · rintro a w ⟨hE, hp⟩
          refine s_val (wk0 rfl) rfl rfl hE hp (v := (.bool ((decide (x1 = 0)) || (decide (x1 < (-1073741824)))))) (ex_move rfl hE rfl) ?_
          intro a hE
          refine s_cut [_, _, _] (fun a w => Env 49 [(23, (.bool (((decide (x1 = 0)) || (decide (x1 < (-1073741824)))) || (decide (1073741824 < x1))))), (0, vp0), (8, vp0), (9, (.int .i64 (p0.length : Int))), (10, (.int .i64 lp1_0))] a ∧ Hp Z ρ (L) w) ?_ ?_
          · rcases Bool.eq_false_or_eq_true ((decide (x1 = 0)) || (decide (x1 < (-1073741824)))) with hc4 | hc4
            ·
              refine s_skip (wk2 hE rfl rfl rfl hc4) rfl rfl hE ?_
              intro a hE
              refine s_skip (wk2 hE rfl rfl rfl hc4) rfl rfl hE ?_
              intro a hE
              refine s_val (wk0 rfl) rfl rfl hE hp (v := (.bool true)) (ex_pick1 rfl hE rfl hc4 rfl) ?_
              intro a hE
              have hE := hE.eqv (v' := (.bool (((decide (x1 = 0)) || (decide (x1 < (-1073741824)))) || (decide (1073741824 < x1))))) (by rw [hc4]; rfl)
              exact s_nil ⟨hE.cut ⟨rfl, rfl, rfl, rfl, rfl, trivial⟩, hp⟩
            ·
              refine s_val (wk1 hE rfl rfl rfl hc4) rfl rfl hE hp (v := (.int .i64 x1)) (ex_move rfl hE rfl) ?_
              intro a hE
              refine s_val (wk1 hE rfl rfl rfl hc4) rfl rfl hE hp (v := (.bool (decide (1073741824 < x1)))) (ex_gtr rfl hE rfl rfl) ?_
              intro a hE
              refine s_val (wk0 rfl) rfl rfl hE hp (v := (.bool (decide (1073741824 < x1)))) (ex_pick0 rfl hE rfl hc4 rfl) ?_
              intro a hE
              have hE := hE.eqv (v' := (.bool (((decide (x1 = 0)) || (decide (x1 < (-1073741824)))) || (decide (1073741824 < x1))))) (by rw [hc4]; rfl)
              exact s_nil ⟨hE.cut ⟨rfl, rfl, rfl, rfl, rfl, trivial⟩, hp⟩
          · rintro a w ⟨hE, hp⟩
            refine s_nil ?_
            refine k_if hE rfl (fun hc5 => ?_) (fun hc5 => ?_)
            · replace hl1 := (it hc5).symm.trans hl1
              refine k_seq ?_
              refine k_region ?_
              refine s_val (wk0 rfl) rfl rfl hE hp (v := (.slice none 0 0)) (ex_asn rfl hE rfl) ?_
              intro a hE
              refine s_val (wk0 rfl) rfl rfl hE hp (v := (.bool false)) (ex_asn rfl hE rfl) ?_
              intro a hE
              refine s_nil ?_
              refine k_ret ?_
              refine ⟨_, (Option.some.inj hl1).symm, fun hb => ?_⟩
              subst hb
              have hp := hp.emp (OwnSl.nil (α := Int) 3)
              have hp : Hp Z ρ (OwnSl 3 (.slice none 0 0) ([] : List Int) :: L) w := hp
              obtain rfl := Option.some.inj hm
              exact ret2 hE rfl rfl rfl ⟨_, rfl, _, rfl, hp⟩
            · replace hl1 := (ie hc5).symm.trans hl1
              refine k_skip ?_
              refine k_region ?_
              obtain ⟨x2, ex2, hl1⟩ := bnd hl1
              refine s_val (wk0 rfl) rfl rfl hE hp (v := (.int .i64 x2)) (ex_add rfl hE rfl rfl (inK_some ex2)) ?_
              intro a hE
              refine s_val (wk0 rfl) rfl rfl hE hp (v := (.int .i64 x2)) (ex_move rfl hE rfl) ?_
              intro a hE
              refine s_nil ?_
              exact ⟨_, (Option.some.inj hl1).symm, hE.cut ⟨rfl, rfl, rfl, rfl, trivial⟩, hp⟩
      · replace hl1 := (ie hc2).symm.trans hl1
        refine k_exit ?_
        refine ⟨_, (Option.some.inj hl1).symm, fun hbb => ?_⟩
        exact ⟨_, hbb.symm, hE.cut ⟨rfl, trivial⟩, hp⟩
  · rintro a w ⟨b1s, rfl, hE, hp⟩
    dsimp only at hm
    refine k_seq ?_
    refine k_region ?_
    refine s_val (wk0 rfl) rfl rfl hE hp (v := vp0) (ex_move rfl hE rfl) ?_
    intro a hE
    obtain ⟨x3, ex3, hm⟩ := bnd hm
    refine s_call (wk0 rfl) rfl rfl hE rfl [vp0] ⟨rfl, trivial⟩ ent25 (c_cloneI p0 vp0 hp0 hp x3 ex3) Ret.ret ?_
    intro v1 a w hR hE
    obtain ⟨u, hu, hp⟩ := Ret.of hR
    rw [← hu] at hp
    have hp : Hp Z ρ (OwnSl 3 v1 x3 :: L) w := hp
    refine s_val (wk0 rfl) rfl rfl hE hp (v := v1) (ex_asn rfl hE rfl) ?_
    intro a hE
    refine s_nil ?_
    refine k_seq ?_
    refine k_region ?_
    refine s_val (wk0 rfl) rfl rfl hE hp (v := v1) (ex_move rfl hE rfl) ?_
    intro a hE
    obtain ⟨x4, ex4, hm⟩ := bnd hm
    refine s_call (wk0 rfl) rfl rfl hE rfl [v1, (.func (.func 33) #[] #[])] ⟨rfl, rfl, trivial⟩ ent32 (c_sortN x3 v1 hp x4 ex4) Ret.ret ?_
    intro v a w hR hE
    obtain ⟨rfl, hp⟩ := Ret.of hR
    have hp : Hp Z ρ (OwnSl 3 v1 x4 :: L) w := hp
    refine s_nil ?_
    refine k_seq ?_
    refine k_region ?_
    refine s_val (wk0 rfl) rfl rfl hE hp (v := v1) (ex_move rfl hE rfl) ?_
    intro a hE
    obtain ⟨x5, ex5, hm⟩ := bnd hm
    refine s_call (wk0 rfl) rfl rfl hE rfl [v1] ⟨rfl, trivial⟩ ent37 (c_compactI_own x4 v1 (hp.get 0 rfl) x5 ex5) Ret.ret ?_
    intro v2 a w hR hE
    obtain ⟨u, hu, hp⟩ := Ret.of hR
    rw [← hu] at hp
    have hp : Hp Z ρ (OwnSl 3 v2 x5 :: L) w := hp
    refine s_val (wk0 rfl) rfl rfl hE hp (v := v2) (ex_asn rfl hE rfl) ?_
    intro a hE
    refine s_nil ?_
    refine k_seq ?_
    refine k_seq ?_
    refine k_region ?_
    refine s_val (wk0 rfl) rfl rfl hE hp (v := (.int .i64 1)) (ex_asn rfl hE rfl) ?_
    intro a hE
    refine s_nil ?_
    obtain ⟨b3, hc6, hm⟩ := bnd hm
    refine k_block (fun a w => ∃ s : Unit, b3 = .brk s ∧ (Env 49 [(6, v2)] a ∧ Hp Z ρ (OwnSl 3 v2 x5 :: L) w)) ?_ ?_
    · refine k_loop hc6 (fun s a w => Env 49 [(6, v2), (7, (.int .i64 s))] a ∧ Hp Z ρ (OwnSl 3 v2 x5 :: L) w) ?_ ?_
      · exact ⟨hE.cut ⟨rfl, rfl, trivial⟩, hp⟩
      · rintro lp2_0 st a w ⟨hE, hp⟩ hl2
        have hE : Env 49 [(6, v2), (7, (.int .i64 lp2_0))] a := hE
        have hp : Hp Z ρ (_ :: L) w := hp
        replace hl2 : m_cnf_Normal_lp2 x5 lp2_0 = some st := hl2
        unfold m_cnf_Normal_lp2 at hl2
        refine k_seq ?_
        refine k_seq ?_
        refine k_region ?_
        refine s_val (wk0 rfl) rfl rfl hE hp (v := (.int .i64 lp2_0)) (ex_move rfl hE rfl) ?_
        intro a hE
        refine s_val (wk0 rfl) rfl rfl hE hp (v := v2) (ex_move rfl hE rfl) ?_
        intro a hE
        refine s_val (wk0 rfl) rfl rfl hE hp (v := (.int .i64 (x5.length : Int))) (ex_len rfl hE rfl (OwnSl.len hp 0 rfl slty25)) ?_
        intro a hE
        refine s_val (wk0 rfl) rfl rfl hE hp (v := (.bool (decide (lp2_0 < (x5.length : Int))))) (ex_lss rfl hE rfl rfl) ?_
        intro a hE
        refine s_nil ?_
        refine k_if hE rfl (fun hc7 => ?_) (fun hc7 => ?_)
        · replace hl2 := (it hc7).symm.trans hl2
          refine k_skip ?_
          refine k_seq ?_
          refine k_plain ?_
          refine k_seq ?_
          refine k_quiet (by kernel_rfl) (by kernel_rfl) hp ?_
          refine q_val (wk0 rfl) rfl rfl hE (v := v2) (ex_move rfl hE rfl) ?_
          intro a hE
          refine q_val (wk0 rfl) rfl rfl hE (v := (.int .i64 lp2_0)) (ex_move rfl hE rfl) ?_
          intro a hE
          obtain ⟨x6, ex6, hl2⟩ := bnd hl2
          refine q_val (wk0 rfl) rfl rfl hE (v := (.int .i64 x6)) (ex_sub rfl hE rfl rfl (inK_some ex6)) ?_
          intro a hE
          obtain ⟨x7, ex7, hl2⟩ := bnd hl2
          obtain ⟨b4, b4o, b4r, b4v, b4f⟩ := OwnSl.at hp 0 rfl slty25 ex7
          have b4f : ∀ (j : Nat) (u : Value), ([(.int .i64 x7)] : List Value)[j]? = some u → ∀ ρ' L' w, Hp Z ρ' (OwnSl 3 v2 x5 :: L') w → w.cell? ⟨b4, b4o + j, none⟩ = some u := b4f
          refine q_val (wk0 rfl) rfl rfl hE (v := (.pointer (some ⟨b4, b4o, none⟩))) (ex_index rfl hE rfl rfl b4r) ?_
          intro a hE
          refine q_val (wk0 rfl) rfl rfl hE (v := (.int .i64 x7)) (ex_load rfl hE rfl (fun w hw => run_ld1 varty3 (b4f 0 _ rfl _ _ w (hw.get 0 rfl)))) ?_
          intro a hE
          refine q_val (wk0 rfl) rfl rfl hE (v := v2) (ex_move rfl hE rfl) ?_
          intro a hE
          refine q_val (wk0 rfl) rfl rfl hE (v := (.int .i64 lp2_0)) (ex_move rfl hE rfl) ?_
          intro a hE
          obtain ⟨x8, ex8, hl2⟩ := bnd hl2
          obtain ⟨b5, b5o, b5r, b5v, b5f⟩ := OwnSl.at hp 0 rfl slty25 ex8
          have b5f : ∀ (j : Nat) (u : Value), ([(.int .i64 x8)] : List Value)[j]? = some u → ∀ ρ' L' w, Hp Z ρ' (OwnSl 3 v2 x5 :: L') w → w.cell? ⟨b5, b5o + j, none⟩ = some u := b5f
          refine q_val (wk0 rfl) rfl rfl hE (v := (.pointer (some ⟨b5, b5o, none⟩))) (ex_index rfl hE rfl rfl b5r) ?_
          intro a hE
          refine q_val (wk0 rfl) rfl rfl hE (v := (.int .i64 x8)) (ex_load rfl hE rfl (fun w hw => run_ld1 varty3 (b5f 0 _ rfl _ _ w (hw.get 0 rfl)))) ?_
          intro a hE
          obtain ⟨x9, ex9, hl2⟩ := bnd hl2
          refine q_val (wk0 rfl) rfl rfl hE (v := (.int .i64 x9)) (ex_neg rfl hE rfl (inK_some ex9)) ?_
          intro a hE
          refine q_val (wk0 rfl) rfl rfl hE (v := (.bool (decide (x7 = x9)))) (ex_eql rfl hE rfl rfl) ?_
          intro a hE
          refine q_nil fun w hp => ?_
          have hp : Hp Z ρ (_ :: L) w := hp
          refine k_if hE rfl (fun hc8 => ?_) (fun hc8 => ?_)
          · replace hl2 := (it hc8).symm.trans hl2
            refine k_seq ?_
            refine k_region ?_
            refine s_val (wk0 rfl) rfl rfl hE hp (v := (.slice none 0 0)) (ex_asn rfl hE rfl) ?_
            intro a hE
            refine s_val (wk0 rfl) rfl rfl hE hp (v := (.bool false)) (ex_asn rfl hE rfl) ?_
            intro a hE
            refine s_nil ?_
            have hE := hE.cut (E' := [(2, (.slice none 0 0)), (3, (.bool false))]) ⟨rfl, rfl, trivial⟩
            refine k_ret ?_
            refine ⟨_, (Option.some.inj hl2).symm, fun hb => ?_⟩
            subst hb
            have hp := hp.emp (OwnSl.nil (α := Int) 3)
            have hp : Hp Z ρ (OwnSl 3 (.slice none 0 0) ([] : List Int) :: _ :: L) w := hp
            obtain rfl := Option.some.inj hm
            exact ret2 hE rfl rfl rfl ⟨_, rfl, _, rfl, ((hp.get 1 rfl).drop)⟩
          · replace hl2 := (ie hc8).symm.trans hl2
            refine k_skip ?_
            refine k_region ?_
            refine s_val (wk0 rfl) rfl rfl hE hp (v := (.int .i64 lp2_0)) (ex_move rfl hE rfl) ?_
            intro a hE
            obtain ⟨x10, ex10, hl2⟩ := bnd hl2
            refine s_val (wk0 rfl) rfl rfl hE hp (v := (.int .i64 x10)) (ex_add rfl hE rfl rfl (inK_some ex10)) ?_
            intro a hE
            refine s_val (wk0 rfl) rfl rfl hE hp (v := (.int .i64 x10)) (ex_asn rfl hE rfl) ?_
            intro a hE
            refine s_nil ?_
            exact ⟨_, (Option.some.inj hl2).symm, hE.cut ⟨rfl, rfl, trivial⟩, hp⟩
        · replace hl2 := (ie hc7).symm.trans hl2
          refine k_exit ?_
          refine ⟨_, (Option.some.inj hl2).symm, fun hbb => ?_⟩
          exact ⟨_, hbb.symm, hE.cut ⟨rfl, trivial⟩, hp⟩
    · rintro a w ⟨b3s, rfl, hE, hp⟩
      dsimp only at hm
      refine k_seq ?_
      refine k_region ?_
      refine s_val (wk0 rfl) rfl rfl hE hp (v := v2) (ex_move rfl hE rfl) ?_
      intro a hE
      refine s_val (wk0 rfl) rfl rfl hE hp (v := v2) (ex_asn rfl hE rfl) ?_
      intro a hE
      refine s_val (wk0 rfl) rfl rfl hE hp (v := (.bool true)) (ex_asn rfl hE rfl) ?_
      intro a hE
      refine s_nil ?_
      refine k_ret ?_
      obtain rfl := Option.some.inj hm
      exact ret2 hE rfl rfl rfl ⟨_, rfl, _, rfl, hp⟩
end Go.Proofs.YtfajmelamonolaaGreatDoor

/- The library's contracts over owned parts: slices.Reverse of integers. -/
set_option linter.unusedVariables false
set_option linter.unusedSimpArgs false
namespace Go.Proofs.YtfajmelamonolaaGreatDoor
open Go.RowKit Go.Sort
theorem grow_nil (w : World) : Go.Sort.grow w #[] = w := by unfold Go.Sort.grow; simp
section
variable {Z : World} {ρ : PH} {L : List Atom} {w : World}
theorem c_revI (l : List Int) (v : Value) (hp : Hp Z ρ (OwnSl 3 v l :: L) w) (r : List Int) (hm : m_revI l = some r) :
    Calls Tryz.prog 31 #[v] w (Ret fun u w' => u = .tuple #[] ∧ Hp Z ρ (OwnSl 3 v r :: L) w') := by
  unfold m_revI at hm
  split at hm
  · rename_i hlen
    simp only [Option.some.injEq] at hm
    subst hm
    have none_ : ∀ A c, v = .slice A 0 c → l = [] → Calls Tryz.prog 31 #[v] w (Ret fun u w' => u = .tuple #[] ∧ Hp Z ρ (OwnSl 3 v l.reverse :: L) w') := by
      rintro A c rfl rfl
      refine (Tryz.slices_Reverse_int_empty A c w).mono ?_
      rintro e w' ⟨rfl, rfl⟩
      exact ⟨_, rfl, rfl, by simpa using hp⟩
    rcases hp.row.2 with ⟨A, hv, hn⟩ | ⟨g, off, cap, cur, hv, _⟩
    · exact none_ A 0 hv (List.eq_nil_of_length_eq_zero hn)
    · rcases Nat.eq_zero_or_pos l.length with h0 | h0
      · exact none_ _ cap (by rw [hv, h0]) (List.eq_nil_of_length_eq_zero h0)
      · subst hv
        obtain ⟨hH, hg⟩ := Hp.holdsO (Value.int .i64) hp h0 (d := l.toArray) (by rw [flat_int])
        refine (Tryz.slices_Reverse_int g off cap l w hH (by omega)).mono ?_
        rintro e w' ⟨rfl, m, rfl⟩
        have := Hp.putO (m := m) (os := #[]) (xs' := flat l.reverse) (Value.int .i64) hp h0 (d := l.reverse.toArray) (by rw [flat_int]) (by rw [flat_len, List.length_reverse])
        rw [grow_nil] at this
        refine ⟨_, rfl, rfl, ?_⟩
        unfold OwnSl
        rw [List.length_reverse]
        exact this
  · cases hm
end
end Go.Proofs.YtfajmelamonolaaGreatDoor

/- strings.Builder in this release: copyCheck ends in a refusal in the place of a panic's text, so the shelf's walks of it do not lie; walked here. -/
set_option linter.unusedVariables false
set_option linter.unusedSimpArgs false
namespace Go.Proofs.YtfajmelamonolaaGreatDoor
open Go.RowKit Go.Sort
set_option maxHeartbeats 1000000 in
set_option maxRecDepth 100000 in
theorem check_used (b : Nat) (w : World) (h0 : w.cell? ⟨b, 0, none⟩ = some (.pointer (some ⟨b, 0, none⟩))) :
    Calls Tryz.prog 64 #[.pointer (some ⟨b, 0, none⟩)] w fun e w' => e = .returned (.tuple #[]) ∧ w' = w := by
  obtain ⟨j, hj, _⟩ := Option.map_eq_some_iff.1 Tryz.Builder_Extra_169.sizeBuilder
  go_enter Tryz.func64, Tryz.ntmps64
  go_wp2
  rw [Lib.run_neq_ptr_same w _ Tryz.underlying74 hj]
  go_wp2
  go_end0
  exact ⟨rfl, rfl⟩
set_option maxHeartbeats 1000000 in
set_option maxRecDepth 100000 in
theorem check_fresh (b : Nat) (w : World) (h0 : w.cell? ⟨b, 0, none⟩ = some (.pointer none)) (hsh : w.shape? b = some (77, 2)) (hfz : w.frozen? ⟨b, 0, none⟩ = false) :
    Calls Tryz.prog 64 #[.pointer (some ⟨b, 0, none⟩)] w fun e w' => e = .returned (.tuple #[]) ∧ w' = w.setCell ⟨b, 0, none⟩ (.pointer (some ⟨b, 0, none⟩)) := by
  obtain ⟨j, hj, hjs⟩ := Option.map_eq_some_iff.1 Tryz.Builder_Extra_169.sizeBuilder
  go_enter Tryz.func64, Tryz.ntmps64
  go_wp2
  rw [Lib.run_to_unsafe w ⟨b, 0, none⟩ Tryz.underlying74 Tryz.underlying116 hj (by rw [hjs]; decide) hsh (Nat.zero_lt_succ 1)]
  simp only [Result.andThen]
  rw [Oper.upon_value]
  go_wp2
  rw [run_callFunc_extern Tryz.func87 (by kernel_rfl) (by kernel_rfl) (by kernel_rfl) (e := Extern.AbiNoEscape.same) (by kernel_rfl)]
  rw [Lib.run_noEscape]
  simp only [Result.andThen]
  rw [Oper.upon_value]
  go_wp2
  rw [Lib.run_from_unsafe w ⟨b, 0, none⟩ Tryz.underlying116 Tryz.underlying74 hj hsh Tryz.Builder_Extra_169.liesBuilder]
  simp only [Result.andThen]
  rw [Oper.upon_value]
  go_wp2
  go_end0
  exact ⟨rfl, rfl⟩
def Buf (h : PH) (v : Value) (l : List UInt8) : Prop :=
  (v = .slice none 0 0 ∧ l = []) ∨ ∃ g cap cur, v = .slice (some ⟨g, 0, none⟩) l.length cap ∧ h g = some (.cells cur 5 (0, 0)) ∧ l.length ≤ cap ∧ cap ≤ maxLen ∧ cur.size = cap ∧ cur.toList.take l.length = Lib.byteCells l
def BldA (b : Nat) (l : List UInt8) : Atom := fun k => ∃ p v, (p = .pointer none ∨ p = .pointer (some ⟨b, 0, none⟩)) ∧ k b = some (.cells #[p, v] 77 (0, 0)) ∧ Buf k v l
theorem bld_new (b : Nat) : ∀ k, Pt b (.cells #[.pointer none, .slice none 0 0] 77 (0, 0)) k → BldA b [] k := by
  rintro k rfl
  exact ⟨_, _, Or.inl rfl, by simp [PH.one], Or.inl ⟨rfl, rfl⟩⟩
theorem Buf.mono {h h' : PH} {v : Value} {l : List UInt8} (hb : Buf h v l) (hl : ∀ g o, v.ownBlock = some g → h g = some o → h' g = some o) : Buf h' v l := by
  rcases hb with ⟨rfl, rfl⟩ | ⟨g, cap, cur, rfl, h1, h2⟩
  · exact Or.inl ⟨rfl, rfl⟩
  · exact Or.inr ⟨g, cap, cur, rfl, hl g _ rfl h1, h2⟩
theorem Buf.in_ {h : PH} {v : Value} {l : List UInt8} (hb : Buf h v l) {g : Nat} (hg : v.ownBlock = some g) : ∃ cur, h g = some (.cells cur 5 (0, 0)) := by
  rcases hb with ⟨rfl, rfl⟩ | ⟨g', cap, cur, rfl, h1, _⟩
  · simp [Value.ownBlock] at hg
  · simp only [Value.ownBlock, Option.some.injEq] at hg; subst hg; exact ⟨cur, h1⟩
theorem Buf.owns {w : World} {v : Value} {l : List UInt8} (hb : Buf (hp w) v l) : w.ownsRow 0 5 1 v l.length (Lib.byteCells l) := by
  refine ⟨by rw [Lib.byteCells_length, Nat.mul_one], ?_⟩
  rcases hb with ⟨rfl, rfl⟩ | ⟨g, cap, cur, rfl, h1, h2, h3, h4, h5⟩
  · exact Or.inl ⟨rfl, rfl⟩
  · exact Or.inr ⟨g, cap, cur, rfl, Nat.zero_le _, h1, h2, h3, by omega, by rw [Nat.mul_one]; exact h5⟩
theorem buf_of {w : World} {v : Value} {l : List UInt8} {B : Nat} (h : w.ownsRow B 5 1 v l.length (Lib.byteCells l)) : Buf (hp w) v l := by
  rcases h.2 with ⟨rfl, h0⟩ | ⟨g, cap, cur, rfl, _, h1, h2, h3, h4, h5⟩
  · exact Or.inl ⟨rfl, List.eq_nil_of_length_eq_zero h0⟩
  · exact Or.inr ⟨g, cap, cur, rfl, h1, h2, h3, by omega, by rw [Nat.mul_one] at h5; exact h5⟩
theorem buf_app {w : World} {v : Value} {l : List UInt8} (hb : Buf (hp w) v l) (s : ByteArray) (hlen : l.length + s.size ≤ 140737488355328) (ty : TypeId) :
    ∃ v' w', (Builtin.append_ #[75, 9] ty #[v, .string s]).run Tryz.prog w = .ok v' w' ∧ Buf (hp w') v' (l ++ s.data.toList) ∧ w.grownBy w' v.ownBlock ∧ (∀ g, v'.ownBlock = some g → v.ownBlock = some g ∨ w.heap.size ≤ g) := by
  obtain ⟨i, hi, hz0, hz1, hz2⟩ := info_parts Tryz.Builder_Extra_169.infoByte
  have hm : l.length + s.size ≤ maxLen := by unfold maxLen; omega
  obtain ⟨v', w', hr, ho, hg, _⟩ := Lib.run_append_own_string (P := Tryz.prog) w 0 75 9 ty 5 i Tryz.underlying75 Tryz.underlying9 hi hz0 hz1 hz2 v _ _ hb.owns s hm hlen (Nat.zero_le _)
  have e1 : Lib.byteCells (l ++ s.data.toList) = Lib.byteCells l ++ Lib.strCells s := by unfold Lib.byteCells Lib.strCells; rw [List.map_append]
  have e2 : (l ++ s.data.toList).length = l.length + s.size := by rw [List.length_append]; rfl
  refine ⟨v', w', hr, buf_of (by rw [e1, e2]; exact ho), hg, fun g hgo => ?_⟩
  rcases hb with ⟨rfl, rfl⟩ | ⟨g0, cap, cur, rfl, h1, h2, h3, h4, h5⟩
  · right
    obtain ⟨v2, w2, hr2, ho2, _⟩ := Lib.run_append_own_string (P := Tryz.prog) w w.heap.size 75 9 ty 5 i Tryz.underlying75 Tryz.underlying9 hi hz0 hz1 hz2 (.slice none 0 0) 0 [] (World.ownsRow_nil w _ 5 1) s (by simpa using hm) (by simpa using hlen) (Nat.le_refl _)
    rw [hr] at hr2
    simp only [Result.ok.injEq] at hr2
    obtain ⟨rfl, rfl⟩ := hr2
    rcases ho2.2 with ⟨rfl, _⟩ | ⟨g', _, _, rfl, hb', _⟩
    · simp [Value.ownBlock] at hgo
    · simp only [Value.ownBlock, Option.some.injEq] at hgo; subst hgo; exact hb'
  · by_cases hroom : l.length + s.size ≤ cap
    · have hr2 := Lib.run_append_room_string (P := Tryz.prog) w 75 9 ty 5 i Tryz.underlying75 Tryz.underlying9 hi hz1 g0 l.length cap cur h1 s hroom (by omega)
      rw [hr] at hr2
      simp only [Result.ok.injEq] at hr2
      obtain ⟨rfl, rfl⟩ := hr2
      left; exact hgo
    · have hown := Buf.owns (w := w) (v := .slice (some ⟨g0, 0, none⟩) l.length cap) (l := l) (Or.inr ⟨g0, cap, cur, rfl, h1, h2, h3, h4, h5⟩)
      have hr2 := Lib.run_append_grow_string (P := Tryz.prog) w 75 9 ty 5 i (.int .u8 0) Tryz.underlying75 Tryz.underlying9 hi hz0 ⟨g0, 0, none⟩ l.length cap (Lib.byteCells l) (by rw [hz1, Lib.byteCells_length, Nat.mul_one]) (hown.cells (g := g0) rfl) s (by omega) (by omega) (by rw [hz2]; exact growslice_fits (by omega) (by omega))
      rw [hr] at hr2
      simp only [Result.ok.injEq] at hr2
      obtain ⟨rfl, rfl⟩ := hr2
      right
      simp only [Value.ownBlock, Option.some.injEq] at hgo
      omega
theorem wpList_app_str {ops : Array Oper} {rest : List Oper} {o : Oper} {a : Act} {w : World} {Q : Exit → Act → World → Prop} (hgd : o.guard = none) (sl x : Operand)
    (ho : o.op = .call { callee := .builtin .append, args := #[sl, x], argTypes := #[75, 9] }) {v : Value} {s : ByteArray} (hs : a.eval sl = v) (hx : a.eval x = .string s) {v' : Value} {w' : World}
    (hr : (Builtin.append_ #[75, 9] o.type #[v, .string s]).run Tryz.prog w = .ok v' w') (h : wpList Tryz.prog ops Q rest (a.put o.dst v') w') : wpList Tryz.prog ops Q (o :: rest) a w := by
  refine wpList_plain hgd fun K hK => ?_
  unfold Oper.wp execOp
  simp only [ho, resolve, invoke, builtin, Sem.run_bind, Sem.run_pure, Result.andThen_ok, List.map_toArray, List.map_cons, List.map_nil, hs, hx, hr]
  exact hK _ _ h
theorem check_any (b : Nat) (p v : Value) (w : World) (hp0 : p = .pointer none ∨ p = .pointer (some ⟨b, 0, none⟩)) (h : w.heap[b]? = some (.cells #[p, v] 77 (0, 0))) :
    Calls Tryz.prog 64 #[.pointer (some ⟨b, 0, none⟩)] w fun e w' => e = .returned (.tuple #[]) ∧ w'.heap[b]? = some (.cells #[.pointer (some ⟨b, 0, none⟩), v] 77 (0, 0)) ∧ w'.os = w.os ∧ w'.tape = w.tape ∧ w'.output = w.output ∧ w'.heap.size = w.heap.size ∧ ∀ k, k ≠ b → w'.heap[k]? = w.heap[k]? := by
  rcases hp0 with rfl | rfl
  · refine (check_fresh b w (by simp [World.cell?, h]) (by simp [World.shape?, h]) (by simp [World.frozen?, h])).mono ?_
    rintro e w' ⟨rfl, rfl⟩
    exact ⟨rfl, by simp [World.setCell, Array.getElem?_modify, h], rfl, rfl, rfl, by simp [World.setCell], fun k hk => Below.heap_setCell _ _ _ _ (fun e => hk (by simp [e]))⟩
  · refine (check_used b w (by simp [World.cell?, h])).mono ?_
    rintro e w' ⟨rfl, rfl⟩
    exact ⟨rfl, h, rfl, rfl, rfl, rfl, fun _ _ => rfl⟩
def m_wstr (l : List UInt8) (s : ByteArray) : Option (List UInt8) := if l.length + s.size ≤ 140737488355328 then some (l ++ s.data.toList) else none
def m_bstr (l : List UInt8) : Option ByteArray := if l ≠ [] then some ⟨l.toArray⟩ else none
section
variable {Z : World} {ρ : PH} {L : List Atom} {w : World}
set_option maxHeartbeats 2000000 in
set_option maxRecDepth 100000 in
theorem c_wstr (b : Nat) (l : List UInt8) (s : ByteArray) (hp0 : Hp Z ρ (BldA b l :: L) w) (r : List UInt8) (hm : m_wstr l s = some r) :
    Calls Tryz.prog 49 #[.pointer (some ⟨b, 0, none⟩), .string s] w (Ret fun v w' => v = .tuple #[.int .i64 s.size, .nilIface] ∧ Hp Z ρ (BldA b r :: L) w') := by
  unfold m_wstr at hm
  split at hm
  case isFalse => cases hm
  rename_i hlen
  simp only [Option.some.injEq] at hm
  subst hm
  obtain ⟨k0, ⟨p, v, hpp, hk0, hbuf⟩, d0, hl0⟩ := hp0.lend
  have hle0 : k0.le (hp w) := (PH.le_un_r d0).tr hl0.le
  have hbw : w.heap[b]? = some (.cells #[p, v] 77 (0, 0)) := hle0 _ _ hk0
  have hne : v.ownBlock ≠ some b := fun e => by
    obtain ⟨cur, hc⟩ := hbuf.in_ e
    rw [hk0] at hc
    simp at hc
  have hbufw : Buf (hp w) v l := hbuf.mono fun g o _ h => hle0 _ _ h
  have e240 : ∀ args w, (callFunc 64 args).run Tryz.prog w = .ok (.enter 64 args) w := enters Tryz.func64 (by kernel_rfl) rfl
  go_enter Tryz.func49, Tryz.ntmps49
  go_wp2_with (go_at_fn 64; refine (check_any b p v _ hpp hbw).mono ?_)
  rintro e w1 ⟨rfl, hb1, ho1, ht1, hu1, hs1, hf1⟩
  have hbuf1 : Buf (hp w1) v l := hbufw.mono fun g o hg h => by
    have : g ≠ b := fun e => hne (by rw [hg, e])
    exact (hf1 g this).trans h
  have c0 : w1.cell? ⟨b, 0, none⟩ = some (.pointer (some ⟨b, 0, none⟩)) := by rw [Lib.cell_of_heap hb1]; rfl
  have c1 : w1.cell? ⟨b, 1, none⟩ = some v := by rw [Lib.cell_of_heap hb1]; rfl
  obtain ⟨v', w2, hrun, hbuf2, hg2, hnew⟩ := buf_app hbuf1 s hlen 75
  have hlt : b < w1.heap.size := (Array.getElem?_eq_some_iff.1 hb1).1
  have hb2 : w2.heap[b]? = some (.cells #[.pointer (some ⟨b, 0, none⟩), v] 77 (0, 0)) := by
    rw [hg2.block b hlt (fun e => hne e.symm)]
    exact hb1
  have d0' : w2.cell? ⟨b, 0, none⟩ = some (.pointer (some ⟨b, 0, none⟩)) := by rw [Lib.cell_of_heap hb2]; rfl
  have d1' : w2.cell? ⟨b, 1, none⟩ = some v := by rw [Lib.cell_of_heap hb2]; rfl
  have f1 : w2.frozen? ⟨b, 1, none⟩ = false := Lib.frozen_of_heap hb2 1
  obtain ⟨ao, n', cap, rfl⟩ : ∃ ao n' cap, v' = .slice ao n' cap := by
    rcases hbuf2 with ⟨hv, _⟩ | ⟨g, cap, cur, hv, _⟩
    · exact ⟨_, _, _, hv⟩
    · exact ⟨_, _, _, hv⟩
  go_wp2_with (at_builtin; refine wpList_app_str rfl _ _ rfl rfl rfl hrun ?_)
  go_wp2
  go_ret2
  refine ⟨_, rfl, rfl, ?_⟩
  have hs2 : w1.heap.size ≤ w2.heap.size := hg2.size
  have hoth : ∀ x, x ≠ b → (w2.setCell ⟨b, 1, none⟩ (.slice ao n' cap)).heap[x]? = w2.heap[x]? := fun x hx => Below.heap_setCell _ _ _ _ (fun e => hx (by simp [e]))
  have hb3 : (w2.setCell ⟨b, 1, none⟩ (.slice ao n' cap)).heap[b]? = some (.cells #[.pointer (some ⟨b, 0, none⟩), .slice ao n' cap] 77 (0, 0)) := by
    simp [World.setCell, Array.getElem?_modify, hb2]
  refine hp0.with_ (w' := w2.setCell ⟨b, 1, none⟩ (.slice ao n' cap)) (hg2.os.trans ho1) (hg2.tape.trans ht1) (hg2.output.trans hu1) (hp0.sep.write fun k hk hkl => ?_)
  obtain ⟨p', v0, _, hkb, hkbuf⟩ := hk
  have hv0 : v0 = v := by
    have h1 := hkl _ _ hkb
    have h2 : hp w b = some (.cells #[p, v] 77 (0, 0)) := hbw
    rw [h2] at h1
    simp at h1
    exact h1.2.symm
  subst hv0
  refine ⟨fun x => if x = b ∨ (Value.slice ao n' cap).ownBlock = some x then hp (w2.setCell ⟨b, 1, none⟩ (.slice ao n' cap)) x else none, ⟨.pointer (some ⟨b, 0, none⟩), .slice ao n' cap, Or.inr rfl, ?_, ?_⟩, ?_, ?_, ?_⟩
  · simp only [true_or, if_true]; exact hb3
  · refine hbuf2.mono fun g o hg h => ?_
    simp only [hg, or_true, if_true]
    have hgb : g ≠ b := fun e => by
      subst e
      obtain ⟨cur, hc⟩ := hbuf2.in_ hg
      have : hp w2 g = some (.cells #[.pointer (some ⟨g, 0, none⟩), v0] 77 (0, 0)) := hb2
      rw [this] at hc
      simp at hc
    exact (hoth g hgb).trans h
  · intro x o e
    dsimp only at e
    split at e
    · exact e
    · cases e
  · intro x o e
    unfold PH.minus at e
    cases hx : k x with
    | some _ => rw [hx] at e; cases e
    | none =>
      rw [hx] at e
      have hxb : x ≠ b := fun e' => by subst e'; rw [hx] at hkb; cases hkb
      have hxg : some x ≠ v0.ownBlock := fun e' => by
        obtain ⟨cur, hc⟩ := hkbuf.in_ e'.symm
        rw [hx] at hc; cases hc
      have hxl : x < w1.heap.size := by rw [hs1]; exact (Array.getElem?_eq_some_iff.1 e).1
      show (w2.setCell ⟨b, 1, none⟩ (.slice ao n' cap)).heap[x]? = some o
      rw [hoth x hxb, hg2.block x hxl hxg, hf1 x hxb]
      exact e
  · intro x hx
    dsimp only at hx
    split at hx
    · rename_i hxx
      rcases hxx with rfl | hxx
      · left; rw [hkb]; simp
      · rcases hnew x hxx with h | h
        · left
          obtain ⟨cur, hc⟩ := hkbuf.in_ h
          rw [hc]; simp
        · right
          show w.heap[x]? = none
          rw [Array.getElem?_eq_none (by omega)]
    · exact absurd rfl hx
set_option maxHeartbeats 2000000 in
set_option maxRecDepth 100000 in
theorem c_bstr (b : Nat) (l : List UInt8) (hp0 : Hp Z ρ (BldA b l :: L) w) (r : ByteArray) (hm : m_bstr l = some r) :
    Calls Tryz.prog 51 #[.pointer (some ⟨b, 0, none⟩)] w (Ret fun v w' => v = .string r ∧ Hp Z ρ L w') := by
  unfold m_bstr at hm
  split at hm
  case isFalse => cases hm
  rename_i h0
  simp only [Option.some.injEq] at hm
  subst hm
  obtain ⟨k0, ⟨p, v, hpp, hk0, hbuf⟩, d0, hl0⟩ := hp0.lend
  have hle0 : k0.le (hp w) := (PH.le_un_r d0).tr hl0.le
  have hbk : w.heap[b]? = some (.cells #[p, v] 77 (0, 0)) := hle0 _ _ hk0
  rcases hbuf with ⟨_, h1⟩ | ⟨g, cap, cur, rfl, hg0, hnc, hcm, hcs, htake⟩
  · exact absurd h1 h0
  have hg : w.heap[g]? = some (.cells cur 5 (0, 0)) := hle0 _ _ hg0
  have hl0' : l.length ≠ 0 := by simpa using h0
  have c1 : w.drew.cell? ⟨b, 1, none⟩ = some (.slice (some ⟨g, 0, none⟩) l.length cap) := by
    have : w.drew.heap[b]? = some (.cells #[p, .slice (some ⟨g, 0, none⟩) l.length cap] 77 (0, 0)) := hbk
    rw [Lib.cell_of_heap this]; rfl
  have hSD : (Builtin.unsafeSliceData_ #[75] 91 #[.slice (some ⟨g, 0, none⟩) l.length cap]).run Tryz.prog w.drew = .ok (.pointer (some ⟨g, 0, none⟩)) w.drew :=
    Lib.run_unsafeSliceData_row _ _ _ _ _ _ (by omega)
  have hUS : (Builtin.unsafeString_ #[91, 3] 9 #[.pointer (some ⟨g, 0, none⟩), .int .i64 l.length]).run Tryz.prog w.drew = .ok (.string ⟨l.toArray⟩) (w.drew.freeze ⟨g, 0, none⟩ l.length) := by
    refine Lib.run_unsafeString_row w.drew 91 3 9 5 Tryz.underlying91 Tryz.Builder_Extra_169.cellsByte g cur.size (by have hg' : w.drew.heap[g]? = some (.cells cur 5 (0, 0)) := hg; simp [World.shape?, hg']) l h0 (by omega) (by unfold maxLen at hcm; omega) ?_
    intro j x hx
    have hj : j < l.length := (List.getElem?_eq_some_iff.1 hx).1
    show w.cell? _ = _
    rw [Addr.add_lit, Nat.zero_add, cell_of_row w g _ cur 5 (0, 0) hg]
    have h2 : (Lib.byteCells l)[j]? = some (.int .u8 x.toNat) := by simp [Lib.byteCells, hx]
    rw [← htake, List.getElem?_take, if_pos hj] at h2
    simpa using h2
  have hend : Hp Z ρ L (w.drew.freeze ⟨g, 0, none⟩ l.length) := by
    have hfr : ∀ x, x ≠ g → (w.drew.freeze ⟨g, 0, none⟩ l.length).heap[x]? = w.heap[x]? := fun x hx => by
      unfold World.freeze
      rw [if_neg hl0']
      simp only [Array.getElem?_modify]
      rw [if_neg (fun e => hx e.symm)]
      rfl
    have ho : (w.drew.freeze ⟨g, 0, none⟩ l.length).os = w.os ∧ (w.drew.freeze ⟨g, 0, none⟩ l.length).tape = w.tape ∧ (w.drew.freeze ⟨g, 0, none⟩ l.length).output = w.output := by
      unfold World.freeze
      rw [if_neg hl0']
      exact ⟨rfl, rfl, rfl⟩
    refine hp0.with_ ho.1 ho.2.1 ho.2.2 ((Sep.lift d0 hl0.sep).mono fun x o e => ?_)
    unfold PH.minus at e
    cases hx : k0 x with
    | some _ => rw [hx] at e; cases e
    | none =>
      rw [hx] at e
      show (w.drew.freeze ⟨g, 0, none⟩ l.length).heap[x]? = some o
      rw [hfr x (fun e' => by subst e'; rw [hx] at hg0; cases hg0)]
      exact e
  have mixed := Tryz.lays169.mixed
  go_enter Tryz.func51, Tryz.ntmps51
  go_wp2
  go_region_o
  all_goals (go_wp2; go_ret; exact ⟨_, rfl, rfl, hend⟩)
end
def BldS (b : Nat) (s : ByteArray) : Atom := BldA b s.data.toList
theorem bldS_new (b : Nat) : ∀ k, Pt b (.cells #[.pointer none, .slice none 0 0] 77 (0, 0)) k → BldS b ByteArray.empty k := bld_new b
section
variable {Z : World} {ρ : PH} {L : List Atom} {w : World}
theorem c_WStr (b : Nat) (l s : ByteArray) (hp0 : Hp Z ρ (BldS b l :: L) w) (r : ByteArray) (hm : m_WStr l s = some r) :
    Calls Tryz.prog 49 #[.pointer (some ⟨b, 0, none⟩), .string s] w (Ret fun v w' => v = .tuple #[.int .i64 s.size, .nilIface] ∧ Hp Z ρ (BldS b r :: L) w') := by
  unfold m_WStr at hm
  split at hm
  · rename_i h
    simp only [Option.some.injEq] at hm
    subst hm
    have e : (l ++ s).data.toList = l.data.toList ++ s.data.toList := by simp
    have := c_wstr (L := L) b l.data.toList s hp0 (l.data.toList ++ s.data.toList) (by unfold m_wstr; rw [if_pos]; exact h)
    unfold BldS
    rw [e]
    exact this
  · cases hm
theorem c_BStr (b : Nat) (l : ByteArray) (hp0 : Hp Z ρ (BldS b l :: L) w) (r : ByteArray) (hm : m_BStr l = some r) :
    Calls Tryz.prog 51 #[.pointer (some ⟨b, 0, none⟩)] w (Ret fun v w' => v = .string r ∧ Hp Z ρ L w') := by
  unfold m_BStr at hm
  simp only [Option.some.injEq] at hm
  subst hm
  by_cases h : l.data.toList = []
  · have hl : l = ⟨#[]⟩ := by obtain ⟨⟨x⟩⟩ := l; simp at h; subst h; rfl
    obtain ⟨k0, ⟨p, v, hpp, hk0, hbuf⟩, d0, hl0⟩ := hp0.lend
    have hle0 : k0.le (hp w) := (PH.le_un_r d0).tr hl0.le
    have hbk : w.heap[b]? = some (.cells #[p, v] 77 (0, 0)) := hle0 _ _ hk0
    have hp1 := hp0.drop
    rw [h] at hbuf
    rcases hbuf with ⟨rfl, _⟩ | ⟨g, cap, cur, rfl, hg0, hnc, hcm, hcs, htake⟩
    · refine (Any.Builder_String_nil Tryz.lays169 Tryz.Builder_Extra_169 w.heap.size b p w hbk).mono ?_
      rintro e w' ⟨rfl, hB⟩
      exact ⟨_, rfl, by rw [hl], hp1.keep hB⟩
    · have hg : w.heap[g]? = some (.cells cur 5 (0, 0)) := hle0 _ _ hg0
      by_cases hc0 : cap = 0
      · subst hc0
        refine (Any.Builder_String_noroom Tryz.lays169 Tryz.Builder_Extra_169 w.heap.size b g p cur w (Nat.le_refl _) hbk hg).mono ?_
        rintro e w' ⟨rfl, hB⟩
        exact ⟨_, rfl, by rw [hl], hp1.keep hB⟩
      · refine (Any.Builder_String_room Tryz.lays169 Tryz.Builder_Extra_169 w.heap.size b g cap p w hc0 hbk).mono ?_
        rintro e w' ⟨rfl, hB⟩
        exact ⟨_, rfl, by rw [hl], hp1.keep hB⟩
  · refine c_bstr (L := L) b l.data.toList hp0 l ?_
    unfold m_bstr
    rw [if_pos h]
end
end Go.Proofs.YtfajmelamonolaaGreatDoor

/- The library's contracts over owned parts: Itoa, Atoi, Cut, Split; the builder. -/
set_option linter.unusedVariables false
set_option linter.unusedSimpArgs false
namespace Go.Proofs.YtfajmelamonolaaGreatDoor
open Go.RowKit Go.Sort Go.Lib
section
variable {Z : World} {ρ : PH} {L : List Atom} {w : World}
theorem Hp.grow (h : Hp Z ρ L w) (os : Array Obj) : Hp Z ρ L (grow w os) := by
  refine h.with_ (w' := Go.Sort.grow w os) rfl rfl rfl (h.sep.mono fun b o e => ?_)
  have hlt : b < w.heap.size := (Array.getElem?_eq_some_iff.1 e).1
  show (Go.Sort.grow w os).heap[b]? = some o
  rw [heap_grow_old _ _ hlt]; exact e
theorem c_itoa (hT : Tabs ρ) (n : Int) (hp : Hp Z ρ L w) (r : ByteArray) (hm : m_itoa n = some r) :
    Calls Tryz.prog 50 #[.int .i64 n] w (Ret fun v w' => v = .string r ∧ Hp Z ρ L w') := by
  unfold m_itoa at hm
  split at hm
  · rename_i h
    simp only [Option.some.injEq] at hm
    subst hm
    refine (Tryz.strconv_Itoa n h.1 h.2 w (hT.pow w hp.le)).mono ?_
    rintro e w' ⟨rfl, k, os, rfl⟩
    exact ⟨_, rfl, rfl, (hp.drewN k).grow os⟩
  · cases hm
theorem c_cut (hT : Tabs ρ) (s sep : ByteArray) (hp : Hp Z ρ L w) (r : ByteArray × ByteArray × Bool) (hm : m_cut s sep = some r) :
    Calls Tryz.prog 46 #[.string s, .string sep] w (Ret fun v w' => v = .tuple #[.string r.1, .string r.2.1, .bool r.2.2] ∧ Hp Z ρ L w') := by
  unfold m_cut at hm
  split at hm
  · rename_i h
    simp only [Option.some.injEq] at hm
    subst hm
    obtain ⟨m, hm⟩ := hT.maxl
    refine (Tryz.strings_Cut s sep m w h (hm w hp.le)).mono ?_
    rintro e w' ⟨rfl, n, rfl⟩
    exact ⟨_, rfl, rfl, hp.drewN n⟩
  · cases hm
theorem c_split (hT : Tabs ρ) (s sep : ByteArray) (hp : Hp Z ρ L w) (r : List ByteArray) (hm : m_split s sep = some r) :
    Calls Tryz.prog 47 #[.string s, .string sep] w (Ret fun v w' => ∃ v1, v = v1 ∧ Hp Z ρ (OwnSl 9 v1 r :: L) w') := by
  unfold m_split at hm
  split at hm
  · rename_i h
    simp only [Option.some.injEq] at hm
    subst hm
    obtain ⟨m, hm⟩ := hT.maxl
    refine (Tryz.strings_Split s sep m w h.1 (hm w hp.le) h.2.1).mono ?_
    rintro e w' ⟨rfl, rfl⟩
    have hl : (splitB sep 0 (countB s sep) s).length = countB s sep + 1 := splitB_all sep h.2.1 0 _ s rfl
    refine ⟨_, rfl, _, rfl, ?_⟩
    refine (hp.alloc _).imp (own_of_pt hl (by unfold maxLen; omega) ?_)
    congr 1
    induction (splitB sep 0 (countB s sep) s) with
    | nil => rfl
    | cons x l ih => rw [flat_cons, List.map_cons, ih]; rfl
  · cases hm
theorem c_atoi (hT : Tabs ρ) (s : ByteArray) (hp : Hp Z ρ L w) (r : Int) (hm : m_atoi s = some r) :
    Calls Tryz.prog 48 #[.string s] w (Ret fun v w' => ∃ ev, v = .tuple #[.int .i64 r, ev] ∧ Hp Z ρ L w') := by
  unfold m_atoi at hm
  split at hm
  · rename_i hs
    simp only [Option.some.injEq] at hm
    subst hm
    cases h : atoiAll s.data.toList with
    | ok v =>
      refine (Any.strconv_Atoi_ok Tryz.laysC172 s (by omega) v h w).mono ?_
      rintro e w' ⟨rfl, h | ⟨t, rfl⟩⟩
      · subst h; exact ⟨_, rfl, _, rfl, hp⟩
      · exact ⟨_, rfl, _, rfl, hp.keep ⟨rfl, rfl, rfl, by rw [bytesWorld_size]; omega, fun k hk => bytesWorld_at_old w _ t k hk⟩⟩
    | range =>
      obtain ⟨ev, hc, he⟩ := hT.rng
      refine (Any.strconv_Atoi_range Tryz.laysC172 s hs h ev w (hc w hp.le) he).mono ?_
      rintro e w' ⟨N, rfl, _, _, hb⟩
      exact ⟨_, rfl, _, rfl, hp.keep hb⟩
    | _ =>
      obtain ⟨ev, hc, he⟩ := hT.syn
      refine (Any.strconv_Atoi_syntax Tryz.laysC172 s hs h ev w (hc w hp.le) he).mono ?_
      rintro e w' ⟨N, rfl, _, _, hb⟩
      exact ⟨_, rfl, _, rfl, hp.keep hb⟩
  · cases hm
end
end Go.Proofs.YtfajmelamonolaaGreatDoor

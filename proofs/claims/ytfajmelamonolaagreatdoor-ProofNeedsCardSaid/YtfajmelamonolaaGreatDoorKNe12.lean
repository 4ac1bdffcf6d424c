/- The code goes as its model: assessor/assessorlaw27.ProofNeeds. (Printed by wip/sp/gen.py.) -/
import Derived.Test.YtfajmelamonolaaGreatDoorKNe4
import Derived.Test.YtfajmelamonolaaGreatDoorKNe10
import Derived.Test.YtfajmelamonolaaGreatDoorKNe11
set_option linter.unusedVariables false
set_option linter.unusedSimpArgs false
namespace Go.Proofs.YtfajmelamonolaaGreatDoor
open Go.RowKit
set_option maxRecDepth 100000 in
set_option maxHeartbeats 4000000 in
theorem c_assessorlaw27_ProofNeeds {Z : World} {ρ : PH} {L : List Atom} {w : World} (hT : Tabs ρ) (p0 : Formula) (vp0_clauses : Value) (hp0_clauses : RoSl ρ vp0_clauses p0.clauses) (p1 : (List (List Int))) (vp1 : Value) (hp1 : RoSl ρ vp1 p1) (p2 : (List Int)) (vp2 : Value) (hp2 : RoSl ρ vp2 p2) (hp : Hp Z ρ (L) w) (r : Bool) (hm : m_assessorlaw27_ProofNeeds p0 p1 p2 = some r) :
    Calls Tryz.prog 3 #[(.agg #[(.int .i64 p0.vars), vp0_clauses]), vp1, vp2] w (Ret fun v w' => v = (.bool r) ∧ Hp Z ρ (L) w') := by
  refine enter (N := 202) Tryz.func3 rfl rfl [(0, (.agg #[(.int .i64 p0.vars), vp0_clauses])), (1, vp1), (2, vp2)] rfl (argsIn_mem ⟨rfl, rfl, rfl, trivial⟩) fun a hE => ?_
  unfold m_assessorlaw27_ProofNeeds at hm
  refine k_seq ?_
  refine k_region ?_
  refine s_box (wk0 rfl) rfl rfl hE hp rfl (v := (.agg #[(.int .i64 p0.vars), vp0_clauses])) rfl ?_
  intro a w b1 hE hp
  have hp : Hp Z ρ (Pt b1 (.cells #[(.int .i64 p0.vars), vp0_clauses] 24 (0, 0)) :: L) w := hp
  refine s_val (wk0 rfl) rfl rfl hE hp (v := (.bool false)) (ex_asn rfl hE rfl) ?_
  intro a hE
  refine s_nil ?_
  refine k_seq ?_
  refine k_seq ?_
  refine k_region ?_
  obtain ⟨x1, ex1, hm⟩ := bnd hm
  refine s_call (wk0 rfl) rfl rfl hE rfl [] trivial ent5 (c_assessorlaw27_awake hT hp x1 ex1) Ret.ret ?_
  intro v a w hR hE
  obtain ⟨rfl, hp⟩ := Ret.of hR
  have hp : Hp Z ρ (_ :: L) w := hp
  refine s_val (wk0 rfl) rfl rfl hE hp (v := (.bool (!x1))) (ex_not rfl hE rfl) ?_
  intro a hE
  refine s_nil ?_
  refine k_if hE rfl (fun hc1 => ?_) (fun hc1 => ?_)
  · replace hm := (it hc1).symm.trans hm
    refine k_seq ?_
    refine k_region ?_
    refine s_val (wk0 rfl) rfl rfl hE hp (v := (.bool false)) (ex_asn rfl hE rfl) ?_
    intro a hE
    refine s_nil ?_
    refine k_ret ?_
    obtain rfl := Option.some.inj hm
    exact ret1 hE rfl rfl ⟨_, rfl, rfl, (hp.drop)⟩
  · replace hm := (ie hc1).symm.trans hm
    refine k_skip ?_
    refine k_seq ?_
    refine k_seq ?_
    refine k_region ?_
    refine s_val (wk0 rfl) rfl rfl hE hp (v := (.agg #[(.int .i64 p0.vars), vp0_clauses])) (ex_load rfl hE rfl (fun w hw => run_ldN (cs := [(.int .i64 p0.vars), vp0_clauses]) varty24 (Hp.cN 0 rfl 0 _ (sub_all rfl) w hw))) ?_
    intro a hE
    obtain ⟨x2, ex2, hm⟩ := bnd hm
    refine s_call (wk0 rfl) rfl rfl hE rfl [(.agg #[(.int .i64 p0.vars), vp0_clauses]), (.int .i64 20), (.int .i64 20)] ⟨rfl, rfl, rfl, trivial⟩ ent6 (c_assessorref26_Small hT p0 vp0_clauses hp0_clauses 20 20 hp x2 ex2) Ret.ret ?_
    intro v a w hR hE
    obtain ⟨rfl, hp⟩ := Ret.of hR
    have hp : Hp Z ρ (_ :: L) w := hp
    refine s_val (wk0 rfl) rfl rfl hE hp (v := (.bool (!x2))) (ex_not rfl hE rfl) ?_
    intro a hE
    refine s_val (wk0 rfl) rfl rfl hE hp (v := (.bool (!x2))) (ex_move rfl hE rfl) ?_
    intro a hE
    obtain ⟨m1, hg1, hm⟩ := bnd hm
    refine s_cut [_, _, _, _] (fun a w => Env 202 [(33, (.bool m1)), (1, vp1), (2, vp2), (3, (.pointer (some ⟨b1, 0, none⟩)))] a ∧ Hp Z ρ (Pt b1 (.cells #[(.int .i64 p0.vars), vp0_clauses] 24 (0, 0)) :: L) w) ?_ ?_
    · rcases Bool.eq_false_or_eq_true (!x2) with hc2 | hc2
      ·
        replace hg1 := (it hc2).symm.trans hg1
        refine s_skip (wk2 hE rfl rfl rfl hc2) rfl rfl hE ?_
        intro a hE
        refine s_skip (wk2 hE rfl rfl rfl hc2) rfl rfl hE ?_
        intro a hE
        refine s_skip (wk2 hE rfl rfl rfl hc2) rfl rfl hE ?_
        intro a hE
        refine s_val (wk0 rfl) rfl rfl hE hp (v := (.bool true)) (ex_pick1 rfl hE rfl hc2 rfl) ?_
        intro a hE
        obtain rfl := Option.some.inj hg1
        exact s_nil ⟨hE.cut ⟨rfl, rfl, rfl, rfl, trivial⟩, hp⟩
      ·
        replace hg1 := (ie hc2).symm.trans hg1
        refine s_val (wk1 hE rfl rfl rfl hc2) rfl rfl hE hp (v := vp1) (ex_move rfl hE rfl) ?_
        intro a hE
        obtain ⟨x3, ex3, hg1⟩ := bnd hg1
        refine s_call (wk1 hE rfl rfl rfl hc2) rfl rfl hE rfl [vp1, (.int .i64 20)] ⟨rfl, rfl, trivial⟩ ent7 (c_assessorlaw27_small hT p1 vp1 hp1 20 hp x3 ex3) Ret.ret ?_
        intro v a w hR hE
        obtain ⟨rfl, hp⟩ := Ret.of hR
        have hp : Hp Z ρ (_ :: L) w := hp
        refine s_val (wk1 hE rfl rfl rfl hc2) rfl rfl hE hp (v := (.bool (!x3))) (ex_not rfl hE rfl) ?_
        intro a hE
        refine s_val (wk0 rfl) rfl rfl hE hp (v := (.bool (!x3))) (ex_pick0 rfl hE rfl hc2 rfl) ?_
        intro a hE
        obtain rfl := Option.some.inj hg1
        exact s_nil ⟨hE.cut ⟨rfl, rfl, rfl, rfl, trivial⟩, hp⟩
    · rintro a w ⟨hE, hp⟩
      refine s_val (wk0 rfl) rfl rfl hE hp (v := (.bool m1)) (ex_move rfl hE rfl) ?_
      intro a hE
      obtain ⟨m2, hg2, hm⟩ := bnd hm
      refine s_cut [_, _, _, _, _] (fun a w => Env 202 [(39, (.bool m2)), (1, vp1), (2, vp2), (3, (.pointer (some ⟨b1, 0, none⟩)))] a ∧ Hp Z ρ (Pt b1 (.cells #[(.int .i64 p0.vars), vp0_clauses] 24 (0, 0)) :: L) w) ?_ ?_
      · rcases Bool.eq_false_or_eq_true m1 with hc3 | hc3
        ·
          replace hg2 := (it hc3).symm.trans hg2
          refine s_skip (wk2 hE rfl rfl rfl hc3) rfl rfl hE ?_
          intro a hE
          refine s_skip (wk2 hE rfl rfl rfl hc3) rfl rfl hE ?_
          intro a hE
          refine s_skip (wk2 hE rfl rfl rfl hc3) rfl rfl hE ?_
          intro a hE
          refine s_skip (wk2 hE rfl rfl rfl hc3) rfl rfl hE ?_
          intro a hE
          refine s_val (wk0 rfl) rfl rfl hE hp (v := (.bool true)) (ex_pick1 rfl hE rfl hc3 rfl) ?_
          intro a hE
          obtain rfl := Option.some.inj hg2
          exact s_nil ⟨hE.cut ⟨rfl, rfl, rfl, rfl, trivial⟩, hp⟩
        ·
          replace hg2 := (ie hc3).symm.trans hg2
          refine s_val (wk1 hE rfl rfl rfl hc3) rfl rfl hE hp (v := (.agg #[(.int .i64 p0.vars), vp0_clauses])) (ex_load rfl hE rfl (fun w hw => run_ldN (cs := [(.int .i64 p0.vars), vp0_clauses]) varty24 (Hp.cN 0 rfl 0 _ (sub_all rfl) w hw))) ?_
          intro a hE
          refine s_val (wk1 hE rfl rfl rfl hc3) rfl rfl hE hp (v := vp1) (ex_move rfl hE rfl) ?_
          intro a hE
          obtain ⟨x4, ex4, hg2⟩ := bnd hg2
          refine s_call (wk1 hE rfl rfl rfl hc3) rfl rfl hE rfl [(.agg #[(.int .i64 p0.vars), vp0_clauses]), vp1] ⟨rfl, rfl, trivial⟩ ent8 (c_proof_Check hT p0 vp0_clauses hp0_clauses p1 vp1 hp1 hp x4 ex4) Ret.ret ?_
          intro v a w hR hE
          obtain ⟨rfl, hp⟩ := Ret.of hR
          have hp : Hp Z ρ (_ :: L) w := hp
          refine s_val (wk1 hE rfl rfl rfl hc3) rfl rfl hE hp (v := (.bool (!x4))) (ex_not rfl hE rfl) ?_
          intro a hE
          refine s_val (wk0 rfl) rfl rfl hE hp (v := (.bool (!x4))) (ex_pick0 rfl hE rfl hc3 rfl) ?_
          intro a hE
          obtain rfl := Option.some.inj hg2
          exact s_nil ⟨hE.cut ⟨rfl, rfl, rfl, rfl, trivial⟩, hp⟩
      · rintro a w ⟨hE, hp⟩
        refine s_nil ?_
        refine k_if hE rfl (fun hc4 => ?_) (fun hc4 => ?_)
        · replace hm := (it hc4).symm.trans hm
          refine k_seq ?_
          refine k_region ?_
          refine s_val (wk0 rfl) rfl rfl hE hp (v := (.bool true)) (ex_asn rfl hE rfl) ?_
          intro a hE
          refine s_nil ?_
          refine k_ret ?_
          obtain rfl := Option.some.inj hm
          exact ret1 hE rfl rfl ⟨_, rfl, rfl, (hp.drop)⟩
        · replace hm := (ie hc4).symm.trans hm
          refine k_skip ?_
          refine k_seq ?_
          refine k_region ?_
          refine s_val (wk0 rfl) rfl rfl hE hp (v := (.agg #[(.int .i64 p0.vars), vp0_clauses])) (ex_load rfl hE rfl (fun w hw => run_ldN (cs := [(.int .i64 p0.vars), vp0_clauses]) varty24 (Hp.cN 0 rfl 0 _ (sub_all rfl) w hw))) ?_
          intro a hE
          refine s_val (wk0 rfl) rfl rfl hE hp (v := vp1) (ex_move rfl hE rfl) ?_
          intro a hE
          obtain ⟨x5, ex5, hm⟩ := bnd hm
          refine s_call (wk0 rfl) rfl rfl hE rfl [(.agg #[(.int .i64 p0.vars), vp0_clauses]), vp1] ⟨rfl, rfl, trivial⟩ ent9 (c_proof_Trim hT p0 vp0_clauses hp0_clauses p1 vp1 hp1 hp x5 ex5) Ret.ret ?_
          intro v a w hR hE
          obtain ⟨ρ1, vr5, hle1, rfl, hr5, hp⟩ := Ret.of hR
          have hp : Hp Z ρ1 (_ :: L) w := hp
          refine s_val (wk0 rfl) rfl rfl hE hp (v := (.tuple #[vr5, (.int .i64 x5.2)])) (ex_move rfl hE rfl) ?_
          intro a hE
          refine s_val (wk0 rfl) rfl rfl hE hp (v := vr5) (ex_extract rfl hE rfl rfl) ?_
          intro a hE
          refine s_val (wk0 rfl) rfl rfl hE hp (v := (.int .i64 x5.2)) (ex_extract rfl hE rfl rfl) ?_
          intro a hE
          refine s_val (wk0 rfl) rfl rfl hE hp (v := vr5) (ex_asn rfl hE rfl) ?_
          intro a hE
          refine s_val (wk0 rfl) rfl rfl hE hp (v := (.int .i64 x5.2)) (ex_asn rfl hE rfl) ?_
          intro a hE
          refine s_nil ?_
          refine k_seq ?_
          refine k_region ?_
          refine s_val (wk0 rfl) rfl rfl hE hp (v := (.agg #[(.int .i64 p0.vars), vp0_clauses])) (ex_load rfl hE rfl (fun w hw => run_ldN (cs := [(.int .i64 p0.vars), vp0_clauses]) varty24 (Hp.cN 0 rfl 0 _ (sub_all rfl) w hw))) ?_
          intro a hE
          refine s_val (wk0 rfl) rfl rfl hE hp (v := vr5) (ex_move rfl hE rfl) ?_
          intro a hE
          obtain ⟨x6, ex6, hm⟩ := bnd hm
          refine s_call (wk0 rfl) rfl rfl hE rfl [(.agg #[(.int .i64 p0.vars), vp0_clauses]), vr5] ⟨rfl, rfl, trivial⟩ ent9 (c_proof_Trim (Tabs.mono hT hle1) p0 vp0_clauses (RoSl.mono hp0_clauses hle1) x5.1 vr5 hr5 hp x6 ex6) Ret.ret ?_
          intro v a w hR hE
          obtain ⟨ρ2, vr7, hle2, rfl, hr7, hp⟩ := Ret.of hR
          have hp : Hp Z ρ2 (_ :: L) w := hp
          refine s_val (wk0 rfl) rfl rfl hE hp (v := (.tuple #[vr7, (.int .i64 x6.2)])) (ex_move rfl hE rfl) ?_
          intro a hE
          refine s_val (wk0 rfl) rfl rfl hE hp (v := vr7) (ex_extract rfl hE rfl rfl) ?_
          intro a hE
          refine s_val (wk0 rfl) rfl rfl hE hp (v := (.int .i64 x6.2)) (ex_extract rfl hE rfl rfl) ?_
          intro a hE
          refine s_val (wk0 rfl) rfl rfl hE hp (v := vr7) (ex_asn rfl hE rfl) ?_
          intro a hE
          refine s_val (wk0 rfl) rfl rfl hE hp (v := (.int .i64 x6.2)) (ex_asn rfl hE rfl) ?_
          intro a hE
          refine s_nil ?_
          refine k_seq ?_
          refine k_region ?_
          refine s_val (wk0 rfl) rfl rfl hE hp (v := (.agg #[(.int .i64 p0.vars), vp0_clauses])) (ex_load rfl hE rfl (fun w hw => run_ldN (cs := [(.int .i64 p0.vars), vp0_clauses]) varty24 (Hp.cN 0 rfl 0 _ (sub_all rfl) w hw))) ?_
          intro a hE
          refine s_val (wk0 rfl) rfl rfl hE hp (v := vp1) (ex_move rfl hE rfl) ?_
          intro a hE
          obtain ⟨x7, ex7, hm⟩ := bnd hm
          refine s_call (wk0 rfl) rfl rfl hE rfl [(.agg #[(.int .i64 p0.vars), vp0_clauses]), vp1] ⟨rfl, rfl, trivial⟩ ent10 (c_proof_Core (Tabs.mono (Tabs.mono hT hle1) hle2) p0 vp0_clauses (RoSl.mono (RoSl.mono hp0_clauses hle1) hle2) p1 vp1 (RoSl.mono (RoSl.mono hp1 hle1) hle2) hp x7 ex7) Ret.ret ?_
          intro v a w hR hE
          obtain ⟨vr9, rfl, hp⟩ := Ret.of hR
          have hp : Hp Z ρ2 (OwnSl 3 vr9 x7.1 :: _ :: L) w := hp
          refine s_val (wk0 rfl) rfl rfl hE hp (v := (.tuple #[vr9, (.int .i64 x7.2)])) (ex_move rfl hE rfl) ?_
          intro a hE
          refine s_val (wk0 rfl) rfl rfl hE hp (v := vr9) (ex_extract rfl hE rfl rfl) ?_
          intro a hE
          refine s_val (wk0 rfl) rfl rfl hE hp (v := (.int .i64 x7.2)) (ex_extract rfl hE rfl rfl) ?_
          intro a hE
          refine s_val (wk0 rfl) rfl rfl hE hp (v := vr9) (ex_asn rfl hE rfl) ?_
          intro a hE
          refine s_val (wk0 rfl) rfl rfl hE hp (v := (.int .i64 x7.2)) (ex_asn rfl hE rfl) ?_
          intro a hE
          refine s_nil ?_
          have hE := hE.cut (E' := [(1, vp1), (2, vp2), (3, (.pointer (some ⟨b1, 0, none⟩))), (7, vr5), (8, (.int .i64 x5.2)), (9, vr7), (10, (.int .i64 x6.2)), (11, vr9), (12, (.int .i64 x7.2))]) ⟨rfl, rfl, rfl, rfl, rfl, rfl, rfl, rfl, rfl, trivial⟩
          refine k_seq ?_
          refine k_seq ?_
          refine k_region ?_
          refine s_val (wk0 rfl) rfl rfl hE hp (v := (.int .i64 x5.2)) (ex_move rfl hE rfl) ?_
          intro a hE
          refine s_val (wk0 rfl) rfl rfl hE hp (v := (.bool (!decide (x5.2 = 0)))) (ex_neq rfl hE rfl rfl) ?_
          intro a hE
          refine s_val (wk0 rfl) rfl rfl hE hp (v := (.bool (!decide (x5.2 = 0)))) (ex_move rfl hE rfl) ?_
          intro a hE
          refine s_cut [_, _, _] (fun a w => Env 202 [(63, (.bool ((!decide (x5.2 = 0)) || (!decide (x6.2 = 0))))), (1, vp1), (2, vp2), (3, (.pointer (some ⟨b1, 0, none⟩))), (7, vr5), (9, vr7), (11, vr9), (12, (.int .i64 x7.2))] a ∧ Hp Z ρ2 (OwnSl 3 vr9 x7.1 :: Pt b1 (.cells #[(.int .i64 p0.vars), vp0_clauses] 24 (0, 0)) :: L) w) ?_ ?_
          · rcases Bool.eq_false_or_eq_true (!decide (x5.2 = 0)) with hc5 | hc5
            ·
              refine s_skip (wk2 hE rfl rfl rfl hc5) rfl rfl hE ?_
              intro a hE
              refine s_skip (wk2 hE rfl rfl rfl hc5) rfl rfl hE ?_
              intro a hE
              refine s_val (wk0 rfl) rfl rfl hE hp (v := (.bool true)) (ex_pick1 rfl hE rfl hc5 rfl) ?_
              intro a hE
              have hE := hE.eqv (v' := (.bool ((!decide (x5.2 = 0)) || (!decide (x6.2 = 0))))) (by rw [hc5]; rfl)
              exact s_nil ⟨hE.cut ⟨rfl, rfl, rfl, rfl, rfl, rfl, rfl, rfl, trivial⟩, hp⟩
            ·
              refine s_val (wk1 hE rfl rfl rfl hc5) rfl rfl hE hp (v := (.int .i64 x6.2)) (ex_move rfl hE rfl) ?_
              intro a hE
              refine s_val (wk1 hE rfl rfl rfl hc5) rfl rfl hE hp (v := (.bool (!decide (x6.2 = 0)))) (ex_neq rfl hE rfl rfl) ?_
              intro a hE
              refine s_val (wk0 rfl) rfl rfl hE hp (v := (.bool (!decide (x6.2 = 0)))) (ex_pick0 rfl hE rfl hc5 rfl) ?_
              intro a hE
              have hE := hE.eqv (v' := (.bool ((!decide (x5.2 = 0)) || (!decide (x6.2 = 0))))) (by rw [hc5]; rfl)
              exact s_nil ⟨hE.cut ⟨rfl, rfl, rfl, rfl, rfl, rfl, rfl, rfl, trivial⟩, hp⟩
          · rintro a w ⟨hE, hp⟩
            refine s_val (wk0 rfl) rfl rfl hE hp (v := (.bool ((!decide (x5.2 = 0)) || (!decide (x6.2 = 0))))) (ex_move rfl hE rfl) ?_
            intro a hE
            refine s_cut [_, _, _] (fun a w => Env 202 [(67, (.bool (((!decide (x5.2 = 0)) || (!decide (x6.2 = 0))) || (!decide (x7.2 = 0))))), (1, vp1), (2, vp2), (3, (.pointer (some ⟨b1, 0, none⟩))), (7, vr5), (9, vr7), (11, vr9)] a ∧ Hp Z ρ2 (OwnSl 3 vr9 x7.1 :: Pt b1 (.cells #[(.int .i64 p0.vars), vp0_clauses] 24 (0, 0)) :: L) w) ?_ ?_
            · rcases Bool.eq_false_or_eq_true ((!decide (x5.2 = 0)) || (!decide (x6.2 = 0))) with hc6 | hc6
              ·
                refine s_skip (wk2 hE rfl rfl rfl hc6) rfl rfl hE ?_
                intro a hE
                refine s_skip (wk2 hE rfl rfl rfl hc6) rfl rfl hE ?_
                intro a hE
                refine s_val (wk0 rfl) rfl rfl hE hp (v := (.bool true)) (ex_pick1 rfl hE rfl hc6 rfl) ?_
                intro a hE
                have hE := hE.eqv (v' := (.bool (((!decide (x5.2 = 0)) || (!decide (x6.2 = 0))) || (!decide (x7.2 = 0))))) (by rw [hc6]; rfl)
                exact s_nil ⟨hE.cut ⟨rfl, rfl, rfl, rfl, rfl, rfl, rfl, trivial⟩, hp⟩
              ·
                refine s_val (wk1 hE rfl rfl rfl hc6) rfl rfl hE hp (v := (.int .i64 x7.2)) (ex_move rfl hE rfl) ?_
                intro a hE
                refine s_val (wk1 hE rfl rfl rfl hc6) rfl rfl hE hp (v := (.bool (!decide (x7.2 = 0)))) (ex_neq rfl hE rfl rfl) ?_
                intro a hE
                refine s_val (wk0 rfl) rfl rfl hE hp (v := (.bool (!decide (x7.2 = 0)))) (ex_pick0 rfl hE rfl hc6 rfl) ?_
                intro a hE
                have hE := hE.eqv (v' := (.bool (((!decide (x5.2 = 0)) || (!decide (x6.2 = 0))) || (!decide (x7.2 = 0))))) (by rw [hc6]; rfl)
                exact s_nil ⟨hE.cut ⟨rfl, rfl, rfl, rfl, rfl, rfl, rfl, trivial⟩, hp⟩
            · rintro a w ⟨hE, hp⟩
              refine s_val (wk0 rfl) rfl rfl hE hp (v := (.bool (((!decide (x5.2 = 0)) || (!decide (x6.2 = 0))) || (!decide (x7.2 = 0))))) (ex_move rfl hE rfl) ?_
              intro a hE
              obtain ⟨m3, hg3, hm⟩ := bnd hm
              refine s_cut [_, _, _, _, _] (fun a w => Env 202 [(73, (.bool m3)), (1, vp1), (2, vp2), (3, (.pointer (some ⟨b1, 0, none⟩))), (7, vr5), (9, vr7), (11, vr9)] a ∧ Hp Z ρ2 (OwnSl 3 vr9 x7.1 :: Pt b1 (.cells #[(.int .i64 p0.vars), vp0_clauses] 24 (0, 0)) :: L) w) ?_ ?_
              · rcases Bool.eq_false_or_eq_true (((!decide (x5.2 = 0)) || (!decide (x6.2 = 0))) || (!decide (x7.2 = 0))) with hc7 | hc7
                ·
                  replace hg3 := (it hc7).symm.trans hg3
                  refine s_skip (wk2 hE rfl rfl rfl hc7) rfl rfl hE ?_
                  intro a hE
                  refine s_skip (wk2 hE rfl rfl rfl hc7) rfl rfl hE ?_
                  intro a hE
                  refine s_skip (wk2 hE rfl rfl rfl hc7) rfl rfl hE ?_
                  intro a hE
                  refine s_skip (wk2 hE rfl rfl rfl hc7) rfl rfl hE ?_
                  intro a hE
                  refine s_val (wk0 rfl) rfl rfl hE hp (v := (.bool true)) (ex_pick1 rfl hE rfl hc7 rfl) ?_
                  intro a hE
                  obtain rfl := Option.some.inj hg3
                  exact s_nil ⟨hE.cut ⟨rfl, rfl, rfl, rfl, rfl, rfl, rfl, trivial⟩, hp⟩
                ·
                  replace hg3 := (ie hc7).symm.trans hg3
                  refine s_val (wk1 hE rfl rfl rfl hc7) rfl rfl hE hp (v := (.agg #[(.int .i64 p0.vars), vp0_clauses])) (ex_load rfl hE rfl (fun w hw => run_ldN (cs := [(.int .i64 p0.vars), vp0_clauses]) varty24 (Hp.cN 1 rfl 0 _ (sub_all rfl) w hw))) ?_
                  intro a hE
                  refine s_val (wk1 hE rfl rfl rfl hc7) rfl rfl hE hp (v := vr5) (ex_move rfl hE rfl) ?_
                  intro a hE
                  obtain ⟨x8, ex8, hg3⟩ := bnd hg3
                  refine s_call (wk1 hE rfl rfl rfl hc7) rfl rfl hE rfl [(.agg #[(.int .i64 p0.vars), vp0_clauses]), vr5] ⟨rfl, rfl, trivial⟩ ent8 (c_proof_Check (Tabs.mono (Tabs.mono hT hle1) hle2) p0 vp0_clauses (RoSl.mono (RoSl.mono hp0_clauses hle1) hle2) x5.1 vr5 (RoSl.mono hr5 hle2) hp x8 ex8) Ret.ret ?_
                  intro v a w hR hE
                  obtain ⟨rfl, hp⟩ := Ret.of hR
                  have hp : Hp Z ρ2 (_ :: _ :: L) w := hp
                  refine s_val (wk1 hE rfl rfl rfl hc7) rfl rfl hE hp (v := (.bool (!x8))) (ex_not rfl hE rfl) ?_
                  intro a hE
                  refine s_val (wk0 rfl) rfl rfl hE hp (v := (.bool (!x8))) (ex_pick0 rfl hE rfl hc7 rfl) ?_
                  intro a hE
                  obtain rfl := Option.some.inj hg3
                  exact s_nil ⟨hE.cut ⟨rfl, rfl, rfl, rfl, rfl, rfl, rfl, trivial⟩, hp⟩
              · rintro a w ⟨hE, hp⟩
                refine s_val (wk0 rfl) rfl rfl hE hp (v := (.bool m3)) (ex_move rfl hE rfl) ?_
                intro a hE
                obtain ⟨m4, hg4, hm⟩ := bnd hm
                refine s_cut [_, _, _, _, _] (fun a w => Env 202 [(79, (.bool m4)), (1, vp1), (2, vp2), (3, (.pointer (some ⟨b1, 0, none⟩))), (7, vr5), (11, vr9)] a ∧ Hp Z ρ2 (OwnSl 3 vr9 x7.1 :: Pt b1 (.cells #[(.int .i64 p0.vars), vp0_clauses] 24 (0, 0)) :: L) w) ?_ ?_
                · rcases Bool.eq_false_or_eq_true m3 with hc8 | hc8
                  ·
                    replace hg4 := (it hc8).symm.trans hg4
                    refine s_skip (wk2 hE rfl rfl rfl hc8) rfl rfl hE ?_
                    intro a hE
                    refine s_skip (wk2 hE rfl rfl rfl hc8) rfl rfl hE ?_
                    intro a hE
                    refine s_skip (wk2 hE rfl rfl rfl hc8) rfl rfl hE ?_
                    intro a hE
                    refine s_skip (wk2 hE rfl rfl rfl hc8) rfl rfl hE ?_
                    intro a hE
                    refine s_val (wk0 rfl) rfl rfl hE hp (v := (.bool true)) (ex_pick1 rfl hE rfl hc8 rfl) ?_
                    intro a hE
                    obtain rfl := Option.some.inj hg4
                    exact s_nil ⟨hE.cut ⟨rfl, rfl, rfl, rfl, rfl, rfl, trivial⟩, hp⟩
                  ·
                    replace hg4 := (ie hc8).symm.trans hg4
                    refine s_val (wk1 hE rfl rfl rfl hc8) rfl rfl hE hp (v := vr5) (ex_move rfl hE rfl) ?_
                    intro a hE
                    refine s_val (wk1 hE rfl rfl rfl hc8) rfl rfl hE hp (v := vr7) (ex_move rfl hE rfl) ?_
                    intro a hE
                    obtain ⟨x9, ex9, hg4⟩ := bnd hg4
                    refine s_call (wk1 hE rfl rfl rfl hc8) rfl rfl hE rfl [vr5, vr7] ⟨rfl, rfl, trivial⟩ ent11 (c_assessorref26_Clauses (Tabs.mono (Tabs.mono hT hle1) hle2) x5.1 vr5 (RoSl.mono hr5 hle2) x6.1 vr7 hr7 hp x9 ex9) Ret.ret ?_
                    intro v a w hR hE
                    obtain ⟨rfl, hp⟩ := Ret.of hR
                    have hp : Hp Z ρ2 (_ :: _ :: L) w := hp
                    refine s_val (wk1 hE rfl rfl rfl hc8) rfl rfl hE hp (v := (.bool (!x9))) (ex_not rfl hE rfl) ?_
                    intro a hE
                    refine s_val (wk0 rfl) rfl rfl hE hp (v := (.bool (!x9))) (ex_pick0 rfl hE rfl hc8 rfl) ?_
                    intro a hE
                    obtain rfl := Option.some.inj hg4
                    exact s_nil ⟨hE.cut ⟨rfl, rfl, rfl, rfl, rfl, rfl, trivial⟩, hp⟩
                · rintro a w ⟨hE, hp⟩
                  refine s_val (wk0 rfl) rfl rfl hE hp (v := (.bool m4)) (ex_move rfl hE rfl) ?_
                  intro a hE
                  refine s_cut [_, _, _, _, _, _] (fun a w => Env 202 [(86, (.bool (m4 || (decide ((p1.length : Int) < (x5.1.length : Int)))))), (1, vp1), (2, vp2), (3, (.pointer (some ⟨b1, 0, none⟩))), (7, vr5), (11, vr9)] a ∧ Hp Z ρ2 (OwnSl 3 vr9 x7.1 :: Pt b1 (.cells #[(.int .i64 p0.vars), vp0_clauses] 24 (0, 0)) :: L) w) ?_ ?_
                  · rcases Bool.eq_false_or_eq_true m4 with hc9 | hc9
                    ·
                      refine s_skip (wk2 hE rfl rfl rfl hc9) rfl rfl hE ?_
                      intro a hE
                      refine s_skip (wk2 hE rfl rfl rfl hc9) rfl rfl hE ?_
                      intro a hE
                      refine s_skip (wk2 hE rfl rfl rfl hc9) rfl rfl hE ?_
                      intro a hE
                      refine s_skip (wk2 hE rfl rfl rfl hc9) rfl rfl hE ?_
                      intro a hE
                      refine s_skip (wk2 hE rfl rfl rfl hc9) rfl rfl hE ?_
                      intro a hE
                      refine s_val (wk0 rfl) rfl rfl hE hp (v := (.bool true)) (ex_pick1 rfl hE rfl hc9 rfl) ?_
                      intro a hE
                      have hE := hE.eqv (v' := (.bool (m4 || (decide ((p1.length : Int) < (x5.1.length : Int)))))) (by rw [hc9]; rfl)
                      exact s_nil ⟨hE.cut ⟨rfl, rfl, rfl, rfl, rfl, rfl, trivial⟩, hp⟩
                    ·
                      refine s_val (wk1 hE rfl rfl rfl hc9) rfl rfl hE hp (v := vr5) (ex_move rfl hE rfl) ?_
                      intro a hE
                      refine s_val (wk1 hE rfl rfl rfl hc9) rfl rfl hE hp (v := (.int .i64 (x5.1.length : Int))) (ex_len rfl hE rfl (RoSl.len (RoSl.mono hr5 hle2) slty22)) ?_
                      intro a hE
                      refine s_val (wk1 hE rfl rfl rfl hc9) rfl rfl hE hp (v := vp1) (ex_move rfl hE rfl) ?_
                      intro a hE
                      refine s_val (wk1 hE rfl rfl rfl hc9) rfl rfl hE hp (v := (.int .i64 (p1.length : Int))) (ex_len rfl hE rfl (RoSl.len (RoSl.mono (RoSl.mono hp1 hle1) hle2) slty22)) ?_
                      intro a hE
                      refine s_val (wk1 hE rfl rfl rfl hc9) rfl rfl hE hp (v := (.bool (decide ((p1.length : Int) < (x5.1.length : Int))))) (ex_gtr rfl hE rfl rfl) ?_
                      intro a hE
                      refine s_val (wk0 rfl) rfl rfl hE hp (v := (.bool (decide ((p1.length : Int) < (x5.1.length : Int))))) (ex_pick0 rfl hE rfl hc9 rfl) ?_
                      intro a hE
                      have hE := hE.eqv (v' := (.bool (m4 || (decide ((p1.length : Int) < (x5.1.length : Int)))))) (by rw [hc9]; rfl)
                      exact s_nil ⟨hE.cut ⟨rfl, rfl, rfl, rfl, rfl, rfl, trivial⟩, hp⟩
                  · rintro a w ⟨hE, hp⟩
                    refine s_nil ?_
                    refine k_if hE rfl (fun hc10 => ?_) (fun hc10 => ?_)
                    · replace hm := (it hc10).symm.trans hm
                      refine k_seq ?_
                      refine k_region ?_
                      refine s_val (wk0 rfl) rfl rfl hE hp (v := (.bool false)) (ex_asn rfl hE rfl) ?_
                      intro a hE
                      refine s_nil ?_
                      refine k_ret ?_
                      obtain rfl := Option.some.inj hm
                      exact ret1 hE rfl rfl ⟨_, rfl, rfl, (((((hp.get 1 rfl).drop).drop).less hle2).less hle1)⟩
                    · replace hm := (ie hc10).symm.trans hm
                      refine k_skip ?_
                      refine k_seq ?_
                      refine k_region ?_
                      refine s_val (wk0 rfl) rfl rfl hE hp (v := (.int .i64 0)) (ex_asn rfl hE rfl) ?_
                      intro a hE
                      refine s_nil ?_
                      refine k_seq ?_
                      refine k_seq ?_
                      refine k_region ?_
                      refine s_val (wk0 rfl) rfl rfl hE hp (v := vr5) (ex_move rfl hE rfl) ?_
                      intro a hE
                      refine s_val (wk0 rfl) rfl rfl hE hp (v := (.int .i64 (x5.1.length : Int))) (ex_len rfl hE rfl (RoSl.len (RoSl.mono hr5 hle2) slty22)) ?_
                      intro a hE
                      refine s_val (wk0 rfl) rfl rfl hE hp (v := (.int .i64 0)) (ex_move rfl hE rfl) ?_
                      intro a hE
                      refine s_nil ?_
                      obtain ⟨b2, hc11, hm⟩ := bnd hm
                      refine k_block (fun a w => ∃ s : Unit, b2 = .brk s ∧ (Env 202 [(1, vp1), (2, vp2), (3, (.pointer (some ⟨b1, 0, none⟩))), (7, vr5), (11, vr9)] a ∧ Hp Z ρ2 (OwnSl 3 vr9 x7.1 :: Pt b1 (.cells #[(.int .i64 p0.vars), vp0_clauses] 24 (0, 0)) :: L) w)) ?_ ?_
                      · refine k_loop hc11 (fun s a w => Env 202 [(1, vp1), (2, vp2), (3, (.pointer (some ⟨b1, 0, none⟩))), (7, vr5), (11, vr9), (13, (.int .i64 s.1)), (87, vr5), (88, (.int .i64 (x5.1.length : Int))), (89, (.int .i64 s.2))] a ∧ Hp Z ρ2 (OwnSl 3 vr9 x7.1 :: Pt b1 (.cells #[(.int .i64 p0.vars), vp0_clauses] 24 (0, 0)) :: L) w) ?_ ?_
                        · exact ⟨hE.cut ⟨rfl, rfl, rfl, rfl, rfl, rfl, rfl, rfl, rfl, trivial⟩, hp⟩
                        · rintro ⟨lp1_0, lp1_1⟩ st a w ⟨hE, hp⟩ hl1
                          have hE : Env 202 [(1, vp1), (2, vp2), (3, (.pointer (some ⟨b1, 0, none⟩))), (7, vr5), (11, vr9), (13, (.int .i64 lp1_0)), (87, vr5), (88, (.int .i64 (x5.1.length : Int))), (89, (.int .i64 lp1_1))] a := hE
                          have hp : Hp Z ρ2 (_ :: _ :: L) w := hp
                          replace hl1 : m_assessorlaw27_ProofNeeds_lp1 p1 x5 lp1_0 lp1_1 = some st := hl1
                          unfold m_assessorlaw27_ProofNeeds_lp1 at hl1
                          refine k_seq ?_
                          refine k_region ?_
                          refine s_val (wk0 rfl) rfl rfl hE hp (v := (.bool (decide (lp1_1 < (x5.1.length : Int))))) (ex_lss rfl hE rfl rfl) ?_
                          intro a hE
                          refine s_nil ?_
                          have hE := hE.cut (E' := [(1, vp1), (2, vp2), (3, (.pointer (some ⟨b1, 0, none⟩))), (7, vr5), (11, vr9), (13, (.int .i64 lp1_0)), (87, vr5), (88, (.int .i64 (x5.1.length : Int))), (89, (.int .i64 lp1_1)), (90, (.bool (decide (lp1_1 < (x5.1.length : Int)))))]) ⟨rfl, rfl, rfl, rfl, rfl, rfl, rfl, rfl, rfl, rfl, trivial⟩
                          refine k_seq ?_
                          refine k_if hE rfl (fun hc12 => ?_) (fun hc12 => ?_)
                          · replace hl1 := (it hc12).symm.trans hl1
                            refine k_skip ?_
                            refine k_seq ?_
                            refine k_plain ?_
                            refine k_seq ?_
                            refine k_region ?_
                            obtain ⟨x10, ex10, hl1⟩ := bnd hl1
                            obtain ⟨b3, b3o, b3c, b3r, b3k, b3f⟩ := RoSl.at (RoSl.mono hr5 hle2) slty22 ex10
                            obtain ⟨vb3, rfl, hb3⟩ := b3k
                            have b3f : AtP ρ2 b3 b3o [vb3] := b3f
                            refine s_val (wk0 rfl) rfl rfl hE hp (v := (.pointer (some ⟨b3, b3o, none⟩))) (ex_index rfl hE rfl rfl b3r) ?_
                            intro a hE
                            refine s_val (wk0 rfl) rfl rfl hE hp (v := vb3) (ex_load rfl hE rfl (fun w hw => run_ld1 varty25 (b3f.c 0 rfl w hw))) ?_
                            intro a hE
                            refine s_val (wk0 rfl) rfl rfl hE hp (v := vb3) (ex_asn rfl hE rfl) ?_
                            intro a hE
                            refine s_nil ?_
                            refine k_seq ?_
                            obtain ⟨b4, hc13, hl1⟩ := bnd hl1
                            refine k_block (fun a w => Env 202 [(1, vp1), (2, vp2), (3, (.pointer (some ⟨b1, 0, none⟩))), (7, vr5), (11, vr9), (13, (.int .i64 b4)), (87, vr5), (88, (.int .i64 (x5.1.length : Int))), (89, (.int .i64 lp1_1))] a ∧ Hp Z ρ2 (OwnSl 3 vr9 x7.1 :: Pt b1 (.cells #[(.int .i64 p0.vars), vp0_clauses] 24 (0, 0)) :: L) w) ?_ ?_
                            · refine k_loop hc13 (fun s a w => Env 202 [(1, vp1), (2, vp2), (3, (.pointer (some ⟨b1, 0, none⟩))), (7, vr5), (11, vr9), (13, (.int .i64 s)), (15, vb3), (87, vr5), (88, (.int .i64 (x5.1.length : Int))), (89, (.int .i64 lp1_1))] a ∧ Hp Z ρ2 (OwnSl 3 vr9 x7.1 :: Pt b1 (.cells #[(.int .i64 p0.vars), vp0_clauses] 24 (0, 0)) :: L) w) ?_ ?_
                              · exact ⟨hE.cut ⟨rfl, rfl, rfl, rfl, rfl, rfl, rfl, rfl, rfl, rfl, trivial⟩, hp⟩
                              · rintro lp2_0 st a w ⟨hE, hp⟩ hl2
                                have hE : Env 202 [(1, vp1), (2, vp2), (3, (.pointer (some ⟨b1, 0, none⟩))), (7, vr5), (11, vr9), (13, (.int .i64 lp2_0)), (15, vb3), (87, vr5), (88, (.int .i64 (x5.1.length : Int))), (89, (.int .i64 lp1_1))] a := hE
                                have hp : Hp Z ρ2 (_ :: _ :: L) w := hp
                                replace hl2 : m_assessorlaw27_ProofNeeds_lp2 p1 x10 lp2_0 = some st := hl2
                                unfold m_assessorlaw27_ProofNeeds_lp2 at hl2
                                refine k_seq ?_
                                refine k_seq ?_
                                refine k_region ?_
                                refine s_val (wk0 rfl) rfl rfl hE hp (v := (.int .i64 lp2_0)) (ex_move rfl hE rfl) ?_
                                intro a hE
                                refine s_val (wk0 rfl) rfl rfl hE hp (v := vp1) (ex_move rfl hE rfl) ?_
                                intro a hE
                                refine s_val (wk0 rfl) rfl rfl hE hp (v := (.int .i64 (p1.length : Int))) (ex_len rfl hE rfl (RoSl.len (RoSl.mono (RoSl.mono hp1 hle1) hle2) slty22)) ?_
                                intro a hE
                                refine s_val (wk0 rfl) rfl rfl hE hp (v := (.bool (decide (lp2_0 < (p1.length : Int))))) (ex_lss rfl hE rfl rfl) ?_
                                intro a hE
                                refine s_val (wk0 rfl) rfl rfl hE hp (v := (.bool (decide (lp2_0 < (p1.length : Int))))) (ex_move rfl hE rfl) ?_
                                intro a hE
                                obtain ⟨m5, hg5, hl2⟩ := bnd hl2
                                refine s_cut [_, _, _, _, _, _, _, _] (fun a w => Env 202 [(105, (.bool m5)), (1, vp1), (2, vp2), (3, (.pointer (some ⟨b1, 0, none⟩))), (7, vr5), (11, vr9), (13, (.int .i64 lp2_0)), (15, vb3), (87, vr5), (88, (.int .i64 (x5.1.length : Int))), (89, (.int .i64 lp1_1))] a ∧ Hp Z ρ2 (OwnSl 3 vr9 x7.1 :: Pt b1 (.cells #[(.int .i64 p0.vars), vp0_clauses] 24 (0, 0)) :: L) w) ?_ ?_
                                · rcases Bool.eq_false_or_eq_true (decide (lp2_0 < (p1.length : Int))) with hc14 | hc14
                                  ·
                                    replace hg5 := (it hc14).symm.trans hg5
                                    refine s_val (wk1 hE rfl rfl rfl hc14) rfl rfl hE hp (v := vp1) (ex_move rfl hE rfl) ?_
                                    intro a hE
                                    refine s_val (wk1 hE rfl rfl rfl hc14) rfl rfl hE hp (v := (.int .i64 lp2_0)) (ex_move rfl hE rfl) ?_
                                    intro a hE
                                    obtain ⟨x11, ex11, hg5⟩ := bnd hg5
                                    obtain ⟨b5, b5o, b5c, b5r, b5k, b5f⟩ := RoSl.at (RoSl.mono (RoSl.mono hp1 hle1) hle2) slty22 ex11
                                    obtain ⟨vb5, rfl, hb5⟩ := b5k
                                    have b5f : AtP ρ2 b5 b5o [vb5] := b5f
                                    refine s_val (wk1 hE rfl rfl rfl hc14) rfl rfl hE hp (v := (.pointer (some ⟨b5, b5o, none⟩))) (ex_index rfl hE rfl rfl b5r) ?_
                                    intro a hE
                                    refine s_val (wk1 hE rfl rfl rfl hc14) rfl rfl hE hp (v := vb5) (ex_load rfl hE rfl (fun w hw => run_ld1 varty25 (b5f.c 0 rfl w hw))) ?_
                                    intro a hE
                                    refine s_val (wk1 hE rfl rfl rfl hc14) rfl rfl hE hp (v := vb3) (ex_move rfl hE rfl) ?_
                                    intro a hE
                                    obtain ⟨x12, ex12, hg5⟩ := bnd hg5
                                    refine s_call (wk1 hE rfl rfl rfl hc14) rfl rfl hE rfl [vb5, vb3] ⟨rfl, rfl, trivial⟩ ent12 (c_slices_Equal_int_int_ (Tabs.mono (Tabs.mono hT hle1) hle2) x11 vb5 hb5 x10 vb3 hb3 hp x12 ex12) Ret.ret ?_
                                    intro v a w hR hE
                                    obtain ⟨rfl, hp⟩ := Ret.of hR
                                    have hp : Hp Z ρ2 (_ :: _ :: L) w := hp
                                    refine s_val (wk1 hE rfl rfl rfl hc14) rfl rfl hE hp (v := (.bool (!x12))) (ex_not rfl hE rfl) ?_
                                    intro a hE
                                    refine s_val (wk0 rfl) rfl rfl hE hp (v := (.bool (!x12))) (ex_pick1 rfl hE rfl hc14 rfl) ?_
                                    intro a hE
                                    obtain rfl := Option.some.inj hg5
                                    exact s_nil ⟨hE.cut ⟨rfl, rfl, rfl, rfl, rfl, rfl, rfl, rfl, rfl, rfl, rfl, trivial⟩, hp⟩
                                  ·
                                    replace hg5 := (ie hc14).symm.trans hg5
                                    refine s_skip (wk2 hE rfl rfl rfl hc14) rfl rfl hE ?_
                                    intro a hE
                                    refine s_skip (wk2 hE rfl rfl rfl hc14) rfl rfl hE ?_
                                    intro a hE
                                    refine s_skip (wk2 hE rfl rfl rfl hc14) rfl rfl hE ?_
                                    intro a hE
                                    refine s_skip (wk2 hE rfl rfl rfl hc14) rfl rfl hE ?_
                                    intro a hE
                                    refine s_skip (wk2 hE rfl rfl rfl hc14) rfl rfl hE ?_
                                    intro a hE
                                    refine s_skip (wk2 hE rfl rfl rfl hc14) rfl rfl hE ?_
                                    intro a hE
                                    refine s_skip (wk2 hE rfl rfl rfl hc14) rfl rfl hE ?_
                                    intro a hE
                                    refine s_val (wk0 rfl) rfl rfl hE hp (v := (.bool false)) (ex_pick0 rfl hE rfl hc14 rfl) ?_
                                    intro a hE
                                    obtain rfl := Option.some.inj hg5
                                    exact s_nil ⟨hE.cut ⟨rfl, rfl, rfl, rfl, rfl, rfl, rfl, rfl, rfl, rfl, rfl, trivial⟩, hp⟩
                                · rintro a w ⟨hE, hp⟩
                                  refine s_nil ?_
                                  refine k_if hE rfl (fun hc15 => ?_) (fun hc15 => ?_)
                                  · replace hl2 := (it hc15).symm.trans hl2
                                    refine k_skip ?_
                                    refine k_plain ?_
                                    refine k_region ?_
                                    refine s_val (wk0 rfl) rfl rfl hE hp (v := (.int .i64 lp2_0)) (ex_move rfl hE rfl) ?_
                                    intro a hE
                                    obtain ⟨x13, ex13, hl2⟩ := bnd hl2
                                    refine s_val (wk0 rfl) rfl rfl hE hp (v := (.int .i64 x13)) (ex_add rfl hE rfl rfl (inK_some ex13)) ?_
                                    intro a hE
                                    refine s_val (wk0 rfl) rfl rfl hE hp (v := (.int .i64 x13)) (ex_asn rfl hE rfl) ?_
                                    intro a hE
                                    refine s_nil ?_
                                    exact ⟨_, (Option.some.inj hl2).symm, hE.cut ⟨rfl, rfl, rfl, rfl, rfl, rfl, rfl, rfl, rfl, rfl, trivial⟩, hp⟩
                                  · replace hl2 := (ie hc15).symm.trans hl2
                                    refine k_exit ?_
                                    refine ⟨_, (Option.some.inj hl2).symm, fun hbb => ?_⟩
                                    subst hbb
                                    exact ⟨hE.cut ⟨rfl, rfl, rfl, rfl, rfl, rfl, rfl, rfl, rfl, trivial⟩, hp⟩
                            · rintro a w ⟨hE, hp⟩
                              refine k_seq ?_
                              refine k_seq ?_
                              refine k_region ?_
                              refine s_val (wk0 rfl) rfl rfl hE hp (v := (.int .i64 b4)) (ex_move rfl hE rfl) ?_
                              intro a hE
                              refine s_val (wk0 rfl) rfl rfl hE hp (v := vp1) (ex_move rfl hE rfl) ?_
                              intro a hE
                              refine s_val (wk0 rfl) rfl rfl hE hp (v := (.int .i64 (p1.length : Int))) (ex_len rfl hE rfl (RoSl.len (RoSl.mono (RoSl.mono hp1 hle1) hle2) slty22)) ?_
                              intro a hE
                              refine s_val (wk0 rfl) rfl rfl hE hp (v := (.bool (decide (b4 = (p1.length : Int))))) (ex_eql rfl hE rfl rfl) ?_
                              intro a hE
                              refine s_nil ?_
                              refine k_if hE rfl (fun hc16 => ?_) (fun hc16 => ?_)
                              · replace hl1 := (it hc16).symm.trans hl1
                                refine k_seq ?_
                                refine k_region ?_
                                refine s_val (wk0 rfl) rfl rfl hE hp (v := (.bool false)) (ex_asn rfl hE rfl) ?_
                                intro a hE
                                refine s_nil ?_
                                refine k_ret ?_
                                refine ⟨_, (Option.some.inj hl1).symm, fun hb => ?_⟩
                                subst hb
                                obtain rfl := Option.some.inj hm
                                exact ret1 hE rfl rfl ⟨_, rfl, rfl, (((((hp.get 1 rfl).drop).drop).less hle2).less hle1)⟩
                              · replace hl1 := (ie hc16).symm.trans hl1
                                refine k_skip ?_
                                refine k_region ?_
                                refine s_val (wk0 rfl) rfl rfl hE hp (v := (.int .i64 b4)) (ex_move rfl hE rfl) ?_
                                intro a hE
                                obtain ⟨x14, ex14, hl1⟩ := bnd hl1
                                refine s_val (wk0 rfl) rfl rfl hE hp (v := (.int .i64 x14)) (ex_add rfl hE rfl rfl (inK_some ex14)) ?_
                                intro a hE
                                refine s_val (wk0 rfl) rfl rfl hE hp (v := (.int .i64 x14)) (ex_asn rfl hE rfl) ?_
                                intro a hE
                                refine s_nil ?_
                                refine k_region ?_
                                obtain ⟨x15, ex15, hl1⟩ := bnd hl1
                                refine s_val (wk0 rfl) rfl rfl hE hp (v := (.int .i64 x15)) (ex_add rfl hE rfl rfl (inK_some ex15)) ?_
                                intro a hE
                                refine s_val (wk0 rfl) rfl rfl hE hp (v := (.int .i64 x15)) (ex_move rfl hE rfl) ?_
                                intro a hE
                                refine s_nil ?_
                                exact ⟨_, (Option.some.inj hl1).symm, hE.cut ⟨rfl, rfl, rfl, rfl, rfl, rfl, rfl, rfl, rfl, trivial⟩, hp⟩
                          · replace hl1 := (ie hc12).symm.trans hl1
                            refine k_exit ?_
                            refine ⟨_, (Option.some.inj hl1).symm, fun hbb => ?_⟩
                            exact ⟨_, hbb.symm, hE.cut ⟨rfl, rfl, rfl, rfl, rfl, trivial⟩, hp⟩
                      · rintro a w ⟨b2s, rfl, hE, hp⟩
                        dsimp only at hm
                        refine k_seq ?_
                        refine k_region ?_
                        refine s_val (wk0 rfl) rfl rfl hE hp (v := (.pointer (some ⟨b1, 0, none⟩))) (ex_field rfl hE rfl (fldty24_0 _ _)) ?_
                        intro a hE
                        refine s_val (wk0 rfl) rfl rfl hE hp (v := (.int .i64 p0.vars)) (ex_load rfl hE rfl (fun w hw => run_ld1 varty3 (Hp.c 1 rfl 0 rfl w hw))) ?_
                        intro a hE
                        refine s_val (wk0 rfl) rfl rfl hE hp (v := (.agg #[(.int .i64 p0.vars), (.slice none 0 0)])) (ex_bld rfl hE [(0, (.int .i64 p0.vars))] (by exact ⟨⟨rfl, rfl⟩, trivial⟩) (fun w => by simp [Instr.build, Instr.fill, Value.cells, go_sem])) ?_
                        intro a hE
                        refine s_new (wk0 rfl) rfl rfl hE hp rfl [(.int .i64 0), (.slice none 0 0)] (fun w => by simp [Instr.alloc, go_sem] <;> rfl) ?_
                        intro a w b6 hE hp
                        have hp : Hp Z ρ2 (Pt b6 (.cells #[(.int .i64 0), (.slice none 0 0)] 24 (0, 0)) :: _ :: _ :: L) w := hp
                        refine s_store (wk0 rfl) rfl hE hp rfl rfl rfl 0 rfl varty24.size_ rfl (allOne_mem ⟨rfl, rfl, trivial⟩) [(.int .i64 p0.vars), (.slice none 0 0)] rfl ?_
                        intro w hp
                        have hp : Hp Z ρ2 (Pt b6 (.cells #[(.int .i64 p0.vars), (.slice none 0 0)] 24 (0, 0)) :: _ :: _ :: L) w := hp
                        refine s_nil ?_
                        have hE := hE.cut (E' := [(1, vp1), (2, vp2), (3, (.pointer (some ⟨b1, 0, none⟩))), (7, vr5), (11, vr9), (16, (.pointer (some ⟨b6, 0, none⟩)))]) ⟨rfl, rfl, rfl, rfl, rfl, rfl, trivial⟩
                        refine k_seq ?_
                        refine k_seq ?_
                        refine k_region ?_
                        refine s_val (wk0 rfl) rfl rfl hE hp (v := vr9) (ex_move rfl hE rfl) ?_
                        intro a hE
                        refine s_val (wk0 rfl) rfl rfl hE hp (v := (.int .i64 (x7.1.length : Int))) (ex_len rfl hE rfl (OwnSl.len hp 1 rfl slty25)) ?_
                        intro a hE
                        refine s_val (wk0 rfl) rfl rfl hE hp (v := (.int .i64 0)) (ex_move rfl hE rfl) ?_
                        intro a hE
                        refine s_nil ?_
                        have hp := hp.emp (RowR.nil (α := (List Int)) 25)
                        have hR1 : RepAll ρ2 ([] : List (List Int)) [] := RepAll.nil
                        have hp : Hp Z ρ2 (RowR 25 (.slice none 0 0) ([] : (List (List Int))) ([]) :: _ :: _ :: _ :: L) w := hp
                        have hp : Hp Z ρ2 (_ :: _ :: _ :: _ :: L) w := hp
                        obtain ⟨b7, hc17, hm⟩ := bnd hm
                        refine k_block (fun a w => ∃ s : (List (List Int)), b7 = .brk s ∧ (∃ (w6 : Value) (xs6 : List Value), RepAll ρ2 (s : (List (List Int))) xs6 ∧ Env 202 [(1, vp1), (2, vp2), (3, (.pointer (some ⟨b1, 0, none⟩))), (7, vr5), (16, (.pointer (some ⟨b6, 0, none⟩)))] a ∧ Hp Z ρ2 (RowR 25 w6 (s : (List (List Int))) xs6 :: Pt b6 (.cells #[(.int .i64 p0.vars), w6] 24 (0, 0)) :: OwnSl 3 vr9 x7.1 :: Pt b1 (.cells #[(.int .i64 p0.vars), vp0_clauses] 24 (0, 0)) :: L) w)) ?_ ?_
                        · refine k_loop hc17 (fun s a w => ∃ (w6 : Value) (xs6 : List Value), RepAll ρ2 (s.2 : (List (List Int))) xs6 ∧ Env 202 [(1, vp1), (2, vp2), (3, (.pointer (some ⟨b1, 0, none⟩))), (7, vr5), (16, (.pointer (some ⟨b6, 0, none⟩))), (118, vr9), (119, (.int .i64 (x7.1.length : Int))), (120, (.int .i64 s.1))] a ∧ Hp Z ρ2 (RowR 25 w6 (s.2 : (List (List Int))) xs6 :: Pt b6 (.cells #[(.int .i64 p0.vars), w6] 24 (0, 0)) :: OwnSl 3 vr9 x7.1 :: Pt b1 (.cells #[(.int .i64 p0.vars), vp0_clauses] 24 (0, 0)) :: L) w) ?_ ?_
                          · exact ⟨_, _, hR1, hE.cut ⟨rfl, rfl, rfl, rfl, rfl, rfl, rfl, rfl, trivial⟩, hp⟩
                          · rintro ⟨lp3_0, lp3_1⟩ st a w ⟨w6, xs6, hR6w, hE, hp⟩ hl3
                            have hE : Env 202 [(1, vp1), (2, vp2), (3, (.pointer (some ⟨b1, 0, none⟩))), (7, vr5), (16, (.pointer (some ⟨b6, 0, none⟩))), (118, vr9), (119, (.int .i64 (x7.1.length : Int))), (120, (.int .i64 lp3_0))] a := hE
                            have hp : Hp Z ρ2 (RowR 25 w6 (lp3_1 : (List (List Int))) xs6 :: Pt b6 (.cells #[(.int .i64 p0.vars), w6] 24 (0, 0)) :: _ :: _ :: L) w := hp
                            have hR6w : RepAll ρ2 (lp3_1 : (List (List Int))) xs6 := hR6w
                            replace hl3 : m_assessorlaw27_ProofNeeds_lp3 p0 x7 lp3_0 lp3_1 = some st := hl3
                            unfold m_assessorlaw27_ProofNeeds_lp3 at hl3
                            refine k_seq ?_
                            refine k_region ?_
                            refine s_val (wk0 rfl) rfl rfl hE hp (v := (.bool (decide (lp3_0 < (x7.1.length : Int))))) (ex_lss rfl hE rfl rfl) ?_
                            intro a hE
                            refine s_nil ?_
                            refine k_seq ?_
                            refine k_if hE rfl (fun hc18 => ?_) (fun hc18 => ?_)
                            · replace hl3 := (it hc18).symm.trans hl3
                              refine k_skip ?_
                              refine k_seq ?_
                              refine k_plain ?_
                              refine k_seq ?_
                              refine k_region ?_
                              obtain ⟨x16, ex16, hl3⟩ := bnd hl3
                              obtain ⟨b8, b8o, b8r, b8v, b8f⟩ := OwnSl.at hp 2 rfl slty25 ex16
                              have b8f : ∀ (j : Nat) (u : Value), ([(.int .i64 x16)] : List Value)[j]? = some u → ∀ ρ' L' w, Hp Z ρ' (OwnSl 3 vr9 x7.1 :: L') w → w.cell? ⟨b8, b8o + j, none⟩ = some u := b8f
                              refine s_val (wk0 rfl) rfl rfl hE hp (v := (.pointer (some ⟨b8, b8o, none⟩))) (ex_index rfl hE rfl rfl b8r) ?_
                              intro a hE
                              refine s_val (wk0 rfl) rfl rfl hE hp (v := (.int .i64 x16)) (ex_load rfl hE rfl (fun w hw => run_ld1 varty3 (b8f 0 _ rfl _ _ w (hw.get 2 rfl)))) ?_
                              intro a hE
                              refine s_val (wk0 rfl) rfl rfl hE hp (v := (.int .i64 x16)) (ex_asn rfl hE rfl) ?_
                              intro a hE
                              refine s_nil ?_
                              refine k_seq ?_
                              refine k_seq ?_
                              refine k_region ?_
                              refine s_val (wk0 rfl) rfl rfl hE hp (v := (.int .i64 x16)) (ex_move rfl hE rfl) ?_
                              intro a hE
                              refine s_val (wk0 rfl) rfl rfl hE hp (v := (.bool (decide (x16 < 0)))) (ex_lss rfl hE rfl rfl) ?_
                              intro a hE
                              refine s_val (wk0 rfl) rfl rfl hE hp (v := (.bool (decide (x16 < 0)))) (ex_move rfl hE rfl) ?_
                              intro a hE
                              refine s_cut [_, _, _, _, _, _] (fun a w => Env 202 [(132, (.bool ((decide (x16 < 0)) || (decide ((p0.clauses.length : Int) ≤ x16))))), (1, vp1), (2, vp2), (3, (.pointer (some ⟨b1, 0, none⟩))), (7, vr5), (16, (.pointer (some ⟨b6, 0, none⟩))), (18, (.int .i64 x16)), (118, vr9), (119, (.int .i64 (x7.1.length : Int))), (120, (.int .i64 lp3_0))] a ∧ Hp Z ρ2 (RowR 25 w6 (lp3_1 : (List (List Int))) xs6 :: Pt b6 (.cells #[(.int .i64 p0.vars), w6] 24 (0, 0)) :: OwnSl 3 vr9 x7.1 :: Pt b1 (.cells #[(.int .i64 p0.vars), vp0_clauses] 24 (0, 0)) :: L) w) ?_ ?_
                              · rcases Bool.eq_false_or_eq_true (decide (x16 < 0)) with hc19 | hc19
                                ·
                                  refine s_skip (wk2 hE rfl rfl rfl hc19) rfl rfl hE ?_
                                  intro a hE
                                  refine s_skip (wk2 hE rfl rfl rfl hc19) rfl rfl hE ?_
                                  intro a hE
                                  refine s_skip (wk2 hE rfl rfl rfl hc19) rfl rfl hE ?_
                                  intro a hE
                                  refine s_skip (wk2 hE rfl rfl rfl hc19) rfl rfl hE ?_
                                  intro a hE
                                  refine s_skip (wk2 hE rfl rfl rfl hc19) rfl rfl hE ?_
                                  intro a hE
                                  refine s_val (wk0 rfl) rfl rfl hE hp (v := (.bool true)) (ex_pick1 rfl hE rfl hc19 rfl) ?_
                                  intro a hE
                                  have hE := hE.eqv (v' := (.bool ((decide (x16 < 0)) || (decide ((p0.clauses.length : Int) ≤ x16))))) (by rw [hc19]; rfl)
                                  exact s_nil ⟨hE.cut ⟨rfl, rfl, rfl, rfl, rfl, rfl, rfl, rfl, rfl, rfl, trivial⟩, hp⟩
                                ·
                                  refine s_val (wk1 hE rfl rfl rfl hc19) rfl rfl hE hp (v := (.int .i64 x16)) (ex_move rfl hE rfl) ?_
                                  intro a hE
                                  refine s_val (wk1 hE rfl rfl rfl hc19) rfl rfl hE hp (v := (.pointer (some ⟨b1, 1, none⟩))) (ex_field rfl hE rfl (fldty24_1 _ _)) ?_
                                  intro a hE
                                  refine s_val (wk1 hE rfl rfl rfl hc19) rfl rfl hE hp (v := vp0_clauses) (ex_load rfl hE rfl (fun w hw => run_ld1 varty22 (Hp.c 3 rfl 1 rfl w hw))) ?_
                                  intro a hE
                                  refine s_val (wk1 hE rfl rfl rfl hc19) rfl rfl hE hp (v := (.int .i64 (p0.clauses.length : Int))) (ex_len rfl hE rfl (RoSl.len (RoSl.mono (RoSl.mono hp0_clauses hle1) hle2) slty22)) ?_
                                  intro a hE
                                  refine s_val (wk1 hE rfl rfl rfl hc19) rfl rfl hE hp (v := (.bool (decide ((p0.clauses.length : Int) ≤ x16)))) (ex_geq rfl hE rfl rfl) ?_
                                  intro a hE
                                  refine s_val (wk0 rfl) rfl rfl hE hp (v := (.bool (decide ((p0.clauses.length : Int) ≤ x16)))) (ex_pick0 rfl hE rfl hc19 rfl) ?_
                                  intro a hE
                                  have hE := hE.eqv (v' := (.bool ((decide (x16 < 0)) || (decide ((p0.clauses.length : Int) ≤ x16))))) (by rw [hc19]; rfl)
                                  exact s_nil ⟨hE.cut ⟨rfl, rfl, rfl, rfl, rfl, rfl, rfl, rfl, rfl, rfl, trivial⟩, hp⟩
                              · rintro a w ⟨hE, hp⟩
                                refine s_nil ?_
                                refine k_if hE rfl (fun hc20 => ?_) (fun hc20 => ?_)
                                · replace hl3 := (it hc20).symm.trans hl3
                                  refine k_seq ?_
                                  refine k_region ?_
                                  refine s_val (wk0 rfl) rfl rfl hE hp (v := (.bool false)) (ex_asn rfl hE rfl) ?_
                                  intro a hE
                                  refine s_nil ?_
                                  refine k_ret ?_
                                  refine ⟨_, (Option.some.inj hl3).symm, fun hb => ?_⟩
                                  subst hb
                                  obtain rfl := Option.some.inj hm
                                  exact ret1 hE rfl rfl ⟨_, rfl, rfl, (((((((((hp.get 3 rfl).drop).get 2 rfl).drop).get 1 rfl).drop).drop).less hle2).less hle1)⟩
                                · replace hl3 := (ie hc20).symm.trans hl3
                                  refine k_skip ?_
                                  obtain ⟨x17, ex17, hl3⟩ := bnd hl3
                                  obtain ⟨x18, ex18, hl3⟩ := bnd hl3
                                  have hp := hp.drew
                                  refine k_heldV ([([], At0 Z ρ2), ([10], At1 Z ρ2 (Pt b6 (.cells #[(.int .i64 p0.vars), w6] 24 (0, 0)))), ([], At1 Z ρ2 (Pt b1 (.cells #[(.int .i64 p0.vars), vp0_clauses] 24 (0, 0))))] : Facts) (fun a w => ∃ y8 : Nat, ∃ y6 : Value, ∃ yv1 : Value, ∃ yxs6 : List Value, RoSl ρ2 yv1 x17 ∧ RepAll ρ2 (x18 : (List (List Int))) yxs6 ∧ Env 202 [(1, vp1), (2, vp2), (3, (.pointer (some ⟨b1, 0, none⟩))), (7, vr5), (16, (.pointer (some ⟨b6, 0, none⟩))), (118, vr9), (119, (.int .i64 (x7.1.length : Int))), (120, (.int .i64 lp3_0))] a ∧ Hp Z ρ2 (Pt y8 (.cells #[yv1] 25 (0, 0)) :: RowR 25 y6 (x18 : (List (List Int))) yxs6 :: Pt b6 (.cells #[(.int .i64 p0.vars), y6] 24 (0, 0)) :: OwnSl 3 vr9 x7.1 :: Pt b1 (.cells #[(.int .i64 p0.vars), vp0_clauses] 24 (0, 0)) :: L) w) (by kernel_rfl) ⟨fun _ => ⟨_, hp⟩, fun _ => ⟨_, (hp.get 1 rfl)⟩, fun _ => ⟨_, (hp.get 3 rfl)⟩, trivial⟩ (fun hS => ?_) ?_
                                  ·
                                    generalize w.drew = w at hS hp ⊢
                                    refine v_take0 0 (wk0 rfl) rfl rfl rfl hE (by kernel_rfl) (by kernel_rfl) (by kernel_rfl) rfl (by kernel_rfl) hS (v := (.pointer (some ⟨b6, 1, none⟩))) (fun _ => ex_field rfl hE rfl (fldty24_1 _ _)) ?_
                                    intro a hE hS
                                    refine v_take1 1 1 (wk0 rfl) rfl rfl rfl hE (by kernel_rfl) (by kernel_rfl) (by kernel_rfl) rfl (by kernel_rfl) hS (v := w6) (fun _ => ex_load rfl hE rfl (fun w hw => run_ld1 varty22 (Hp.c 0 rfl 1 rfl w hw))) ?_
                                    intro a hE hS
                                    refine v_take0 2 (wk0 rfl) rfl rfl rfl hE (by kernel_rfl) (by kernel_rfl) (by kernel_rfl) rfl (by kernel_rfl) hS (v := (.pointer (some ⟨b1, 1, none⟩))) (fun _ => ex_field rfl hE rfl (fldty24_1 _ _)) ?_
                                    intro a hE hS
                                    refine v_take1 3 2 (wk0 rfl) rfl rfl rfl hE (by kernel_rfl) (by kernel_rfl) (by kernel_rfl) rfl (by kernel_rfl) hS (v := vp0_clauses) (fun _ => ex_load rfl hE rfl (fun w hw => run_ld1 varty22 (Hp.c 0 rfl 1 rfl w hw))) ?_
                                    intro a hE hS
                                    refine v_take0 4 (wk0 rfl) rfl rfl rfl hE (by kernel_rfl) (by kernel_rfl) (by kernel_rfl) rfl (by kernel_rfl) hS (v := (.int .i64 x16)) (fun _ => ex_move rfl hE rfl) ?_
                                    intro a hE hS
                                    obtain ⟨b11, b11o, b11c, b11r, b11k, b11f⟩ := RoSl.at (RoSl.mono (RoSl.mono hp0_clauses hle1) hle2) slty22 ex17
                                    obtain ⟨vb11, rfl, hb11⟩ := b11k
                                    have b11f : AtP ρ2 b11 b11o [vb11] := b11f
                                    refine v_take0 5 (wk0 rfl) rfl rfl rfl hE (by kernel_rfl) (by kernel_rfl) (by kernel_rfl) rfl (by kernel_rfl) hS (v := (.pointer (some ⟨b11, b11o, none⟩))) (fun _ => ex_index rfl hE rfl rfl b11r) ?_
                                    intro a hE hS
                                    refine v_take0 6 (wk0 rfl) rfl rfl rfl hE (by kernel_rfl) (by kernel_rfl) (by kernel_rfl) rfl (by kernel_rfl) hS (v := vb11) (fun _ => ex_load rfl hE rfl (fun w hw => run_ld1 varty25 (b11f.c 0 rfl w hw))) ?_
                                    intro a hE hS
                                    refine v_all [7] (by kernel_rfl) rfl ?_
                                    refine List.forall_mem_cons.2 ⟨?_, fun _ h => absurd h (by simp)⟩
                                    ·
                                      refine h_op rfl ?_
                                      refine s_lit (wk0 rfl) rfl rfl hE hp rfl [(0, vb11)] ⟨⟨rfl, rfl⟩, trivial⟩ [vb11] 25 (fun w => by have hc0 := RoSl.cells hb11; simp only [Value.cells] at hc0; simp [Instr.buildSlice, Instr.fill, Value.cells, hc0, go_sem]) ?_
                                      intro a w b12 hE hp
                                      have hp : Hp Z ρ2 (Pt b12 (.cells #[vb11] 25 (0, 0)) :: _ :: _ :: _ :: _ :: L) w := hp
                                      refine s_nil (and_with ⟨fun _ => ⟨_, hp⟩, fun _ => ⟨_, (hp.get 2 rfl)⟩, fun _ => ⟨_, (hp.get 4 rfl)⟩, trivial⟩ fun hS => ?_)
                                      refine v_all [8] (by kernel_rfl) rfl ?_
                                      refine List.forall_mem_cons.2 ⟨?_, fun _ h => absurd h (by simp)⟩
                                      ·
                                        refine h_op rfl ?_
                                        have hR5 : RepAll ρ2 ([x17] : List (List Int)) [vb11] := ⟨_, _, rfl, ⟨_, rfl, (hb11)⟩, rfl⟩
                                        have hR4 : RepAll ρ2 x18 (xs6 ++ [vb11]) := (app_some ex18).2 ▸ RepAll.app hR6w hR5
                                        refine s_appR (wk0 rfl) rfl rfl hE hp rfl slty22 rfl rfl 1 rfl rfl (l2 := [x17]) (ys := [vb11]) rfl hR5 (fun j u hj => by have := Hp.cN 0 rfl 0 _ (sub_all rfl) w hp j u hj; simpa using this) ex18 ?_
                                        intro v2 a w hE hp
                                        have hp : Hp Z ρ2 (_ :: RowR 25 v2 (x18 : (List (List Int))) (xs6 ++ [vb11]) :: _ :: _ :: _ :: L) w := hp
                                        refine s_nil (and_with ⟨fun _ => ⟨_, hp⟩, fun _ => ⟨_, (hp.get 2 rfl)⟩, fun _ => ⟨_, (hp.get 4 rfl)⟩, trivial⟩ fun hS => ?_)
                                        refine v_take0 9 (wk0 rfl) rfl rfl rfl hE (by kernel_rfl) (by kernel_rfl) (by kernel_rfl) rfl (by kernel_rfl) hS (v := (.pointer (some ⟨b6, 1, none⟩))) (fun _ => ex_field rfl hE rfl (fldty24_1 _ _)) ?_
                                        intro a hE hS
                                        refine v_all [10] (by kernel_rfl) rfl ?_
                                        refine List.forall_mem_cons.2 ⟨?_, fun _ h => absurd h (by simp)⟩
                                        ·
                                          refine h_op rfl ?_
                                          refine s_store1 (wk0 rfl) rfl hE hp rfl rfl rfl 2 rfl varty22.size_ (RowR.cells hp 1 rfl) (RowR.one hp 1 rfl) rfl [(.int .i64 p0.vars), v2] rfl ?_
                                          intro w hp
                                          have hp : Hp Z ρ2 (_ :: _ :: Pt b6 (.cells #[(.int .i64 p0.vars), v2] 24 (0, 0)) :: _ :: _ :: L) w := hp
                                          refine s_nil (and_with ⟨fun _ => ⟨_, hp⟩, dead (by kernel_rfl), fun _ => ⟨_, (hp.get 4 rfl)⟩, trivial⟩ fun hS => ?_)
                                          exact v_done (by kernel_rfl) ⟨_, _, _, _, hb11, hR4, hE.cut ⟨rfl, rfl, rfl, rfl, rfl, rfl, rfl, rfl, trivial⟩, hp⟩
                                  · rintro a w ⟨y8, y6, yv1, yxs6, yh1, yhR6, hE, hp⟩
                                    refine k_region ?_
                                    obtain ⟨x19, ex19, hl3⟩ := bnd hl3
                                    refine s_val (wk0 rfl) rfl rfl hE hp (v := (.int .i64 x19)) (ex_add rfl hE rfl rfl (inK_some ex19)) ?_
                                    intro a hE
                                    refine s_val (wk0 rfl) rfl rfl hE hp (v := (.int .i64 x19)) (ex_move rfl hE rfl) ?_
                                    intro a hE
                                    refine s_nil ?_
                                    exact ⟨_, (Option.some.inj hl3).symm, _, _, yhR6, hE.cut ⟨rfl, rfl, rfl, rfl, rfl, rfl, rfl, rfl, trivial⟩, (hp.drop)⟩
                            · replace hl3 := (ie hc18).symm.trans hl3
                              refine k_exit ?_
                              refine ⟨_, (Option.some.inj hl3).symm, fun hbb => ?_⟩
                              exact ⟨_, hbb.symm, _, _, hR6w, hE.cut ⟨rfl, rfl, rfl, rfl, rfl, trivial⟩, hp⟩
                        · rintro a w ⟨b7s, rfl, w6, xs6, hR6w, hE, hp⟩
                          dsimp only at hm
                          refine k_seq ?_
                          refine k_seq ?_
                          refine k_region ?_
                          refine s_val (wk0 rfl) rfl rfl hE hp (v := (.agg #[(.int .i64 p0.vars), w6])) (ex_load rfl hE rfl (fun w hw => run_ldN (cs := [(.int .i64 p0.vars), w6]) varty24 (Hp.cN 1 rfl 0 _ (sub_all rfl) w hw))) ?_
                          intro a hE
                          refine s_val (wk0 rfl) rfl rfl hE hp (v := vp1) (ex_move rfl hE rfl) ?_
                          intro a hE
                          obtain ⟨k1, k1a, k1d, hp⟩ := (hp.get 0 rfl).lend
                          have f1 : RoSl (ρ2.un k1) w6 b7s := RowR.ro k1d k1a hR6w
                          have hp : Hp Z (ρ2.un k1) (Pt b6 (.cells #[(.int .i64 p0.vars), w6] 24 (0, 0)) :: _ :: _ :: L) w := hp
                          obtain ⟨x20, ex20, hm⟩ := bnd hm
                          refine s_call (wk0 rfl) rfl rfl hE rfl [(.agg #[(.int .i64 p0.vars), w6]), vp1] ⟨rfl, rfl, trivial⟩ ent8 (c_proof_Check (Tabs.mono (Tabs.mono (Tabs.mono hT hle1) hle2) (PH.le_un _ k1)) (Formula.mk p0.vars b7s) w6 f1 p1 vp1 (RoSl.mono (RoSl.mono (RoSl.mono hp1 hle1) hle2) (PH.le_un _ k1)) hp x20 ex20) Ret.ret ?_
                          intro v a w hR hE
                          obtain ⟨rfl, hp⟩ := Ret.of hR
                          have hp : Hp Z (ρ2.un k1) (_ :: _ :: _ :: L) w := hp
                          refine s_val (wk0 rfl) rfl rfl hE hp (v := (.bool (!x20))) (ex_not rfl hE rfl) ?_
                          intro a hE
                          refine s_nil ?_
                          refine k_if hE rfl (fun hc21 => ?_) (fun hc21 => ?_)
                          · replace hm := (it hc21).symm.trans hm
                            refine k_seq ?_
                            refine k_region ?_
                            refine s_val (wk0 rfl) rfl rfl hE hp (v := (.bool false)) (ex_asn rfl hE rfl) ?_
                            intro a hE
                            refine s_nil ?_
                            refine k_ret ?_
                            obtain rfl := Option.some.inj hm
                            exact ret1 hE rfl rfl ⟨_, rfl, rfl, ((((((((hp.get 2 rfl).drop).get 1 rfl).drop).drop).less (PH.le_un _ k1)).less hle2).less hle1)⟩
                          · replace hm := (ie hc21).symm.trans hm
                            refine k_skip ?_
                            refine k_seq ?_
                            refine k_seq ?_
                            refine k_region ?_
                            refine s_val (wk0 rfl) rfl rfl hE hp (v := (.pointer (some ⟨b6, 1, none⟩))) (ex_field rfl hE rfl (fldty24_1 _ _)) ?_
                            intro a hE
                            refine s_val (wk0 rfl) rfl rfl hE hp (v := w6) (ex_load rfl hE rfl (fun w hw => run_ld1 varty22 (Hp.c 0 rfl 1 rfl w hw))) ?_
                            intro a hE
                            refine s_val (wk0 rfl) rfl rfl hE hp (v := (.int .i64 (b7s.length : Int))) (ex_len rfl hE rfl (RoSl.len f1 slty22)) ?_
                            intro a hE
                            refine s_val (wk0 rfl) rfl rfl hE hp (v := (.int .i64 0)) (ex_move rfl hE rfl) ?_
                            intro a hE
                            refine s_nil ?_
                            obtain ⟨b13, hc22, hm⟩ := bnd hm
                            refine k_block (fun a w => ∃ s : Unit, b13 = .brk s ∧ (Env 202 [(1, vp1), (2, vp2), (3, (.pointer (some ⟨b1, 0, none⟩))), (7, vr5)] a ∧ Hp Z (ρ2.un k1) (Pt b6 (.cells #[(.int .i64 p0.vars), w6] 24 (0, 0)) :: OwnSl 3 vr9 x7.1 :: Pt b1 (.cells #[(.int .i64 p0.vars), vp0_clauses] 24 (0, 0)) :: L) w)) ?_ ?_
                            · refine k_loop hc22 (fun s a w => Env 202 [(1, vp1), (2, vp2), (3, (.pointer (some ⟨b1, 0, none⟩))), (7, vr5), (16, (.pointer (some ⟨b6, 0, none⟩))), (150, (.int .i64 (b7s.length : Int))), (151, (.int .i64 s))] a ∧ Hp Z (ρ2.un k1) (Pt b6 (.cells #[(.int .i64 p0.vars), w6] 24 (0, 0)) :: OwnSl 3 vr9 x7.1 :: Pt b1 (.cells #[(.int .i64 p0.vars), vp0_clauses] 24 (0, 0)) :: L) w) ?_ ?_
                              · exact ⟨hE.cut ⟨rfl, rfl, rfl, rfl, rfl, rfl, rfl, trivial⟩, hp⟩
                              · rintro lp4_0 st a w ⟨hE, hp⟩ hl4
                                have hE : Env 202 [(1, vp1), (2, vp2), (3, (.pointer (some ⟨b1, 0, none⟩))), (7, vr5), (16, (.pointer (some ⟨b6, 0, none⟩))), (150, (.int .i64 (b7s.length : Int))), (151, (.int .i64 lp4_0))] a := hE
                                have hp : Hp Z (ρ2.un k1) (_ :: _ :: _ :: L) w := hp
                                replace hl4 : m_assessorlaw27_ProofNeeds_lp4 p0 p1 b7s lp4_0 = some st := hl4
                                unfold m_assessorlaw27_ProofNeeds_lp4 at hl4
                                refine k_seq ?_
                                refine k_region ?_
                                refine s_val (wk0 rfl) rfl rfl hE hp (v := (.bool (decide (lp4_0 < (b7s.length : Int))))) (ex_lss rfl hE rfl rfl) ?_
                                intro a hE
                                refine s_nil ?_
                                refine k_seq ?_
                                refine k_if hE rfl (fun hc23 => ?_) (fun hc23 => ?_)
                                · replace hl4 := (it hc23).symm.trans hl4
                                  refine k_skip ?_
                                  refine k_seq ?_
                                  refine k_plain ?_
                                  refine k_seq ?_
                                  refine k_region ?_
                                  refine s_val (wk0 rfl) rfl rfl hE hp (v := (.int .i64 lp4_0)) (ex_move rfl hE rfl) ?_
                                  intro a hE
                                  refine s_val (wk0 rfl) rfl rfl hE hp (v := (.int .i64 lp4_0)) (ex_asn rfl hE rfl) ?_
                                  intro a hE
                                  refine s_nil ?_
                                  refine k_seq ?_
                                  obtain ⟨x21, ex21, hl4⟩ := bnd hl4
                                  obtain ⟨x22, ex22, hl4⟩ := bnd hl4
                                  obtain ⟨x23, ex23, hl4⟩ := bnd hl4
                                  have hp := hp.drew
                                  refine k_heldV ([([], At0 Z (ρ2.un k1)), ([], At1 Z (ρ2.un k1) (Pt b6 (.cells #[(.int .i64 p0.vars), w6] 24 (0, 0)))), ([], At1 Z (ρ2.un k1) (Pt b1 (.cells #[(.int .i64 p0.vars), vp0_clauses] 24 (0, 0))))] : Facts) (fun a w => ∃ y12 : Nat, ∃ y11 : Value, ∃ yxs11 : List Value, RepAll (ρ2.un k1) (x23 : (List (List Int))) yxs11 ∧ Env 202 [(1, vp1), (2, vp2), (3, (.pointer (some ⟨b1, 0, none⟩))), (7, vr5), (16, (.pointer (some ⟨b6, 0, none⟩))), (20, (.pointer (some ⟨y12, 0, none⟩))), (150, (.int .i64 (b7s.length : Int))), (151, (.int .i64 lp4_0))] a ∧ Hp Z (ρ2.un k1) (Pt y12 (.cells #[(.int .i64 p0.vars), y11] 24 (0, 0)) :: RowR 25 y11 (x23 : (List (List Int))) yxs11 :: Pt b6 (.cells #[(.int .i64 p0.vars), w6] 24 (0, 0)) :: OwnSl 3 vr9 x7.1 :: Pt b1 (.cells #[(.int .i64 p0.vars), vp0_clauses] 24 (0, 0)) :: L) w) (by kernel_rfl) ⟨fun _ => ⟨_, hp⟩, fun _ => ⟨_, (hp.get 0 rfl)⟩, fun _ => ⟨_, (hp.get 2 rfl)⟩, trivial⟩ (fun hS => ?_) ?_
                                  ·
                                    generalize w.drew = w at hS hp ⊢
                                    refine v_take0 0 (wk0 rfl) rfl rfl rfl hE (by kernel_rfl) (by kernel_rfl) (by kernel_rfl) rfl (by kernel_rfl) hS (v := (.pointer (some ⟨b1, 0, none⟩))) (fun _ => ex_field rfl hE rfl (fldty24_0 _ _)) ?_
                                    intro a hE hS
                                    refine v_take1 1 2 (wk0 rfl) rfl rfl rfl hE (by kernel_rfl) (by kernel_rfl) (by kernel_rfl) rfl (by kernel_rfl) hS (v := (.int .i64 p0.vars)) (fun _ => ex_load rfl hE rfl (fun w hw => run_ld1 varty3 (Hp.c 0 rfl 0 rfl w hw))) ?_
                                    intro a hE hS
                                    refine v_take0 2 (wk0 rfl) rfl rfl rfl hE (by kernel_rfl) (by kernel_rfl) (by kernel_rfl) rfl (by kernel_rfl) hS (v := (.pointer (some ⟨b6, 1, none⟩))) (fun _ => ex_field rfl hE rfl (fldty24_1 _ _)) ?_
                                    intro a hE hS
                                    refine v_take1 3 1 (wk0 rfl) rfl rfl rfl hE (by kernel_rfl) (by kernel_rfl) (by kernel_rfl) rfl (by kernel_rfl) hS (v := w6) (fun _ => ex_load rfl hE rfl (fun w hw => run_ld1 varty22 (Hp.c 0 rfl 1 rfl w hw))) ?_
                                    intro a hE hS
                                    refine v_take0 5 (wk0 rfl) rfl rfl rfl hE (by kernel_rfl) (by kernel_rfl) (by kernel_rfl) rfl (by kernel_rfl) hS (v := (.int .i64 lp4_0)) (fun _ => ex_move rfl hE rfl) ?_
                                    intro a hE hS
                                    refine v_take0 6 (wk0 rfl) rfl rfl rfl hE (by kernel_rfl) (by kernel_rfl) (by kernel_rfl) rfl (by kernel_rfl) hS (v := (.int .i64 lp4_0)) (fun _ => ex_move rfl hE rfl) ?_
                                    intro a hE hS
                                    refine v_take0 7 (wk0 rfl) rfl rfl rfl hE (by kernel_rfl) (by kernel_rfl) (by kernel_rfl) rfl (by kernel_rfl) hS (v := (.int .i64 x22)) (fun _ => ex_add rfl hE rfl rfl (inK_some ex22)) ?_
                                    intro a hE hS
                                    refine v_all [4, 10] (by kernel_rfl) rfl ?_
                                    refine List.forall_mem_cons.2 ⟨?_, List.forall_mem_cons.2 ⟨?_, fun _ h => absurd h (by simp)⟩⟩
                                    ·
                                      refine h_op rfl ?_
                                      refine s_call (wk0 rfl) rfl rfl hE rfl [w6] ⟨rfl, trivial⟩ ent14 (c_cloneR b7s w6 f1 hp x21 ex21) Ret.ret ?_
                                      intro v5 a w hR hE
                                      obtain ⟨u, xs2, hu, hR8, hp⟩ := Ret.of hR
                                      rw [← hu] at hp
                                      have hp : Hp Z (ρ2.un k1) (RowR 25 v5 (x21 : (List (List Int))) xs2 :: _ :: _ :: _ :: L) w := hp
                                      refine s_nil (and_with ⟨fun _ => ⟨_, hp⟩, fun _ => ⟨_, (hp.get 1 rfl)⟩, fun _ => ⟨_, (hp.get 3 rfl)⟩, trivial⟩ fun hS => ?_)
                                      refine v_all [8, 10] (by kernel_rfl) rfl ?_
                                      refine List.forall_mem_cons.2 ⟨?_, List.forall_mem_cons.2 ⟨?_, fun _ h => absurd h (by simp)⟩⟩
                                      ·
                                        refine h_op rfl ?_
                                        refine s_call (wk0 rfl) rfl rfl hE rfl [v5, (.int .i64 lp4_0), (.int .i64 x22)] ⟨rfl, rfl, rfl, trivial⟩ ent13 (c_delR x21 v5 xs2 lp4_0 x22 hR8 hp x23 ex23) Ret.ret ?_
                                        intro v6 a w hR hE
                                        obtain ⟨u, hu, hp⟩ := Ret.of hR
                                        rw [← hu] at hp
                                        have hR9 : RepAll (ρ2.un k1) x23 (xs2.take lp4_0.toNat ++ xs2.drop x22.toNat) := m_delR_rep ex23 hR8
                                        have hp : Hp Z (ρ2.un k1) (RowR 25 v6 (x23 : (List (List Int))) (xs2.take lp4_0.toNat ++ xs2.drop x22.toNat) :: _ :: _ :: _ :: L) w := hp
                                        refine s_nil (and_with ⟨fun _ => ⟨_, hp⟩, fun _ => ⟨_, (hp.get 1 rfl)⟩, fun _ => ⟨_, (hp.get 3 rfl)⟩, trivial⟩ fun hS => ?_)
                                        refine v_take0 9 (wk0 rfl) rfl rfl rfl hE (by kernel_rfl) (by kernel_rfl) (by kernel_rfl) rfl (by kernel_rfl) hS (v := (.agg #[(.int .i64 p0.vars), v6])) (fun _ => ex_bld rfl hE [(0, (.int .i64 p0.vars)), (1, v6)] (by exact ⟨⟨rfl, rfl⟩, ⟨rfl, rfl⟩, trivial⟩) (fun w => by have hc0 := RowR.cells hp 0 rfl; simp only [Value.cells] at hc0; simp [Instr.build, Instr.fill, Value.cells, hc0, go_sem])) ?_
                                        intro a hE hS
                                        refine v_all [10] (by kernel_rfl) rfl ?_
                                        refine List.forall_mem_cons.2 ⟨?_, fun _ h => absurd h (by simp)⟩
                                        ·
                                          refine h_op rfl ?_
                                          refine s_new (wk0 rfl) rfl rfl hE hp rfl [(.int .i64 0), (.slice none 0 0)] (fun w => by simp [Instr.alloc, go_sem] <;> rfl) ?_
                                          intro a w b15 hE hp
                                          have hp : Hp Z (ρ2.un k1) (Pt b15 (.cells #[(.int .i64 0), (.slice none 0 0)] 24 (0, 0)) :: _ :: _ :: _ :: _ :: L) w := hp
                                          refine s_nil (and_with ⟨fun _ => ⟨_, hp⟩, fun _ => ⟨_, (hp.get 2 rfl)⟩, fun _ => ⟨_, (hp.get 4 rfl)⟩, trivial⟩ fun hS => ?_)
                                          refine v_all [11] (by kernel_rfl) rfl ?_
                                          refine List.forall_mem_cons.2 ⟨?_, fun _ h => absurd h (by simp)⟩
                                          ·
                                            refine h_op rfl ?_
                                            refine s_store (wk0 rfl) rfl hE hp rfl rfl rfl 0 rfl varty24.size_ rfl (allOne_mem ⟨rfl, (RowR.one hp 1 rfl), trivial⟩) [(.int .i64 p0.vars), v6] rfl ?_
                                            intro w hp
                                            have hp : Hp Z (ρ2.un k1) (Pt b15 (.cells #[(.int .i64 p0.vars), v6] 24 (0, 0)) :: _ :: _ :: _ :: _ :: L) w := hp
                                            refine s_nil (and_with ⟨fun _ => ⟨_, hp⟩, fun _ => ⟨_, (hp.get 2 rfl)⟩, fun _ => ⟨_, (hp.get 4 rfl)⟩, trivial⟩ fun hS => ?_)
                                            exact v_done (by kernel_rfl) ⟨_, _, _, hR9, hE.cut ⟨rfl, rfl, rfl, rfl, rfl, rfl, rfl, rfl, trivial⟩, hp⟩
                                      ·
                                        refine h_op rfl ?_
                                        refine s_new (wk0 rfl) rfl rfl hE hp rfl [(.int .i64 0), (.slice none 0 0)] (fun w => by simp [Instr.alloc, go_sem] <;> rfl) ?_
                                        intro a w b16 hE hp
                                        have hp : Hp Z (ρ2.un k1) (Pt b16 (.cells #[(.int .i64 0), (.slice none 0 0)] 24 (0, 0)) :: _ :: _ :: _ :: _ :: L) w := hp
                                        refine s_nil (and_with ⟨fun _ => ⟨_, hp⟩, fun _ => ⟨_, (hp.get 2 rfl)⟩, fun _ => ⟨_, (hp.get 4 rfl)⟩, trivial⟩ fun hS => ?_)
                                        refine v_all [8] (by kernel_rfl) rfl ?_
                                        refine List.forall_mem_cons.2 ⟨?_, fun _ h => absurd h (by simp)⟩
                                        ·
                                          refine h_op rfl ?_
                                          refine s_call (wk0 rfl) rfl rfl hE rfl [v5, (.int .i64 lp4_0), (.int .i64 x22)] ⟨rfl, rfl, rfl, trivial⟩ ent13 (c_delR x21 v5 xs2 lp4_0 x22 hR8 (hp.get 1 rfl) x23 ex23) Ret.ret ?_
                                          intro v7 a w hR hE
                                          obtain ⟨u, hu, hp⟩ := Ret.of hR
                                          rw [← hu] at hp
                                          have hR10 : RepAll (ρ2.un k1) x23 (xs2.take lp4_0.toNat ++ xs2.drop x22.toNat) := m_delR_rep ex23 hR8
                                          have hp : Hp Z (ρ2.un k1) (RowR 25 v7 (x23 : (List (List Int))) (xs2.take lp4_0.toNat ++ xs2.drop x22.toNat) :: _ :: _ :: _ :: _ :: L) w := hp
                                          refine s_nil (and_with ⟨fun _ => ⟨_, hp⟩, fun _ => ⟨_, (hp.get 2 rfl)⟩, fun _ => ⟨_, (hp.get 4 rfl)⟩, trivial⟩ fun hS => ?_)
                                          refine v_take0 9 (wk0 rfl) rfl rfl rfl hE (by kernel_rfl) (by kernel_rfl) (by kernel_rfl) rfl (by kernel_rfl) hS (v := (.agg #[(.int .i64 p0.vars), v7])) (fun _ => ex_bld rfl hE [(0, (.int .i64 p0.vars)), (1, v7)] (by exact ⟨⟨rfl, rfl⟩, ⟨rfl, rfl⟩, trivial⟩) (fun w => by have hc0 := RowR.cells hp 0 rfl; simp only [Value.cells] at hc0; simp [Instr.build, Instr.fill, Value.cells, hc0, go_sem])) ?_
                                          intro a hE hS
                                          refine v_all [11] (by kernel_rfl) rfl ?_
                                          refine List.forall_mem_cons.2 ⟨?_, fun _ h => absurd h (by simp)⟩
                                          ·
                                            refine h_op rfl ?_
                                            refine s_store (wk0 rfl) rfl hE hp rfl rfl rfl 1 rfl varty24.size_ rfl (allOne_mem ⟨rfl, (RowR.one hp 0 rfl), trivial⟩) [(.int .i64 p0.vars), v7] rfl ?_
                                            intro w hp
                                            have hp : Hp Z (ρ2.un k1) (_ :: Pt b16 (.cells #[(.int .i64 p0.vars), v7] 24 (0, 0)) :: _ :: _ :: _ :: L) w := hp
                                            refine s_nil (and_with ⟨fun _ => ⟨_, hp⟩, fun _ => ⟨_, (hp.get 2 rfl)⟩, fun _ => ⟨_, (hp.get 4 rfl)⟩, trivial⟩ fun hS => ?_)
                                            exact v_done (by kernel_rfl) ⟨_, _, _, hR10, hE.cut ⟨rfl, rfl, rfl, rfl, rfl, rfl, rfl, rfl, trivial⟩, (((((hp.get 4 rfl).get 4 rfl).get 4 rfl).get 3 rfl).get 4 rfl)⟩
                                    ·
                                      refine h_op rfl ?_
                                      refine s_new (wk0 rfl) rfl rfl hE hp rfl [(.int .i64 0), (.slice none 0 0)] (fun w => by simp [Instr.alloc, go_sem] <;> rfl) ?_
                                      intro a w b17 hE hp
                                      have hp : Hp Z (ρ2.un k1) (Pt b17 (.cells #[(.int .i64 0), (.slice none 0 0)] 24 (0, 0)) :: _ :: _ :: _ :: L) w := hp
                                      refine s_nil (and_with ⟨fun _ => ⟨_, hp⟩, fun _ => ⟨_, (hp.get 1 rfl)⟩, fun _ => ⟨_, (hp.get 3 rfl)⟩, trivial⟩ fun hS => ?_)
                                      refine v_all [4] (by kernel_rfl) rfl ?_
                                      refine List.forall_mem_cons.2 ⟨?_, fun _ h => absurd h (by simp)⟩
                                      ·
                                        refine h_op rfl ?_
                                        refine s_call (wk0 rfl) rfl rfl hE rfl [w6] ⟨rfl, trivial⟩ ent14 (c_cloneR b7s w6 f1 hp x21 ex21) Ret.ret ?_
                                        intro v8 a w hR hE
                                        obtain ⟨u, xs3, hu, hR11, hp⟩ := Ret.of hR
                                        rw [← hu] at hp
                                        have hp : Hp Z (ρ2.un k1) (RowR 25 v8 (x21 : (List (List Int))) xs3 :: _ :: _ :: _ :: _ :: L) w := hp
                                        refine s_nil (and_with ⟨fun _ => ⟨_, hp⟩, fun _ => ⟨_, (hp.get 2 rfl)⟩, fun _ => ⟨_, (hp.get 4 rfl)⟩, trivial⟩ fun hS => ?_)
                                        refine v_all [8] (by kernel_rfl) rfl ?_
                                        refine List.forall_mem_cons.2 ⟨?_, fun _ h => absurd h (by simp)⟩
                                        ·
                                          refine h_op rfl ?_
                                          refine s_call (wk0 rfl) rfl rfl hE rfl [v8, (.int .i64 lp4_0), (.int .i64 x22)] ⟨rfl, rfl, rfl, trivial⟩ ent13 (c_delR x21 v8 xs3 lp4_0 x22 hR11 hp x23 ex23) Ret.ret ?_
                                          intro v9 a w hR hE
                                          obtain ⟨u, hu, hp⟩ := Ret.of hR
                                          rw [← hu] at hp
                                          have hR12 : RepAll (ρ2.un k1) x23 (xs3.take lp4_0.toNat ++ xs3.drop x22.toNat) := m_delR_rep ex23 hR11
                                          have hp : Hp Z (ρ2.un k1) (RowR 25 v9 (x23 : (List (List Int))) (xs3.take lp4_0.toNat ++ xs3.drop x22.toNat) :: _ :: _ :: _ :: _ :: L) w := hp
                                          refine s_nil (and_with ⟨fun _ => ⟨_, hp⟩, fun _ => ⟨_, (hp.get 2 rfl)⟩, fun _ => ⟨_, (hp.get 4 rfl)⟩, trivial⟩ fun hS => ?_)
                                          refine v_take0 9 (wk0 rfl) rfl rfl rfl hE (by kernel_rfl) (by kernel_rfl) (by kernel_rfl) rfl (by kernel_rfl) hS (v := (.agg #[(.int .i64 p0.vars), v9])) (fun _ => ex_bld rfl hE [(0, (.int .i64 p0.vars)), (1, v9)] (by exact ⟨⟨rfl, rfl⟩, ⟨rfl, rfl⟩, trivial⟩) (fun w => by have hc0 := RowR.cells hp 0 rfl; simp only [Value.cells] at hc0; simp [Instr.build, Instr.fill, Value.cells, hc0, go_sem])) ?_
                                          intro a hE hS
                                          refine v_all [11] (by kernel_rfl) rfl ?_
                                          refine List.forall_mem_cons.2 ⟨?_, fun _ h => absurd h (by simp)⟩
                                          ·
                                            refine h_op rfl ?_
                                            refine s_store (wk0 rfl) rfl hE hp rfl rfl rfl 1 rfl varty24.size_ rfl (allOne_mem ⟨rfl, (RowR.one hp 0 rfl), trivial⟩) [(.int .i64 p0.vars), v9] rfl ?_
                                            intro w hp
                                            have hp : Hp Z (ρ2.un k1) (_ :: Pt b17 (.cells #[(.int .i64 p0.vars), v9] 24 (0, 0)) :: _ :: _ :: _ :: L) w := hp
                                            refine s_nil (and_with ⟨fun _ => ⟨_, hp⟩, fun _ => ⟨_, (hp.get 2 rfl)⟩, fun _ => ⟨_, (hp.get 4 rfl)⟩, trivial⟩ fun hS => ?_)
                                            exact v_done (by kernel_rfl) ⟨_, _, _, hR12, hE.cut ⟨rfl, rfl, rfl, rfl, rfl, rfl, rfl, rfl, trivial⟩, (((((hp.get 4 rfl).get 4 rfl).get 4 rfl).get 3 rfl).get 4 rfl)⟩
                                  · rintro a w ⟨y12, y11, yxs11, yhR11, hE, hp⟩
                                    refine k_seq ?_
                                    refine k_region ?_
                                    refine s_val (wk0 rfl) rfl rfl hE hp (v := (.agg #[(.int .i64 p0.vars), y11])) (ex_load rfl hE rfl (fun w hw => run_ldN (cs := [(.int .i64 p0.vars), y11]) varty24 (Hp.cN 0 rfl 0 _ (sub_all rfl) w hw))) ?_
                                    intro a hE
                                    refine s_val (wk0 rfl) rfl rfl hE hp (v := vp1) (ex_move rfl hE rfl) ?_
                                    intro a hE
                                    obtain ⟨k2, k2a, k2d, hp⟩ := (hp.get 1 rfl).lend
                                    have f2 : RoSl ((ρ2.un k1).un k2) y11 x23 := RowR.ro k2d k2a yhR11
                                    have hp : Hp Z ((ρ2.un k1).un k2) (Pt y12 (.cells #[(.int .i64 p0.vars), y11] 24 (0, 0)) :: _ :: _ :: _ :: L) w := hp
                                    obtain ⟨x24, ex24, hl4⟩ := bnd hl4
                                    refine s_call (wk0 rfl) rfl rfl hE rfl [(.agg #[(.int .i64 p0.vars), y11]), vp1] ⟨rfl, rfl, trivial⟩ ent8 (c_proof_Check (Tabs.mono (Tabs.mono (Tabs.mono (Tabs.mono hT hle1) hle2) (PH.le_un _ k1)) (PH.le_un _ k2)) (Formula.mk p0.vars x23) y11 f2 p1 vp1 (RoSl.mono (RoSl.mono (RoSl.mono (RoSl.mono hp1 hle1) hle2) (PH.le_un _ k1)) (PH.le_un _ k2)) hp x24 ex24) Ret.ret ?_
                                    intro v a w hR hE
                                    obtain ⟨rfl, hp⟩ := Ret.of hR
                                    have hp : Hp Z ((ρ2.un k1).un k2) (_ :: _ :: _ :: _ :: L) w := hp
                                    refine s_nil ?_
                                    refine k_if hE rfl (fun hc24 => ?_) (fun hc24 => ?_)
                                    · replace hl4 := (it hc24).symm.trans hl4
                                      refine k_seq ?_
                                      refine k_region ?_
                                      refine s_val (wk0 rfl) rfl rfl hE hp (v := (.bool false)) (ex_asn rfl hE rfl) ?_
                                      intro a hE
                                      refine s_nil ?_
                                      refine k_ret ?_
                                      refine ⟨_, (Option.some.inj hl4).symm, fun hb => ?_⟩
                                      subst hb
                                      obtain rfl := Option.some.inj hm
                                      exact ret1 hE rfl rfl ⟨_, rfl, rfl, (((((((((((hp.get 3 rfl).drop).get 2 rfl).drop).get 1 rfl).drop).drop).less (PH.le_un _ k2)).less (PH.le_un _ k1)).less hle2).less hle1)⟩
                                    · replace hl4 := (ie hc24).symm.trans hl4
                                      refine k_skip ?_
                                      refine k_region ?_
                                      obtain ⟨x25, ex25, hl4⟩ := bnd hl4
                                      refine s_val (wk0 rfl) rfl rfl hE hp (v := (.int .i64 x25)) (ex_add rfl hE rfl rfl (inK_some ex25)) ?_
                                      intro a hE
                                      refine s_val (wk0 rfl) rfl rfl hE hp (v := (.int .i64 x25)) (ex_move rfl hE rfl) ?_
                                      intro a hE
                                      refine s_nil ?_
                                      exact ⟨_, (Option.some.inj hl4).symm, hE.cut ⟨rfl, rfl, rfl, rfl, rfl, rfl, rfl, trivial⟩, ((hp.drop).less (PH.le_un _ k2))⟩
                                · replace hl4 := (ie hc23).symm.trans hl4
                                  refine k_exit ?_
                                  refine ⟨_, (Option.some.inj hl4).symm, fun hbb => ?_⟩
                                  exact ⟨_, hbb.symm, hE.cut ⟨rfl, rfl, rfl, rfl, trivial⟩, hp⟩
                            · rintro a w ⟨b13s, rfl, hE, hp⟩
                              dsimp only at hm
                              refine k_seq ?_
                              refine k_seq ?_
                              refine k_region ?_
                              refine s_val (wk0 rfl) rfl rfl hE hp (v := vr5) (ex_move rfl hE rfl) ?_
                              intro a hE
                              refine s_val (wk0 rfl) rfl rfl hE hp (v := (.int .i64 (x5.1.length : Int))) (ex_len rfl hE rfl (RoSl.len (RoSl.mono (RoSl.mono hr5 hle2) (PH.le_un _ k1)) slty22)) ?_
                              intro a hE
                              obtain ⟨x26, ex26, hm⟩ := bnd hm
                              refine s_val (wk0 rfl) rfl rfl hE hp (v := (.int .i64 x26)) (ex_sub rfl hE rfl rfl (inK_some ex26)) ?_
                              intro a hE
                              refine s_val (wk0 rfl) rfl rfl hE hp (v := (.int .i64 0)) (ex_move rfl hE rfl) ?_
                              intro a hE
                              refine s_nil ?_
                              obtain ⟨b18, hc25, hm⟩ := bnd hm
                              refine k_block (fun a w => ∃ s : Unit, b18 = .brk s ∧ (Env 202 [(1, vp1), (2, vp2), (3, (.pointer (some ⟨b1, 0, none⟩)))] a ∧ Hp Z (ρ2.un k1) (Pt b6 (.cells #[(.int .i64 p0.vars), w6] 24 (0, 0)) :: OwnSl 3 vr9 x7.1 :: Pt b1 (.cells #[(.int .i64 p0.vars), vp0_clauses] 24 (0, 0)) :: L) w)) ?_ ?_
                              · refine k_loop hc25 (fun s a w => Env 202 [(1, vp1), (2, vp2), (3, (.pointer (some ⟨b1, 0, none⟩))), (7, vr5), (170, (.int .i64 x26)), (171, (.int .i64 s))] a ∧ Hp Z (ρ2.un k1) (Pt b6 (.cells #[(.int .i64 p0.vars), w6] 24 (0, 0)) :: OwnSl 3 vr9 x7.1 :: Pt b1 (.cells #[(.int .i64 p0.vars), vp0_clauses] 24 (0, 0)) :: L) w) ?_ ?_
                                · exact ⟨hE.cut ⟨rfl, rfl, rfl, rfl, rfl, rfl, trivial⟩, hp⟩
                                · rintro lp5_0 st a w ⟨hE, hp⟩ hl5
                                  have hE : Env 202 [(1, vp1), (2, vp2), (3, (.pointer (some ⟨b1, 0, none⟩))), (7, vr5), (170, (.int .i64 x26)), (171, (.int .i64 lp5_0))] a := hE
                                  have hp : Hp Z (ρ2.un k1) (_ :: _ :: _ :: L) w := hp
                                  replace hl5 : m_assessorlaw27_ProofNeeds_lp5 p0 x5 x26 lp5_0 = some st := hl5
                                  unfold m_assessorlaw27_ProofNeeds_lp5 at hl5
                                  refine k_seq ?_
                                  refine k_region ?_
                                  refine s_val (wk0 rfl) rfl rfl hE hp (v := (.bool (decide (lp5_0 < x26)))) (ex_lss rfl hE rfl rfl) ?_
                                  intro a hE
                                  refine s_nil ?_
                                  refine k_seq ?_
                                  refine k_if hE rfl (fun hc26 => ?_) (fun hc26 => ?_)
                                  · replace hl5 := (it hc26).symm.trans hl5
                                    refine k_skip ?_
                                    refine k_seq ?_
                                    refine k_plain ?_
                                    refine k_seq ?_
                                    refine k_region ?_
                                    refine s_val (wk0 rfl) rfl rfl hE hp (v := (.int .i64 lp5_0)) (ex_move rfl hE rfl) ?_
                                    intro a hE
                                    refine s_val (wk0 rfl) rfl rfl hE hp (v := (.int .i64 lp5_0)) (ex_asn rfl hE rfl) ?_
                                    intro a hE
                                    refine s_nil ?_
                                    refine k_seq ?_
                                    obtain ⟨x27, ex27, hl5⟩ := bnd hl5
                                    obtain ⟨x28, ex28, hl5⟩ := bnd hl5
                                    obtain ⟨x29, ex29, hl5⟩ := bnd hl5
                                    obtain ⟨x30, ex30, hl5⟩ := bnd hl5
                                    have hp := hp.drew
                                    refine k_heldV ([([], At0 Z (ρ2.un k1)), ([], At1 Z (ρ2.un k1) (Pt b1 (.cells #[(.int .i64 p0.vars), vp0_clauses] 24 (0, 0))))] : Facts) (fun a w => ∃ ρy1 : PH, (ρ2.un k1).le ρy1 ∧ Env 202 [(1, vp1), (2, vp2), (3, (.pointer (some ⟨b1, 0, none⟩))), (7, vr5), (170, (.int .i64 x26)), (171, (.int .i64 lp5_0)), (181, (.bool x30))] a ∧ Hp Z ρy1 (Pt b6 (.cells #[(.int .i64 p0.vars), w6] 24 (0, 0)) :: OwnSl 3 vr9 x7.1 :: Pt b1 (.cells #[(.int .i64 p0.vars), vp0_clauses] 24 (0, 0)) :: L) w) (by kernel_rfl) ⟨fun _ => ⟨_, hp⟩, fun _ => ⟨_, (hp.get 2 rfl)⟩, trivial⟩ (fun hS => ?_) ?_
                                    ·
                                      generalize w.drew = w at hS hp ⊢
                                      refine v_take1 0 1 (wk0 rfl) rfl rfl rfl hE (by kernel_rfl) (by kernel_rfl) (by kernel_rfl) rfl (by kernel_rfl) hS (v := (.agg #[(.int .i64 p0.vars), vp0_clauses])) (fun _ => ex_load rfl hE rfl (fun w hw => run_ldN (cs := [(.int .i64 p0.vars), vp0_clauses]) varty24 (Hp.cN 0 rfl 0 _ (sub_all rfl) w hw))) ?_
                                      intro a hE hS
                                      refine v_take0 1 (wk0 rfl) rfl rfl rfl hE (by kernel_rfl) (by kernel_rfl) (by kernel_rfl) rfl (by kernel_rfl) hS (v := vr5) (fun _ => ex_move rfl hE rfl) ?_
                                      intro a hE hS
                                      refine v_take0 3 (wk0 rfl) rfl rfl rfl hE (by kernel_rfl) (by kernel_rfl) (by kernel_rfl) rfl (by kernel_rfl) hS (v := (.int .i64 lp5_0)) (fun _ => ex_move rfl hE rfl) ?_
                                      intro a hE hS
                                      refine v_take0 4 (wk0 rfl) rfl rfl rfl hE (by kernel_rfl) (by kernel_rfl) (by kernel_rfl) rfl (by kernel_rfl) hS (v := (.int .i64 lp5_0)) (fun _ => ex_move rfl hE rfl) ?_
                                      intro a hE hS
                                      refine v_take0 5 (wk0 rfl) rfl rfl rfl hE (by kernel_rfl) (by kernel_rfl) (by kernel_rfl) rfl (by kernel_rfl) hS (v := (.int .i64 x28)) (fun _ => ex_add rfl hE rfl rfl (inK_some ex28)) ?_
                                      intro a hE hS
                                      refine v_all [2] (by kernel_rfl) rfl ?_
                                      refine List.forall_mem_cons.2 ⟨?_, fun _ h => absurd h (by simp)⟩
                                      ·
                                        refine h_op rfl ?_
                                        refine s_call (wk0 rfl) rfl rfl hE rfl [vr5] ⟨rfl, trivial⟩ ent14 (c_cloneR x5.1 vr5 (RoSl.mono (RoSl.mono hr5 hle2) (PH.le_un _ k1)) hp x27 ex27) Ret.ret ?_
                                        intro v12 a w hR hE
                                        obtain ⟨u, xs5, hu, hR15, hp⟩ := Ret.of hR
                                        rw [← hu] at hp
                                        have hp : Hp Z (ρ2.un k1) (RowR 25 v12 (x27 : (List (List Int))) xs5 :: _ :: _ :: _ :: L) w := hp
                                        refine s_nil (and_with ⟨fun _ => ⟨_, hp⟩, fun _ => ⟨_, (hp.get 3 rfl)⟩, trivial⟩ fun hS => ?_)
                                        refine v_all [6] (by kernel_rfl) rfl ?_
                                        refine List.forall_mem_cons.2 ⟨?_, fun _ h => absurd h (by simp)⟩
                                        ·
                                          refine h_op rfl ?_
                                          refine s_call (wk0 rfl) rfl rfl hE rfl [v12, (.int .i64 lp5_0), (.int .i64 x28)] ⟨rfl, rfl, rfl, trivial⟩ ent13 (c_delR x27 v12 xs5 lp5_0 x28 hR15 hp x29 ex29) Ret.ret ?_
                                          intro v13 a w hR hE
                                          obtain ⟨u, hu, hp⟩ := Ret.of hR
                                          rw [← hu] at hp
                                          have hR16 : RepAll (ρ2.un k1) x29 (xs5.take lp5_0.toNat ++ xs5.drop x28.toNat) := m_delR_rep ex29 hR15
                                          have hp : Hp Z (ρ2.un k1) (RowR 25 v13 (x29 : (List (List Int))) (xs5.take lp5_0.toNat ++ xs5.drop x28.toNat) :: _ :: _ :: _ :: L) w := hp
                                          refine s_nil (and_with ⟨fun _ => ⟨_, hp⟩, fun _ => ⟨_, (hp.get 3 rfl)⟩, trivial⟩ fun hS => ?_)
                                          refine v_all [7] (by kernel_rfl) rfl ?_
                                          refine List.forall_mem_cons.2 ⟨?_, fun _ h => absurd h (by simp)⟩
                                          ·
                                            refine h_op rfl ?_
                                            obtain ⟨k4, k4a, k4d, hp⟩ := (hp.get 0 rfl).lend
                                            have f4 : RoSl ((ρ2.un k1).un k4) v13 x29 := RowR.ro k4d k4a hR16
                                            have hp : Hp Z ((ρ2.un k1).un k4) (_ :: _ :: _ :: L) w := hp
                                            refine s_call (wk0 rfl) rfl rfl hE rfl [(.agg #[(.int .i64 p0.vars), vp0_clauses]), v13] ⟨rfl, rfl, trivial⟩ ent8 (c_proof_Check (Tabs.mono (Tabs.mono (Tabs.mono (Tabs.mono hT hle1) hle2) (PH.le_un _ k1)) (PH.le_un _ k4)) p0 vp0_clauses (RoSl.mono (RoSl.mono (RoSl.mono (RoSl.mono hp0_clauses hle1) hle2) (PH.le_un _ k1)) (PH.le_un _ k4)) x29 v13 f4 hp x30 ex30) Ret.ret ?_
                                            intro v a w hR hE
                                            obtain ⟨rfl, hp⟩ := Ret.of hR
                                            have hp : Hp Z ((ρ2.un k1).un k4) (_ :: _ :: _ :: L) w := hp
                                            refine s_nil (and_with ⟨fun _ => ⟨_, (hp.less (PH.le_un _ k4))⟩, fun _ => ⟨_, ((hp.get 2 rfl).less (PH.le_un _ k4))⟩, trivial⟩ fun hS => ?_)
                                            exact v_done (by kernel_rfl) ⟨((ρ2.un k1).un k4), (PH.le_un _ k4), hE.cut ⟨rfl, rfl, rfl, rfl, rfl, rfl, rfl, trivial⟩, hp⟩
                                    · rintro a w ⟨ρy1, hley1, hE, hp⟩
                                      refine k_if hE rfl (fun hc27 => ?_) (fun hc27 => ?_)
                                      · replace hl5 := (it hc27).symm.trans hl5
                                        refine k_seq ?_
                                        refine k_region ?_
                                        refine s_val (wk0 rfl) rfl rfl hE hp (v := (.bool false)) (ex_asn rfl hE rfl) ?_
                                        intro a hE
                                        refine s_nil ?_
                                        refine k_ret ?_
                                        refine ⟨_, (Option.some.inj hl5).symm, fun hb => ?_⟩
                                        subst hb
                                        obtain rfl := Option.some.inj hm
                                        exact ret1 hE rfl rfl ⟨_, rfl, rfl, (((((((((hp.get 2 rfl).drop).get 1 rfl).drop).drop).less hley1).less (PH.le_un _ k1)).less hle2).less hle1)⟩
                                      · replace hl5 := (ie hc27).symm.trans hl5
                                        refine k_skip ?_
                                        refine k_region ?_
                                        obtain ⟨x31, ex31, hl5⟩ := bnd hl5
                                        refine s_val (wk0 rfl) rfl rfl hE hp (v := (.int .i64 x31)) (ex_add rfl hE rfl rfl (inK_some ex31)) ?_
                                        intro a hE
                                        refine s_val (wk0 rfl) rfl rfl hE hp (v := (.int .i64 x31)) (ex_move rfl hE rfl) ?_
                                        intro a hE
                                        refine s_nil ?_
                                        exact ⟨_, (Option.some.inj hl5).symm, hE.cut ⟨rfl, rfl, rfl, rfl, rfl, rfl, trivial⟩, (hp.less hley1)⟩
                                  · replace hl5 := (ie hc26).symm.trans hl5
                                    refine k_exit ?_
                                    refine ⟨_, (Option.some.inj hl5).symm, fun hbb => ?_⟩
                                    exact ⟨_, hbb.symm, hE.cut ⟨rfl, rfl, rfl, trivial⟩, hp⟩
                              · rintro a w ⟨b18s, rfl, hE, hp⟩
                                dsimp only at hm
                                refine k_seq ?_
                                refine k_region ?_
                                refine s_val (wk0 rfl) rfl rfl hE hp (v := vp2) (ex_move rfl hE rfl) ?_
                                intro a hE
                                obtain ⟨x32, ex32, hm⟩ := bnd hm
                                refine s_call (wk0 rfl) rfl rfl hE rfl [vp2] ⟨rfl, trivial⟩ ent15 (c_cnf_Normal (Tabs.mono (Tabs.mono (Tabs.mono hT hle1) hle2) (PH.le_un _ k1)) p2 vp2 (RoSl.mono (RoSl.mono (RoSl.mono hp2 hle1) hle2) (PH.le_un _ k1)) hp x32 ex32) Ret.ret ?_
                                intro v a w hR hE
                                obtain ⟨vr18, rfl, hp⟩ := Ret.of hR
                                have hp : Hp Z (ρ2.un k1) (OwnSl 3 vr18 x32.1 :: _ :: _ :: _ :: L) w := hp
                                refine s_val (wk0 rfl) rfl rfl hE hp (v := (.tuple #[vr18, (.bool x32.2)])) (ex_move rfl hE rfl) ?_
                                intro a hE
                                refine s_val (wk0 rfl) rfl rfl hE hp (v := vr18) (ex_extract rfl hE rfl rfl) ?_
                                intro a hE
                                refine s_val (wk0 rfl) rfl rfl hE hp (v := (.bool x32.2)) (ex_extract rfl hE rfl rfl) ?_
                                intro a hE
                                refine s_val (wk0 rfl) rfl rfl hE hp (v := vr18) (ex_asn rfl hE rfl) ?_
                                intro a hE
                                refine s_val (wk0 rfl) rfl rfl hE hp (v := (.bool x32.2)) (ex_asn rfl hE rfl) ?_
                                intro a hE
                                refine s_nil ?_
                                refine k_seq ?_
                                refine k_seq ?_
                                refine k_region ?_
                                refine s_val (wk0 rfl) rfl rfl hE hp (v := (.bool x32.2)) (ex_move rfl hE rfl) ?_
                                intro a hE
                                refine s_val (wk0 rfl) rfl rfl hE hp (v := (.bool (!x32.2))) (ex_not rfl hE rfl) ?_
                                intro a hE
                                refine s_val (wk0 rfl) rfl rfl hE hp (v := (.bool (!x32.2))) (ex_move rfl hE rfl) ?_
                                intro a hE
                                obtain ⟨m6, hg6, hm⟩ := bnd hm
                                refine s_cut [_, _, _, _, _, _] (fun a w => Env 202 [(196, (.bool m6)), (1, vp1), (3, (.pointer (some ⟨b1, 0, none⟩))), (22, vr18)] a ∧ Hp Z (ρ2.un k1) (OwnSl 3 vr18 x32.1 :: Pt b6 (.cells #[(.int .i64 p0.vars), w6] 24 (0, 0)) :: OwnSl 3 vr9 x7.1 :: Pt b1 (.cells #[(.int .i64 p0.vars), vp0_clauses] 24 (0, 0)) :: L) w) ?_ ?_
                                · rcases Bool.eq_false_or_eq_true (!x32.2) with hc28 | hc28
                                  ·
                                    replace hg6 := (it hc28).symm.trans hg6
                                    refine s_skip (wk2 hE rfl rfl rfl hc28) rfl rfl hE ?_
                                    intro a hE
                                    refine s_skip (wk2 hE rfl rfl rfl hc28) rfl rfl hE ?_
                                    intro a hE
                                    refine s_skip (wk2 hE rfl rfl rfl hc28) rfl rfl hE ?_
                                    intro a hE
                                    refine s_skip (wk2 hE rfl rfl rfl hc28) rfl rfl hE ?_
                                    intro a hE
                                    refine s_skip (wk2 hE rfl rfl rfl hc28) rfl rfl hE ?_
                                    intro a hE
                                    refine s_val (wk0 rfl) rfl rfl hE hp (v := (.bool true)) (ex_pick1 rfl hE rfl hc28 rfl) ?_
                                    intro a hE
                                    obtain rfl := Option.some.inj hg6
                                    exact s_nil ⟨hE.cut ⟨rfl, rfl, rfl, rfl, trivial⟩, hp⟩
                                  ·
                                    replace hg6 := (ie hc28).symm.trans hg6
                                    refine s_val (wk1 hE rfl rfl rfl hc28) rfl rfl hE hp (v := vr18) (ex_move rfl hE rfl) ?_
                                    intro a hE
                                    refine s_val (wk1 hE rfl rfl rfl hc28) rfl rfl hE hp (v := (.pointer (some ⟨b1, 0, none⟩))) (ex_field rfl hE rfl (fldty24_0 _ _)) ?_
                                    intro a hE
                                    refine s_val (wk1 hE rfl rfl rfl hc28) rfl rfl hE hp (v := (.int .i64 p0.vars)) (ex_load rfl hE rfl (fun w hw => run_ld1 varty3 (Hp.c 3 rfl 0 rfl w hw))) ?_
                                    intro a hE
                                    obtain ⟨k5, k5a, k5d, k5h⟩ := (hp.get 0 rfl).lend
                                    obtain ⟨x33, ex33, hg6⟩ := bnd hg6
                                    refine s_call (wk1 hE rfl rfl rfl hc28) rfl rfl hE rfl [vr18, (.int .i64 p0.vars)] ⟨rfl, rfl, trivial⟩ ent16 (c_assessorref26_IsClause (Tabs.mono (Tabs.mono (Tabs.mono (Tabs.mono hT hle1) hle2) (PH.le_un _ k1)) (PH.le_un _ k5)) x32.1 vr18 (OwnSl.ro k5d k5a) p0.vars k5h x33 ex33) Ret.ret ?_
                                    intro v a w hR hE
                                    obtain ⟨rfl, hp⟩ := Ret.of hR
                                    have hp := Hp.back k5a k5d hp
                                    have hp : Hp Z (ρ2.un k1) (_ :: _ :: _ :: _ :: L) w := hp
                                    refine s_val (wk1 hE rfl rfl rfl hc28) rfl rfl hE hp (v := (.bool (!x33))) (ex_not rfl hE rfl) ?_
                                    intro a hE
                                    refine s_val (wk0 rfl) rfl rfl hE hp (v := (.bool (!x33))) (ex_pick0 rfl hE rfl hc28 rfl) ?_
                                    intro a hE
                                    obtain rfl := Option.some.inj hg6
                                    exact s_nil ⟨hE.cut ⟨rfl, rfl, rfl, rfl, trivial⟩, hp⟩
                                · rintro a w ⟨hE, hp⟩
                                  refine s_nil ?_
                                  refine k_if hE rfl (fun hc29 => ?_) (fun hc29 => ?_)
                                  · replace hm := (it hc29).symm.trans hm
                                    refine k_seq ?_
                                    refine k_region ?_
                                    refine s_val (wk0 rfl) rfl rfl hE hp (v := (.bool true)) (ex_asn rfl hE rfl) ?_
                                    intro a hE
                                    refine s_nil ?_
                                    refine k_ret ?_
                                    obtain rfl := Option.some.inj hm
                                    exact ret1 hE rfl rfl ⟨_, rfl, rfl, ((((((((((hp.get 3 rfl).drop).get 2 rfl).drop).get 1 rfl).drop).drop).less (PH.le_un _ k1)).less hle2).less hle1)⟩
                                  · replace hm := (ie hc29).symm.trans hm
                                    refine k_skip ?_
                                    refine k_seq ?_
                                    refine k_region ?_
                                    refine s_val (wk0 rfl) rfl rfl hE hp (v := (.agg #[(.int .i64 p0.vars), vp0_clauses])) (ex_load rfl hE rfl (fun w hw => run_ldN (cs := [(.int .i64 p0.vars), vp0_clauses]) varty24 (Hp.cN 3 rfl 0 _ (sub_all rfl) w hw))) ?_
                                    intro a hE
                                    refine s_val (wk0 rfl) rfl rfl hE hp (v := vr18) (ex_move rfl hE rfl) ?_
                                    intro a hE
                                    obtain ⟨k6, k6a, k6d, hp⟩ := (hp.get 0 rfl).lend
                                    have f5 : RoSl ((ρ2.un k1).un k6) vr18 x32.1 := OwnSl.ro k6d k6a
                                    have hp : Hp Z ((ρ2.un k1).un k6) (_ :: _ :: _ :: L) w := hp
                                    obtain ⟨x34, ex34, hm⟩ := bnd hm
                                    refine s_call (wk0 rfl) rfl rfl hE rfl [(.agg #[(.int .i64 p0.vars), vp0_clauses]), vr18] ⟨rfl, rfl, trivial⟩ ent17 (c_assessorref27_With (Tabs.mono (Tabs.mono (Tabs.mono (Tabs.mono hT hle1) hle2) (PH.le_un _ k1)) (PH.le_un _ k6)) p0 vp0_clauses (RoSl.mono (RoSl.mono (RoSl.mono (RoSl.mono hp0_clauses hle1) hle2) (PH.le_un _ k1)) (PH.le_un _ k6)) x32.1 vr18 f5 hp x34 ex34) Ret.ret ?_
                                    intro v a w hR hE
                                    obtain ⟨ρ3, vr21_clauses, hle3, rfl, hr21_clauses, hp⟩ := Ret.of hR
                                    have hp : Hp Z ρ3 (_ :: _ :: _ :: L) w := hp
                                    refine s_val (wk0 rfl) rfl rfl hE hp (v := vp1) (ex_move rfl hE rfl) ?_
                                    intro a hE
                                    obtain ⟨x35, ex35, hm⟩ := bnd hm
                                    refine s_call (wk0 rfl) rfl rfl hE rfl [(.agg #[(.int .i64 x34.vars), vr21_clauses]), vp1] ⟨rfl, rfl, trivial⟩ ent8 (c_proof_Check (Tabs.mono (Tabs.mono (Tabs.mono (Tabs.mono (Tabs.mono hT hle1) hle2) (PH.le_un _ k1)) (PH.le_un _ k6)) hle3) x34 vr21_clauses hr21_clauses p1 vp1 (RoSl.mono (RoSl.mono (RoSl.mono (RoSl.mono (RoSl.mono hp1 hle1) hle2) (PH.le_un _ k1)) (PH.le_un _ k6)) hle3) hp x35 ex35) Ret.ret ?_
                                    intro v a w hR hE
                                    obtain ⟨rfl, hp⟩ := Ret.of hR
                                    have hp : Hp Z ρ3 (_ :: _ :: _ :: L) w := hp
                                    refine s_val (wk0 rfl) rfl rfl hE hp (v := (.bool x35)) (ex_asn rfl hE rfl) ?_
                                    intro a hE
                                    refine s_nil ?_
                                    refine k_ret ?_
                                    obtain rfl := Option.some.inj hm
                                    exact ret1 hE rfl rfl ⟨_, rfl, rfl, ((((((((((hp.get 2 rfl).drop).get 1 rfl).drop).drop).less hle3).less (PH.le_un _ k6)).less (PH.le_un _ k1)).less hle2).less hle1)⟩
end Go.Proofs.YtfajmelamonolaaGreatDoor

/- The code goes as its model: assessor/assessorlaw26.CnfCircuits. (Printed by wip/sp/gen.py.) -/
import Derived.Test.YtelioaepnpnojaaGreatDoorKCi4
import Derived.Test.YtelioaepnpnojaaGreatDoorKCi12
import Derived.Test.YtelioaepnpnojaaGreatDoorKCi3
import Derived.Test.YtelioaepnpnojaaGreatDoorKCi2
set_option linter.unusedVariables false
set_option linter.unusedSimpArgs false
namespace Go.Proofs.YtelioaepnpnojaaGreatDoor
open Go.RowKit
set_option maxRecDepth 100000 in
set_option maxHeartbeats 4000000 in
theorem c_assessorlaw26_CnfCircuits {Z : World} {ρ : PH} {L : List Atom} {w : World} (hT : Tabs ρ) (p0 : Gates) (vp0_gates : Value) (hp0_gates : RoSl ρ vp0_gates p0.gates) (p1 : (List Int)) (vp1 : Value) (hp1 : RoSl ρ vp1 p1) (p2 : (List Bool)) (vp2 : Value) (hp2 : RoSl ρ vp2 p2) (hp : Hp Z ρ (L) w) (r : Bool) (hm : m_assessorlaw26_CnfCircuits p0 p1 p2 = some r) :
    Calls Tryz.prog 9 #[(.agg #[(.int .i64 p0.inputs), vp0_gates]), vp1, vp2] w (Ret fun v w' => v = (.bool r) ∧ Hp Z ρ (L) w') := by
  refine enter (N := 165) Tryz.func9 rfl rfl [(0, (.agg #[(.int .i64 p0.inputs), vp0_gates])), (1, vp1), (2, vp2)] rfl (argsIn_mem ⟨rfl, rfl, rfl, trivial⟩) fun a hE => ?_
  unfold m_assessorlaw26_CnfCircuits at hm
  refine k_seq ?_
  refine k_region ?_
  refine s_box (wk0 rfl) rfl rfl hE hp rfl (v := (.agg #[(.int .i64 p0.inputs), vp0_gates])) rfl ?_
  intro a w b1 hE hp
  have hp : Hp Z ρ (Pt b1 (.cells #[(.int .i64 p0.inputs), vp0_gates] 38 (0, 0)) :: L) w := hp
  refine s_val (wk0 rfl) rfl rfl hE hp (v := (.bool false)) (ex_asn rfl hE rfl) ?_
  intro a hE
  refine s_nil ?_
  refine k_seq ?_
  refine k_seq ?_
  refine k_region ?_
  obtain ⟨x1, ex1, hm⟩ := bnd hm
  refine s_call (wk0 rfl) rfl rfl hE rfl [] trivial ent10 (c_assessorlaw26_awake hT hp x1 ex1) Ret.ret ?_
  intro v a w hR hE
  obtain ⟨rfl, hp⟩ := Ret.of hR
  have hp : Hp Z ρ (_ :: L) w := hp
  refine s_val (wk0 rfl) rfl rfl hE hp (v := (.bool (!x1))) (ex_not rfl hE rfl) ?_
  intro a hE
  refine s_nil ?_
  refine k_if hE rfl (fun hc1 => ?_) (fun hc1 => ?_)
  · replace hm := (it hc1).symm.trans hm
    refine k_seq ?_
    refine k_region ?_
    refine s_val (wk0 rfl) rfl rfl hE hp (v := (.bool false)) (ex_asn rfl hE rfl) ?_
    intro a hE
    refine s_nil ?_
    refine k_ret ?_
    obtain rfl := Option.some.inj hm
    exact ret1 hE rfl rfl ⟨_, rfl, rfl, (hp.drop)⟩
  · replace hm := (ie hc1).symm.trans hm
    refine k_skip ?_
    refine k_seq ?_
    refine k_seq ?_
    refine k_region ?_
    refine s_val (wk0 rfl) rfl rfl hE hp (v := (.pointer (some ⟨b1, 1, none⟩))) (ex_field rfl hE rfl (fldty38_1 _ _)) ?_
    intro a hE
    refine s_val (wk0 rfl) rfl rfl hE hp (v := vp0_gates) (ex_load rfl hE rfl (fun w hw => run_ld1 varty36 (Hp.c 0 rfl 1 rfl w hw))) ?_
    intro a hE
    refine s_val (wk0 rfl) rfl rfl hE hp (v := (.int .i64 (p0.gates.length : Int))) (ex_len rfl hE rfl (RoSl.len hp0_gates slty36)) ?_
    intro a hE
    refine s_val (wk0 rfl) rfl rfl hE hp (v := (.bool (decide (40 < (p0.gates.length : Int))))) (ex_gtr rfl hE rfl rfl) ?_
    intro a hE
    refine s_val (wk0 rfl) rfl rfl hE hp (v := (.bool (decide (40 < (p0.gates.length : Int))))) (ex_move rfl hE rfl) ?_
    intro a hE
    refine s_cut [_, _, _, _] (fun a w => Env 165 [(35, (.bool ((decide (40 < (p0.gates.length : Int))) || (decide (40 < (p1.length : Int)))))), (1, vp1), (2, vp2), (3, (.pointer (some ⟨b1, 0, none⟩)))] a ∧ Hp Z ρ (Pt b1 (.cells #[(.int .i64 p0.inputs), vp0_gates] 38 (0, 0)) :: L) w) ?_ ?_
    · rcases Bool.eq_false_or_eq_true (decide (40 < (p0.gates.length : Int))) with hc2 | hc2
      ·
        refine s_skip (wk2 hE rfl rfl rfl hc2) rfl rfl hE ?_
        intro a hE
        refine s_skip (wk2 hE rfl rfl rfl hc2) rfl rfl hE ?_
        intro a hE
        refine s_skip (wk2 hE rfl rfl rfl hc2) rfl rfl hE ?_
        intro a hE
        refine s_val (wk0 rfl) rfl rfl hE hp (v := (.bool true)) (ex_pick1 rfl hE rfl hc2 rfl) ?_
        intro a hE
        have hE := hE.eqv (v' := (.bool ((decide (40 < (p0.gates.length : Int))) || (decide (40 < (p1.length : Int)))))) (by rw [hc2]; rfl)
        exact s_nil ⟨hE.cut ⟨rfl, rfl, rfl, rfl, trivial⟩, hp⟩
      ·
        refine s_val (wk1 hE rfl rfl rfl hc2) rfl rfl hE hp (v := vp1) (ex_move rfl hE rfl) ?_
        intro a hE
        refine s_val (wk1 hE rfl rfl rfl hc2) rfl rfl hE hp (v := (.int .i64 (p1.length : Int))) (ex_len rfl hE rfl (RoSl.len hp1 slty25)) ?_
        intro a hE
        refine s_val (wk1 hE rfl rfl rfl hc2) rfl rfl hE hp (v := (.bool (decide (40 < (p1.length : Int))))) (ex_gtr rfl hE rfl rfl) ?_
        intro a hE
        refine s_val (wk0 rfl) rfl rfl hE hp (v := (.bool (decide (40 < (p1.length : Int))))) (ex_pick0 rfl hE rfl hc2 rfl) ?_
        intro a hE
        have hE := hE.eqv (v' := (.bool ((decide (40 < (p0.gates.length : Int))) || (decide (40 < (p1.length : Int)))))) (by rw [hc2]; rfl)
        exact s_nil ⟨hE.cut ⟨rfl, rfl, rfl, rfl, trivial⟩, hp⟩
    · rintro a w ⟨hE, hp⟩
      refine s_val (wk0 rfl) rfl rfl hE hp (v := (.bool ((decide (40 < (p0.gates.length : Int))) || (decide (40 < (p1.length : Int)))))) (ex_move rfl hE rfl) ?_
      intro a hE
      refine s_cut [_, _, _, _] (fun a w => Env 165 [(40, (.bool (((decide (40 < (p0.gates.length : Int))) || (decide (40 < (p1.length : Int)))) || (decide (10 < p0.inputs))))), (1, vp1), (2, vp2), (3, (.pointer (some ⟨b1, 0, none⟩)))] a ∧ Hp Z ρ (Pt b1 (.cells #[(.int .i64 p0.inputs), vp0_gates] 38 (0, 0)) :: L) w) ?_ ?_
      · rcases Bool.eq_false_or_eq_true ((decide (40 < (p0.gates.length : Int))) || (decide (40 < (p1.length : Int)))) with hc3 | hc3
        ·
          refine s_skip (wk2 hE rfl rfl rfl hc3) rfl rfl hE ?_
          intro a hE
          refine s_skip (wk2 hE rfl rfl rfl hc3) rfl rfl hE ?_
          intro a hE
          refine s_skip (wk2 hE rfl rfl rfl hc3) rfl rfl hE ?_
          intro a hE
          refine s_val (wk0 rfl) rfl rfl hE hp (v := (.bool true)) (ex_pick1 rfl hE rfl hc3 rfl) ?_
          intro a hE
          have hE := hE.eqv (v' := (.bool (((decide (40 < (p0.gates.length : Int))) || (decide (40 < (p1.length : Int)))) || (decide (10 < p0.inputs))))) (by rw [hc3]; rfl)
          exact s_nil ⟨hE.cut ⟨rfl, rfl, rfl, rfl, trivial⟩, hp⟩
        ·
          refine s_val (wk1 hE rfl rfl rfl hc3) rfl rfl hE hp (v := (.pointer (some ⟨b1, 0, none⟩))) (ex_field rfl hE rfl (fldty38_0 _ _)) ?_
          intro a hE
          refine s_val (wk1 hE rfl rfl rfl hc3) rfl rfl hE hp (v := (.int .i64 p0.inputs)) (ex_load rfl hE rfl (fun w hw => run_ld1 varty3 (Hp.c 0 rfl 0 rfl w hw))) ?_
          intro a hE
          refine s_val (wk1 hE rfl rfl rfl hc3) rfl rfl hE hp (v := (.bool (decide (10 < p0.inputs)))) (ex_gtr rfl hE rfl rfl) ?_
          intro a hE
          refine s_val (wk0 rfl) rfl rfl hE hp (v := (.bool (decide (10 < p0.inputs)))) (ex_pick0 rfl hE rfl hc3 rfl) ?_
          intro a hE
          have hE := hE.eqv (v' := (.bool (((decide (40 < (p0.gates.length : Int))) || (decide (40 < (p1.length : Int)))) || (decide (10 < p0.inputs))))) (by rw [hc3]; rfl)
          exact s_nil ⟨hE.cut ⟨rfl, rfl, rfl, rfl, trivial⟩, hp⟩
      · rintro a w ⟨hE, hp⟩
        refine s_val (wk0 rfl) rfl rfl hE hp (v := (.bool (((decide (40 < (p0.gates.length : Int))) || (decide (40 < (p1.length : Int)))) || (decide (10 < p0.inputs))))) (ex_move rfl hE rfl) ?_
        intro a hE
        refine s_cut [_, _, _, _, _, _] (fun a w => Env 165 [(47, (.bool ((((decide (40 < (p0.gates.length : Int))) || (decide (40 < (p1.length : Int)))) || (decide (10 < p0.inputs))) || (!decide ((p2.length : Int) = p0.inputs))))), (1, vp1), (2, vp2), (3, (.pointer (some ⟨b1, 0, none⟩)))] a ∧ Hp Z ρ (Pt b1 (.cells #[(.int .i64 p0.inputs), vp0_gates] 38 (0, 0)) :: L) w) ?_ ?_
        · rcases Bool.eq_false_or_eq_true (((decide (40 < (p0.gates.length : Int))) || (decide (40 < (p1.length : Int)))) || (decide (10 < p0.inputs))) with hc4 | hc4
          ·
            refine s_skip (wk2 hE rfl rfl rfl hc4) rfl rfl hE ?_
            intro a hE
            refine s_skip (wk2 hE rfl rfl rfl hc4) rfl rfl hE ?_
            intro a hE
            refine s_skip (wk2 hE rfl rfl rfl hc4) rfl rfl hE ?_
            intro a hE
            refine s_skip (wk2 hE rfl rfl rfl hc4) rfl rfl hE ?_
            intro a hE
            refine s_skip (wk2 hE rfl rfl rfl hc4) rfl rfl hE ?_
            intro a hE
            refine s_val (wk0 rfl) rfl rfl hE hp (v := (.bool true)) (ex_pick1 rfl hE rfl hc4 rfl) ?_
            intro a hE
            have hE := hE.eqv (v' := (.bool ((((decide (40 < (p0.gates.length : Int))) || (decide (40 < (p1.length : Int)))) || (decide (10 < p0.inputs))) || (!decide ((p2.length : Int) = p0.inputs))))) (by rw [hc4]; rfl)
            exact s_nil ⟨hE.cut ⟨rfl, rfl, rfl, rfl, trivial⟩, hp⟩
          ·
            refine s_val (wk1 hE rfl rfl rfl hc4) rfl rfl hE hp (v := vp2) (ex_move rfl hE rfl) ?_
            intro a hE
            refine s_val (wk1 hE rfl rfl rfl hc4) rfl rfl hE hp (v := (.int .i64 (p2.length : Int))) (ex_len rfl hE rfl (RoSl.len hp2 slty56)) ?_
            intro a hE
            refine s_val (wk1 hE rfl rfl rfl hc4) rfl rfl hE hp (v := (.pointer (some ⟨b1, 0, none⟩))) (ex_field rfl hE rfl (fldty38_0 _ _)) ?_
            intro a hE
            refine s_val (wk1 hE rfl rfl rfl hc4) rfl rfl hE hp (v := (.int .i64 p0.inputs)) (ex_load rfl hE rfl (fun w hw => run_ld1 varty3 (Hp.c 0 rfl 0 rfl w hw))) ?_
            intro a hE
            refine s_val (wk1 hE rfl rfl rfl hc4) rfl rfl hE hp (v := (.bool (!decide ((p2.length : Int) = p0.inputs)))) (ex_neq rfl hE rfl rfl) ?_
            intro a hE
            refine s_val (wk0 rfl) rfl rfl hE hp (v := (.bool (!decide ((p2.length : Int) = p0.inputs)))) (ex_pick0 rfl hE rfl hc4 rfl) ?_
            intro a hE
            have hE := hE.eqv (v' := (.bool ((((decide (40 < (p0.gates.length : Int))) || (decide (40 < (p1.length : Int)))) || (decide (10 < p0.inputs))) || (!decide ((p2.length : Int) = p0.inputs))))) (by rw [hc4]; rfl)
            exact s_nil ⟨hE.cut ⟨rfl, rfl, rfl, rfl, trivial⟩, hp⟩
        · rintro a w ⟨hE, hp⟩
          refine s_nil ?_
          refine k_if hE rfl (fun hc5 => ?_) (fun hc5 => ?_)
          · replace hm := (it hc5).symm.trans hm
            refine k_seq ?_
            refine k_region ?_
            refine s_val (wk0 rfl) rfl rfl hE hp (v := (.bool true)) (ex_asn rfl hE rfl) ?_
            intro a hE
            refine s_nil ?_
            refine k_ret ?_
            obtain rfl := Option.some.inj hm
            exact ret1 hE rfl rfl ⟨_, rfl, rfl, (hp.drop)⟩
          · replace hm := (ie hc5).symm.trans hm
            refine k_skip ?_
            refine k_seq ?_
            refine k_region ?_
            refine s_val (wk0 rfl) rfl rfl hE hp (v := (.agg #[(.int .i64 p0.inputs), vp0_gates])) (ex_load rfl hE rfl (fun w hw => run_ldN (cs := [(.int .i64 p0.inputs), vp0_gates]) varty38 (Hp.cN 0 rfl 0 _ (sub_all rfl) w hw))) ?_
            intro a hE
            refine s_val (wk0 rfl) rfl rfl hE hp (v := vp1) (ex_move rfl hE rfl) ?_
            intro a hE
            obtain ⟨x2, ex2, hm⟩ := bnd hm
            refine s_call (wk0 rfl) rfl rfl hE rfl [(.agg #[(.int .i64 p0.inputs), vp0_gates]), vp1] ⟨rfl, rfl, trivial⟩ ent21 (c_cnf_Translate hT p0 vp0_gates hp0_gates p1 vp1 hp1 hp x2 ex2) Ret.ret ?_
            intro v a w hR hE
            obtain ⟨vr2_clauses, usr2_clauses, rfl, hp⟩ := Ret.of hR
            have hp : Hp Z ρ (TblA 25 3 vr2_clauses usr2_clauses (x2.1.clauses : (List (List Int))) :: _ :: L) w := hp
            refine s_val (wk0 rfl) rfl rfl hE hp (v := (.tuple #[(.agg #[(.int .i64 x2.1.vars), vr2_clauses]), (.int .i64 x2.2)])) (ex_move rfl hE rfl) ?_
            intro a hE
            refine s_val (wk0 rfl) rfl rfl hE hp (v := (.agg #[(.int .i64 x2.1.vars), vr2_clauses])) (ex_extract rfl hE rfl rfl) ?_
            intro a hE
            refine s_val (wk0 rfl) rfl rfl hE hp (v := (.int .i64 x2.2)) (ex_extract rfl hE rfl rfl) ?_
            intro a hE
            refine s_new (wk0 rfl) rfl rfl hE hp rfl [(.int .i64 0), (.slice none 0 0)] (fun w => by simp [Instr.alloc, go_sem] <;> rfl) ?_
            intro a w b2 hE hp
            have hp : Hp Z ρ (Pt b2 (.cells #[(.int .i64 0), (.slice none 0 0)] 24 (0, 0)) :: _ :: _ :: L) w := hp
            refine s_store (wk0 rfl) rfl hE hp rfl rfl rfl 0 rfl varty24.size_ rfl (allOne_mem ⟨rfl, (TblA.one hp 1 rfl), trivial⟩) [(.int .i64 x2.1.vars), vr2_clauses] rfl ?_
            intro w hp
            have hp : Hp Z ρ (Pt b2 (.cells #[(.int .i64 x2.1.vars), vr2_clauses] 24 (0, 0)) :: _ :: _ :: L) w := hp
            refine s_val (wk0 rfl) rfl rfl hE hp (v := (.int .i64 x2.2)) (ex_asn rfl hE rfl) ?_
            intro a hE
            refine s_nil ?_
            refine k_seq ?_
            refine k_region ?_
            refine s_val (wk0 rfl) rfl rfl hE hp (v := (.agg #[(.int .i64 p0.inputs), vp0_gates])) (ex_load rfl hE rfl (fun w hw => run_ldN (cs := [(.int .i64 p0.inputs), vp0_gates]) varty38 (Hp.cN 2 rfl 0 _ (sub_all rfl) w hw))) ?_
            intro a hE
            refine s_val (wk0 rfl) rfl rfl hE hp (v := vp2) (ex_move rfl hE rfl) ?_
            intro a hE
            refine s_val (wk0 rfl) rfl rfl hE hp (v := vp1) (ex_move rfl hE rfl) ?_
            intro a hE
            obtain ⟨x3, ex3, hm⟩ := bnd hm
            refine s_call (wk0 rfl) rfl rfl hE rfl [(.agg #[(.int .i64 p0.inputs), vp0_gates]), vp2, vp1] ⟨rfl, rfl, rfl, trivial⟩ ent37 (c_gates_Eval hT p0 vp0_gates hp0_gates p2 vp2 hp2 p1 vp1 hp1 hp x3 ex3) Ret.ret ?_
            intro v a w hR hE
            obtain ⟨vr4, rfl, hp⟩ := Ret.of hR
            have hp : Hp Z ρ (OwnSl 4 vr4 x3.1 :: _ :: _ :: _ :: L) w := hp
            refine s_val (wk0 rfl) rfl rfl hE hp (v := (.tuple #[vr4, (.int .i64 x3.2)])) (ex_move rfl hE rfl) ?_
            intro a hE
            refine s_val (wk0 rfl) rfl rfl hE hp (v := vr4) (ex_extract rfl hE rfl rfl) ?_
            intro a hE
            refine s_val (wk0 rfl) rfl rfl hE hp (v := (.int .i64 x3.2)) (ex_extract rfl hE rfl rfl) ?_
            intro a hE
            refine s_val (wk0 rfl) rfl rfl hE hp (v := vr4) (ex_asn rfl hE rfl) ?_
            intro a hE
            refine s_val (wk0 rfl) rfl rfl hE hp (v := (.int .i64 x3.2)) (ex_asn rfl hE rfl) ?_
            intro a hE
            refine s_nil ?_
            refine k_seq ?_
            refine k_seq ?_
            refine k_region ?_
            refine s_val (wk0 rfl) rfl rfl hE hp (v := (.int .i64 x2.2)) (ex_move rfl hE rfl) ?_
            intro a hE
            refine s_val (wk0 rfl) rfl rfl hE hp (v := (.bool (!decide (x2.2 = 0)))) (ex_neq rfl hE rfl rfl) ?_
            intro a hE
            refine s_val (wk0 rfl) rfl rfl hE hp (v := (.bool (!decide (x2.2 = 0)))) (ex_move rfl hE rfl) ?_
            intro a hE
            refine s_cut [_, _, _] (fun a w => Env 165 [(66, (.bool ((!decide (x2.2 = 0)) || (!decide (x3.2 = 0))))), (2, vp2), (3, (.pointer (some ⟨b1, 0, none⟩))), (7, (.pointer (some ⟨b2, 0, none⟩))), (8, (.int .i64 x2.2)), (9, vr4), (10, (.int .i64 x3.2))] a ∧ Hp Z ρ (OwnSl 4 vr4 x3.1 :: Pt b2 (.cells #[(.int .i64 x2.1.vars), vr2_clauses] 24 (0, 0)) :: TblA 25 3 vr2_clauses usr2_clauses (x2.1.clauses : (List (List Int))) :: Pt b1 (.cells #[(.int .i64 p0.inputs), vp0_gates] 38 (0, 0)) :: L) w) ?_ ?_
            · rcases Bool.eq_false_or_eq_true (!decide (x2.2 = 0)) with hc6 | hc6
              ·
                refine s_skip (wk2 hE rfl rfl rfl hc6) rfl rfl hE ?_
                intro a hE
                refine s_skip (wk2 hE rfl rfl rfl hc6) rfl rfl hE ?_
                intro a hE
                refine s_val (wk0 rfl) rfl rfl hE hp (v := (.bool true)) (ex_pick1 rfl hE rfl hc6 rfl) ?_
                intro a hE
                have hE := hE.eqv (v' := (.bool ((!decide (x2.2 = 0)) || (!decide (x3.2 = 0))))) (by rw [hc6]; rfl)
                exact s_nil ⟨hE.cut ⟨rfl, rfl, rfl, rfl, rfl, rfl, rfl, trivial⟩, hp⟩
              ·
                refine s_val (wk1 hE rfl rfl rfl hc6) rfl rfl hE hp (v := (.int .i64 x3.2)) (ex_move rfl hE rfl) ?_
                intro a hE
                refine s_val (wk1 hE rfl rfl rfl hc6) rfl rfl hE hp (v := (.bool (!decide (x3.2 = 0)))) (ex_neq rfl hE rfl rfl) ?_
                intro a hE
                refine s_val (wk0 rfl) rfl rfl hE hp (v := (.bool (!decide (x3.2 = 0)))) (ex_pick0 rfl hE rfl hc6 rfl) ?_
                intro a hE
                have hE := hE.eqv (v' := (.bool ((!decide (x2.2 = 0)) || (!decide (x3.2 = 0))))) (by rw [hc6]; rfl)
                exact s_nil ⟨hE.cut ⟨rfl, rfl, rfl, rfl, rfl, rfl, rfl, trivial⟩, hp⟩
            · rintro a w ⟨hE, hp⟩
              refine s_nil ?_
              refine k_if hE rfl (fun hc7 => ?_) (fun hc7 => ?_)
              · replace hm := (it hc7).symm.trans hm
                refine k_seq ?_
                refine k_region ?_
                refine s_val (wk0 rfl) rfl rfl hE hp (v := (.int .i64 x2.2)) (ex_move rfl hE rfl) ?_
                intro a hE
                refine s_val (wk0 rfl) rfl rfl hE hp (v := (.int .i64 x3.2)) (ex_move rfl hE rfl) ?_
                intro a hE
                refine s_val (wk0 rfl) rfl rfl hE hp (v := (.bool (decide (x2.2 = x3.2)))) (ex_eql rfl hE rfl rfl) ?_
                intro a hE
                refine s_val (wk0 rfl) rfl rfl hE hp (v := (.bool (decide (x2.2 = x3.2)))) (ex_asn rfl hE rfl) ?_
                intro a hE
                refine s_nil ?_
                refine k_ret ?_
                obtain rfl := Option.some.inj hm
                exact ret1 hE rfl rfl ⟨_, rfl, rfl, (((((((hp.get 3 rfl).drop).get 2 rfl).drop).get 1 rfl).drop).drop)⟩
              · replace hm := (ie hc7).symm.trans hm
                refine k_skip ?_
                refine k_seq ?_
                refine k_region ?_
                refine s_val (wk0 rfl) rfl rfl hE hp (v := (.slice none 0 0)) (ex_asn rfl hE rfl) ?_
                intro a hE
                refine s_val (wk0 rfl) rfl rfl hE hp (v := (.slice none 0 0)) (ex_asn rfl hE rfl) ?_
                intro a hE
                refine s_val (wk0 rfl) rfl rfl hE hp (v := (.slice none 0 0)) (ex_asn rfl hE rfl) ?_
                intro a hE
                refine s_nil ?_
                refine k_seq ?_
                refine k_seq ?_
                refine k_region ?_
                refine s_val (wk0 rfl) rfl rfl hE hp (v := vp2) (ex_move rfl hE rfl) ?_
                intro a hE
                refine s_val (wk0 rfl) rfl rfl hE hp (v := (.int .i64 (p2.length : Int))) (ex_len rfl hE rfl (RoSl.len hp2 slty56)) ?_
                intro a hE
                refine s_val (wk0 rfl) rfl rfl hE hp (v := (.int .i64 0)) (ex_move rfl hE rfl) ?_
                intro a hE
                refine s_nil ?_
                have hp := hp.emp (OwnSl.nil (α := Int) 3)
                have hp : Hp Z ρ (OwnSl 3 (.slice none 0 0) ([] : List Int) :: _ :: _ :: _ :: _ :: L) w := hp
                obtain ⟨b3, hc8, hm⟩ := bnd hm
                refine k_block (fun a w => ∃ (w7 : Value), Env 165 [(2, vp2), (3, (.pointer (some ⟨b1, 0, none⟩))), (7, (.pointer (some ⟨b2, 0, none⟩))), (9, vr4), (11, w7), (12, (.slice none 0 0)), (13, (.slice none 0 0))] a ∧ Hp Z ρ (OwnSl 3 w7 b3 :: OwnSl 4 vr4 x3.1 :: Pt b2 (.cells #[(.int .i64 x2.1.vars), vr2_clauses] 24 (0, 0)) :: TblA 25 3 vr2_clauses usr2_clauses (x2.1.clauses : (List (List Int))) :: Pt b1 (.cells #[(.int .i64 p0.inputs), vp0_gates] 38 (0, 0)) :: L) w) ?_ ?_
                · refine k_loop hc8 (fun s a w => ∃ (w7 : Value), Env 165 [(2, vp2), (3, (.pointer (some ⟨b1, 0, none⟩))), (7, (.pointer (some ⟨b2, 0, none⟩))), (9, vr4), (11, w7), (12, (.slice none 0 0)), (13, (.slice none 0 0)), (70, vp2), (71, (.int .i64 (p2.length : Int))), (72, (.int .i64 s.1))] a ∧ Hp Z ρ (OwnSl 3 w7 s.2 :: OwnSl 4 vr4 x3.1 :: Pt b2 (.cells #[(.int .i64 x2.1.vars), vr2_clauses] 24 (0, 0)) :: TblA 25 3 vr2_clauses usr2_clauses (x2.1.clauses : (List (List Int))) :: Pt b1 (.cells #[(.int .i64 p0.inputs), vp0_gates] 38 (0, 0)) :: L) w) ?_ ?_
                  · exact ⟨_, hE.cut ⟨rfl, rfl, rfl, rfl, rfl, rfl, rfl, rfl, rfl, rfl, trivial⟩, hp⟩
                  · rintro ⟨lp1_0, lp1_1⟩ st a w ⟨w7, hE, hp⟩ hl1
                    have hE : Env 165 [(2, vp2), (3, (.pointer (some ⟨b1, 0, none⟩))), (7, (.pointer (some ⟨b2, 0, none⟩))), (9, vr4), (11, w7), (12, (.slice none 0 0)), (13, (.slice none 0 0)), (70, vp2), (71, (.int .i64 (p2.length : Int))), (72, (.int .i64 lp1_0))] a := hE
                    have hp : Hp Z ρ (OwnSl 3 w7 lp1_1 :: _ :: _ :: _ :: _ :: L) w := hp
                    replace hl1 : m_assessorlaw26_CnfCircuits_lp1 p2 lp1_0 lp1_1 = some st := hl1
                    unfold m_assessorlaw26_CnfCircuits_lp1 at hl1
                    refine k_seq ?_
                    refine k_region ?_
                    refine s_val (wk0 rfl) rfl rfl hE hp (v := (.bool (decide (lp1_0 < (p2.length : Int))))) (ex_lss rfl hE rfl rfl) ?_
                    intro a hE
                    refine s_nil ?_
                    refine k_seq ?_
                    refine k_if hE rfl (fun hc9 => ?_) (fun hc9 => ?_)
                    · replace hl1 := (it hc9).symm.trans hl1
                      refine k_skip ?_
                      refine k_seq ?_
                      refine k_plain ?_
                      refine k_seq ?_
                      refine k_region ?_
                      refine s_val (wk0 rfl) rfl rfl hE hp (v := (.int .i64 lp1_0)) (ex_move rfl hE rfl) ?_
                      intro a hE
                      obtain ⟨x4, ex4, hl1⟩ := bnd hl1
                      obtain ⟨b4, b4o, b4c, b4r, b4k, b4f⟩ := RoSl.at hp2 slty56 ex4
                      obtain rfl : b4c = Enc.enc x4 := b4k
                      have b4f : AtP ρ b4 b4o [(.bool x4)] := b4f
                      refine s_val (wk0 rfl) rfl rfl hE hp (v := (.pointer (some ⟨b4, b4o, none⟩))) (ex_index rfl hE rfl rfl b4r) ?_
                      intro a hE
                      refine s_val (wk0 rfl) rfl rfl hE hp (v := (.bool x4)) (ex_load rfl hE rfl (fun w hw => run_ld1 varty4 (b4f.c 0 rfl w hw))) ?_
                      intro a hE
                      refine s_val (wk0 rfl) rfl rfl hE hp (v := (.int .i64 lp1_0)) (ex_asn rfl hE rfl) ?_
                      intro a hE
                      refine s_val (wk0 rfl) rfl rfl hE hp (v := (.bool x4)) (ex_asn rfl hE rfl) ?_
                      intro a hE
                      refine s_nil ?_
                      have hE := hE.cut (E' := [(2, vp2), (3, (.pointer (some ⟨b1, 0, none⟩))), (7, (.pointer (some ⟨b2, 0, none⟩))), (9, vr4), (11, w7), (12, (.slice none 0 0)), (13, (.slice none 0 0)), (14, (.int .i64 lp1_0)), (15, (.bool x4)), (70, vp2), (71, (.int .i64 (p2.length : Int))), (72, (.int .i64 lp1_0))]) ⟨rfl, rfl, rfl, rfl, rfl, rfl, rfl, rfl, rfl, rfl, rfl, rfl, trivial⟩
                      refine k_seq ?_
                      refine k_region ?_
                      refine s_val (wk0 rfl) rfl rfl hE hp (v := (.int .i64 lp1_0)) (ex_move rfl hE rfl) ?_
                      intro a hE
                      obtain ⟨x5, ex5, hl1⟩ := bnd hl1
                      refine s_val (wk0 rfl) rfl rfl hE hp (v := (.int .i64 x5)) (ex_add rfl hE rfl rfl (inK_some ex5)) ?_
                      intro a hE
                      obtain ⟨x6, ex6, hl1⟩ := bnd hl1
                      refine s_val (wk0 rfl) rfl rfl hE hp (v := (.int .i64 x6)) (ex_mul rfl hE rfl rfl (inK_some ex6)) ?_
                      intro a hE
                      refine s_val (wk0 rfl) rfl rfl hE hp (v := (.int .i64 x6)) (ex_asn rfl hE rfl) ?_
                      intro a hE
                      refine s_nil ?_
                      refine k_seq ?_
                      refine k_seq ?_
                      refine k_region ?_
                      refine s_val (wk0 rfl) rfl rfl hE hp (v := (.bool x4)) (ex_move rfl hE rfl) ?_
                      intro a hE
                      refine s_val (wk0 rfl) rfl rfl hE hp (v := (.bool (!x4))) (ex_not rfl hE rfl) ?_
                      intro a hE
                      refine s_nil ?_
                      obtain ⟨j1, hj1, hl1⟩ := bnd hl1
                      refine k_cut (fun a w => Env 165 [(2, vp2), (3, (.pointer (some ⟨b1, 0, none⟩))), (7, (.pointer (some ⟨b2, 0, none⟩))), (9, vr4), (11, w7), (12, (.slice none 0 0)), (13, (.slice none 0 0)), (16, (.int .i64 j1)), (70, vp2), (71, (.int .i64 (p2.length : Int))), (72, (.int .i64 lp1_0))] a ∧ Hp Z ρ (OwnSl 3 w7 lp1_1 :: OwnSl 4 vr4 x3.1 :: Pt b2 (.cells #[(.int .i64 x2.1.vars), vr2_clauses] 24 (0, 0)) :: TblA 25 3 vr2_clauses usr2_clauses (x2.1.clauses : (List (List Int))) :: Pt b1 (.cells #[(.int .i64 p0.inputs), vp0_gates] 38 (0, 0)) :: L) w) ?_ ?_
                      ·
                        refine k_if hE rfl (fun hc10 => ?_) (fun hc10 => ?_)
                        · replace hj1 := (it hc10).symm.trans hj1
                          refine k_region ?_
                          refine s_val (wk0 rfl) rfl rfl hE hp (v := (.int .i64 x6)) (ex_move rfl hE rfl) ?_
                          intro a hE
                          obtain ⟨x7, ex7, hj1⟩ := bnd hj1
                          refine s_val (wk0 rfl) rfl rfl hE hp (v := (.int .i64 x7)) (ex_add rfl hE rfl rfl (inK_some ex7)) ?_
                          intro a hE
                          refine s_val (wk0 rfl) rfl rfl hE hp (v := (.int .i64 x7)) (ex_asn rfl hE rfl) ?_
                          intro a hE
                          refine s_nil ?_
                          obtain rfl := Option.some.inj hj1
                          exact ⟨hE.cut ⟨rfl, rfl, rfl, rfl, rfl, rfl, rfl, rfl, rfl, rfl, rfl, trivial⟩, hp⟩
                        · replace hj1 := (ie hc10).symm.trans hj1
                          refine k_skip ?_
                          obtain rfl := Option.some.inj hj1
                          exact ⟨hE.cut ⟨rfl, rfl, rfl, rfl, rfl, rfl, rfl, rfl, rfl, rfl, rfl, trivial⟩, hp⟩
                      · rintro a w ⟨hE, hp⟩
                        refine k_region ?_
                        refine s_val (wk0 rfl) rfl rfl hE hp (v := w7) (ex_move rfl hE rfl) ?_
                        intro a hE
                        refine s_val (wk0 rfl) rfl rfl hE hp (v := (.int .i64 j1)) (ex_move rfl hE rfl) ?_
                        intro a hE
                        obtain ⟨x8, ex8, hl1⟩ := bnd hl1
                        refine s_call (wk0 rfl) rfl rfl hE rfl [(.int .i64 j1)] ⟨rfl, trivial⟩ ent19 (c_cnf_Literal hT j1 hp x8 ex8) Ret.ret ?_
                        intro v a w hR hE
                        obtain ⟨rfl, hp⟩ := Ret.of hR
                        have hp : Hp Z ρ (_ :: _ :: _ :: _ :: _ :: L) w := hp
                        refine s_lit (wk0 rfl) rfl rfl hE hp rfl [(0, (.int .i64 x8))] ⟨⟨rfl, rfl⟩, trivial⟩ [(.int .i64 x8)] 3 (fun w => by simp [Instr.buildSlice, Instr.fill, Value.cells, go_sem]) ?_
                        intro a w b5 hE hp
                        have hp : Hp Z ρ (Pt b5 (.cells #[(.int .i64 x8)] 3 (0, 0)) :: _ :: _ :: _ :: _ :: _ :: L) w := hp
                        obtain ⟨x9, ex9, hl1⟩ := bnd hl1
                        refine s_app (wk0 rfl) rfl rfl hE hp rfl slty25 rfl rfl 1 rfl rfl (l2 := [x8]) rfl (fun j u hj => by have := Hp.cN 0 rfl 0 _ (sub_all rfl) w hp j u hj; simpa using this) ex9 ?_
                        intro v1 a w hE hp
                        have hp : Hp Z ρ (_ :: OwnSl 3 v1 x9 :: _ :: _ :: _ :: _ :: L) w := hp
                        refine s_val (wk0 rfl) rfl rfl hE hp (v := v1) (ex_asn rfl hE rfl) ?_
                        intro a hE
                        refine s_nil ?_
                        have hE := hE.cut (E' := [(2, vp2), (3, (.pointer (some ⟨b1, 0, none⟩))), (7, (.pointer (some ⟨b2, 0, none⟩))), (9, vr4), (11, v1), (12, (.slice none 0 0)), (13, (.slice none 0 0)), (70, vp2), (71, (.int .i64 (p2.length : Int))), (72, (.int .i64 lp1_0))]) ⟨rfl, rfl, rfl, rfl, rfl, rfl, rfl, rfl, rfl, rfl, trivial⟩
                        refine k_region ?_
                        obtain ⟨x10, ex10, hl1⟩ := bnd hl1
                        refine s_val (wk0 rfl) rfl rfl hE hp (v := (.int .i64 x10)) (ex_add rfl hE rfl rfl (inK_some ex10)) ?_
                        intro a hE
                        refine s_val (wk0 rfl) rfl rfl hE hp (v := (.int .i64 x10)) (ex_move rfl hE rfl) ?_
                        intro a hE
                        refine s_nil ?_
                        exact ⟨_, (Option.some.inj hl1).symm, _, hE.cut ⟨rfl, rfl, rfl, rfl, rfl, rfl, rfl, rfl, rfl, rfl, trivial⟩, (hp.drop)⟩
                    · replace hl1 := (ie hc9).symm.trans hl1
                      refine k_exit ?_
                      refine ⟨_, (Option.some.inj hl1).symm, fun hbb => ?_⟩
                      subst hbb
                      exact ⟨_, hE.cut ⟨rfl, rfl, rfl, rfl, rfl, rfl, rfl, trivial⟩, hp⟩
                · rintro a w ⟨w7, hE, hp⟩
                  refine k_seq ?_
                  refine k_seq ?_
                  refine k_region ?_
                  refine s_val (wk0 rfl) rfl rfl hE hp (v := (.agg #[(.int .i64 p0.inputs), vp0_gates])) (ex_load rfl hE rfl (fun w hw => run_ldN (cs := [(.int .i64 p0.inputs), vp0_gates]) varty38 (Hp.cN 4 rfl 0 _ (sub_all rfl) w hw))) ?_
                  intro a hE
                  obtain ⟨x11, ex11, hm⟩ := bnd hm
                  refine s_call (wk0 rfl) rfl rfl hE rfl [(.agg #[(.int .i64 p0.inputs), vp0_gates])] ⟨rfl, trivial⟩ ent38 (c_assessorref24_Nodes hT p0 vp0_gates hp0_gates hp x11 ex11) Ret.ret ?_
                  intro v a w hR hE
                  obtain ⟨rfl, hp⟩ := Ret.of hR
                  have hp : Hp Z ρ (OwnSl 3 w7 b3 :: _ :: _ :: _ :: _ :: L) w := hp
                  refine s_val (wk0 rfl) rfl rfl hE hp (v := (.int .i64 0)) (ex_move rfl hE rfl) ?_
                  intro a hE
                  refine s_nil ?_
                  have hp := hp.emp (OwnSl.nil (α := Int) 3)
                  have hp : Hp Z ρ (OwnSl 3 (.slice none 0 0) ([] : List Int) :: _ :: _ :: _ :: _ :: _ :: L) w := hp
                  obtain ⟨b6, hc11, hm⟩ := bnd hm
                  refine k_block (fun a w => ∃ (w12 : Value), Env 165 [(2, vp2), (3, (.pointer (some ⟨b1, 0, none⟩))), (7, (.pointer (some ⟨b2, 0, none⟩))), (9, vr4), (11, w7), (12, w12), (13, (.slice none 0 0))] a ∧ Hp Z ρ (OwnSl 3 w12 b6 :: OwnSl 3 w7 b3 :: OwnSl 4 vr4 x3.1 :: Pt b2 (.cells #[(.int .i64 x2.1.vars), vr2_clauses] 24 (0, 0)) :: TblA 25 3 vr2_clauses usr2_clauses (x2.1.clauses : (List (List Int))) :: Pt b1 (.cells #[(.int .i64 p0.inputs), vp0_gates] 38 (0, 0)) :: L) w) ?_ ?_
                  · refine k_loop hc11 (fun s a w => ∃ (w12 : Value), Env 165 [(2, vp2), (3, (.pointer (some ⟨b1, 0, none⟩))), (7, (.pointer (some ⟨b2, 0, none⟩))), (9, vr4), (11, w7), (12, w12), (13, (.slice none 0 0)), (91, (.int .i64 x11)), (92, (.int .i64 s.1))] a ∧ Hp Z ρ (OwnSl 3 w12 s.2 :: OwnSl 3 w7 b3 :: OwnSl 4 vr4 x3.1 :: Pt b2 (.cells #[(.int .i64 x2.1.vars), vr2_clauses] 24 (0, 0)) :: TblA 25 3 vr2_clauses usr2_clauses (x2.1.clauses : (List (List Int))) :: Pt b1 (.cells #[(.int .i64 p0.inputs), vp0_gates] 38 (0, 0)) :: L) w) ?_ ?_
                    · exact ⟨_, hE.cut ⟨rfl, rfl, rfl, rfl, rfl, rfl, rfl, rfl, rfl, trivial⟩, hp⟩
                    · rintro ⟨lp2_0, lp2_1⟩ st a w ⟨w12, hE, hp⟩ hl2
                      have hE : Env 165 [(2, vp2), (3, (.pointer (some ⟨b1, 0, none⟩))), (7, (.pointer (some ⟨b2, 0, none⟩))), (9, vr4), (11, w7), (12, w12), (13, (.slice none 0 0)), (91, (.int .i64 x11)), (92, (.int .i64 lp2_0))] a := hE
                      have hp : Hp Z ρ (OwnSl 3 w12 lp2_1 :: _ :: _ :: _ :: _ :: _ :: L) w := hp
                      replace hl2 : m_assessorlaw26_CnfCircuits_lp2 x11 lp2_0 lp2_1 = some st := hl2
                      unfold m_assessorlaw26_CnfCircuits_lp2 at hl2
                      refine k_seq ?_
                      refine k_region ?_
                      refine s_val (wk0 rfl) rfl rfl hE hp (v := (.bool (decide (lp2_0 < x11)))) (ex_lss rfl hE rfl rfl) ?_
                      intro a hE
                      refine s_nil ?_
                      refine k_seq ?_
                      refine k_if hE rfl (fun hc12 => ?_) (fun hc12 => ?_)
                      · replace hl2 := (it hc12).symm.trans hl2
                        refine k_skip ?_
                        refine k_seq ?_
                        refine k_plain ?_
                        refine k_seq ?_
                        refine k_region ?_
                        refine s_val (wk0 rfl) rfl rfl hE hp (v := (.int .i64 lp2_0)) (ex_move rfl hE rfl) ?_
                        intro a hE
                        refine s_val (wk0 rfl) rfl rfl hE hp (v := (.int .i64 lp2_0)) (ex_asn rfl hE rfl) ?_
                        intro a hE
                        refine s_nil ?_
                        refine k_region ?_
                        refine s_val (wk0 rfl) rfl rfl hE hp (v := w12) (ex_move rfl hE rfl) ?_
                        intro a hE
                        refine s_val (wk0 rfl) rfl rfl hE hp (v := (.int .i64 lp2_0)) (ex_move rfl hE rfl) ?_
                        intro a hE
                        obtain ⟨x12, ex12, hl2⟩ := bnd hl2
                        refine s_val (wk0 rfl) rfl rfl hE hp (v := (.int .i64 x12)) (ex_mul rfl hE rfl rfl (inK_some ex12)) ?_
                        intro a hE
                        refine s_lit (wk0 rfl) rfl rfl hE hp rfl [(0, (.int .i64 x12))] ⟨⟨rfl, rfl⟩, trivial⟩ [(.int .i64 x12)] 3 (fun w => by simp [Instr.buildSlice, Instr.fill, Value.cells, go_sem]) ?_
                        intro a w b7 hE hp
                        have hp : Hp Z ρ (Pt b7 (.cells #[(.int .i64 x12)] 3 (0, 0)) :: _ :: _ :: _ :: _ :: _ :: _ :: L) w := hp
                        obtain ⟨x13, ex13, hl2⟩ := bnd hl2
                        refine s_app (wk0 rfl) rfl rfl hE hp rfl slty25 rfl rfl 1 rfl rfl (l2 := [x12]) rfl (fun j u hj => by have := Hp.cN 0 rfl 0 _ (sub_all rfl) w hp j u hj; simpa using this) ex13 ?_
                        intro v2 a w hE hp
                        have hp : Hp Z ρ (_ :: OwnSl 3 v2 x13 :: _ :: _ :: _ :: _ :: _ :: L) w := hp
                        refine s_val (wk0 rfl) rfl rfl hE hp (v := v2) (ex_asn rfl hE rfl) ?_
                        intro a hE
                        refine s_nil ?_
                        have hE := hE.cut (E' := [(2, vp2), (3, (.pointer (some ⟨b1, 0, none⟩))), (7, (.pointer (some ⟨b2, 0, none⟩))), (9, vr4), (11, w7), (12, v2), (13, (.slice none 0 0)), (91, (.int .i64 x11)), (92, (.int .i64 lp2_0))]) ⟨rfl, rfl, rfl, rfl, rfl, rfl, rfl, rfl, rfl, trivial⟩
                        refine k_region ?_
                        obtain ⟨x14, ex14, hl2⟩ := bnd hl2
                        refine s_val (wk0 rfl) rfl rfl hE hp (v := (.int .i64 x14)) (ex_add rfl hE rfl rfl (inK_some ex14)) ?_
                        intro a hE
                        refine s_val (wk0 rfl) rfl rfl hE hp (v := (.int .i64 x14)) (ex_move rfl hE rfl) ?_
                        intro a hE
                        refine s_nil ?_
                        exact ⟨_, (Option.some.inj hl2).symm, _, hE.cut ⟨rfl, rfl, rfl, rfl, rfl, rfl, rfl, rfl, rfl, trivial⟩, (hp.drop)⟩
                      · replace hl2 := (ie hc12).symm.trans hl2
                        refine k_exit ?_
                        refine ⟨_, (Option.some.inj hl2).symm, fun hbb => ?_⟩
                        subst hbb
                        exact ⟨_, hE.cut ⟨rfl, rfl, rfl, rfl, rfl, rfl, rfl, trivial⟩, hp⟩
                  · rintro a w ⟨w12, hE, hp⟩
                    refine k_seq ?_
                    refine k_region ?_
                    refine s_val (wk0 rfl) rfl rfl hE hp (v := (.agg #[(.int .i64 p0.inputs), vp0_gates])) (ex_load rfl hE rfl (fun w hw => run_ldN (cs := [(.int .i64 p0.inputs), vp0_gates]) varty38 (Hp.cN 5 rfl 0 _ (sub_all rfl) w hw))) ?_
                    intro a hE
                    refine s_val (wk0 rfl) rfl rfl hE hp (v := vp2) (ex_move rfl hE rfl) ?_
                    intro a hE
                    refine s_val (wk0 rfl) rfl rfl hE hp (v := w12) (ex_move rfl hE rfl) ?_
                    intro a hE
                    obtain ⟨k1, k1a, k1d, k1h⟩ := (hp.get 0 rfl).lend
                    obtain ⟨x15, ex15, hm⟩ := bnd hm
                    refine s_call (wk0 rfl) rfl rfl hE rfl [(.agg #[(.int .i64 p0.inputs), vp0_gates]), vp2, w12] ⟨rfl, rfl, rfl, trivial⟩ ent37 (c_gates_Eval (Tabs.mono hT (PH.le_un _ k1)) p0 vp0_gates (RoSl.mono hp0_gates (PH.le_un _ _)) p2 vp2 (RoSl.mono hp2 (PH.le_un _ _)) b6 w12 (OwnSl.ro k1d k1a) k1h x15 ex15) Ret.ret ?_
                    intro v a w hR hE
                    obtain ⟨vr8, rfl, hp⟩ := Ret.of hR
                    have hp := Hp.back k1a k1d hp
                    have hp : Hp Z ρ (OwnSl 3 w12 b6 :: OwnSl 4 vr8 x15.1 :: _ :: _ :: _ :: _ :: _ :: L) w := hp
                    refine s_val (wk0 rfl) rfl rfl hE hp (v := (.tuple #[vr8, (.int .i64 x15.2)])) (ex_move rfl hE rfl) ?_
                    intro a hE
                    refine s_val (wk0 rfl) rfl rfl hE hp (v := vr8) (ex_extract rfl hE rfl rfl) ?_
                    intro a hE
                    refine s_val (wk0 rfl) rfl rfl hE hp (v := (.int .i64 x15.2)) (ex_extract rfl hE rfl rfl) ?_
                    intro a hE
                    refine s_val (wk0 rfl) rfl rfl hE hp (v := vr8) (ex_asn rfl hE rfl) ?_
                    intro a hE
                    refine s_val (wk0 rfl) rfl rfl hE hp (v := (.int .i64 x15.2)) (ex_asn rfl hE rfl) ?_
                    intro a hE
                    refine s_nil ?_
                    refine k_seq ?_
                    refine k_seq ?_
                    refine k_region ?_
                    refine s_val (wk0 rfl) rfl rfl hE hp (v := vr8) (ex_move rfl hE rfl) ?_
                    intro a hE
                    refine s_val (wk0 rfl) rfl rfl hE hp (v := (.int .i64 (x15.1.length : Int))) (ex_len rfl hE rfl (OwnSl.len hp 1 rfl slty56)) ?_
                    intro a hE
                    refine s_val (wk0 rfl) rfl rfl hE hp (v := (.int .i64 0)) (ex_move rfl hE rfl) ?_
                    intro a hE
                    refine s_nil ?_
                    have hp := hp.emp (OwnSl.nil (α := Int) 3)
                    have hp : Hp Z ρ (OwnSl 3 (.slice none 0 0) ([] : List Int) :: _ :: _ :: _ :: _ :: _ :: _ :: _ :: L) w := hp
                    obtain ⟨b8, hc13, hm⟩ := bnd hm
                    refine k_block (fun a w => ∃ (w20 : Value), Env 165 [(7, (.pointer (some ⟨b2, 0, none⟩))), (9, vr4), (10, (.int .i64 x15.2)), (11, w7), (13, w20)] a ∧ Hp Z ρ (OwnSl 3 w20 b8 :: OwnSl 3 w12 b6 :: OwnSl 4 vr8 x15.1 :: OwnSl 3 w7 b3 :: OwnSl 4 vr4 x3.1 :: Pt b2 (.cells #[(.int .i64 x2.1.vars), vr2_clauses] 24 (0, 0)) :: TblA 25 3 vr2_clauses usr2_clauses (x2.1.clauses : (List (List Int))) :: Pt b1 (.cells #[(.int .i64 p0.inputs), vp0_gates] 38 (0, 0)) :: L) w) ?_ ?_
                    · refine k_loop hc13 (fun s a w => ∃ (w20 : Value), Env 165 [(7, (.pointer (some ⟨b2, 0, none⟩))), (9, vr4), (10, (.int .i64 x15.2)), (11, w7), (13, w20), (108, vr8), (109, (.int .i64 (x15.1.length : Int))), (110, (.int .i64 s.1))] a ∧ Hp Z ρ (OwnSl 3 w20 s.2 :: OwnSl 3 w12 b6 :: OwnSl 4 vr8 x15.1 :: OwnSl 3 w7 b3 :: OwnSl 4 vr4 x3.1 :: Pt b2 (.cells #[(.int .i64 x2.1.vars), vr2_clauses] 24 (0, 0)) :: TblA 25 3 vr2_clauses usr2_clauses (x2.1.clauses : (List (List Int))) :: Pt b1 (.cells #[(.int .i64 p0.inputs), vp0_gates] 38 (0, 0)) :: L) w) ?_ ?_
                      · exact ⟨_, hE.cut ⟨rfl, rfl, rfl, rfl, rfl, rfl, rfl, rfl, trivial⟩, hp⟩
                      · rintro ⟨lp3_0, lp3_1⟩ st a w ⟨w20, hE, hp⟩ hl3
                        have hE : Env 165 [(7, (.pointer (some ⟨b2, 0, none⟩))), (9, vr4), (10, (.int .i64 x15.2)), (11, w7), (13, w20), (108, vr8), (109, (.int .i64 (x15.1.length : Int))), (110, (.int .i64 lp3_0))] a := hE
                        have hp : Hp Z ρ (OwnSl 3 w20 lp3_1 :: _ :: _ :: _ :: _ :: _ :: _ :: _ :: L) w := hp
                        replace hl3 : m_assessorlaw26_CnfCircuits_lp3 x15 lp3_0 lp3_1 = some st := hl3
                        unfold m_assessorlaw26_CnfCircuits_lp3 at hl3
                        refine k_seq ?_
                        refine k_region ?_
                        refine s_val (wk0 rfl) rfl rfl hE hp (v := (.bool (decide (lp3_0 < (x15.1.length : Int))))) (ex_lss rfl hE rfl rfl) ?_
                        intro a hE
                        refine s_nil ?_
                        refine k_seq ?_
                        refine k_if hE rfl (fun hc14 => ?_) (fun hc14 => ?_)
                        · replace hl3 := (it hc14).symm.trans hl3
                          refine k_skip ?_
                          refine k_seq ?_
                          refine k_plain ?_
                          refine k_seq ?_
                          refine k_region ?_
                          refine s_val (wk0 rfl) rfl rfl hE hp (v := (.int .i64 lp3_0)) (ex_move rfl hE rfl) ?_
                          intro a hE
                          obtain ⟨x16, ex16, hl3⟩ := bnd hl3
                          obtain ⟨b9, b9o, b9r, b9v, b9f⟩ := OwnSl.at hp 2 rfl slty56 ex16
                          have b9f : ∀ (j : Nat) (u : Value), ([(.bool x16)] : List Value)[j]? = some u → ∀ ρ' L' w, Hp Z ρ' (OwnSl 4 vr8 x15.1 :: L') w → w.cell? ⟨b9, b9o + j, none⟩ = some u := b9f
                          refine s_val (wk0 rfl) rfl rfl hE hp (v := (.pointer (some ⟨b9, b9o, none⟩))) (ex_index rfl hE rfl rfl b9r) ?_
                          intro a hE
                          refine s_val (wk0 rfl) rfl rfl hE hp (v := (.bool x16)) (ex_load rfl hE rfl (fun w hw => run_ld1 varty4 (b9f 0 _ rfl _ _ w (hw.get 2 rfl)))) ?_
                          intro a hE
                          refine s_val (wk0 rfl) rfl rfl hE hp (v := (.int .i64 lp3_0)) (ex_asn rfl hE rfl) ?_
                          intro a hE
                          refine s_val (wk0 rfl) rfl rfl hE hp (v := (.bool x16)) (ex_asn rfl hE rfl) ?_
                          intro a hE
                          refine s_nil ?_
                          refine k_seq ?_
                          refine k_region ?_
                          refine s_val (wk0 rfl) rfl rfl hE hp (v := (.bool x16)) (ex_move rfl hE rfl) ?_
                          intro a hE
                          refine s_nil ?_
                          refine k_if hE rfl (fun hc15 => ?_) (fun hc15 => ?_)
                          · replace hl3 := (it hc15).symm.trans hl3
                            refine k_region ?_
                            refine s_val (wk0 rfl) rfl rfl hE hp (v := w20) (ex_move rfl hE rfl) ?_
                            intro a hE
                            refine s_val (wk0 rfl) rfl rfl hE hp (v := (.int .i64 lp3_0)) (ex_move rfl hE rfl) ?_
                            intro a hE
                            obtain ⟨x17, ex17, hl3⟩ := bnd hl3
                            refine s_val (wk0 rfl) rfl rfl hE hp (v := (.int .i64 x17)) (ex_add rfl hE rfl rfl (inK_some ex17)) ?_
                            intro a hE
                            refine s_lit (wk0 rfl) rfl rfl hE hp rfl [(0, (.int .i64 x17))] ⟨⟨rfl, rfl⟩, trivial⟩ [(.int .i64 x17)] 3 (fun w => by simp [Instr.buildSlice, Instr.fill, Value.cells, go_sem]) ?_
                            intro a w b10 hE hp
                            have hp : Hp Z ρ (Pt b10 (.cells #[(.int .i64 x17)] 3 (0, 0)) :: _ :: _ :: _ :: _ :: _ :: _ :: _ :: _ :: L) w := hp
                            obtain ⟨x18, ex18, hl3⟩ := bnd hl3
                            refine s_app (wk0 rfl) rfl rfl hE hp rfl slty25 rfl rfl 1 rfl rfl (l2 := [x17]) rfl (fun j u hj => by have := Hp.cN 0 rfl 0 _ (sub_all rfl) w hp j u hj; simpa using this) ex18 ?_
                            intro v3 a w hE hp
                            have hp : Hp Z ρ (_ :: OwnSl 3 v3 x18 :: _ :: _ :: _ :: _ :: _ :: _ :: _ :: L) w := hp
                            refine s_val (wk0 rfl) rfl rfl hE hp (v := v3) (ex_asn rfl hE rfl) ?_
                            intro a hE
                            refine s_nil ?_
                            have hE := hE.cut (E' := [(7, (.pointer (some ⟨b2, 0, none⟩))), (9, vr4), (10, (.int .i64 x15.2)), (11, w7), (13, v3), (108, vr8), (109, (.int .i64 (x15.1.length : Int))), (110, (.int .i64 lp3_0))]) ⟨rfl, rfl, rfl, rfl, rfl, rfl, rfl, rfl, trivial⟩
                            refine k_region ?_
                            obtain ⟨x19, ex19, hl3⟩ := bnd hl3
                            refine s_val (wk0 rfl) rfl rfl hE hp (v := (.int .i64 x19)) (ex_add rfl hE rfl rfl (inK_some ex19)) ?_
                            intro a hE
                            refine s_val (wk0 rfl) rfl rfl hE hp (v := (.int .i64 x19)) (ex_move rfl hE rfl) ?_
                            intro a hE
                            refine s_nil ?_
                            exact ⟨_, (Option.some.inj hl3).symm, _, hE.cut ⟨rfl, rfl, rfl, rfl, rfl, rfl, rfl, rfl, trivial⟩, (hp.drop)⟩
                          · replace hl3 := (ie hc15).symm.trans hl3
                            refine k_region ?_
                            refine s_val (wk0 rfl) rfl rfl hE hp (v := w20) (ex_move rfl hE rfl) ?_
                            intro a hE
                            refine s_val (wk0 rfl) rfl rfl hE hp (v := (.int .i64 lp3_0)) (ex_move rfl hE rfl) ?_
                            intro a hE
                            obtain ⟨x20, ex20, hl3⟩ := bnd hl3
                            refine s_val (wk0 rfl) rfl rfl hE hp (v := (.int .i64 x20)) (ex_neg rfl hE rfl (inK_some ex20)) ?_
                            intro a hE
                            obtain ⟨x21, ex21, hl3⟩ := bnd hl3
                            refine s_val (wk0 rfl) rfl rfl hE hp (v := (.int .i64 x21)) (ex_sub rfl hE rfl rfl (inK_some ex21)) ?_
                            intro a hE
                            refine s_lit (wk0 rfl) rfl rfl hE hp rfl [(0, (.int .i64 x21))] ⟨⟨rfl, rfl⟩, trivial⟩ [(.int .i64 x21)] 3 (fun w => by simp [Instr.buildSlice, Instr.fill, Value.cells, go_sem]) ?_
                            intro a w b11 hE hp
                            have hp : Hp Z ρ (Pt b11 (.cells #[(.int .i64 x21)] 3 (0, 0)) :: _ :: _ :: _ :: _ :: _ :: _ :: _ :: _ :: L) w := hp
                            obtain ⟨x22, ex22, hl3⟩ := bnd hl3
                            refine s_app (wk0 rfl) rfl rfl hE hp rfl slty25 rfl rfl 1 rfl rfl (l2 := [x21]) rfl (fun j u hj => by have := Hp.cN 0 rfl 0 _ (sub_all rfl) w hp j u hj; simpa using this) ex22 ?_
                            intro v4 a w hE hp
                            have hp : Hp Z ρ (_ :: OwnSl 3 v4 x22 :: _ :: _ :: _ :: _ :: _ :: _ :: _ :: L) w := hp
                            refine s_val (wk0 rfl) rfl rfl hE hp (v := v4) (ex_asn rfl hE rfl) ?_
                            intro a hE
                            refine s_nil ?_
                            refine k_region ?_
                            obtain ⟨x23, ex23, hl3⟩ := bnd hl3
                            refine s_val (wk0 rfl) rfl rfl hE hp (v := (.int .i64 x23)) (ex_add rfl hE rfl rfl (inK_some ex23)) ?_
                            intro a hE
                            refine s_val (wk0 rfl) rfl rfl hE hp (v := (.int .i64 x23)) (ex_move rfl hE rfl) ?_
                            intro a hE
                            refine s_nil ?_
                            exact ⟨_, (Option.some.inj hl3).symm, _, hE.cut ⟨rfl, rfl, rfl, rfl, rfl, rfl, rfl, rfl, trivial⟩, (hp.drop)⟩
                        · replace hl3 := (ie hc14).symm.trans hl3
                          refine k_exit ?_
                          refine ⟨_, (Option.some.inj hl3).symm, fun hbb => ?_⟩
                          subst hbb
                          exact ⟨_, hE.cut ⟨rfl, rfl, rfl, rfl, rfl, trivial⟩, hp⟩
                    · rintro a w ⟨w20, hE, hp⟩
                      refine k_seq ?_
                      refine k_region ?_
                      refine s_val (wk0 rfl) rfl rfl hE hp (v := (.agg #[(.int .i64 x2.1.vars), vr2_clauses])) (ex_load rfl hE rfl (fun w hw => run_ldN (cs := [(.int .i64 x2.1.vars), vr2_clauses]) varty24 (Hp.cN 5 rfl 0 _ (sub_all rfl) w hw))) ?_
                      intro a hE
                      refine s_val (wk0 rfl) rfl rfl hE hp (v := w7) (ex_move rfl hE rfl) ?_
                      intro a hE
                      obtain ⟨k2, k2a, k2d, k2h⟩ := (hp.get 6 rfl).lend
                      obtain ⟨k3, k3a, k3d, k3h⟩ := (k2h.get 3 rfl).lend
                      obtain ⟨x24, ex24, hm⟩ := bnd hm
                      refine s_call (wk0 rfl) rfl rfl hE rfl [(.agg #[(.int .i64 x2.1.vars), vr2_clauses]), w7] ⟨rfl, rfl, trivial⟩ ent24 (c_cnf_Propagate (Tabs.mono (Tabs.mono hT (PH.le_un _ k2)) (PH.le_un _ k3)) x2.1 vr2_clauses (RoSl.mono (TblA.ro k2d k2a) (PH.le_un _ _)) b3 w7 (OwnSl.ro k3d k3a) k3h x24 ex24) Ret.ret ?_
                      intro v a w hR hE
                      obtain ⟨vr10, rfl, hp⟩ := Ret.of hR
                      have hp := Hp.back k3a k3d hp
                      have hp := Hp.back k2a k2d hp
                      have hp : Hp Z ρ (_ :: _ :: OwnSl 3 vr10 x24.1 :: OwnSl 3 w20 b8 :: _ :: _ :: _ :: _ :: _ :: L) w := hp
                      refine s_val (wk0 rfl) rfl rfl hE hp (v := (.tuple #[vr10, (.bool x24.2.1), (.int .i64 x24.2.2)])) (ex_move rfl hE rfl) ?_
                      intro a hE
                      refine s_val (wk0 rfl) rfl rfl hE hp (v := vr10) (ex_extract rfl hE rfl rfl) ?_
                      intro a hE
                      refine s_val (wk0 rfl) rfl rfl hE hp (v := (.bool x24.2.1)) (ex_extract rfl hE rfl rfl) ?_
                      intro a hE
                      refine s_val (wk0 rfl) rfl rfl hE hp (v := (.int .i64 x24.2.2)) (ex_extract rfl hE rfl rfl) ?_
                      intro a hE
                      refine s_val (wk0 rfl) rfl rfl hE hp (v := vr10) (ex_asn rfl hE rfl) ?_
                      intro a hE
                      refine s_val (wk0 rfl) rfl rfl hE hp (v := (.bool x24.2.1)) (ex_asn rfl hE rfl) ?_
                      intro a hE
                      refine s_val (wk0 rfl) rfl rfl hE hp (v := (.int .i64 x24.2.2)) (ex_asn rfl hE rfl) ?_
                      intro a hE
                      refine s_nil ?_
                      have hE := hE.cut (E' := [(7, (.pointer (some ⟨b2, 0, none⟩))), (9, vr4), (10, (.int .i64 x15.2)), (13, w20), (21, vr10), (22, (.bool x24.2.1)), (23, (.int .i64 x24.2.2))]) ⟨rfl, rfl, rfl, rfl, rfl, rfl, rfl, trivial⟩
                      refine k_seq ?_
                      refine k_region ?_
                      refine s_val (wk0 rfl) rfl rfl hE hp (v := vr4) (ex_move rfl hE rfl) ?_
                      intro a hE
                      obtain ⟨k4, k4a, k4d, k4h⟩ := (hp.get 6 rfl).lend
                      obtain ⟨x25, ex25, hm⟩ := bnd hm
                      refine s_call (wk0 rfl) rfl rfl hE rfl [vr4, (.bool false)] ⟨rfl, rfl, trivial⟩ ent39 (c_slices_Contains_bool_bool_ (Tabs.mono hT (PH.le_un _ k4)) x3.1 vr4 (OwnSl.ro k4d k4a) false k4h x25 ex25) Ret.ret ?_
                      intro v a w hR hE
                      obtain ⟨rfl, hp⟩ := Ret.of hR
                      have hp := Hp.back k4a k4d hp
                      have hp : Hp Z ρ (_ :: _ :: _ :: _ :: _ :: _ :: _ :: _ :: _ :: L) w := hp
                      refine s_val (wk0 rfl) rfl rfl hE hp (v := (.bool (!x25))) (ex_not rfl hE rfl) ?_
                      intro a hE
                      refine s_val (wk0 rfl) rfl rfl hE hp (v := (.bool (!x25))) (ex_asn rfl hE rfl) ?_
                      intro a hE
                      refine s_nil ?_
                      refine k_seq ?_
                      refine k_region ?_
                      refine s_val (wk0 rfl) rfl rfl hE hp (v := (.int .i64 x15.2)) (ex_move rfl hE rfl) ?_
                      intro a hE
                      refine s_val (wk0 rfl) rfl rfl hE hp (v := (.bool (decide (x15.2 = 0)))) (ex_eql rfl hE rfl rfl) ?_
                      intro a hE
                      refine s_val (wk0 rfl) rfl rfl hE hp (v := (.bool (decide (x15.2 = 0)))) (ex_move rfl hE rfl) ?_
                      intro a hE
                      refine s_cut [_, _, _] (fun a w => Env 165 [(143, (.bool ((decide (x15.2 = 0)) && (decide (x24.2.2 = 0))))), (7, (.pointer (some ⟨b2, 0, none⟩))), (13, w20), (21, vr10), (22, (.bool x24.2.1)), (24, (.bool (!x25)))] a ∧ Hp Z ρ (OwnSl 4 vr4 x3.1 :: TblA 25 3 vr2_clauses usr2_clauses (x2.1.clauses : (List (List Int))) :: OwnSl 3 w7 b3 :: OwnSl 3 vr10 x24.1 :: OwnSl 3 w20 b8 :: OwnSl 3 w12 b6 :: OwnSl 4 vr8 x15.1 :: Pt b2 (.cells #[(.int .i64 x2.1.vars), vr2_clauses] 24 (0, 0)) :: Pt b1 (.cells #[(.int .i64 p0.inputs), vp0_gates] 38 (0, 0)) :: L) w) ?_ ?_
                      · rcases Bool.eq_false_or_eq_true (decide (x15.2 = 0)) with hc16 | hc16
                        ·
                          refine s_val (wk1 hE rfl rfl rfl hc16) rfl rfl hE hp (v := (.int .i64 x24.2.2)) (ex_move rfl hE rfl) ?_
                          intro a hE
                          refine s_val (wk1 hE rfl rfl rfl hc16) rfl rfl hE hp (v := (.bool (decide (x24.2.2 = 0)))) (ex_eql rfl hE rfl rfl) ?_
                          intro a hE
                          refine s_val (wk0 rfl) rfl rfl hE hp (v := (.bool (decide (x24.2.2 = 0)))) (ex_pick1 rfl hE rfl hc16 rfl) ?_
                          intro a hE
                          have hE := hE.eqv (v' := (.bool ((decide (x15.2 = 0)) && (decide (x24.2.2 = 0))))) (by rw [hc16]; rfl)
                          exact s_nil ⟨hE.cut ⟨rfl, rfl, rfl, rfl, rfl, rfl, trivial⟩, hp⟩
                        ·
                          refine s_skip (wk2 hE rfl rfl rfl hc16) rfl rfl hE ?_
                          intro a hE
                          refine s_skip (wk2 hE rfl rfl rfl hc16) rfl rfl hE ?_
                          intro a hE
                          refine s_val (wk0 rfl) rfl rfl hE hp (v := (.bool false)) (ex_pick0 rfl hE rfl hc16 rfl) ?_
                          intro a hE
                          have hE := hE.eqv (v' := (.bool ((decide (x15.2 = 0)) && (decide (x24.2.2 = 0))))) (by rw [hc16]; rfl)
                          exact s_nil ⟨hE.cut ⟨rfl, rfl, rfl, rfl, rfl, rfl, trivial⟩, hp⟩
                      · rintro a w ⟨hE, hp⟩
                        refine s_val (wk0 rfl) rfl rfl hE hp (v := (.bool ((decide (x15.2 = 0)) && (decide (x24.2.2 = 0))))) (ex_move rfl hE rfl) ?_
                        intro a hE
                        refine s_cut [_, _, _, _] (fun a w => Env 165 [(148, (.bool (((decide (x15.2 = 0)) && (decide (x24.2.2 = 0))) && (x24.2.1 == (!x25))))), (7, (.pointer (some ⟨b2, 0, none⟩))), (13, w20), (21, vr10), (24, (.bool (!x25)))] a ∧ Hp Z ρ (OwnSl 4 vr4 x3.1 :: TblA 25 3 vr2_clauses usr2_clauses (x2.1.clauses : (List (List Int))) :: OwnSl 3 w7 b3 :: OwnSl 3 vr10 x24.1 :: OwnSl 3 w20 b8 :: OwnSl 3 w12 b6 :: OwnSl 4 vr8 x15.1 :: Pt b2 (.cells #[(.int .i64 x2.1.vars), vr2_clauses] 24 (0, 0)) :: Pt b1 (.cells #[(.int .i64 p0.inputs), vp0_gates] 38 (0, 0)) :: L) w) ?_ ?_
                        · rcases Bool.eq_false_or_eq_true ((decide (x15.2 = 0)) && (decide (x24.2.2 = 0))) with hc17 | hc17
                          ·
                            refine s_val (wk1 hE rfl rfl rfl hc17) rfl rfl hE hp (v := (.bool x24.2.1)) (ex_move rfl hE rfl) ?_
                            intro a hE
                            refine s_val (wk1 hE rfl rfl rfl hc17) rfl rfl hE hp (v := (.bool (!x25))) (ex_move rfl hE rfl) ?_
                            intro a hE
                            refine s_val (wk1 hE rfl rfl rfl hc17) rfl rfl hE hp (v := (.bool (x24.2.1 == (!x25)))) (ex_beql bty4 rfl hE rfl rfl) ?_
                            intro a hE
                            refine s_val (wk0 rfl) rfl rfl hE hp (v := (.bool (x24.2.1 == (!x25)))) (ex_pick1 rfl hE rfl hc17 rfl) ?_
                            intro a hE
                            have hE := hE.eqv (v' := (.bool (((decide (x15.2 = 0)) && (decide (x24.2.2 = 0))) && (x24.2.1 == (!x25))))) (by rw [hc17]; rfl)
                            exact s_nil ⟨hE.cut ⟨rfl, rfl, rfl, rfl, rfl, trivial⟩, hp⟩
                          ·
                            refine s_skip (wk2 hE rfl rfl rfl hc17) rfl rfl hE ?_
                            intro a hE
                            refine s_skip (wk2 hE rfl rfl rfl hc17) rfl rfl hE ?_
                            intro a hE
                            refine s_skip (wk2 hE rfl rfl rfl hc17) rfl rfl hE ?_
                            intro a hE
                            refine s_val (wk0 rfl) rfl rfl hE hp (v := (.bool false)) (ex_pick0 rfl hE rfl hc17 rfl) ?_
                            intro a hE
                            have hE := hE.eqv (v' := (.bool (((decide (x15.2 = 0)) && (decide (x24.2.2 = 0))) && (x24.2.1 == (!x25))))) (by rw [hc17]; rfl)
                            exact s_nil ⟨hE.cut ⟨rfl, rfl, rfl, rfl, rfl, trivial⟩, hp⟩
                        · rintro a w ⟨hE, hp⟩
                          refine s_val (wk0 rfl) rfl rfl hE hp (v := (.bool (((decide (x15.2 = 0)) && (decide (x24.2.2 = 0))) && (x24.2.1 == (!x25))))) (ex_move rfl hE rfl) ?_
                          intro a hE
                          obtain ⟨m1, hg1, hm⟩ := bnd hm
                          refine s_cut [_, _, _, _, _, _] (fun a w => Env 165 [(155, (.bool m1)), (13, w20), (21, vr10), (24, (.bool (!x25)))] a ∧ Hp Z ρ (OwnSl 4 vr4 x3.1 :: TblA 25 3 vr2_clauses usr2_clauses (x2.1.clauses : (List (List Int))) :: OwnSl 3 w7 b3 :: OwnSl 3 vr10 x24.1 :: OwnSl 3 w20 b8 :: OwnSl 3 w12 b6 :: OwnSl 4 vr8 x15.1 :: Pt b2 (.cells #[(.int .i64 x2.1.vars), vr2_clauses] 24 (0, 0)) :: Pt b1 (.cells #[(.int .i64 p0.inputs), vp0_gates] 38 (0, 0)) :: L) w) ?_ ?_
                          · rcases Bool.eq_false_or_eq_true (((decide (x15.2 = 0)) && (decide (x24.2.2 = 0))) && (x24.2.1 == (!x25))) with hc18 | hc18
                            ·
                              replace hg1 := (it hc18).symm.trans hg1
                              refine s_val (wk1 hE rfl rfl rfl hc18) rfl rfl hE hp (v := (.agg #[(.int .i64 x2.1.vars), vr2_clauses])) (ex_load rfl hE rfl (fun w hw => run_ldN (cs := [(.int .i64 x2.1.vars), vr2_clauses]) varty24 (Hp.cN 7 rfl 0 _ (sub_all rfl) w hw))) ?_
                              intro a hE
                              refine s_val (wk1 hE rfl rfl rfl hc18) rfl rfl hE hp (v := w20) (ex_move rfl hE rfl) ?_
                              intro a hE
                              obtain ⟨k5, k5a, k5d, k5h⟩ := (hp.get 1 rfl).lend
                              obtain ⟨k6, k6a, k6d, k6h⟩ := (k5h.get 3 rfl).lend
                              obtain ⟨x26, ex26, hg1⟩ := bnd hg1
                              refine s_call (wk1 hE rfl rfl rfl hc18) rfl rfl hE rfl [(.agg #[(.int .i64 x2.1.vars), vr2_clauses]), w20] ⟨rfl, rfl, trivial⟩ ent17 (c_cnf_Holds (Tabs.mono (Tabs.mono hT (PH.le_un _ k5)) (PH.le_un _ k6)) x2.1 vr2_clauses (RoSl.mono (TblA.ro k5d k5a) (PH.le_un _ _)) b8 w20 (OwnSl.ro k6d k6a) k6h x26 ex26) Ret.ret ?_
                              intro v a w hR hE
                              obtain ⟨rfl, hp⟩ := Ret.of hR
                              have hp := Hp.back k6a k6d hp
                              have hp := Hp.back k5a k5d hp
                              have hp : Hp Z ρ (_ :: _ :: _ :: _ :: _ :: _ :: _ :: _ :: _ :: L) w := hp
                              refine s_val (wk1 hE rfl rfl rfl hc18) rfl rfl hE hp (v := (.bool (!x25))) (ex_move rfl hE rfl) ?_
                              intro a hE
                              refine s_val (wk1 hE rfl rfl rfl hc18) rfl rfl hE hp (v := (.bool (x26 == (!x25)))) (ex_beql bty4 rfl hE rfl rfl) ?_
                              intro a hE
                              refine s_val (wk0 rfl) rfl rfl hE hp (v := (.bool (x26 == (!x25)))) (ex_pick1 rfl hE rfl hc18 rfl) ?_
                              intro a hE
                              obtain rfl := Option.some.inj hg1
                              exact s_nil ⟨hE.cut ⟨rfl, rfl, rfl, rfl, trivial⟩, (((((((((hp.get 8 rfl).get 8 rfl).get 8 rfl).get 8 rfl).get 5 rfl).get 8 rfl).get 8 rfl).get 7 rfl).get 8 rfl)⟩
                            ·
                              replace hg1 := (ie hc18).symm.trans hg1
                              refine s_skip (wk2 hE rfl rfl rfl hc18) rfl rfl hE ?_
                              intro a hE
                              refine s_skip (wk2 hE rfl rfl rfl hc18) rfl rfl hE ?_
                              intro a hE
                              refine s_skip (wk2 hE rfl rfl rfl hc18) rfl rfl hE ?_
                              intro a hE
                              refine s_skip (wk2 hE rfl rfl rfl hc18) rfl rfl hE ?_
                              intro a hE
                              refine s_skip (wk2 hE rfl rfl rfl hc18) rfl rfl hE ?_
                              intro a hE
                              refine s_val (wk0 rfl) rfl rfl hE hp (v := (.bool false)) (ex_pick0 rfl hE rfl hc18 rfl) ?_
                              intro a hE
                              obtain rfl := Option.some.inj hg1
                              exact s_nil ⟨hE.cut ⟨rfl, rfl, rfl, rfl, trivial⟩, hp⟩
                          · rintro a w ⟨hE, hp⟩
                            refine s_val (wk0 rfl) rfl rfl hE hp (v := (.bool m1)) (ex_move rfl hE rfl) ?_
                            intro a hE
                            obtain ⟨m2, hg2, hm⟩ := bnd hm
                            refine s_cut [_, _, _, _, _, _, _, _] (fun a w => Env 165 [(164, (.bool m2))] a ∧ Hp Z ρ (OwnSl 4 vr4 x3.1 :: TblA 25 3 vr2_clauses usr2_clauses (x2.1.clauses : (List (List Int))) :: OwnSl 3 w7 b3 :: OwnSl 3 vr10 x24.1 :: OwnSl 3 w20 b8 :: OwnSl 3 w12 b6 :: OwnSl 4 vr8 x15.1 :: Pt b2 (.cells #[(.int .i64 x2.1.vars), vr2_clauses] 24 (0, 0)) :: Pt b1 (.cells #[(.int .i64 p0.inputs), vp0_gates] 38 (0, 0)) :: L) w) ?_ ?_
                            · rcases Bool.eq_false_or_eq_true m1 with hc19 | hc19
                              ·
                                replace hg2 := (it hc19).symm.trans hg2
                                refine s_val (wk1 hE rfl rfl rfl hc19) rfl rfl hE hp (v := (.bool (!x25))) (ex_move rfl hE rfl) ?_
                                intro a hE
                                refine s_val (wk1 hE rfl rfl rfl hc19) rfl rfl hE hp (v := (.bool (!(!x25)))) (ex_not rfl hE rfl) ?_
                                intro a hE
                                refine s_val (wk1 hE rfl rfl rfl hc19) rfl rfl hE hp (v := (.bool (!(!x25)))) (ex_move rfl hE rfl) ?_
                                intro a hE
                                obtain ⟨m3, hg3, hg2⟩ := bnd hg2
                                refine s_cut [_, _, _, _] (fun a w => Env 165 [(163, (.bool m3)), (156, (.bool m1))] a ∧ Hp Z ρ (OwnSl 4 vr4 x3.1 :: TblA 25 3 vr2_clauses usr2_clauses (x2.1.clauses : (List (List Int))) :: OwnSl 3 w7 b3 :: OwnSl 3 vr10 x24.1 :: OwnSl 3 w20 b8 :: OwnSl 3 w12 b6 :: OwnSl 4 vr8 x15.1 :: Pt b2 (.cells #[(.int .i64 x2.1.vars), vr2_clauses] 24 (0, 0)) :: Pt b1 (.cells #[(.int .i64 p0.inputs), vp0_gates] 38 (0, 0)) :: L) w) ?_ ?_
                                · rcases Bool.eq_false_or_eq_true (!(!x25)) with hc20 | hc20
                                  ·
                                    replace hg3 := (it hc20).symm.trans hg3
                                    refine s_skip (wk2 hE rfl rfl rfl hc20) rfl rfl hE ?_
                                    intro a hE
                                    refine s_skip (wk2 hE rfl rfl rfl hc20) rfl rfl hE ?_
                                    intro a hE
                                    refine s_skip (wk2 hE rfl rfl rfl hc20) rfl rfl hE ?_
                                    intro a hE
                                    refine s_val (wk1 hE rfl rfl rfl hc19) rfl rfl hE hp (v := (.bool true)) (ex_pick1 rfl hE rfl hc20 rfl) ?_
                                    intro a hE
                                    obtain rfl := Option.some.inj hg3
                                    exact s_nil ⟨hE.cut ⟨rfl, rfl, trivial⟩, hp⟩
                                  ·
                                    replace hg3 := (ie hc20).symm.trans hg3
                                    refine s_val (wk1 hE rfl rfl rfl hc20) rfl rfl hE hp (v := vr10) (ex_move rfl hE rfl) ?_
                                    intro a hE
                                    refine s_val (wk1 hE rfl rfl rfl hc20) rfl rfl hE hp (v := w20) (ex_move rfl hE rfl) ?_
                                    intro a hE
                                    obtain ⟨k7, k7a, k7d, k7h⟩ := (hp.get 3 rfl).lend
                                    obtain ⟨k8, k8a, k8d, k8h⟩ := (k7h.get 3 rfl).lend
                                    obtain ⟨x27, ex27, hg3⟩ := bnd hg3
                                    refine s_call (wk1 hE rfl rfl rfl hc20) rfl rfl hE rfl [vr10, w20] ⟨rfl, rfl, trivial⟩ ent14 (c_slices_Equal_int_int_ (Tabs.mono (Tabs.mono hT (PH.le_un _ k7)) (PH.le_un _ k8)) x24.1 vr10 (RoSl.mono (OwnSl.ro k7d k7a) (PH.le_un _ _)) b8 w20 (OwnSl.ro k8d k8a) k8h x27 ex27) Ret.ret ?_
                                    intro v a w hR hE
                                    obtain ⟨rfl, hp⟩ := Ret.of hR
                                    have hp := Hp.back k8a k8d hp
                                    have hp := Hp.back k7a k7d hp
                                    have hp : Hp Z ρ (_ :: _ :: _ :: _ :: _ :: _ :: _ :: _ :: _ :: L) w := hp
                                    refine s_val (wk1 hE rfl rfl rfl hc19) rfl rfl hE hp (v := (.bool x27)) (ex_pick0 rfl hE rfl hc20 rfl) ?_
                                    intro a hE
                                    obtain rfl := Option.some.inj hg3
                                    exact s_nil ⟨hE.cut ⟨rfl, rfl, trivial⟩, (((((((((hp.get 8 rfl).get 8 rfl).get 8 rfl).get 8 rfl).get 5 rfl).get 5 rfl).get 8 rfl).get 8 rfl).get 8 rfl)⟩
                                · rintro a w ⟨hE, hp⟩
                                  refine s_val (wk0 rfl) rfl rfl hE hp (v := (.bool m3)) (ex_pick1 rfl hE rfl hc19 rfl) ?_
                                  intro a hE
                                  obtain rfl := Option.some.inj hg2
                                  exact s_nil ⟨hE.cut ⟨rfl, trivial⟩, hp⟩
                              ·
                                replace hg2 := (ie hc19).symm.trans hg2
                                refine s_skip (wk2 hE rfl rfl rfl hc19) rfl rfl hE ?_
                                intro a hE
                                refine s_skip (wk2 hE rfl rfl rfl hc19) rfl rfl hE ?_
                                intro a hE
                                refine s_skip (wk2 hE rfl rfl rfl hc19) rfl rfl hE ?_
                                intro a hE
                                refine s_skip (wk3 hE rfl rfl rfl) rfl rfl hE ?_
                                intro a hE
                                refine s_skip (wk3 hE rfl rfl rfl) rfl rfl hE ?_
                                intro a hE
                                refine s_skip (wk3 hE rfl rfl rfl) rfl rfl hE ?_
                                intro a hE
                                refine s_skip (wk2 hE rfl rfl rfl hc19) rfl rfl hE ?_
                                intro a hE
                                refine s_val (wk0 rfl) rfl rfl hE hp (v := (.bool false)) (ex_pick0 rfl hE rfl hc19 rfl) ?_
                                intro a hE
                                obtain rfl := Option.some.inj hg2
                                exact s_nil ⟨hE.cut ⟨rfl, trivial⟩, hp⟩
                            · rintro a w ⟨hE, hp⟩
                              refine s_val (wk0 rfl) rfl rfl hE hp (v := (.bool m2)) (ex_asn rfl hE rfl) ?_
                              intro a hE
                              refine s_nil ?_
                              refine k_ret ?_
                              obtain rfl := Option.some.inj hm
                              exact ret1 hE rfl rfl ⟨_, rfl, rfl, (((((((((((((((((hp.get 8 rfl).drop).get 7 rfl).drop).get 6 rfl).drop).get 5 rfl).drop).get 4 rfl).drop).get 3 rfl).drop).get 2 rfl).drop).get 1 rfl).drop).drop)⟩
end Go.Proofs.YtelioaepnpnojaaGreatDoor

/- Maps from integers whose entries are told in the order of the keys, wherever they lie. Plain theorems over any program. -/
set_option linter.unusedVariables false
set_option linter.unusedSimpArgs false
namespace Go.Proofs.YtelioaepnpnojaaGreatDoor
open Vl (vl)
open Go.RowKit
section
variable {β : Type}
end
def MapU {β : Type} [Vl β] (b : Nat) (l : List (Int × β)) : Atom := fun h => ∃ l', MapA b l' h ∧ l'.Perm l
section
variable {Rn : Option Nat} {P : Program} {ops : Array Oper} {Q : Exit → Act → World → Prop} {rest : List Oper} {o : Oper} {a : Act} {w : World} {Df : List Deferred} {N : Nat} {E : Ent} {d : Nat} {Z : World} {ρ : PH} {L : List Atom}
variable {β : Type} [Vl β] {b : Nat} {l : List (Int × β)}
theorem MapU.of (h : Hp Z ρ (MapA b l :: L) w) : Hp Z ρ (MapU b l :: L) w := h.imp fun _ k => ⟨l, k, List.Perm.refl _⟩
theorem MapU.shut {l' : List (Int × β)} (h : Hp Z ρ (MapA b l' :: L) w) (hp : l'.Perm l) : Hp Z ρ (MapU b l :: L) w := h.imp fun _ k => ⟨l', k, hp⟩
end
end Go.Proofs.YtelioaepnpnojaaGreatDoor

/- Words for plain laws: loops that count, part steps that do not fail, sorted lists. No program is named. -/
set_option linter.unusedVariables false
set_option linter.unusedSimpArgs false
namespace Go.Proofs.YtelioaepnpnojaaGreatDoor
open Go.RowKit
theorem loop_at {σ β : Type} {body : σ → Option (Step σ β)} {b : β} (S : Nat → σ) : ∀ (n : Nat), (∀ k, k < n → body (S k) = some (.next (S (k + 1)))) → body (S n) = some (.done b) → loopM body (S 0) = some b
  | 0, _, h => loopM_done h
  | n + 1, h1, h2 => by
    rw [loopM_next (h1 0 (by omega))]
    exact loop_at (fun k => S (k + 1)) n (fun k hk => h1 (k + 1) (by omega)) h2
theorem loop_from {σ β : Type} {body : σ → Option (Step σ β)} {b : β} {s : σ} (S : Nat → σ) (n : Nat) (h0 : s = S 0) (h1 : ∀ k, k < n → body (S k) = some (.next (S (k + 1)))) (h2 : body (S n) = some (.done b)) : loopM body s = some b := by
  rw [h0]; exact loop_at S n h1 h2
theorem inK_eq {n : Int} (h : -9223372036854775808 ≤ n ∧ n ≤ 9223372036854775807) : inK .i64 n = some n := inK_ok n h.1 h.2
theorem idx_nat {α : Type} {l : List α} {k : Nat} {a : α} (h : l[k]? = some a) : idx l (k : Int) = some a := by
  unfold idx; rw [if_pos (by omega)]; simpa using h
theorem idx_of {α : Type} {l : List α} {i : Int} {a : α} (h0 : 0 ≤ i) (h : l[i.toNat]? = some a) : idx l i = some a := by
  unfold idx; rw [if_pos h0, h]
theorem get_of_lt {α : Type} {l : List α} {k : Nat} (h : k < l.length) : ∃ a, l[k]? = some a := ⟨_, List.getElem?_eq_getElem h⟩
theorem app_ok {α : Type} {l m : List α} (h : l.length + m.length ≤ 4294967296) : app l m = some (l ++ m) := by unfold app; rw [if_pos h]
theorem sub_ok {α : Type} {l : List α} {i j : Int} (h0 : 0 ≤ i) (h1 : i ≤ j) (h2 : j ≤ l.length) : sub l i j = some ((l.take j.toNat).drop i.toNat) := by unfold sub; rw [if_pos ⟨h0, h1, h2⟩]
theorem remK_pos {m n : Int} (hm : 0 ≤ m) (hn : 0 < n) : remK m n = some (m % n) := by
  unfold remK
  rw [if_pos (by omega), Int.tmod_eq_emod_of_nonneg hm]
theorem quoK_pos {m n : Int} (hm : 0 ≤ m) (hn : 0 < n) (h : m ≤ 9223372036854775807) : quoK .i64 m n = some (m / n) := by
  unfold quoK
  have h1 : m.tdiv n = m / n := Int.tdiv_eq_ediv_of_nonneg hm
  have h2 : 0 ≤ m / n := Int.ediv_nonneg hm (by omega)
  have h3 : m / n ≤ m := Int.ediv_le_self n hm
  rw [h1, if_pos ⟨by omega, by rw [IntKind.wrap_i64]; omega⟩]
theorem mkc_ok {α : Type} {n c : Int} {z : α} (h : 0 ≤ n ∧ n ≤ c ∧ c ≤ 4294967296) : mkc n c z = some (List.replicate n.toNat z) := by unfold mkc; rw [if_pos h]
theorem catK_ok {a b : ByteArray} (h : a.size + b.size ≤ 4294967296) : catK a b = some (a ++ b) := by unfold catK; rw [if_pos h]
theorem I64.r {n : Int} (h : (Lit.int .i64 n).wf = true) : -9223372036854775808 ≤ n ∧ n ≤ 9223372036854775807 := by
  simp [Lit.wf, IntKind.min, IntKind.max, IntKind.signed, IntKind.bits] at h
  exact ⟨by omega, by omega⟩
theorem U8.r {n : Int} (h : (Lit.int .u8 n).wf = true) : 0 ≤ n ∧ n ≤ 255 := by
  simp [Lit.wf, IntKind.min, IntKind.max, IntKind.signed, IntKind.bits] at h
  omega
theorem first_or {α : Type} (p : α → Bool) : ∀ (l : List α), (∃ k a, l[k]? = some a ∧ p a = true ∧ (∀ j b, j < k → l[j]? = some b → p b = false) ∧ l.any p = true ∧ l.findIdx p = k) ∨ ((∀ a ∈ l, p a = false) ∧ l.any p = false ∧ l.findIdx p = l.length)
  | [] => Or.inr ⟨by simp, rfl, rfl⟩
  | x :: l => by
    cases hx : p x with
    | true => exact Or.inl ⟨0, x, rfl, hx, fun j b hj => by omega, by simp [hx], by simp [List.findIdx_cons, hx]⟩
    | false =>
      rcases first_or p l with ⟨k, a, h1, h2, h3, h4, h5⟩ | ⟨h1, h2, h3⟩
      · refine Or.inl ⟨k + 1, a, by simpa using h1, h2, fun j b hj hb => ?_, by simp [hx, h4], by simp [List.findIdx_cons, hx, h5]⟩
        cases j with
        | zero => simp at hb; subst hb; exact hx
        | succ j => exact h3 j b (by omega) (by simpa using hb)
      · refine Or.inr ⟨fun a ha => ?_, by simp [hx, h2], by simp [List.findIdx_cons, hx, h3]⟩
        rcases List.mem_cons.1 ha with rfl | ha
        · exact hx
        · exact h1 a ha
theorem scan_loop {α β : Type} {body : Int → Option (Step Int β)} (l : List α) (p : α → Bool) (hit : Nat → α → β) (miss : β)
    (h1 : ∀ (k : Nat) a, l[k]? = some a → body k = some (if p a = true then .done (hit k a) else .next ((k + 1 : Nat) : Int))) (h2 : body (l.length : Int) = some (.done miss)) :
    (∃ k a, l[k]? = some a ∧ p a = true ∧ (∀ j b, j < k → l[j]? = some b → p b = false) ∧ l.any p = true ∧ l.findIdx p = k ∧ loopM body 0 = some (hit k a)) ∨ ((∀ a ∈ l, p a = false) ∧ l.any p = false ∧ l.findIdx p = l.length ∧ loopM body 0 = some miss) := by
  rcases first_or p l with ⟨k, a, a1, a2, a3, a4, a5⟩ | ⟨a1, a2, a3⟩
  · refine Or.inl ⟨k, a, a1, a2, a3, a4, a5, loop_from (fun j => (j : Int)) k rfl (fun j hj => ?_) ?_⟩
    · obtain ⟨b, hb⟩ := get_of_lt (show j < l.length by have := (List.getElem?_eq_some_iff.1 a1).1; omega)
      rw [h1 j b hb, a3 j b hj hb]; rfl
    · rw [h1 k a a1, a2]; rfl
  · refine Or.inr ⟨a1, a2, a3, loop_from (fun j => (j : Int)) l.length rfl (fun j hj => ?_) h2⟩
    obtain ⟨b, hb⟩ := get_of_lt hj
    rw [h1 j b hb, a1 b (List.mem_of_getElem? hb)]; rfl
theorem any_loop {α β : Type} {body : Int → Option (Step Int β)} (l : List α) (p : α → Bool) (hit miss : β)
    (h1 : ∀ (k : Nat) a, l[k]? = some a → body k = some (if p a = true then .done hit else .next ((k + 1 : Nat) : Int))) (h2 : body (l.length : Int) = some (.done miss)) : loopM body 0 = some (if l.any p = true then hit else miss) := by
  rcases scan_loop l p (fun _ _ => hit) miss h1 h2 with ⟨k, a, _, _, _, h, _, e⟩ | ⟨_, h, _, e⟩
  · rw [e, h]; rfl
  · rw [e, h]; rfl
theorem same_loop {α β : Type} [DecidableEq α] {body : Int → Option (Step Int β)} {a b : List α} (hl : a.length = b.length) (hit miss : β)
    (h1 : ∀ (k : Nat) x y, a[k]? = some x → b[k]? = some y → body k = some (if x = y then .next ((k + 1 : Nat) : Int) else .done hit)) (h2 : body (a.length : Int) = some (.done miss)) : loopM body 0 = some (if a = b then miss else hit) := by
  have hzl : (a.zip b).length = a.length := by rw [List.length_zip]; omega
  have hz : (a.zip b).any (fun p => decide (p.1 ≠ p.2)) = decide (a ≠ b) := by
    clear h1 h2 hzl
    induction a generalizing b with
    | nil => cases b with
      | nil => simp
      | cons y b => simp at hl
    | cons x a ih => cases b with
      | nil => simp at hl
      | cons y b =>
        simp only [List.length_cons, Nat.add_right_cancel_iff] at hl
        simp only [List.zip_cons_cons, List.any_cons, ih hl, ne_eq, List.cons.injEq]
        by_cases hx : x = y <;> by_cases hb : a = b <;> simp [hx, hb]
  have := any_loop (body := body) (a.zip b) (fun p => decide (p.1 ≠ p.2)) hit miss (fun k p hp => by
    obtain ⟨x, y⟩ := p
    have hk := (List.getElem?_eq_some_iff.1 hp).1
    rw [hzl] at hk
    obtain ⟨x', hx⟩ := get_of_lt hk
    obtain ⟨y', hy⟩ := get_of_lt (show k < b.length by omega)
    rw [List.getElem?_zip_eq_some] at hp
    rw [h1 k x y hp.1 hp.2]
    by_cases h : x = y <;> simp [h]) (by rw [hzl]; exact h2)
  rw [this, hz]
  by_cases h : a = b <;> simp [h]
theorem bind_any {α β γ : Type} {body : Int → Option (Step Int β)} {f : β → Option γ} {r : Option γ} (l : List α) (p : α → Bool) (hit miss : β)
    (h1 : ∀ (k : Nat) a, l[k]? = some a → body k = some (if p a = true then .done hit else .next ((k + 1 : Nat) : Int))) (h2 : body (l.length : Int) = some (.done miss)) (hf : f (if l.any p = true then hit else miss) = r) : (loopM body 0).bind f = r := by
  rw [any_loop l p hit miss h1 h2]; exact hf
theorem bind_same {α β γ : Type} [DecidableEq α] {body : Int → Option (Step Int β)} {f : β → Option γ} {r : Option γ} {a b : List α} (hl : a.length = b.length) (hit miss : β)
    (h1 : ∀ (k : Nat) x y, a[k]? = some x → b[k]? = some y → body k = some (if x = y then .next ((k + 1 : Nat) : Int) else .done hit)) (h2 : body (a.length : Int) = some (.done miss)) (hf : f (if a = b then miss else hit) = r) : (loopM body 0).bind f = r := by
  rw [same_loop hl hit miss h1 h2]; exact hf
theorem drop_cons_of {α : Type} {l : List α} {k : Nat} {a : α} (h : l[k]? = some a) : l.drop k = a :: l.drop (k + 1) := by
  obtain ⟨h1, h2⟩ := List.getElem?_eq_some_iff.1 h
  rw [← h2]; exact List.drop_eq_getElem_cons h1
theorem take_snoc_of {α : Type} {l : List α} {k : Nat} {a : α} (h : l[k]? = some a) : l.take (k + 1) = l.take k ++ [a] := by
  obtain ⟨h1, h2⟩ := List.getElem?_eq_some_iff.1 h
  rw [← h2]; exact List.take_succ_eq_append_getElem h1
theorem rising_ext {α : Type} {r : α → α → Prop} (irr : ∀ a, ¬ r a a) (tr : ∀ a b c, r a b → r b c → r a c) : ∀ {l m : List α}, l.Pairwise r → m.Pairwise r → (∀ x, x ∈ l ↔ x ∈ m) → l = m
  | [], [], _, _, _ => rfl
  | [], b :: m, _, _, h => by have := (h b).2 (List.mem_cons_self ..); simp at this
  | a :: l, [], _, _, h => by have := (h a).1 (List.mem_cons_self ..); simp at this
  | a :: l, b :: m, hl, hm, h => by
    obtain ⟨l1, l2⟩ := List.pairwise_cons.1 hl
    obtain ⟨m1, m2⟩ := List.pairwise_cons.1 hm
    have e : a = b := by
      rcases List.mem_cons.1 ((h a).1 (List.mem_cons_self ..)) with e | h1
      · exact e
      · rcases List.mem_cons.1 ((h b).2 (List.mem_cons_self ..)) with e | h2
        · exact e.symm
        · exact absurd (tr _ _ _ (m1 a h1) (l1 b h2)) (irr b)
    subst e
    congr 1
    refine rising_ext irr tr l2 m2 fun x => ?_
    constructor
    · intro hx
      rcases List.mem_cons.1 ((h x).1 (List.mem_cons_of_mem _ hx)) with e | h1
      · subst e; exact absurd (l1 x hx) (irr x)
      · exact h1
    · intro hx
      rcases List.mem_cons.1 ((h x).2 (List.mem_cons_of_mem _ hx)) with e | h1
      · subst e; exact absurd (m1 x hx) (irr x)
      · exact h1
theorem mget_mput {κ β : Type} [DecidableEq κ] (l : List (κ × β)) (k x : κ) (v : β) : mget (mput l k v) x = if x = k then some v else mget l x := by
  induction l with
  | nil => by_cases h : k = x <;> simp [mput, mget, h, eq_comm]
  | cons p l ih =>
    unfold mput
    by_cases h : p.1 = k
    · rw [if_pos h]
      by_cases hx : x = k
      · subst hx; simp [mget]
      · have h1 : ¬ k = x := fun e => hx e.symm
        have h2 : ¬ p.1 = x := fun e => hx (e.symm.trans h)
        simp [mget, List.find?_cons, hx, h1, h2]
    · rw [if_neg h]
      by_cases hx : p.1 = x
      · have h3 : ¬ x = k := fun e => h (hx.trans e)
        simp [mget, List.find?_cons, hx, h3]
      · unfold mget at ih ⊢
        rw [List.find?_cons_of_neg (by simpa using hx), List.find?_cons_of_neg (by simpa using hx)]
        exact ih
end Go.Proofs.YtelioaepnpnojaaGreatDoor

/- Loops over lists with a state, and small words for plain laws. No program is named. -/
set_option linter.unusedVariables false
set_option linter.unusedSimpArgs false
namespace Go.Proofs.YtelioaepnpnojaaGreatDoor
open Go.RowKit
def runL {α τ β : Type} (f : α → τ → Step τ β) (g : τ → β) : List α → τ → β
  | [], t => g t
  | a :: l, t => match f a t with
    | .next t' => runL f g l t'
    | .done b => b
theorem loopL {α τ S β : Type} {body : S → Option (Step S β)} {s0 : S} (l : List α) (E : Nat → τ → S) (f : α → τ → Step τ β) (g : τ → β) (I : Nat → τ → Prop) {t0 : τ} (hs0 : s0 = E 0 t0) (h0 : I 0 t0)
    (hs : ∀ k a t, l[k]? = some a → I k t → body (E k t) = some (match f a t with | .next t' => .next (E (k + 1) t') | .done b => .done b) ∧ (∀ t', f a t = .next t' → I (k + 1) t'))
    (he : ∀ t, I l.length t → body (E l.length t) = some (.done (g t))) : loopM body s0 = some (runL f g l t0) := by
  have key : ∀ (m k : Nat) (t : τ), k + m = l.length → I k t → loopM body (E k t) = some (runL f g (l.drop k) t) := by
    intro m
    induction m with
    | zero =>
      intro k t hk hi
      have hk : k = l.length := by omega
      subst hk
      rw [loopM_done (he t hi), List.drop_length]; rfl
    | succ m ih =>
      intro k t hk hi
      obtain ⟨a, ha⟩ := get_of_lt (show k < l.length by omega)
      obtain ⟨h1, h2⟩ := hs k a t ha hi
      rw [drop_cons_of ha]
      unfold runL
      cases hf : f a t with
      | next t' =>
        rw [hf] at h1
        rw [loopM_next h1]
        exact ih (k + 1) t' (by omega) (h2 t' hf)
      | done b =>
        rw [hf] at h1
        exact loopM_done h1
  rw [hs0]
  simpa using key l.length 0 t0 (by omega) h0
theorem loopN {τ S β : Type} {body : S → Option (Step S β)} {s0 : S} (n : Nat) (E : Nat → τ → S) (I : Nat → τ → Prop) (Post : β → Prop) {t0 : τ} (hs0 : s0 = E 0 t0) (h0 : I 0 t0)
    (hs : ∀ k t, k < n → I k t → (∃ t', body (E k t) = some (.next (E (k + 1) t')) ∧ I (k + 1) t') ∨ (∃ b, body (E k t) = some (.done b) ∧ Post b))
    (he : ∀ t, I n t → ∃ b, body (E n t) = some (.done b) ∧ Post b) : ∃ b, loopM body s0 = some b ∧ Post b := by
  have key : ∀ (m k : Nat) (t : τ), k + m = n → I k t → ∃ b, loopM body (E k t) = some b ∧ Post b := by
    intro m
    induction m with
    | zero =>
      intro k t hk hi
      obtain rfl : k = n := by omega
      obtain ⟨b, h1, h2⟩ := he t hi
      exact ⟨b, loopM_done h1, h2⟩
    | succ m ih =>
      intro k t hk hi
      rcases hs k t (by omega) hi with ⟨t', h1, h2⟩ | ⟨b, h1, h2⟩
      · obtain ⟨b, h3, h4⟩ := ih (k + 1) t' (by omega) h2
        exact ⟨b, by rw [loopM_next h1]; exact h3, h4⟩
      · exact ⟨b, loopM_done h1, h2⟩
  rw [hs0]
  exact key n 0 t0 (by omega) h0
theorem bsm {α β : Type} (a : α) (f : α → Option β) : (some a).bind f = f a := Eq.trans (congrArg (fun x => Option.bind x f) (Eq.refl (some a))) rfl
theorem len_lt {α : Type} {l : List α} {k : Nat} {a : α} (h : l[k]? = some a) : k < l.length := (List.getElem?_eq_some_iff.1 h).1
theorem mem_get {α : Type} {l : List α} {k : Nat} {a : α} (h : l[k]? = some a) : a ∈ l := List.mem_of_getElem? h
theorem inK_up {k : Nat} {n : Nat} (h : k < n) (hn : n ≤ 9223372036854775807) : inK .i64 ((k : Int) + 1) = some ((k + 1 : Nat) : Int) := by
  rw [inK_eq ⟨by omega, by omega⟩]; rfl
theorem inK_at {n m : Int} (e : n = m) (h : -9223372036854775808 ≤ m ∧ m ≤ 9223372036854775807) : inK .i64 n = some m := by rw [e]; exact inK_eq h
theorem ltB {k n : Nat} (h : k < n) : (decide ((k : Int) < (n : Int))) = true := by simpa using h
theorem ltB' {n : Nat} : ¬ (decide ((n : Int) < (n : Int))) = true := by simp
theorem vr_nn (l : Int) : 0 ≤ vr l := by unfold vr; omega
theorem vr_neg (l : Int) : vr (-l) = vr l := by unfold vr; omega
theorem vr_zero {l : Int} : vr l = 0 ↔ l = 0 := by unfold vr; omega
theorem vr_eq {l m : Int} : vr l = vr m ↔ l = m ∨ l = -m := by unfold vr; omega
theorem vr_le {l v : Int} : vr l ≤ v ↔ -v ≤ l ∧ l ≤ v := by unfold vr; omega
def clF (v : Int) : Int → List Int → Bool
  | _, [] => true
  | last, l :: r => decide (-v ≤ l) && decide (l ≤ v) && decide (last < vr l) && clF v (vr l) r
end Go.Proofs.YtelioaepnpnojaaGreatDoor

/- The code goes as its model: assessor/gates.nodes, assessor/gates.Not, assessor/gates.Valid, (*assessor/gates.Builder).literal, assessor/gates.known, assessor/ga -/
import Derived.Test.YtelioaepnpnojaaGreatDoorKTr4
set_option linter.unusedVariables false
set_option linter.unusedSimpArgs false
namespace Go.Proofs.YtelioaepnpnojaaGreatDoor
open Go.RowKit
set_option maxRecDepth 100000 in
set_option maxHeartbeats 4000000 in
theorem c_gates_nodes {Z : World} {ρ : PH} {L : List Atom} {w : World} (hT : Tabs ρ) (p0 : Gates) (vp0_gates : Value) (hp0_gates : RoSl ρ vp0_gates p0.gates) (hp : Hp Z ρ (L) w) (r : Int) (hm : m_gates_nodes p0 = some r) :
    Calls Tryz.prog 79 #[(.agg #[(.int .i64 p0.inputs), vp0_gates])] w (Ret fun v w' => v = (.int .i64 r) ∧ Hp Z ρ (L) w') := by
  refine enter (N := 10) Tryz.func79 rfl rfl [(0, (.agg #[(.int .i64 p0.inputs), vp0_gates]))] rfl (argsIn_mem ⟨rfl, trivial⟩) fun a hE => ?_
  unfold m_gates_nodes at hm
  refine k_seq ?_
  refine k_region ?_
  refine s_box (wk0 rfl) rfl rfl hE hp rfl (v := (.agg #[(.int .i64 p0.inputs), vp0_gates])) rfl ?_
  intro a w b1 hE hp
  have hp : Hp Z ρ (Pt b1 (.cells #[(.int .i64 p0.inputs), vp0_gates] 38 (0, 0)) :: L) w := hp
  refine s_val (wk0 rfl) rfl rfl hE hp (v := (.int .i64 0)) (ex_asn rfl hE rfl) ?_
  intro a hE
  refine s_nil ?_
  refine k_seq ?_
  refine k_region ?_
  refine s_val (wk0 rfl) rfl rfl hE hp (v := (.pointer (some ⟨b1, 0, none⟩))) (ex_field rfl hE rfl (fldty38_0 _ _)) ?_
  intro a hE
  refine s_val (wk0 rfl) rfl rfl hE hp (v := (.int .i64 p0.inputs)) (ex_load rfl hE rfl (fun w hw => run_ld1 varty3 (Hp.c 0 rfl 0 rfl w hw))) ?_
  intro a hE
  obtain ⟨x1, ex1, hm⟩ := bnd hm
  refine s_val (wk0 rfl) rfl rfl hE hp (v := (.int .i64 x1)) (ex_add rfl hE rfl rfl (inK_some ex1)) ?_
  intro a hE
  refine s_val (wk0 rfl) rfl rfl hE hp (v := (.pointer (some ⟨b1, 1, none⟩))) (ex_field rfl hE rfl (fldty38_1 _ _)) ?_
  intro a hE
  refine s_val (wk0 rfl) rfl rfl hE hp (v := vp0_gates) (ex_load rfl hE rfl (fun w hw => run_ld1 varty36 (Hp.c 0 rfl 1 rfl w hw))) ?_
  intro a hE
  refine s_val (wk0 rfl) rfl rfl hE hp (v := (.int .i64 (p0.gates.length : Int))) (ex_len rfl hE rfl (RoSl.len hp0_gates slty36)) ?_
  intro a hE
  obtain ⟨x2, ex2, hm⟩ := bnd hm
  refine s_val (wk0 rfl) rfl rfl hE hp (v := (.int .i64 x2)) (ex_add rfl hE rfl rfl (inK_some ex2)) ?_
  intro a hE
  refine s_val (wk0 rfl) rfl rfl hE hp (v := (.int .i64 x2)) (ex_asn rfl hE rfl) ?_
  intro a hE
  refine s_nil ?_
  refine k_ret ?_
  obtain rfl := Option.some.inj hm
  exact ret1 hE rfl rfl ⟨_, rfl, rfl, (hp.drop)⟩
set_option maxRecDepth 100000 in
set_option maxHeartbeats 4000000 in
theorem c_gates_Not {Z : World} {ρ : PH} {L : List Atom} {w : World} (hT : Tabs ρ) (p0 : Int) (hp : Hp Z ρ (L) w) (r : Int) (hm : m_gates_Not p0 = some r) :
    Calls Tryz.prog 80 #[(.int .i64 p0)] w (Ret fun v w' => v = (.int .i64 r) ∧ Hp Z ρ (L) w') := by
  refine enter (N := 5) Tryz.func80 rfl rfl [(0, (.int .i64 p0))] rfl (argsIn_mem ⟨rfl, trivial⟩) fun a hE => ?_
  unfold m_gates_Not at hm
  refine k_seq ?_
  refine k_region ?_
  refine s_val (wk0 rfl) rfl rfl hE hp (v := (.int .i64 0)) (ex_asn rfl hE rfl) ?_
  intro a hE
  refine s_nil ?_
  refine k_seq ?_
  refine k_region ?_
  refine s_val (wk0 rfl) rfl rfl hE hp (v := (.int .i64 p0)) (ex_move rfl hE rfl) ?_
  intro a hE
  refine s_val (wk0 rfl) rfl rfl hE hp (v := (.int .i64 (xorK .i64 p0 1))) (ex_xor rfl hE rfl rfl) ?_
  intro a hE
  refine s_val (wk0 rfl) rfl rfl hE hp (v := (.int .i64 (xorK .i64 p0 1))) (ex_asn rfl hE rfl) ?_
  intro a hE
  refine s_nil ?_
  refine k_ret ?_
  obtain rfl := Option.some.inj hm
  exact ret1 hE rfl rfl ⟨_, rfl, rfl, hp⟩
set_option maxRecDepth 100000 in
set_option maxHeartbeats 4000000 in
theorem c_gates_Valid {Z : World} {ρ : PH} {L : List Atom} {w : World} (hT : Tabs ρ) (p0 : Gates) (vp0_gates : Value) (hp0_gates : RoSl ρ vp0_gates p0.gates) (hp : Hp Z ρ (L) w) (r : Bool) (hm : m_gates_Valid p0 = some r) :
    Calls Tryz.prog 51 #[(.agg #[(.int .i64 p0.inputs), vp0_gates])] w (Ret fun v w' => v = (.bool r) ∧ Hp Z ρ (L) w') := by
  refine enter (N := 67) Tryz.func51 rfl rfl [(0, (.agg #[(.int .i64 p0.inputs), vp0_gates]))] rfl (argsIn_mem ⟨rfl, trivial⟩) fun a hE => ?_
  unfold m_gates_Valid at hm
  refine k_seq ?_
  refine k_region ?_
  refine s_box (wk0 rfl) rfl rfl hE hp rfl (v := (.agg #[(.int .i64 p0.inputs), vp0_gates])) rfl ?_
  intro a w b1 hE hp
  have hp : Hp Z ρ (Pt b1 (.cells #[(.int .i64 p0.inputs), vp0_gates] 38 (0, 0)) :: L) w := hp
  refine s_val (wk0 rfl) rfl rfl hE hp (v := (.bool false)) (ex_asn rfl hE rfl) ?_
  intro a hE
  refine s_nil ?_
  refine k_seq ?_
  refine k_seq ?_
  refine k_region ?_
  refine s_val (wk0 rfl) rfl rfl hE hp (v := (.pointer (some ⟨b1, 0, none⟩))) (ex_field rfl hE rfl (fldty38_0 _ _)) ?_
  intro a hE
  refine s_val (wk0 rfl) rfl rfl hE hp (v := (.int .i64 p0.inputs)) (ex_load rfl hE rfl (fun w hw => run_ld1 varty3 (Hp.c 0 rfl 0 rfl w hw))) ?_
  intro a hE
  refine s_val (wk0 rfl) rfl rfl hE hp (v := (.bool (decide (p0.inputs < 0)))) (ex_lss rfl hE rfl rfl) ?_
  intro a hE
  refine s_val (wk0 rfl) rfl rfl hE hp (v := (.bool (decide (p0.inputs < 0)))) (ex_move rfl hE rfl) ?_
  intro a hE
  refine s_cut [_, _, _, _] (fun a w => Env 67 [(14, (.bool ((decide (p0.inputs < 0)) || (decide (1024 < p0.inputs))))), (1, (.pointer (some ⟨b1, 0, none⟩)))] a ∧ Hp Z ρ (Pt b1 (.cells #[(.int .i64 p0.inputs), vp0_gates] 38 (0, 0)) :: L) w) ?_ ?_
  · rcases Bool.eq_false_or_eq_true (decide (p0.inputs < 0)) with hc1 | hc1
    ·
      refine s_skip (wk2 hE rfl rfl rfl hc1) rfl rfl hE ?_
      intro a hE
      refine s_skip (wk2 hE rfl rfl rfl hc1) rfl rfl hE ?_
      intro a hE
      refine s_skip (wk2 hE rfl rfl rfl hc1) rfl rfl hE ?_
      intro a hE
      refine s_val (wk0 rfl) rfl rfl hE hp (v := (.bool true)) (ex_pick1 rfl hE rfl hc1 rfl) ?_
      intro a hE
      have hE := hE.eqv (v' := (.bool ((decide (p0.inputs < 0)) || (decide (1024 < p0.inputs))))) (by rw [hc1]; rfl)
      exact s_nil ⟨hE.cut ⟨rfl, rfl, trivial⟩, hp⟩
    ·
      refine s_val (wk1 hE rfl rfl rfl hc1) rfl rfl hE hp (v := (.pointer (some ⟨b1, 0, none⟩))) (ex_field rfl hE rfl (fldty38_0 _ _)) ?_
      intro a hE
      refine s_val (wk1 hE rfl rfl rfl hc1) rfl rfl hE hp (v := (.int .i64 p0.inputs)) (ex_load rfl hE rfl (fun w hw => run_ld1 varty3 (Hp.c 0 rfl 0 rfl w hw))) ?_
      intro a hE
      refine s_val (wk1 hE rfl rfl rfl hc1) rfl rfl hE hp (v := (.bool (decide (1024 < p0.inputs)))) (ex_gtr rfl hE rfl rfl) ?_
      intro a hE
      refine s_val (wk0 rfl) rfl rfl hE hp (v := (.bool (decide (1024 < p0.inputs)))) (ex_pick0 rfl hE rfl hc1 rfl) ?_
      intro a hE
      have hE := hE.eqv (v' := (.bool ((decide (p0.inputs < 0)) || (decide (1024 < p0.inputs))))) (by rw [hc1]; rfl)
      exact s_nil ⟨hE.cut ⟨rfl, rfl, trivial⟩, hp⟩
  · rintro a w ⟨hE, hp⟩
    refine s_val (wk0 rfl) rfl rfl hE hp (v := (.bool ((decide (p0.inputs < 0)) || (decide (1024 < p0.inputs))))) (ex_move rfl hE rfl) ?_
    intro a hE
    obtain ⟨m1, hg1, hm⟩ := bnd hm
    refine s_cut [_, _, _, _] (fun a w => Env 67 [(19, (.bool m1)), (1, (.pointer (some ⟨b1, 0, none⟩)))] a ∧ Hp Z ρ (Pt b1 (.cells #[(.int .i64 p0.inputs), vp0_gates] 38 (0, 0)) :: L) w) ?_ ?_
    · rcases Bool.eq_false_or_eq_true ((decide (p0.inputs < 0)) || (decide (1024 < p0.inputs))) with hc2 | hc2
      ·
        replace hg1 := (it hc2).symm.trans hg1
        refine s_skip (wk2 hE rfl rfl rfl hc2) rfl rfl hE ?_
        intro a hE
        refine s_skip (wk2 hE rfl rfl rfl hc2) rfl rfl hE ?_
        intro a hE
        refine s_skip (wk2 hE rfl rfl rfl hc2) rfl rfl hE ?_
        intro a hE
        refine s_val (wk0 rfl) rfl rfl hE hp (v := (.bool true)) (ex_pick1 rfl hE rfl hc2 rfl) ?_
        intro a hE
        obtain rfl := Option.some.inj hg1
        exact s_nil ⟨hE.cut ⟨rfl, rfl, trivial⟩, hp⟩
      ·
        replace hg1 := (ie hc2).symm.trans hg1
        refine s_val (wk1 hE rfl rfl rfl hc2) rfl rfl hE hp (v := (.agg #[(.int .i64 p0.inputs), vp0_gates])) (ex_load rfl hE rfl (fun w hw => run_ldN (cs := [(.int .i64 p0.inputs), vp0_gates]) varty38 (Hp.cN 0 rfl 0 _ (sub_all rfl) w hw))) ?_
        intro a hE
        obtain ⟨x1, ex1, hg1⟩ := bnd hg1
        refine s_call (wk1 hE rfl rfl rfl hc2) rfl rfl hE rfl [(.agg #[(.int .i64 p0.inputs), vp0_gates])] ⟨rfl, trivial⟩ ent79 (c_gates_nodes hT p0 vp0_gates hp0_gates hp x1 ex1) Ret.ret ?_
        intro v a w hR hE
        obtain ⟨rfl, hp⟩ := Ret.of hR
        have hp : Hp Z ρ (_ :: L) w := hp
        refine s_val (wk1 hE rfl rfl rfl hc2) rfl rfl hE hp (v := (.bool (decide (65536 < x1)))) (ex_gtr rfl hE rfl rfl) ?_
        intro a hE
        refine s_val (wk0 rfl) rfl rfl hE hp (v := (.bool (decide (65536 < x1)))) (ex_pick0 rfl hE rfl hc2 rfl) ?_
        intro a hE
        obtain rfl := Option.some.inj hg1
        exact s_nil ⟨hE.cut ⟨rfl, rfl, trivial⟩, hp⟩
    · rintro a w ⟨hE, hp⟩
      refine s_nil ?_
      refine k_if hE rfl (fun hc3 => ?_) (fun hc3 => ?_)
      · replace hm := (it hc3).symm.trans hm
        refine k_seq ?_
        refine k_region ?_
        refine s_val (wk0 rfl) rfl rfl hE hp (v := (.bool false)) (ex_asn rfl hE rfl) ?_
        intro a hE
        refine s_nil ?_
        refine k_ret ?_
        obtain rfl := Option.some.inj hm
        exact ret1 hE rfl rfl ⟨_, rfl, rfl, (hp.drop)⟩
      · replace hm := (ie hc3).symm.trans hm
        refine k_skip ?_
        refine k_seq ?_
        refine k_region ?_
        refine s_mkmap (κ := Arr2) (β := Bool) (wk0 rfl) rfl rfl hE hp rfl ?_
        intro a w b2 hE hp
        have hp : Hp Z ρ (MapA b2 ([] : List (Arr2 × Bool)) :: _ :: L) w := hp
        refine s_val (wk0 rfl) rfl rfl hE hp (v := (.map (some b2))) (ex_asn rfl hE rfl) ?_
        intro a hE
        refine s_nil ?_
        refine k_seq ?_
        refine k_seq ?_
        refine k_region ?_
        refine s_val (wk0 rfl) rfl rfl hE hp (v := (.pointer (some ⟨b1, 1, none⟩))) (ex_field rfl hE rfl (fldty38_1 _ _)) ?_
        intro a hE
        refine s_val (wk0 rfl) rfl rfl hE hp (v := vp0_gates) (ex_load rfl hE rfl (fun w hw => run_ld1 varty36 (Hp.c 1 rfl 1 rfl w hw))) ?_
        intro a hE
        refine s_val (wk0 rfl) rfl rfl hE hp (v := (.int .i64 (p0.gates.length : Int))) (ex_len rfl hE rfl (RoSl.len hp0_gates slty36)) ?_
        intro a hE
        refine s_val (wk0 rfl) rfl rfl hE hp (v := (.int .i64 0)) (ex_move rfl hE rfl) ?_
        intro a hE
        refine s_nil ?_
        obtain ⟨b3, hc4, hm⟩ := bnd hm
        refine k_block (fun a w => ∃ s : (List (Arr2 × Bool)), b3 = .brk s ∧ (Env 67 [] a ∧ Hp Z ρ (MapA b2 (s : List (Arr2 × Bool)) :: Pt b1 (.cells #[(.int .i64 p0.inputs), vp0_gates] 38 (0, 0)) :: L) w)) ?_ ?_
        · refine k_loop hc4 (fun s a w => Env 67 [(1, (.pointer (some ⟨b1, 0, none⟩))), (3, (.map (some b2))), (22, vp0_gates), (23, (.int .i64 (p0.gates.length : Int))), (24, (.int .i64 s.1))] a ∧ Hp Z ρ (MapA b2 (s.2 : List (Arr2 × Bool)) :: Pt b1 (.cells #[(.int .i64 p0.inputs), vp0_gates] 38 (0, 0)) :: L) w) ?_ ?_
          · exact ⟨hE.cut ⟨rfl, rfl, rfl, rfl, rfl, trivial⟩, hp⟩
          · rintro ⟨lp1_0, lp1_1⟩ st a w ⟨hE, hp⟩ hl1
            have hE : Env 67 [(1, (.pointer (some ⟨b1, 0, none⟩))), (3, (.map (some b2))), (22, vp0_gates), (23, (.int .i64 (p0.gates.length : Int))), (24, (.int .i64 lp1_0))] a := hE
            have hp : Hp Z ρ (MapA b2 (lp1_1 : List (Arr2 × Bool)) :: _ :: L) w := hp
            replace hl1 : m_gates_Valid_lp1 p0 lp1_0 lp1_1 = some st := hl1
            unfold m_gates_Valid_lp1 at hl1
            refine k_seq ?_
            refine k_region ?_
            refine s_val (wk0 rfl) rfl rfl hE hp (v := (.bool (decide (lp1_0 < (p0.gates.length : Int))))) (ex_lss rfl hE rfl rfl) ?_
            intro a hE
            refine s_nil ?_
            refine k_seq ?_
            refine k_if hE rfl (fun hc5 => ?_) (fun hc5 => ?_)
            · replace hl1 := (it hc5).symm.trans hl1
              refine k_skip ?_
              refine k_seq ?_
              refine k_plain ?_
              refine k_seq ?_
              refine k_region ?_
              refine s_val (wk0 rfl) rfl rfl hE hp (v := (.int .i64 lp1_0)) (ex_move rfl hE rfl) ?_
              intro a hE
              obtain ⟨x2, ex2, hl1⟩ := bnd hl1
              obtain ⟨b4, b4o, b4c, b4r, b4k, b4f⟩ := RoSl.at hp0_gates slty36 ex2
              obtain rfl : b4c = Enc.enc x2 := b4k
              have b4f : AtP ρ b4 b4o [(.int .i64 x2.x0), (.int .i64 x2.x1)] := b4f
              refine s_val (wk0 rfl) rfl rfl hE hp (v := (.pointer (some ⟨b4, b4o, none⟩))) (ex_index rfl hE rfl rfl b4r) ?_
              intro a hE
              refine s_val (wk0 rfl) rfl rfl hE hp (v := (.agg #[(.int .i64 x2.x0), (.int .i64 x2.x1)])) (ex_load rfl hE rfl (fun w hw => run_ldN (cs := [(.int .i64 x2.x0), (.int .i64 x2.x1)]) varty62 (fun j u hj => cell_of hw.le (b4f j u hj)))) ?_
              intro a hE
              refine s_new (wk0 rfl) rfl rfl hE hp rfl [(.int .i64 0), (.int .i64 0)] (fun w => by simp [Instr.alloc, go_sem] <;> rfl) ?_
              intro a w b5 hE hp
              have hp : Hp Z ρ (Pt b5 (.cells #[(.int .i64 0), (.int .i64 0)] 62 (0, 0)) :: _ :: _ :: L) w := hp
              refine s_val (wk0 rfl) rfl rfl hE hp (v := (.int .i64 lp1_0)) (ex_asn rfl hE rfl) ?_
              intro a hE
              refine s_store (wk0 rfl) rfl hE hp rfl rfl rfl 0 rfl varty62.size_ rfl (allOne_mem ⟨rfl, rfl, trivial⟩) [(.int .i64 x2.x0), (.int .i64 x2.x1)] rfl ?_
              intro w hp
              have hp : Hp Z ρ (Pt b5 (.cells #[(.int .i64 x2.x0), (.int .i64 x2.x1)] 62 (0, 0)) :: _ :: _ :: L) w := hp
              refine s_nil ?_
              refine k_seq ?_
              refine k_region ?_
              refine s_val (wk0 rfl) rfl rfl hE hp (v := (.pointer (some ⟨b1, 0, none⟩))) (ex_field rfl hE rfl (fldty38_0 _ _)) ?_
              intro a hE
              refine s_val (wk0 rfl) rfl rfl hE hp (v := (.int .i64 p0.inputs)) (ex_load rfl hE rfl (fun w hw => run_ld1 varty3 (Hp.c 2 rfl 0 rfl w hw))) ?_
              intro a hE
              obtain ⟨x3, ex3, hl1⟩ := bnd hl1
              refine s_val (wk0 rfl) rfl rfl hE hp (v := (.int .i64 x3)) (ex_add rfl hE rfl rfl (inK_some ex3)) ?_
              intro a hE
              refine s_val (wk0 rfl) rfl rfl hE hp (v := (.int .i64 lp1_0)) (ex_move rfl hE rfl) ?_
              intro a hE
              obtain ⟨x4, ex4, hl1⟩ := bnd hl1
              refine s_val (wk0 rfl) rfl rfl hE hp (v := (.int .i64 x4)) (ex_add rfl hE rfl rfl (inK_some ex4)) ?_
              intro a hE
              refine s_val (wk0 rfl) rfl rfl hE hp (v := (.int .i64 x4)) (ex_asn rfl hE rfl) ?_
              intro a hE
              refine s_nil ?_
              refine k_seq ?_
              refine k_seq ?_
              refine k_quiet (by kernel_rfl) (by kernel_rfl) hp ?_
              refine q_val (wk0 rfl) rfl rfl hE (v := (.pointer (some ⟨b5, 0, none⟩))) (ex_index rfl hE rfl rfl (aelty62_0 _ _)) ?_
              intro a hE
              refine q_val (wk0 rfl) rfl rfl hE (v := (.int .i64 x2.x0)) (ex_load rfl hE rfl (fun w hw => run_ld1 varty3 (Hp.c 0 rfl 0 rfl w hw))) ?_
              intro a hE
              refine q_val (wk0 rfl) rfl rfl hE (v := (.bool (decide (x2.x0 < 2)))) (ex_lss rfl hE rfl rfl) ?_
              intro a hE
              refine q_val (wk0 rfl) rfl rfl hE (v := (.bool (decide (x2.x0 < 2)))) (ex_move rfl hE rfl) ?_
              intro a hE
              refine q_cut [_, _, _, _, _, _] (fun a => Env 67 [(43, (.bool ((decide (x2.x0 < 2)) || (decide (x2.x1 ≤ x2.x0))))), (1, (.pointer (some ⟨b1, 0, none⟩))), (3, (.map (some b2))), (5, (.pointer (some ⟨b5, 0, none⟩))), (6, (.int .i64 x4)), (22, vp0_gates), (23, (.int .i64 (p0.gates.length : Int))), (24, (.int .i64 lp1_0))] a) ?_ ?_
              · rcases Bool.eq_false_or_eq_true (decide (x2.x0 < 2)) with hc6 | hc6
                ·
                  refine q_skip (wk2 hE rfl rfl rfl hc6) rfl rfl hE ?_
                  intro a hE
                  refine q_skip (wk2 hE rfl rfl rfl hc6) rfl rfl hE ?_
                  intro a hE
                  refine q_skip (wk2 hE rfl rfl rfl hc6) rfl rfl hE ?_
                  intro a hE
                  refine q_skip (wk2 hE rfl rfl rfl hc6) rfl rfl hE ?_
                  intro a hE
                  refine q_skip (wk2 hE rfl rfl rfl hc6) rfl rfl hE ?_
                  intro a hE
                  refine q_val (wk0 rfl) rfl rfl hE (v := (.bool true)) (ex_pick1 rfl hE rfl hc6 rfl) ?_
                  intro a hE
                  have hE := hE.eqv (v' := (.bool ((decide (x2.x0 < 2)) || (decide (x2.x1 ≤ x2.x0))))) (by rw [hc6]; rfl)
                  exact q_nil (hE.cut ⟨rfl, rfl, rfl, rfl, rfl, rfl, rfl, rfl, trivial⟩)
                ·
                  refine q_val (wk1 hE rfl rfl rfl hc6) rfl rfl hE (v := (.pointer (some ⟨b5, 0, none⟩))) (ex_index rfl hE rfl rfl (aelty62_0 _ _)) ?_
                  intro a hE
                  refine q_val (wk1 hE rfl rfl rfl hc6) rfl rfl hE (v := (.int .i64 x2.x0)) (ex_load rfl hE rfl (fun w hw => run_ld1 varty3 (Hp.c 0 rfl 0 rfl w hw))) ?_
                  intro a hE
                  refine q_val (wk1 hE rfl rfl rfl hc6) rfl rfl hE (v := (.pointer (some ⟨b5, 1, none⟩))) (ex_index rfl hE rfl rfl (aelty62_1 _ _)) ?_
                  intro a hE
                  refine q_val (wk1 hE rfl rfl rfl hc6) rfl rfl hE (v := (.int .i64 x2.x1)) (ex_load rfl hE rfl (fun w hw => run_ld1 varty3 (Hp.c 0 rfl 1 rfl w hw))) ?_
                  intro a hE
                  refine q_val (wk1 hE rfl rfl rfl hc6) rfl rfl hE (v := (.bool (decide (x2.x1 ≤ x2.x0)))) (ex_geq rfl hE rfl rfl) ?_
                  intro a hE
                  refine q_val (wk0 rfl) rfl rfl hE (v := (.bool (decide (x2.x1 ≤ x2.x0)))) (ex_pick0 rfl hE rfl hc6 rfl) ?_
                  intro a hE
                  have hE := hE.eqv (v' := (.bool ((decide (x2.x0 < 2)) || (decide (x2.x1 ≤ x2.x0))))) (by rw [hc6]; rfl)
                  exact q_nil (hE.cut ⟨rfl, rfl, rfl, rfl, rfl, rfl, rfl, rfl, trivial⟩)
              · intro a hE
                refine q_val (wk0 rfl) rfl rfl hE (v := (.bool ((decide (x2.x0 < 2)) || (decide (x2.x1 ≤ x2.x0))))) (ex_move rfl hE rfl) ?_
                intro a hE
                obtain ⟨m2, hg2, hl1⟩ := bnd hl1
                refine q_cut [_, _, _, _, _, _] (fun a => Env 67 [(50, (.bool m2)), (1, (.pointer (some ⟨b1, 0, none⟩))), (3, (.map (some b2))), (5, (.pointer (some ⟨b5, 0, none⟩))), (22, vp0_gates), (23, (.int .i64 (p0.gates.length : Int))), (24, (.int .i64 lp1_0))] a) ?_ ?_
                · rcases Bool.eq_false_or_eq_true ((decide (x2.x0 < 2)) || (decide (x2.x1 ≤ x2.x0))) with hc7 | hc7
                  ·
                    replace hg2 := (it hc7).symm.trans hg2
                    refine q_skip (wk2 hE rfl rfl rfl hc7) rfl rfl hE ?_
                    intro a hE
                    refine q_skip (wk2 hE rfl rfl rfl hc7) rfl rfl hE ?_
                    intro a hE
                    refine q_skip (wk2 hE rfl rfl rfl hc7) rfl rfl hE ?_
                    intro a hE
                    refine q_skip (wk2 hE rfl rfl rfl hc7) rfl rfl hE ?_
                    intro a hE
                    refine q_skip (wk2 hE rfl rfl rfl hc7) rfl rfl hE ?_
                    intro a hE
                    refine q_val (wk0 rfl) rfl rfl hE (v := (.bool true)) (ex_pick1 rfl hE rfl hc7 rfl) ?_
                    intro a hE
                    obtain rfl := Option.some.inj hg2
                    exact q_nil (hE.cut ⟨rfl, rfl, rfl, rfl, rfl, rfl, rfl, trivial⟩)
                  ·
                    replace hg2 := (ie hc7).symm.trans hg2
                    refine q_val (wk1 hE rfl rfl rfl hc7) rfl rfl hE (v := (.pointer (some ⟨b5, 1, none⟩))) (ex_index rfl hE rfl rfl (aelty62_1 _ _)) ?_
                    intro a hE
                    refine q_val (wk1 hE rfl rfl rfl hc7) rfl rfl hE (v := (.int .i64 x2.x1)) (ex_load rfl hE rfl (fun w hw => run_ld1 varty3 (Hp.c 0 rfl 1 rfl w hw))) ?_
                    intro a hE
                    refine q_val (wk1 hE rfl rfl rfl hc7) rfl rfl hE (v := (.int .i64 x4)) (ex_move rfl hE rfl) ?_
                    intro a hE
                    obtain ⟨x5, ex5, hg2⟩ := bnd hg2
                    refine q_val (wk1 hE rfl rfl rfl hc7) rfl rfl hE (v := (.int .i64 x5)) (ex_mul rfl hE rfl rfl (inK_some ex5)) ?_
                    intro a hE
                    refine q_val (wk1 hE rfl rfl rfl hc7) rfl rfl hE (v := (.bool (decide (x5 ≤ x2.x1)))) (ex_geq rfl hE rfl rfl) ?_
                    intro a hE
                    refine q_val (wk0 rfl) rfl rfl hE (v := (.bool (decide (x5 ≤ x2.x1)))) (ex_pick0 rfl hE rfl hc7 rfl) ?_
                    intro a hE
                    obtain rfl := Option.some.inj hg2
                    exact q_nil (hE.cut ⟨rfl, rfl, rfl, rfl, rfl, rfl, rfl, trivial⟩)
                · intro a hE
                  refine q_val (wk0 rfl) rfl rfl hE (v := (.bool m2)) (ex_move rfl hE rfl) ?_
                  intro a hE
                  obtain ⟨m3, hg3, hl1⟩ := bnd hl1
                  refine q_cut [_, _, _, _, _, _, _] (fun a => Env 67 [(58, (.bool m3)), (1, (.pointer (some ⟨b1, 0, none⟩))), (3, (.map (some b2))), (5, (.pointer (some ⟨b5, 0, none⟩))), (22, vp0_gates), (23, (.int .i64 (p0.gates.length : Int))), (24, (.int .i64 lp1_0))] a) ?_ ?_
                  · rcases Bool.eq_false_or_eq_true m2 with hc8 | hc8
                    ·
                      replace hg3 := (it hc8).symm.trans hg3
                      refine q_skip (wk2 hE rfl rfl rfl hc8) rfl rfl hE ?_
                      intro a hE
                      refine q_skip (wk2 hE rfl rfl rfl hc8) rfl rfl hE ?_
                      intro a hE
                      refine q_skip (wk2 hE rfl rfl rfl hc8) rfl rfl hE ?_
                      intro a hE
                      refine q_skip (wk2 hE rfl rfl rfl hc8) rfl rfl hE ?_
                      intro a hE
                      refine q_skip (wk2 hE rfl rfl rfl hc8) rfl rfl hE ?_
                      intro a hE
                      refine q_skip (wk2 hE rfl rfl rfl hc8) rfl rfl hE ?_
                      intro a hE
                      refine q_val (wk0 rfl) rfl rfl hE (v := (.bool true)) (ex_pick1 rfl hE rfl hc8 rfl) ?_
                      intro a hE
                      obtain rfl := Option.some.inj hg3
                      exact q_nil (hE.cut ⟨rfl, rfl, rfl, rfl, rfl, rfl, rfl, trivial⟩)
                    ·
                      replace hg3 := (ie hc8).symm.trans hg3
                      refine q_val (wk1 hE rfl rfl rfl hc8) rfl rfl hE (v := (.pointer (some ⟨b5, 1, none⟩))) (ex_index rfl hE rfl rfl (aelty62_1 _ _)) ?_
                      intro a hE
                      refine q_val (wk1 hE rfl rfl rfl hc8) rfl rfl hE (v := (.int .i64 x2.x1)) (ex_load rfl hE rfl (fun w hw => run_ld1 varty3 (Hp.c 0 rfl 1 rfl w hw))) ?_
                      intro a hE
                      refine q_val (wk1 hE rfl rfl rfl hc8) rfl rfl hE (v := (.pointer (some ⟨b5, 0, none⟩))) (ex_index rfl hE rfl rfl (aelty62_0 _ _)) ?_
                      intro a hE
                      refine q_val (wk1 hE rfl rfl rfl hc8) rfl rfl hE (v := (.int .i64 x2.x0)) (ex_load rfl hE rfl (fun w hw => run_ld1 varty3 (Hp.c 0 rfl 0 rfl w hw))) ?_
                      intro a hE
                      obtain ⟨x6, ex6, hg3⟩ := bnd hg3
                      refine q_call (wk1 hE rfl rfl rfl hc8) rfl rfl hE rfl [(.int .i64 x2.x0)] ⟨rfl, trivial⟩ ent80 (v := (.int .i64 x6)) (fun w hw => Calls.mono (c_gates_Not hT x2.x0 hw x6 ex6) fun e w' ⟨v, he, hv, hh⟩ => ⟨by rw [he, hv], hh⟩) ?_
                      intro a hE
                      refine q_val (wk1 hE rfl rfl rfl hc8) rfl rfl hE (v := (.bool (decide (x2.x1 = x6)))) (ex_eql rfl hE rfl rfl) ?_
                      intro a hE
                      refine q_val (wk0 rfl) rfl rfl hE (v := (.bool (decide (x2.x1 = x6)))) (ex_pick0 rfl hE rfl hc8 rfl) ?_
                      intro a hE
                      obtain rfl := Option.some.inj hg3
                      exact q_nil (hE.cut ⟨rfl, rfl, rfl, rfl, rfl, rfl, rfl, trivial⟩)
                  · intro a hE
                    refine q_val (wk0 rfl) rfl rfl hE (v := (.bool m3)) (ex_move rfl hE rfl) ?_
                    intro a hE
                    refine q_cut [_, _, _, _] (fun a => Env 67 [(63, (.bool (m3 || ((mget (lp1_1 : List (Arr2 × Bool)) x2).getD false)))), (1, (.pointer (some ⟨b1, 0, none⟩))), (3, (.map (some b2))), (5, (.pointer (some ⟨b5, 0, none⟩))), (22, vp0_gates), (23, (.int .i64 (p0.gates.length : Int))), (24, (.int .i64 lp1_0))] a) ?_ ?_
                    · rcases Bool.eq_false_or_eq_true m3 with hc9 | hc9
                      ·
                        refine q_skip (wk2 hE rfl rfl rfl hc9) rfl rfl hE ?_
                        intro a hE
                        refine q_skip (wk2 hE rfl rfl rfl hc9) rfl rfl hE ?_
                        intro a hE
                        refine q_skip (wk2 hE rfl rfl rfl hc9) rfl rfl hE ?_
                        intro a hE
                        refine q_val (wk0 rfl) rfl rfl hE (v := (.bool true)) (ex_pick1 rfl hE rfl hc9 rfl) ?_
                        intro a hE
                        have hE := hE.eqv (v' := (.bool (m3 || ((mget (lp1_1 : List (Arr2 × Bool)) x2).getD false)))) (by rw [hc9]; rfl)
                        exact q_nil (hE.cut ⟨rfl, rfl, rfl, rfl, rfl, rfl, rfl, trivial⟩)
                      ·
                        refine q_val (wk1 hE rfl rfl rfl hc9) rfl rfl hE (v := (.map (some b2))) (ex_move rfl hE rfl) ?_
                        intro a hE
                        refine q_val (wk1 hE rfl rfl rfl hc9) rfl rfl hE (v := (.agg #[(.int .i64 x2.x0), (.int .i64 x2.x1)])) (ex_load rfl hE rfl (fun w hw => run_ldN (cs := [(.int .i64 x2.x0), (.int .i64 x2.x1)]) varty62 (Hp.cN 0 rfl 0 _ (sub_all rfl) w hw))) ?_
                        intro a hE
                        refine q_val (wk1 hE rfl rfl rfl hc9) rfl rfl hE (v := (.bool ((mget (lp1_1 : List (Arr2 × Bool)) x2).getD false))) (ex_mget0 (zd := (false : Bool)) kt62 mapty102 zero4 rfl hE 1 (k := x2) rfl rfl rfl) ?_
                        intro a hE
                        refine q_val (wk0 rfl) rfl rfl hE (v := (.bool ((mget (lp1_1 : List (Arr2 × Bool)) x2).getD false))) (ex_pick0 rfl hE rfl hc9 rfl) ?_
                        intro a hE
                        have hE := hE.eqv (v' := (.bool (m3 || ((mget (lp1_1 : List (Arr2 × Bool)) x2).getD false)))) (by rw [hc9]; rfl)
                        exact q_nil (hE.cut ⟨rfl, rfl, rfl, rfl, rfl, rfl, rfl, trivial⟩)
                    · intro a hE
                      refine q_nil fun w hp => ?_
                      have hp : Hp Z ρ (_ :: _ :: _ :: L) w := hp
                      refine k_if hE rfl (fun hc10 => ?_) (fun hc10 => ?_)
                      · replace hl1 := (it hc10).symm.trans hl1
                        refine k_seq ?_
                        refine k_region ?_
                        refine s_val (wk0 rfl) rfl rfl hE hp (v := (.bool false)) (ex_asn rfl hE rfl) ?_
                        intro a hE
                        refine s_nil ?_
                        refine k_ret ?_
                        refine ⟨_, (Option.some.inj hl1).symm, fun hb => ?_⟩
                        subst hb
                        obtain rfl := Option.some.inj hm
                        exact ret1 hE rfl rfl ⟨_, rfl, rfl, (((((hp.get 2 rfl).drop).get 1 rfl).drop).drop)⟩
                      · replace hl1 := (ie hc10).symm.trans hl1
                        refine k_skip ?_
                        refine k_region ?_
                        refine s_val (wk0 rfl) rfl rfl hE hp (v := (.map (some b2))) (ex_move rfl hE rfl) ?_
                        intro a hE
                        refine s_val (wk0 rfl) rfl rfl hE hp (v := (.agg #[(.int .i64 x2.x0), (.int .i64 x2.x1)])) (ex_load rfl hE rfl (fun w hw => run_ldN (cs := [(.int .i64 x2.x0), (.int .i64 x2.x1)]) varty62 (Hp.cN 0 rfl 0 _ (sub_all rfl) w hw))) ?_
                        intro a hE
                        refine s_mput kt62 mapty102 (wk0 rfl) rfl hE hp rfl 1 (k := x2) (v := true) rfl rfl rfl rfl ?_
                        intro w hp
                        have hp : Hp Z ρ (_ :: MapA b2 (mput lp1_1 x2 true : List (Arr2 × Bool)) :: _ :: L) w := hp
                        refine s_nil ?_
                        refine k_region ?_
                        obtain ⟨x7, ex7, hl1⟩ := bnd hl1
                        refine s_val (wk0 rfl) rfl rfl hE hp (v := (.int .i64 x7)) (ex_add rfl hE rfl rfl (inK_some ex7)) ?_
                        intro a hE
                        refine s_val (wk0 rfl) rfl rfl hE hp (v := (.int .i64 x7)) (ex_move rfl hE rfl) ?_
                        intro a hE
                        refine s_nil ?_
                        exact ⟨_, (Option.some.inj hl1).symm, hE.cut ⟨rfl, rfl, rfl, rfl, rfl, trivial⟩, (hp.drop)⟩
            · replace hl1 := (ie hc5).symm.trans hl1
              refine k_exit ?_
              refine ⟨_, (Option.some.inj hl1).symm, fun hbb => ?_⟩
              exact ⟨_, hbb.symm, hE.cut trivial, hp⟩
        · rintro a w ⟨b3s, rfl, hE, hp⟩
          dsimp only at hm
          refine k_seq ?_
          refine k_region ?_
          refine s_val (wk0 rfl) rfl rfl hE hp (v := (.bool true)) (ex_asn rfl hE rfl) ?_
          intro a hE
          refine s_nil ?_
          refine k_ret ?_
          obtain rfl := Option.some.inj hm
          exact ret1 hE rfl rfl ⟨_, rfl, rfl, (((hp.get 1 rfl).drop).drop)⟩
set_option maxRecDepth 100000 in
set_option maxHeartbeats 4000000 in
theorem c_assessorref24_Not {Z : World} {ρ : PH} {L : List Atom} {w : World} (hT : Tabs ρ) (p0 : Int) (hp : Hp Z ρ (L) w) (r : Int) (hm : m_assessorref24_Not p0 = some r) :
    Calls Tryz.prog 81 #[(.int .i64 p0)] w (Ret fun v w' => v = (.int .i64 r) ∧ Hp Z ρ (L) w') := by
  refine enter (N := 10) Tryz.func81 rfl rfl [(0, (.int .i64 p0))] rfl (argsIn_mem ⟨rfl, trivial⟩) fun a hE => ?_
  unfold m_assessorref24_Not at hm
  refine k_seq ?_
  refine k_region ?_
  refine s_val (wk0 rfl) rfl rfl hE hp (v := (.int .i64 0)) (ex_asn rfl hE rfl) ?_
  intro a hE
  refine s_nil ?_
  refine k_seq ?_
  refine k_seq ?_
  refine k_region ?_
  refine s_val (wk0 rfl) rfl rfl hE hp (v := (.int .i64 p0)) (ex_move rfl hE rfl) ?_
  intro a hE
  obtain ⟨x1, ex1, hm⟩ := bnd hm
  refine s_val (wk0 rfl) rfl rfl hE hp (v := (.int .i64 x1)) (ex_rem rfl hE rfl rfl (remK_some ex1).1 (remK_some ex1).2) ?_
  intro a hE
  refine s_val (wk0 rfl) rfl rfl hE hp (v := (.bool (decide (x1 = 0)))) (ex_eql rfl hE rfl rfl) ?_
  intro a hE
  refine s_nil ?_
  refine k_if hE rfl (fun hc1 => ?_) (fun hc1 => ?_)
  · replace hm := (it hc1).symm.trans hm
    refine k_seq ?_
    refine k_region ?_
    refine s_val (wk0 rfl) rfl rfl hE hp (v := (.int .i64 p0)) (ex_move rfl hE rfl) ?_
    intro a hE
    obtain ⟨x2, ex2, hm⟩ := bnd hm
    refine s_val (wk0 rfl) rfl rfl hE hp (v := (.int .i64 x2)) (ex_add rfl hE rfl rfl (inK_some ex2)) ?_
    intro a hE
    refine s_val (wk0 rfl) rfl rfl hE hp (v := (.int .i64 x2)) (ex_asn rfl hE rfl) ?_
    intro a hE
    refine s_nil ?_
    refine k_ret ?_
    obtain rfl := Option.some.inj hm
    exact ret1 hE rfl rfl ⟨_, rfl, rfl, hp⟩
  · replace hm := (ie hc1).symm.trans hm
    refine k_skip ?_
    refine k_seq ?_
    refine k_region ?_
    refine s_val (wk0 rfl) rfl rfl hE hp (v := (.int .i64 p0)) (ex_move rfl hE rfl) ?_
    intro a hE
    obtain ⟨x3, ex3, hm⟩ := bnd hm
    refine s_val (wk0 rfl) rfl rfl hE hp (v := (.int .i64 x3)) (ex_sub rfl hE rfl rfl (inK_some ex3)) ?_
    intro a hE
    refine s_val (wk0 rfl) rfl rfl hE hp (v := (.int .i64 x3)) (ex_asn rfl hE rfl) ?_
    intro a hE
    refine s_nil ?_
    refine k_ret ?_
    obtain rfl := Option.some.inj hm
    exact ret1 hE rfl rfl ⟨_, rfl, rfl, hp⟩
set_option maxRecDepth 100000 in
set_option maxHeartbeats 4000000 in
theorem c_assessorref24_Nodes {Z : World} {ρ : PH} {L : List Atom} {w : World} (hT : Tabs ρ) (p0 : Gates) (vp0_gates : Value) (hp0_gates : RoSl ρ vp0_gates p0.gates) (hp : Hp Z ρ (L) w) (r : Int) (hm : m_assessorref24_Nodes p0 = some r) :
    Calls Tryz.prog 38 #[(.agg #[(.int .i64 p0.inputs), vp0_gates])] w (Ret fun v w' => v = (.int .i64 r) ∧ Hp Z ρ (L) w') := by
  refine enter (N := 10) Tryz.func38 rfl rfl [(0, (.agg #[(.int .i64 p0.inputs), vp0_gates]))] rfl (argsIn_mem ⟨rfl, trivial⟩) fun a hE => ?_
  unfold m_assessorref24_Nodes at hm
  refine k_seq ?_
  refine k_region ?_
  refine s_box (wk0 rfl) rfl rfl hE hp rfl (v := (.agg #[(.int .i64 p0.inputs), vp0_gates])) rfl ?_
  intro a w b1 hE hp
  have hp : Hp Z ρ (Pt b1 (.cells #[(.int .i64 p0.inputs), vp0_gates] 38 (0, 0)) :: L) w := hp
  refine s_val (wk0 rfl) rfl rfl hE hp (v := (.int .i64 0)) (ex_asn rfl hE rfl) ?_
  intro a hE
  refine s_nil ?_
  refine k_seq ?_
  refine k_region ?_
  refine s_val (wk0 rfl) rfl rfl hE hp (v := (.pointer (some ⟨b1, 0, none⟩))) (ex_field rfl hE rfl (fldty38_0 _ _)) ?_
  intro a hE
  refine s_val (wk0 rfl) rfl rfl hE hp (v := (.int .i64 p0.inputs)) (ex_load rfl hE rfl (fun w hw => run_ld1 varty3 (Hp.c 0 rfl 0 rfl w hw))) ?_
  intro a hE
  obtain ⟨x1, ex1, hm⟩ := bnd hm
  refine s_val (wk0 rfl) rfl rfl hE hp (v := (.int .i64 x1)) (ex_add rfl hE rfl rfl (inK_some ex1)) ?_
  intro a hE
  refine s_val (wk0 rfl) rfl rfl hE hp (v := (.pointer (some ⟨b1, 1, none⟩))) (ex_field rfl hE rfl (fldty38_1 _ _)) ?_
  intro a hE
  refine s_val (wk0 rfl) rfl rfl hE hp (v := vp0_gates) (ex_load rfl hE rfl (fun w hw => run_ld1 varty36 (Hp.c 0 rfl 1 rfl w hw))) ?_
  intro a hE
  refine s_val (wk0 rfl) rfl rfl hE hp (v := (.int .i64 (p0.gates.length : Int))) (ex_len rfl hE rfl (RoSl.len hp0_gates slty36)) ?_
  intro a hE
  obtain ⟨x2, ex2, hm⟩ := bnd hm
  refine s_val (wk0 rfl) rfl rfl hE hp (v := (.int .i64 x2)) (ex_add rfl hE rfl rfl (inK_some ex2)) ?_
  intro a hE
  refine s_val (wk0 rfl) rfl rfl hE hp (v := (.int .i64 x2)) (ex_asn rfl hE rfl) ?_
  intro a hE
  refine s_nil ?_
  refine k_ret ?_
  obtain rfl := Option.some.inj hm
  exact ret1 hE rfl rfl ⟨_, rfl, rfl, (hp.drop)⟩
set_option maxRecDepth 100000 in
set_option maxHeartbeats 4000000 in
theorem c_assessorref24_IsLiteral {Z : World} {ρ : PH} {L : List Atom} {w : World} (hT : Tabs ρ) (p0 : Gates) (vp0_gates : Value) (hp0_gates : RoSl ρ vp0_gates p0.gates) (p1 : Int) (hp : Hp Z ρ (L) w) (r : Bool) (hm : m_assessorref24_IsLiteral p0 p1 = some r) :
    Calls Tryz.prog 54 #[(.agg #[(.int .i64 p0.inputs), vp0_gates]), (.int .i64 p1)] w (Ret fun v w' => v = (.bool r) ∧ Hp Z ρ (L) w') := by
  refine enter (N := 14) Tryz.func54 rfl rfl [(0, (.agg #[(.int .i64 p0.inputs), vp0_gates])), (1, (.int .i64 p1))] rfl (argsIn_mem ⟨rfl, rfl, trivial⟩) fun a hE => ?_
  unfold m_assessorref24_IsLiteral at hm
  refine k_seq ?_
  refine k_region ?_
  refine s_box (wk0 rfl) rfl rfl hE hp rfl (v := (.agg #[(.int .i64 p0.inputs), vp0_gates])) rfl ?_
  intro a w b1 hE hp
  have hp : Hp Z ρ (Pt b1 (.cells #[(.int .i64 p0.inputs), vp0_gates] 38 (0, 0)) :: L) w := hp
  refine s_val (wk0 rfl) rfl rfl hE hp (v := (.bool false)) (ex_asn rfl hE rfl) ?_
  intro a hE
  refine s_nil ?_
  refine k_seq ?_
  refine k_region ?_
  refine s_val (wk0 rfl) rfl rfl hE hp (v := (.int .i64 p1)) (ex_move rfl hE rfl) ?_
  intro a hE
  refine s_val (wk0 rfl) rfl rfl hE hp (v := (.bool (decide (0 ≤ p1)))) (ex_geq rfl hE rfl rfl) ?_
  intro a hE
  refine s_val (wk0 rfl) rfl rfl hE hp (v := (.bool (decide (0 ≤ p1)))) (ex_move rfl hE rfl) ?_
  intro a hE
  obtain ⟨m1, hg1, hm⟩ := bnd hm
  refine s_cut [_, _, _, _, _, _] (fun a w => Env 14 [(13, (.bool m1))] a ∧ Hp Z ρ (Pt b1 (.cells #[(.int .i64 p0.inputs), vp0_gates] 38 (0, 0)) :: L) w) ?_ ?_
  · rcases Bool.eq_false_or_eq_true (decide (0 ≤ p1)) with hc1 | hc1
    ·
      replace hg1 := (it hc1).symm.trans hg1
      refine s_val (wk1 hE rfl rfl rfl hc1) rfl rfl hE hp (v := (.int .i64 p1)) (ex_move rfl hE rfl) ?_
      intro a hE
      refine s_val (wk1 hE rfl rfl rfl hc1) rfl rfl hE hp (v := (.agg #[(.int .i64 p0.inputs), vp0_gates])) (ex_load rfl hE rfl (fun w hw => run_ldN (cs := [(.int .i64 p0.inputs), vp0_gates]) varty38 (Hp.cN 0 rfl 0 _ (sub_all rfl) w hw))) ?_
      intro a hE
      obtain ⟨x1, ex1, hg1⟩ := bnd hg1
      refine s_call (wk1 hE rfl rfl rfl hc1) rfl rfl hE rfl [(.agg #[(.int .i64 p0.inputs), vp0_gates])] ⟨rfl, trivial⟩ ent38 (c_assessorref24_Nodes hT p0 vp0_gates hp0_gates hp x1 ex1) Ret.ret ?_
      intro v a w hR hE
      obtain ⟨rfl, hp⟩ := Ret.of hR
      have hp : Hp Z ρ (_ :: L) w := hp
      obtain ⟨x2, ex2, hg1⟩ := bnd hg1
      refine s_val (wk1 hE rfl rfl rfl hc1) rfl rfl hE hp (v := (.int .i64 x2)) (ex_mul rfl hE rfl rfl (inK_some ex2)) ?_
      intro a hE
      refine s_val (wk1 hE rfl rfl rfl hc1) rfl rfl hE hp (v := (.bool (decide (p1 < x2)))) (ex_lss rfl hE rfl rfl) ?_
      intro a hE
      refine s_val (wk0 rfl) rfl rfl hE hp (v := (.bool (decide (p1 < x2)))) (ex_pick1 rfl hE rfl hc1 rfl) ?_
      intro a hE
      obtain rfl := Option.some.inj hg1
      exact s_nil ⟨hE.cut ⟨rfl, trivial⟩, hp⟩
    ·
      replace hg1 := (ie hc1).symm.trans hg1
      refine s_skip (wk2 hE rfl rfl rfl hc1) rfl rfl hE ?_
      intro a hE
      refine s_skip (wk2 hE rfl rfl rfl hc1) rfl rfl hE ?_
      intro a hE
      refine s_skip (wk2 hE rfl rfl rfl hc1) rfl rfl hE ?_
      intro a hE
      refine s_skip (wk2 hE rfl rfl rfl hc1) rfl rfl hE ?_
      intro a hE
      refine s_skip (wk2 hE rfl rfl rfl hc1) rfl rfl hE ?_
      intro a hE
      refine s_val (wk0 rfl) rfl rfl hE hp (v := (.bool false)) (ex_pick0 rfl hE rfl hc1 rfl) ?_
      intro a hE
      obtain rfl := Option.some.inj hg1
      exact s_nil ⟨hE.cut ⟨rfl, trivial⟩, hp⟩
  · rintro a w ⟨hE, hp⟩
    refine s_val (wk0 rfl) rfl rfl hE hp (v := (.bool m1)) (ex_asn rfl hE rfl) ?_
    intro a hE
    refine s_nil ?_
    refine k_ret ?_
    obtain rfl := Option.some.inj hm
    exact ret1 hE rfl rfl ⟨_, rfl, rfl, (hp.drop)⟩
set_option maxRecDepth 100000 in
set_option maxHeartbeats 4000000 in
theorem c_assessorref24_Valid {Z : World} {ρ : PH} {L : List Atom} {w : World} (hT : Tabs ρ) (p0 : Gates) (vp0_gates : Value) (hp0_gates : RoSl ρ vp0_gates p0.gates) (hp : Hp Z ρ (L) w) (r : Bool) (hm : m_assessorref24_Valid p0 = some r) :
    Calls Tryz.prog 53 #[(.agg #[(.int .i64 p0.inputs), vp0_gates])] w (Ret fun v w' => v = (.bool r) ∧ Hp Z ρ (L) w') := by
  refine enter (N := 84) Tryz.func53 rfl rfl [(0, (.agg #[(.int .i64 p0.inputs), vp0_gates]))] rfl (argsIn_mem ⟨rfl, trivial⟩) fun a hE => ?_
  unfold m_assessorref24_Valid at hm
  refine k_seq ?_
  refine k_region ?_
  refine s_box (wk0 rfl) rfl rfl hE hp rfl (v := (.agg #[(.int .i64 p0.inputs), vp0_gates])) rfl ?_
  intro a w b1 hE hp
  have hp : Hp Z ρ (Pt b1 (.cells #[(.int .i64 p0.inputs), vp0_gates] 38 (0, 0)) :: L) w := hp
  refine s_val (wk0 rfl) rfl rfl hE hp (v := (.bool false)) (ex_asn rfl hE rfl) ?_
  intro a hE
  refine s_nil ?_
  refine k_seq ?_
  refine k_seq ?_
  refine k_region ?_
  refine s_val (wk0 rfl) rfl rfl hE hp (v := (.pointer (some ⟨b1, 0, none⟩))) (ex_field rfl hE rfl (fldty38_0 _ _)) ?_
  intro a hE
  refine s_val (wk0 rfl) rfl rfl hE hp (v := (.int .i64 p0.inputs)) (ex_load rfl hE rfl (fun w hw => run_ld1 varty3 (Hp.c 0 rfl 0 rfl w hw))) ?_
  intro a hE
  refine s_val (wk0 rfl) rfl rfl hE hp (v := (.bool (decide (p0.inputs < 0)))) (ex_lss rfl hE rfl rfl) ?_
  intro a hE
  refine s_val (wk0 rfl) rfl rfl hE hp (v := (.bool (decide (p0.inputs < 0)))) (ex_move rfl hE rfl) ?_
  intro a hE
  refine s_cut [_, _, _, _] (fun a w => Env 84 [(14, (.bool ((decide (p0.inputs < 0)) || (decide (1024 < p0.inputs))))), (1, (.pointer (some ⟨b1, 0, none⟩)))] a ∧ Hp Z ρ (Pt b1 (.cells #[(.int .i64 p0.inputs), vp0_gates] 38 (0, 0)) :: L) w) ?_ ?_
  · rcases Bool.eq_false_or_eq_true (decide (p0.inputs < 0)) with hc1 | hc1
    ·
      refine s_skip (wk2 hE rfl rfl rfl hc1) rfl rfl hE ?_
      intro a hE
      refine s_skip (wk2 hE rfl rfl rfl hc1) rfl rfl hE ?_
      intro a hE
      refine s_skip (wk2 hE rfl rfl rfl hc1) rfl rfl hE ?_
      intro a hE
      refine s_val (wk0 rfl) rfl rfl hE hp (v := (.bool true)) (ex_pick1 rfl hE rfl hc1 rfl) ?_
      intro a hE
      have hE := hE.eqv (v' := (.bool ((decide (p0.inputs < 0)) || (decide (1024 < p0.inputs))))) (by rw [hc1]; rfl)
      exact s_nil ⟨hE.cut ⟨rfl, rfl, trivial⟩, hp⟩
    ·
      refine s_val (wk1 hE rfl rfl rfl hc1) rfl rfl hE hp (v := (.pointer (some ⟨b1, 0, none⟩))) (ex_field rfl hE rfl (fldty38_0 _ _)) ?_
      intro a hE
      refine s_val (wk1 hE rfl rfl rfl hc1) rfl rfl hE hp (v := (.int .i64 p0.inputs)) (ex_load rfl hE rfl (fun w hw => run_ld1 varty3 (Hp.c 0 rfl 0 rfl w hw))) ?_
      intro a hE
      refine s_val (wk1 hE rfl rfl rfl hc1) rfl rfl hE hp (v := (.bool (decide (1024 < p0.inputs)))) (ex_gtr rfl hE rfl rfl) ?_
      intro a hE
      refine s_val (wk0 rfl) rfl rfl hE hp (v := (.bool (decide (1024 < p0.inputs)))) (ex_pick0 rfl hE rfl hc1 rfl) ?_
      intro a hE
      have hE := hE.eqv (v' := (.bool ((decide (p0.inputs < 0)) || (decide (1024 < p0.inputs))))) (by rw [hc1]; rfl)
      exact s_nil ⟨hE.cut ⟨rfl, rfl, trivial⟩, hp⟩
  · rintro a w ⟨hE, hp⟩
    refine s_val (wk0 rfl) rfl rfl hE hp (v := (.bool ((decide (p0.inputs < 0)) || (decide (1024 < p0.inputs))))) (ex_move rfl hE rfl) ?_
    intro a hE
    refine s_cut [_, _, _, _, _] (fun a w => Env 84 [(20, (.bool (((decide (p0.inputs < 0)) || (decide (1024 < p0.inputs))) || (decide (65536 < (p0.gates.length : Int)))))), (1, (.pointer (some ⟨b1, 0, none⟩)))] a ∧ Hp Z ρ (Pt b1 (.cells #[(.int .i64 p0.inputs), vp0_gates] 38 (0, 0)) :: L) w) ?_ ?_
    · rcases Bool.eq_false_or_eq_true ((decide (p0.inputs < 0)) || (decide (1024 < p0.inputs))) with hc2 | hc2
      ·
        refine s_skip (wk2 hE rfl rfl rfl hc2) rfl rfl hE ?_
        intro a hE
        refine s_skip (wk2 hE rfl rfl rfl hc2) rfl rfl hE ?_
        intro a hE
        refine s_skip (wk2 hE rfl rfl rfl hc2) rfl rfl hE ?_
        intro a hE
        refine s_skip (wk2 hE rfl rfl rfl hc2) rfl rfl hE ?_
        intro a hE
        refine s_val (wk0 rfl) rfl rfl hE hp (v := (.bool true)) (ex_pick1 rfl hE rfl hc2 rfl) ?_
        intro a hE
        have hE := hE.eqv (v' := (.bool (((decide (p0.inputs < 0)) || (decide (1024 < p0.inputs))) || (decide (65536 < (p0.gates.length : Int)))))) (by rw [hc2]; rfl)
        exact s_nil ⟨hE.cut ⟨rfl, rfl, trivial⟩, hp⟩
      ·
        refine s_val (wk1 hE rfl rfl rfl hc2) rfl rfl hE hp (v := (.pointer (some ⟨b1, 1, none⟩))) (ex_field rfl hE rfl (fldty38_1 _ _)) ?_
        intro a hE
        refine s_val (wk1 hE rfl rfl rfl hc2) rfl rfl hE hp (v := vp0_gates) (ex_load rfl hE rfl (fun w hw => run_ld1 varty36 (Hp.c 0 rfl 1 rfl w hw))) ?_
        intro a hE
        refine s_val (wk1 hE rfl rfl rfl hc2) rfl rfl hE hp (v := (.int .i64 (p0.gates.length : Int))) (ex_len rfl hE rfl (RoSl.len hp0_gates slty36)) ?_
        intro a hE
        refine s_val (wk1 hE rfl rfl rfl hc2) rfl rfl hE hp (v := (.bool (decide (65536 < (p0.gates.length : Int))))) (ex_gtr rfl hE rfl rfl) ?_
        intro a hE
        refine s_val (wk0 rfl) rfl rfl hE hp (v := (.bool (decide (65536 < (p0.gates.length : Int))))) (ex_pick0 rfl hE rfl hc2 rfl) ?_
        intro a hE
        have hE := hE.eqv (v' := (.bool (((decide (p0.inputs < 0)) || (decide (1024 < p0.inputs))) || (decide (65536 < (p0.gates.length : Int)))))) (by rw [hc2]; rfl)
        exact s_nil ⟨hE.cut ⟨rfl, rfl, trivial⟩, hp⟩
    · rintro a w ⟨hE, hp⟩
      refine s_val (wk0 rfl) rfl rfl hE hp (v := (.bool (((decide (p0.inputs < 0)) || (decide (1024 < p0.inputs))) || (decide (65536 < (p0.gates.length : Int)))))) (ex_move rfl hE rfl) ?_
      intro a hE
      obtain ⟨m1, hg1, hm⟩ := bnd hm
      refine s_cut [_, _, _, _] (fun a w => Env 84 [(25, (.bool m1)), (1, (.pointer (some ⟨b1, 0, none⟩)))] a ∧ Hp Z ρ (Pt b1 (.cells #[(.int .i64 p0.inputs), vp0_gates] 38 (0, 0)) :: L) w) ?_ ?_
      · rcases Bool.eq_false_or_eq_true (((decide (p0.inputs < 0)) || (decide (1024 < p0.inputs))) || (decide (65536 < (p0.gates.length : Int)))) with hc3 | hc3
        ·
          replace hg1 := (it hc3).symm.trans hg1
          refine s_skip (wk2 hE rfl rfl rfl hc3) rfl rfl hE ?_
          intro a hE
          refine s_skip (wk2 hE rfl rfl rfl hc3) rfl rfl hE ?_
          intro a hE
          refine s_skip (wk2 hE rfl rfl rfl hc3) rfl rfl hE ?_
          intro a hE
          refine s_val (wk0 rfl) rfl rfl hE hp (v := (.bool true)) (ex_pick1 rfl hE rfl hc3 rfl) ?_
          intro a hE
          obtain rfl := Option.some.inj hg1
          exact s_nil ⟨hE.cut ⟨rfl, rfl, trivial⟩, hp⟩
        ·
          replace hg1 := (ie hc3).symm.trans hg1
          refine s_val (wk1 hE rfl rfl rfl hc3) rfl rfl hE hp (v := (.agg #[(.int .i64 p0.inputs), vp0_gates])) (ex_load rfl hE rfl (fun w hw => run_ldN (cs := [(.int .i64 p0.inputs), vp0_gates]) varty38 (Hp.cN 0 rfl 0 _ (sub_all rfl) w hw))) ?_
          intro a hE
          obtain ⟨x1, ex1, hg1⟩ := bnd hg1
          refine s_call (wk1 hE rfl rfl rfl hc3) rfl rfl hE rfl [(.agg #[(.int .i64 p0.inputs), vp0_gates])] ⟨rfl, trivial⟩ ent38 (c_assessorref24_Nodes hT p0 vp0_gates hp0_gates hp x1 ex1) Ret.ret ?_
          intro v a w hR hE
          obtain ⟨rfl, hp⟩ := Ret.of hR
          have hp : Hp Z ρ (_ :: L) w := hp
          refine s_val (wk1 hE rfl rfl rfl hc3) rfl rfl hE hp (v := (.bool (decide (65536 < x1)))) (ex_gtr rfl hE rfl rfl) ?_
          intro a hE
          refine s_val (wk0 rfl) rfl rfl hE hp (v := (.bool (decide (65536 < x1)))) (ex_pick0 rfl hE rfl hc3 rfl) ?_
          intro a hE
          obtain rfl := Option.some.inj hg1
          exact s_nil ⟨hE.cut ⟨rfl, rfl, trivial⟩, hp⟩
      · rintro a w ⟨hE, hp⟩
        refine s_nil ?_
        refine k_if hE rfl (fun hc4 => ?_) (fun hc4 => ?_)
        · replace hm := (it hc4).symm.trans hm
          refine k_seq ?_
          refine k_region ?_
          refine s_val (wk0 rfl) rfl rfl hE hp (v := (.bool false)) (ex_asn rfl hE rfl) ?_
          intro a hE
          refine s_nil ?_
          refine k_ret ?_
          obtain rfl := Option.some.inj hm
          exact ret1 hE rfl rfl ⟨_, rfl, rfl, (hp.drop)⟩
        · replace hm := (ie hc4).symm.trans hm
          refine k_skip ?_
          refine k_seq ?_
          refine k_seq ?_
          refine k_region ?_
          refine s_val (wk0 rfl) rfl rfl hE hp (v := (.int .i64 0)) (ex_asn rfl hE rfl) ?_
          intro a hE
          refine s_nil ?_
          obtain ⟨b2, hc5, hm⟩ := bnd hm
          refine k_block (fun a w => ∃ s : Unit, b2 = .brk s ∧ (Env 84 [] a ∧ Hp Z ρ (Pt b1 (.cells #[(.int .i64 p0.inputs), vp0_gates] 38 (0, 0)) :: L) w)) ?_ ?_
          · refine k_loop hc5 (fun s a w => Env 84 [(1, (.pointer (some ⟨b1, 0, none⟩))), (3, (.int .i64 s))] a ∧ Hp Z ρ (Pt b1 (.cells #[(.int .i64 p0.inputs), vp0_gates] 38 (0, 0)) :: L) w) ?_ ?_
            · exact ⟨hE.cut ⟨rfl, rfl, trivial⟩, hp⟩
            · rintro lp1_0 st a w ⟨hE, hp⟩ hl1
              have hE : Env 84 [(1, (.pointer (some ⟨b1, 0, none⟩))), (3, (.int .i64 lp1_0))] a := hE
              have hp : Hp Z ρ (_ :: L) w := hp
              replace hl1 : m_assessorref24_Valid_lp1 p0 lp1_0 = some st := hl1
              unfold m_assessorref24_Valid_lp1 at hl1
              refine k_seq ?_
              refine k_seq ?_
              refine k_region ?_
              refine s_val (wk0 rfl) rfl rfl hE hp (v := (.int .i64 lp1_0)) (ex_move rfl hE rfl) ?_
              intro a hE
              refine s_val (wk0 rfl) rfl rfl hE hp (v := (.pointer (some ⟨b1, 1, none⟩))) (ex_field rfl hE rfl (fldty38_1 _ _)) ?_
              intro a hE
              refine s_val (wk0 rfl) rfl rfl hE hp (v := vp0_gates) (ex_load rfl hE rfl (fun w hw => run_ld1 varty36 (Hp.c 0 rfl 1 rfl w hw))) ?_
              intro a hE
              refine s_val (wk0 rfl) rfl rfl hE hp (v := (.int .i64 (p0.gates.length : Int))) (ex_len rfl hE rfl (RoSl.len hp0_gates slty36)) ?_
              intro a hE
              refine s_val (wk0 rfl) rfl rfl hE hp (v := (.bool (decide (lp1_0 < (p0.gates.length : Int))))) (ex_lss rfl hE rfl rfl) ?_
              intro a hE
              refine s_nil ?_
              have hE := hE.cut (E' := [(1, (.pointer (some ⟨b1, 0, none⟩))), (3, (.int .i64 lp1_0)), (30, (.bool (decide (lp1_0 < (p0.gates.length : Int)))))]) ⟨rfl, rfl, rfl, trivial⟩
              refine k_if hE rfl (fun hc6 => ?_) (fun hc6 => ?_)
              · replace hl1 := (it hc6).symm.trans hl1
                refine k_skip ?_
                refine k_seq ?_
                refine k_plain ?_
                refine k_seq ?_
                refine k_quiet (by kernel_rfl) (by kernel_rfl) hp ?_
                refine q_val (wk0 rfl) rfl rfl hE (v := (.pointer (some ⟨b1, 1, none⟩))) (ex_field rfl hE rfl (fldty38_1 _ _)) ?_
                intro a hE
                refine q_val (wk0 rfl) rfl rfl hE (v := vp0_gates) (ex_load rfl hE rfl (fun w hw => run_ld1 varty36 (Hp.c 0 rfl 1 rfl w hw))) ?_
                intro a hE
                refine q_val (wk0 rfl) rfl rfl hE (v := (.int .i64 lp1_0)) (ex_move rfl hE rfl) ?_
                intro a hE
                obtain ⟨x2, ex2, hl1⟩ := bnd hl1
                obtain ⟨b3, b3o, b3c, b3r, b3k, b3f⟩ := RoSl.at hp0_gates slty36 ex2
                obtain rfl : b3c = Enc.enc x2 := b3k
                have b3f : AtP ρ b3 b3o [(.int .i64 x2.x0), (.int .i64 x2.x1)] := b3f
                refine q_val (wk0 rfl) rfl rfl hE (v := (.pointer (some ⟨b3, b3o, none⟩))) (ex_index rfl hE rfl rfl b3r) ?_
                intro a hE
                refine q_val (wk0 rfl) rfl rfl hE (v := (.pointer (some ⟨b3, b3o, none⟩))) (ex_index rfl hE rfl rfl (aelty62_0 _ _)) ?_
                intro a hE
                refine q_val (wk0 rfl) rfl rfl hE (v := (.int .i64 x2.x0)) (ex_load rfl hE rfl (fun w hw => run_ld1 varty3 (b3f.c 0 rfl w hw))) ?_
                intro a hE
                refine q_val (wk0 rfl) rfl rfl hE (v := (.pointer (some ⟨b1, 1, none⟩))) (ex_field rfl hE rfl (fldty38_1 _ _)) ?_
                intro a hE
                refine q_val (wk0 rfl) rfl rfl hE (v := vp0_gates) (ex_load rfl hE rfl (fun w hw => run_ld1 varty36 (Hp.c 0 rfl 1 rfl w hw))) ?_
                intro a hE
                refine q_val (wk0 rfl) rfl rfl hE (v := (.int .i64 lp1_0)) (ex_move rfl hE rfl) ?_
                intro a hE
                obtain ⟨x3, ex3, hl1⟩ := bnd hl1
                obtain ⟨b4, b4o, b4c, b4r, b4k, b4f⟩ := RoSl.at hp0_gates slty36 ex3
                obtain rfl : b4c = Enc.enc x3 := b4k
                have b4f : AtP ρ b4 b4o [(.int .i64 x3.x0), (.int .i64 x3.x1)] := b4f
                refine q_val (wk0 rfl) rfl rfl hE (v := (.pointer (some ⟨b4, b4o, none⟩))) (ex_index rfl hE rfl rfl b4r) ?_
                intro a hE
                refine q_val (wk0 rfl) rfl rfl hE (v := (.pointer (some ⟨b4, b4o + 1, none⟩))) (ex_index rfl hE rfl rfl (aelty62_1 _ _)) ?_
                intro a hE
                refine q_val (wk0 rfl) rfl rfl hE (v := (.int .i64 x3.x1)) (ex_load rfl hE rfl (fun w hw => run_ld1 varty3 (b4f.c 1 rfl w hw))) ?_
                intro a hE
                refine q_val (wk0 rfl) rfl rfl hE (v := (.int .i64 x2.x0)) (ex_asn rfl hE rfl) ?_
                intro a hE
                refine q_val (wk0 rfl) rfl rfl hE (v := (.int .i64 x3.x1)) (ex_asn rfl hE rfl) ?_
                intro a hE
                refine q_nil fun w hp => ?_
                have hp : Hp Z ρ (_ :: L) w := hp
                refine k_seq ?_
                refine k_seq ?_
                refine k_region ?_
                refine s_val (wk0 rfl) rfl rfl hE hp (v := (.int .i64 x2.x0)) (ex_move rfl hE rfl) ?_
                intro a hE
                refine s_val (wk0 rfl) rfl rfl hE hp (v := (.bool (decide (x2.x0 < 2)))) (ex_lss rfl hE rfl rfl) ?_
                intro a hE
                refine s_val (wk0 rfl) rfl rfl hE hp (v := (.bool (decide (x2.x0 < 2)))) (ex_move rfl hE rfl) ?_
                intro a hE
                refine s_cut [_, _, _, _] (fun a w => Env 84 [(51, (.bool ((decide (x2.x0 < 2)) || (decide (x3.x1 ≤ x2.x0))))), (1, (.pointer (some ⟨b1, 0, none⟩))), (3, (.int .i64 lp1_0)), (4, (.int .i64 x2.x0)), (5, (.int .i64 x3.x1))] a ∧ Hp Z ρ (Pt b1 (.cells #[(.int .i64 p0.inputs), vp0_gates] 38 (0, 0)) :: L) w) ?_ ?_
                · rcases Bool.eq_false_or_eq_true (decide (x2.x0 < 2)) with hc7 | hc7
                  ·
                    refine s_skip (wk2 hE rfl rfl rfl hc7) rfl rfl hE ?_
                    intro a hE
                    refine s_skip (wk2 hE rfl rfl rfl hc7) rfl rfl hE ?_
                    intro a hE
                    refine s_skip (wk2 hE rfl rfl rfl hc7) rfl rfl hE ?_
                    intro a hE
                    refine s_val (wk0 rfl) rfl rfl hE hp (v := (.bool true)) (ex_pick1 rfl hE rfl hc7 rfl) ?_
                    intro a hE
                    have hE := hE.eqv (v' := (.bool ((decide (x2.x0 < 2)) || (decide (x3.x1 ≤ x2.x0))))) (by rw [hc7]; rfl)
                    exact s_nil ⟨hE.cut ⟨rfl, rfl, rfl, rfl, rfl, trivial⟩, hp⟩
                  ·
                    refine s_val (wk1 hE rfl rfl rfl hc7) rfl rfl hE hp (v := (.int .i64 x3.x1)) (ex_move rfl hE rfl) ?_
                    intro a hE
                    refine s_val (wk1 hE rfl rfl rfl hc7) rfl rfl hE hp (v := (.int .i64 x2.x0)) (ex_move rfl hE rfl) ?_
                    intro a hE
                    refine s_val (wk1 hE rfl rfl rfl hc7) rfl rfl hE hp (v := (.bool (decide (x3.x1 ≤ x2.x0)))) (ex_leq rfl hE rfl rfl) ?_
                    intro a hE
                    refine s_val (wk0 rfl) rfl rfl hE hp (v := (.bool (decide (x3.x1 ≤ x2.x0)))) (ex_pick0 rfl hE rfl hc7 rfl) ?_
                    intro a hE
                    have hE := hE.eqv (v' := (.bool ((decide (x2.x0 < 2)) || (decide (x3.x1 ≤ x2.x0))))) (by rw [hc7]; rfl)
                    exact s_nil ⟨hE.cut ⟨rfl, rfl, rfl, rfl, rfl, trivial⟩, hp⟩
                · rintro a w ⟨hE, hp⟩
                  refine s_val (wk0 rfl) rfl rfl hE hp (v := (.bool ((decide (x2.x0 < 2)) || (decide (x3.x1 ≤ x2.x0))))) (ex_move rfl hE rfl) ?_
                  intro a hE
                  obtain ⟨m2, hg2, hl1⟩ := bnd hl1
                  refine s_cut [_, _, _, _, _, _, _, _, _] (fun a w => Env 84 [(61, (.bool m2)), (1, (.pointer (some ⟨b1, 0, none⟩))), (3, (.int .i64 lp1_0)), (4, (.int .i64 x2.x0)), (5, (.int .i64 x3.x1))] a ∧ Hp Z ρ (Pt b1 (.cells #[(.int .i64 p0.inputs), vp0_gates] 38 (0, 0)) :: L) w) ?_ ?_
                  · rcases Bool.eq_false_or_eq_true ((decide (x2.x0 < 2)) || (decide (x3.x1 ≤ x2.x0))) with hc8 | hc8
                    ·
                      replace hg2 := (it hc8).symm.trans hg2
                      refine s_skip (wk2 hE rfl rfl rfl hc8) rfl rfl hE ?_
                      intro a hE
                      refine s_skip (wk2 hE rfl rfl rfl hc8) rfl rfl hE ?_
                      intro a hE
                      refine s_skip (wk2 hE rfl rfl rfl hc8) rfl rfl hE ?_
                      intro a hE
                      refine s_skip (wk2 hE rfl rfl rfl hc8) rfl rfl hE ?_
                      intro a hE
                      refine s_skip (wk2 hE rfl rfl rfl hc8) rfl rfl hE ?_
                      intro a hE
                      refine s_skip (wk2 hE rfl rfl rfl hc8) rfl rfl hE ?_
                      intro a hE
                      refine s_skip (wk2 hE rfl rfl rfl hc8) rfl rfl hE ?_
                      intro a hE
                      refine s_skip (wk2 hE rfl rfl rfl hc8) rfl rfl hE ?_
                      intro a hE
                      refine s_val (wk0 rfl) rfl rfl hE hp (v := (.bool true)) (ex_pick1 rfl hE rfl hc8 rfl) ?_
                      intro a hE
                      obtain rfl := Option.some.inj hg2
                      exact s_nil ⟨hE.cut ⟨rfl, rfl, rfl, rfl, rfl, trivial⟩, hp⟩
                    ·
                      replace hg2 := (ie hc8).symm.trans hg2
                      refine s_val (wk1 hE rfl rfl rfl hc8) rfl rfl hE hp (v := (.int .i64 x3.x1)) (ex_move rfl hE rfl) ?_
                      intro a hE
                      refine s_val (wk1 hE rfl rfl rfl hc8) rfl rfl hE hp (v := (.pointer (some ⟨b1, 0, none⟩))) (ex_field rfl hE rfl (fldty38_0 _ _)) ?_
                      intro a hE
                      refine s_val (wk1 hE rfl rfl rfl hc8) rfl rfl hE hp (v := (.int .i64 p0.inputs)) (ex_load rfl hE rfl (fun w hw => run_ld1 varty3 (Hp.c 0 rfl 0 rfl w hw))) ?_
                      intro a hE
                      obtain ⟨x4, ex4, hg2⟩ := bnd hg2
                      refine s_val (wk1 hE rfl rfl rfl hc8) rfl rfl hE hp (v := (.int .i64 x4)) (ex_add rfl hE rfl rfl (inK_some ex4)) ?_
                      intro a hE
                      refine s_val (wk1 hE rfl rfl rfl hc8) rfl rfl hE hp (v := (.int .i64 lp1_0)) (ex_move rfl hE rfl) ?_
                      intro a hE
                      obtain ⟨x5, ex5, hg2⟩ := bnd hg2
                      refine s_val (wk1 hE rfl rfl rfl hc8) rfl rfl hE hp (v := (.int .i64 x5)) (ex_add rfl hE rfl rfl (inK_some ex5)) ?_
                      intro a hE
                      obtain ⟨x6, ex6, hg2⟩ := bnd hg2
                      refine s_val (wk1 hE rfl rfl rfl hc8) rfl rfl hE hp (v := (.int .i64 x6)) (ex_mul rfl hE rfl rfl (inK_some ex6)) ?_
                      intro a hE
                      refine s_val (wk1 hE rfl rfl rfl hc8) rfl rfl hE hp (v := (.bool (decide (x6 ≤ x3.x1)))) (ex_geq rfl hE rfl rfl) ?_
                      intro a hE
                      refine s_val (wk0 rfl) rfl rfl hE hp (v := (.bool (decide (x6 ≤ x3.x1)))) (ex_pick0 rfl hE rfl hc8 rfl) ?_
                      intro a hE
                      obtain rfl := Option.some.inj hg2
                      exact s_nil ⟨hE.cut ⟨rfl, rfl, rfl, rfl, rfl, trivial⟩, hp⟩
                  · rintro a w ⟨hE, hp⟩
                    refine s_val (wk0 rfl) rfl rfl hE hp (v := (.bool m2)) (ex_move rfl hE rfl) ?_
                    intro a hE
                    obtain ⟨m3, hg3, hl1⟩ := bnd hl1
                    refine s_cut [_, _, _, _, _] (fun a w => Env 84 [(67, (.bool m3)), (1, (.pointer (some ⟨b1, 0, none⟩))), (3, (.int .i64 lp1_0))] a ∧ Hp Z ρ (Pt b1 (.cells #[(.int .i64 p0.inputs), vp0_gates] 38 (0, 0)) :: L) w) ?_ ?_
                    · rcases Bool.eq_false_or_eq_true m2 with hc9 | hc9
                      ·
                        replace hg3 := (it hc9).symm.trans hg3
                        refine s_skip (wk2 hE rfl rfl rfl hc9) rfl rfl hE ?_
                        intro a hE
                        refine s_skip (wk2 hE rfl rfl rfl hc9) rfl rfl hE ?_
                        intro a hE
                        refine s_skip (wk2 hE rfl rfl rfl hc9) rfl rfl hE ?_
                        intro a hE
                        refine s_skip (wk2 hE rfl rfl rfl hc9) rfl rfl hE ?_
                        intro a hE
                        refine s_val (wk0 rfl) rfl rfl hE hp (v := (.bool true)) (ex_pick1 rfl hE rfl hc9 rfl) ?_
                        intro a hE
                        obtain rfl := Option.some.inj hg3
                        exact s_nil ⟨hE.cut ⟨rfl, rfl, rfl, trivial⟩, hp⟩
                      ·
                        replace hg3 := (ie hc9).symm.trans hg3
                        refine s_val (wk1 hE rfl rfl rfl hc9) rfl rfl hE hp (v := (.int .i64 x2.x0)) (ex_move rfl hE rfl) ?_
                        intro a hE
                        obtain ⟨x7, ex7, hg3⟩ := bnd hg3
                        refine s_call (wk1 hE rfl rfl rfl hc9) rfl rfl hE rfl [(.int .i64 x2.x0)] ⟨rfl, trivial⟩ ent81 (c_assessorref24_Not hT x2.x0 hp x7 ex7) Ret.ret ?_
                        intro v a w hR hE
                        obtain ⟨rfl, hp⟩ := Ret.of hR
                        have hp : Hp Z ρ (_ :: L) w := hp
                        refine s_val (wk1 hE rfl rfl rfl hc9) rfl rfl hE hp (v := (.int .i64 x3.x1)) (ex_move rfl hE rfl) ?_
                        intro a hE
                        refine s_val (wk1 hE rfl rfl rfl hc9) rfl rfl hE hp (v := (.bool (decide (x7 = x3.x1)))) (ex_eql rfl hE rfl rfl) ?_
                        intro a hE
                        refine s_val (wk0 rfl) rfl rfl hE hp (v := (.bool (decide (x7 = x3.x1)))) (ex_pick0 rfl hE rfl hc9 rfl) ?_
                        intro a hE
                        obtain rfl := Option.some.inj hg3
                        exact s_nil ⟨hE.cut ⟨rfl, rfl, rfl, trivial⟩, hp⟩
                    · rintro a w ⟨hE, hp⟩
                      refine s_nil ?_
                      refine k_if hE rfl (fun hc10 => ?_) (fun hc10 => ?_)
                      · replace hl1 := (it hc10).symm.trans hl1
                        refine k_seq ?_
                        refine k_region ?_
                        refine s_val (wk0 rfl) rfl rfl hE hp (v := (.bool false)) (ex_asn rfl hE rfl) ?_
                        intro a hE
                        refine s_nil ?_
                        refine k_ret ?_
                        refine ⟨_, (Option.some.inj hl1).symm, fun hb => ?_⟩
                        subst hb
                        obtain rfl := Option.some.inj hm
                        exact ret1 hE rfl rfl ⟨_, rfl, rfl, (hp.drop)⟩
                      · replace hl1 := (ie hc10).symm.trans hl1
                        refine k_skip ?_
                        refine k_seq ?_
                        refine k_region ?_
                        refine s_val (wk0 rfl) rfl rfl hE hp (v := (.int .i64 0)) (ex_asn rfl hE rfl) ?_
                        intro a hE
                        refine s_nil ?_
                        obtain ⟨b5, hc11, hl1⟩ := bnd hl1
                        refine k_block (fun a w => ∃ s : Unit, b5 = .brk s ∧ (Env 84 [(1, (.pointer (some ⟨b1, 0, none⟩))), (3, (.int .i64 lp1_0))] a ∧ Hp Z ρ (Pt b1 (.cells #[(.int .i64 p0.inputs), vp0_gates] 38 (0, 0)) :: L) w)) ?_ ?_
                        · refine k_loop hc11 (fun s a w => Env 84 [(1, (.pointer (some ⟨b1, 0, none⟩))), (3, (.int .i64 lp1_0)), (6, (.int .i64 s))] a ∧ Hp Z ρ (Pt b1 (.cells #[(.int .i64 p0.inputs), vp0_gates] 38 (0, 0)) :: L) w) ?_ ?_
                          · exact ⟨hE.cut ⟨rfl, rfl, rfl, trivial⟩, hp⟩
                          · rintro lp2_0 st a w ⟨hE, hp⟩ hl2
                            have hE : Env 84 [(1, (.pointer (some ⟨b1, 0, none⟩))), (3, (.int .i64 lp1_0)), (6, (.int .i64 lp2_0))] a := hE
                            have hp : Hp Z ρ (_ :: L) w := hp
                            replace hl2 : m_assessorref24_Valid_lp2 p0 lp1_0 lp2_0 = some st := hl2
                            unfold m_assessorref24_Valid_lp2 at hl2
                            refine k_seq ?_
                            refine k_seq ?_
                            refine k_region ?_
                            refine s_val (wk0 rfl) rfl rfl hE hp (v := (.int .i64 lp2_0)) (ex_move rfl hE rfl) ?_
                            intro a hE
                            refine s_val (wk0 rfl) rfl rfl hE hp (v := (.int .i64 lp1_0)) (ex_move rfl hE rfl) ?_
                            intro a hE
                            refine s_val (wk0 rfl) rfl rfl hE hp (v := (.bool (decide (lp2_0 < lp1_0)))) (ex_lss rfl hE rfl rfl) ?_
                            intro a hE
                            refine s_nil ?_
                            have hE := hE.cut (E' := [(1, (.pointer (some ⟨b1, 0, none⟩))), (3, (.int .i64 lp1_0)), (6, (.int .i64 lp2_0)), (70, (.bool (decide (lp2_0 < lp1_0))))]) ⟨rfl, rfl, rfl, rfl, trivial⟩
                            refine k_if hE rfl (fun hc12 => ?_) (fun hc12 => ?_)
                            · replace hl2 := (it hc12).symm.trans hl2
                              refine k_skip ?_
                              refine k_seq ?_
                              refine k_plain ?_
                              refine k_seq ?_
                              refine k_quiet (by kernel_rfl) (by kernel_rfl) hp ?_
                              refine q_val (wk0 rfl) rfl rfl hE (v := (.pointer (some ⟨b1, 1, none⟩))) (ex_field rfl hE rfl (fldty38_1 _ _)) ?_
                              intro a hE
                              refine q_val (wk0 rfl) rfl rfl hE (v := vp0_gates) (ex_load rfl hE rfl (fun w hw => run_ld1 varty36 (Hp.c 0 rfl 1 rfl w hw))) ?_
                              intro a hE
                              refine q_val (wk0 rfl) rfl rfl hE (v := (.int .i64 lp2_0)) (ex_move rfl hE rfl) ?_
                              intro a hE
                              obtain ⟨x8, ex8, hl2⟩ := bnd hl2
                              obtain ⟨b6, b6o, b6c, b6r, b6k, b6f⟩ := RoSl.at hp0_gates slty36 ex8
                              obtain rfl : b6c = Enc.enc x8 := b6k
                              have b6f : AtP ρ b6 b6o [(.int .i64 x8.x0), (.int .i64 x8.x1)] := b6f
                              refine q_val (wk0 rfl) rfl rfl hE (v := (.pointer (some ⟨b6, b6o, none⟩))) (ex_index rfl hE rfl rfl b6r) ?_
                              intro a hE
                              refine q_val (wk0 rfl) rfl rfl hE (v := (.agg #[(.int .i64 x8.x0), (.int .i64 x8.x1)])) (ex_load rfl hE rfl (fun w hw => run_ldN (cs := [(.int .i64 x8.x0), (.int .i64 x8.x1)]) varty62 (fun j u hj => cell_of hw.le (b6f j u hj)))) ?_
                              intro a hE
                              refine q_val (wk0 rfl) rfl rfl hE (v := (.pointer (some ⟨b1, 1, none⟩))) (ex_field rfl hE rfl (fldty38_1 _ _)) ?_
                              intro a hE
                              refine q_val (wk0 rfl) rfl rfl hE (v := vp0_gates) (ex_load rfl hE rfl (fun w hw => run_ld1 varty36 (Hp.c 0 rfl 1 rfl w hw))) ?_
                              intro a hE
                              refine q_val (wk0 rfl) rfl rfl hE (v := (.int .i64 lp1_0)) (ex_move rfl hE rfl) ?_
                              intro a hE
                              obtain ⟨x9, ex9, hl2⟩ := bnd hl2
                              obtain ⟨b7, b7o, b7c, b7r, b7k, b7f⟩ := RoSl.at hp0_gates slty36 ex9
                              obtain rfl : b7c = Enc.enc x9 := b7k
                              have b7f : AtP ρ b7 b7o [(.int .i64 x9.x0), (.int .i64 x9.x1)] := b7f
                              refine q_val (wk0 rfl) rfl rfl hE (v := (.pointer (some ⟨b7, b7o, none⟩))) (ex_index rfl hE rfl rfl b7r) ?_
                              intro a hE
                              refine q_val (wk0 rfl) rfl rfl hE (v := (.agg #[(.int .i64 x9.x0), (.int .i64 x9.x1)])) (ex_load rfl hE rfl (fun w hw => run_ldN (cs := [(.int .i64 x9.x0), (.int .i64 x9.x1)]) varty62 (fun j u hj => cell_of hw.le (b7f j u hj)))) ?_
                              intro a hE
                              refine q_val (wk0 rfl) rfl rfl hE (v := (.bool ((decide (x8.x0 = x9.x0)) && (decide (x8.x1 = x9.x1))))) (ex_steql (eqst62 x8.x0 x8.x1 x9.x0 x9.x1) rfl hE rfl rfl) ?_
                              intro a hE
                              refine q_nil fun w hp => ?_
                              have hp : Hp Z ρ (_ :: L) w := hp
                              refine k_if hE rfl (fun hc13 => ?_) (fun hc13 => ?_)
                              · replace hl2 := (it hc13).symm.trans hl2
                                refine k_seq ?_
                                refine k_region ?_
                                refine s_val (wk0 rfl) rfl rfl hE hp (v := (.bool false)) (ex_asn rfl hE rfl) ?_
                                intro a hE
                                refine s_nil ?_
                                refine k_ret ?_
                                refine ⟨_, (Option.some.inj hl2).symm, fun hb => ?_⟩
                                subst hb
                                refine ⟨_, (Option.some.inj hl1).symm, fun hb => ?_⟩
                                subst hb
                                obtain rfl := Option.some.inj hm
                                exact ret1 hE rfl rfl ⟨_, rfl, rfl, (hp.drop)⟩
                              · replace hl2 := (ie hc13).symm.trans hl2
                                refine k_skip ?_
                                refine k_region ?_
                                refine s_val (wk0 rfl) rfl rfl hE hp (v := (.int .i64 lp2_0)) (ex_move rfl hE rfl) ?_
                                intro a hE
                                obtain ⟨x10, ex10, hl2⟩ := bnd hl2
                                refine s_val (wk0 rfl) rfl rfl hE hp (v := (.int .i64 x10)) (ex_add rfl hE rfl rfl (inK_some ex10)) ?_
                                intro a hE
                                refine s_val (wk0 rfl) rfl rfl hE hp (v := (.int .i64 x10)) (ex_asn rfl hE rfl) ?_
                                intro a hE
                                refine s_nil ?_
                                exact ⟨_, (Option.some.inj hl2).symm, hE.cut ⟨rfl, rfl, rfl, trivial⟩, hp⟩
                            · replace hl2 := (ie hc12).symm.trans hl2
                              refine k_exit ?_
                              refine ⟨_, (Option.some.inj hl2).symm, fun hbb => ?_⟩
                              exact ⟨_, hbb.symm, hE.cut ⟨rfl, rfl, trivial⟩, hp⟩
                        · rintro a w ⟨b5s, rfl, hE, hp⟩
                          dsimp only at hl1
                          refine k_region ?_
                          refine s_val (wk0 rfl) rfl rfl hE hp (v := (.int .i64 lp1_0)) (ex_move rfl hE rfl) ?_
                          intro a hE
                          obtain ⟨x11, ex11, hl1⟩ := bnd hl1
                          refine s_val (wk0 rfl) rfl rfl hE hp (v := (.int .i64 x11)) (ex_add rfl hE rfl rfl (inK_some ex11)) ?_
                          intro a hE
                          refine s_val (wk0 rfl) rfl rfl hE hp (v := (.int .i64 x11)) (ex_asn rfl hE rfl) ?_
                          intro a hE
                          refine s_nil ?_
                          exact ⟨_, (Option.some.inj hl1).symm, hE.cut ⟨rfl, rfl, trivial⟩, hp⟩
              · replace hl1 := (ie hc6).symm.trans hl1
                refine k_exit ?_
                refine ⟨_, (Option.some.inj hl1).symm, fun hbb => ?_⟩
                exact ⟨_, hbb.symm, hE.cut trivial, hp⟩
          · rintro a w ⟨b2s, rfl, hE, hp⟩
            dsimp only at hm
            refine k_seq ?_
            refine k_region ?_
            refine s_val (wk0 rfl) rfl rfl hE hp (v := (.bool true)) (ex_asn rfl hE rfl) ?_
            intro a hE
            refine s_nil ?_
            refine k_ret ?_
            obtain rfl := Option.some.inj hm
            exact ret1 hE rfl rfl ⟨_, rfl, rfl, (hp.drop)⟩
end Go.Proofs.YtelioaepnpnojaaGreatDoor

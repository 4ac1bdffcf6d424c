/- The code goes as its model: assessor/gates.nodes, assessor/gates.Not, assessor/gates.Valid, (*assessor/gates.Builder).literal, assessor/gates.known, assessor/ga -/
import Derived.Test.YtelioaepnpnojaaGreatDoorKCi3
import Derived.Test.YtelioaepnpnojaaGreatDoorKCi4
set_option linter.unusedVariables false
set_option linter.unusedSimpArgs false
namespace Go.Proofs.YtelioaepnpnojaaGreatDoor
open Go.RowKit
set_option maxRecDepth 100000 in
set_option maxHeartbeats 4000000 in
theorem c_gates_nodes {Z : World} {ρ : PH} {L : List Atom} {w : World} (hT : Tabs ρ) (p0 : Gates) (vp0_gates : Value) (hp0_gates : RoSl ρ vp0_gates p0.gates) (hp : Hp Z ρ (L) w) (r : Int) (hm : m_gates_nodes p0 = some r) :
    Calls Tryz.prog 79 #[(.agg #[(.int .i64 p0.inputs), vp0_gates])] w (Ret fun v w' => v = (.int .i64 r) ∧ Hp Z ρ (L) w') := by
  refine enter (N := 10) Tryz.func79 rfl rfl [(0, (.agg #[(.int .i64 p0.inputs), vp0_gates]))] rfl (argsIn_mem ⟨rfl, trivial⟩) fun a hE => ?_
  unfold m_gates_nodes at hm
  refine k_seq ?_
  refine k_region ?_
  refine s_box (wk0 rfl) rfl rfl hE hp rfl (v := (.agg #[(.int .i64 p0.inputs), vp0_gates])) rfl ?_
  intro a w b1 hE hp
  have hp : Hp Z ρ (Pt b1 (.cells #[(.int .i64 p0.inputs), vp0_gates] 38 (0, 0)) :: L) w := hp
  refine s_val (wk0 rfl) rfl rfl hE hp (v := (.int .i64 0)) (ex_asn rfl hE rfl) ?_
  intro a hE
  refine s_nil ?_
  refine k_seq ?_
  refine k_region ?_
  refine s_val (wk0 rfl) rfl rfl hE hp (v := (.pointer (some ⟨b1, 0, none⟩))) (ex_field rfl hE rfl (fldty38_0 _ _)) ?_
  intro a hE
  refine s_val (wk0 rfl) rfl rfl hE hp (v := (.int .i64 p0.inputs)) (ex_load rfl hE rfl (fun w hw => run_ld1 varty3 (Hp.c 0 rfl 0 rfl w hw))) ?_
  intro a hE
  obtain ⟨x1, ex1, hm⟩ := bnd hm
  refine s_val (wk0 rfl) rfl rfl hE hp (v := (.int .i64 x1)) (ex_add rfl hE rfl rfl (inK_some ex1)) ?_
  intro a hE
  refine s_val (wk0 rfl) rfl rfl hE hp (v := (.pointer (some ⟨b1, 1, none⟩))) (ex_field rfl hE rfl (fldty38_1 _ _)) ?_
  intro a hE
  refine s_val (wk0 rfl) rfl rfl hE hp (v := vp0_gates) (ex_load rfl hE rfl (fun w hw => run_ld1 varty36 (Hp.c 0 rfl 1 rfl w hw))) ?_
  intro a hE
  refine s_val (wk0 rfl) rfl rfl hE hp (v := (.int .i64 (p0.gates.length : Int))) (ex_len rfl hE rfl (RoSl.len hp0_gates slty36)) ?_
  intro a hE
  obtain ⟨x2, ex2, hm⟩ := bnd hm
  refine s_val (wk0 rfl) rfl rfl hE hp (v := (.int .i64 x2)) (ex_add rfl hE rfl rfl (inK_some ex2)) ?_
  intro a hE
  refine s_val (wk0 rfl) rfl rfl hE hp (v := (.int .i64 x2)) (ex_asn rfl hE rfl) ?_
  intro a hE
  refine s_nil ?_
  refine k_ret ?_
  obtain rfl := Option.some.inj hm
  exact ret1 hE rfl rfl ⟨_, rfl, rfl, (hp.drop)⟩
set_option maxRecDepth 100000 in
set_option maxHeartbeats 4000000 in
theorem c_gates_Not {Z : World} {ρ : PH} {L : List Atom} {w : World} (hT : Tabs ρ) (p0 : Int) (hp : Hp Z ρ (L) w) (r : Int) (hm : m_gates_Not p0 = some r) :
    Calls Tryz.prog 80 #[(.int .i64 p0)] w (Ret fun v w' => v = (.int .i64 r) ∧ Hp Z ρ (L) w') := by
  refine enter (N := 5) Tryz.func80 rfl rfl [(0, (.int .i64 p0))] rfl (argsIn_mem ⟨rfl, trivial⟩) fun a hE => ?_
  unfold m_gates_Not at hm
  refine k_seq ?_
  refine k_region ?_
  refine s_val (wk0 rfl) rfl rfl hE hp (v := (.int .i64 0)) (ex_asn rfl hE rfl) ?_
  intro a hE
  refine s_nil ?_
  refine k_seq ?_
  refine k_region ?_
  refine s_val (wk0 rfl) rfl rfl hE hp (v := (.int .i64 p0)) (ex_move rfl hE rfl) ?_
  intro a hE
  refine s_val (wk0 rfl) rfl rfl hE hp (v := (.int .i64 (xorK .i64 p0 1))) (ex_xor rfl hE rfl rfl) ?_
  intro a hE
  refine s_val (wk0 rfl) rfl rfl hE hp (v := (.int .i64 (xorK .i64 p0 1))) (ex_asn rfl hE rfl) ?_
  intro a hE
  refine s_nil ?_
  refine k_ret ?_
  obtain rfl := Option.some.inj hm
  exact ret1 hE rfl rfl ⟨_, rfl, rfl, hp⟩
set_option maxRecDepth 100000 in
set_option maxHeartbeats 4000000 in
theorem c_gates_Valid {Z : World} {ρ : PH} {L : List Atom} {w : World} (hT : Tabs ρ) (p0 : Gates) (vp0_gates : Value) (hp0_gates : RoSl ρ vp0_gates p0.gates) (hp : Hp Z ρ (L) w) (r : Bool) (hm : m_gates_Valid p0 = some r) :
    Calls Tryz.prog 51 #[(.agg #[(.int .i64 p0.inputs), vp0_gates])] w (Ret fun v w' => v = (.bool r) ∧ Hp Z ρ (L) w') := by
  refine enter (N := 67) Tryz.func51 rfl rfl [(0, (.agg #[(.int .i64 p0.inputs), vp0_gates]))] rfl (argsIn_mem ⟨rfl, trivial⟩) fun a hE => ?_
  unfold m_gates_Valid at hm
  refine k_seq ?_
  refine k_region ?_
  refine s_box (wk0 rfl) rfl rfl hE hp rfl (v := (.agg #[(.int .i64 p0.inputs), vp0_gates])) rfl ?_
  intro a w b1 hE hp
  have hp : Hp Z ρ (Pt b1 (.cells #[(.int .i64 p0.inputs), vp0_gates] 38 (0, 0)) :: L) w := hp
  refine s_val (wk0 rfl) rfl rfl hE hp (v := (.bool false)) (ex_asn rfl hE rfl) ?_
  intro a hE
  refine s_nil ?_
  refine k_seq ?_
  refine k_seq ?_
  refine k_region ?_
  refine s_val (wk0 rfl) rfl rfl hE hp (v := (.pointer (some ⟨b1, 0, none⟩))) (ex_field rfl hE rfl (fldty38_0 _ _)) ?_
  intro a hE
  refine s_val (wk0 rfl) rfl rfl hE hp (v := (.int .i64 p0.inputs)) (ex_load rfl hE rfl (fun w hw => run_ld1 varty3 (Hp.c 0 rfl 0 rfl w hw))) ?_
  intro a hE
  refine s_val (wk0 rfl) rfl rfl hE hp (v := (.bool (decide (p0.inputs < 0)))) (ex_lss rfl hE rfl rfl) ?_
  intro a hE
  refine s_val (wk0 rfl) rfl rfl hE hp (v := (.bool (decide (p0.inputs < 0)))) (ex_move rfl hE rfl) ?_
  intro a hE
  refine s_cut [_, _, _, _] (fun a w => Env 67 [(14, (.bool ((decide (p0.inputs < 0)) || (decide (1024 < p0.inputs))))), (1, (.pointer (some ⟨b1, 0, none⟩)))] a ∧ Hp Z ρ (Pt b1 (.cells #[(.int .i64 p0.inputs), vp0_gates] 38 (0, 0)) :: L) w) ?_ ?_
  · rcases Bool.eq_false_or_eq_true (decide (p0.inputs < 0)) with hc1 | hc1
    ·
      refine s_skip (wk2 hE rfl rfl rfl hc1) rfl rfl hE ?_
      intro a hE
      refine s_skip (wk2 hE rfl rfl rfl hc1) rfl rfl hE ?_
      intro a hE
      refine s_skip (wk2 hE rfl rfl rfl hc1) rfl rfl hE ?_
      intro a hE
      refine s_val (wk0 rfl) rfl rfl hE hp (v := (.bool true)) (ex_pick1 rfl hE rfl hc1 rfl) ?_
      intro a hE
      have hE := hE.eqv (v' := (.bool ((decide (p0.inputs < 0)) || (decide (1024 < p0.inputs))))) (by rw [hc1]; rfl)
      exact s_nil ⟨hE.cut ⟨rfl, rfl, trivial⟩, hp⟩
    ·
      refine s_val (wk1 hE rfl rfl rfl hc1) rfl rfl hE hp (v := (.pointer (some ⟨b1, 0, none⟩))) (ex_field rfl hE rfl (fldty38_0 _ _)) ?_
      intro a hE
      refine s_val (wk1 hE rfl rfl rfl hc1) rfl rfl hE hp (v := (.int .i64 p0.inputs)) (ex_load rfl hE rfl (fun w hw => run_ld1 varty3 (Hp.c 0 rfl 0 rfl w hw))) ?_
      intro a hE
      refine s_val (wk1 hE rfl rfl rfl hc1) rfl rfl hE hp (v := (.bool (decide (1024 < p0.inputs)))) (ex_gtr rfl hE rfl rfl) ?_
      intro a hE
      refine s_val (wk0 rfl) rfl rfl hE hp (v := (.bool (decide (1024 < p0.inputs)))) (ex_pick0 rfl hE rfl hc1 rfl) ?_
      intro a hE
      have hE := hE.eqv (v' := (.bool ((decide (p0.inputs < 0)) || (decide (1024 < p0.inputs))))) (by rw [hc1]; rfl)
      exact s_nil ⟨hE.cut ⟨rfl, rfl, trivial⟩, hp⟩
  · rintro a w ⟨hE, hp⟩
    refine s_val (wk0 rfl) rfl rfl hE hp (v := (.bool ((decide (p0.inputs < 0)) || (decide (1024 < p0.inputs))))) (ex_move rfl hE rfl) ?_
    intro a hE
    obtain ⟨m1, hg1, hm⟩ := bnd hm
    refine s_cut [_, _, _, _] (fun a w => Env 67 [(19, (.bool m1)), (1, (.pointer (some ⟨b1, 0, none⟩)))] a ∧ Hp Z ρ (Pt b1 (.cells #[(.int .i64 p0.inputs), vp0_gates] 38 (0, 0)) :: L) w) ?_ ?_
    · rcases Bool.eq_false_or_eq_true ((decide (p0.inputs < 0)) || (decide (1024 < p0.inputs))) with hc2 | hc2
      ·
        replace hg1 := (it hc2).symm.trans hg1
        refine s_skip (wk2 hE rfl rfl rfl hc2) rfl rfl hE ?_
        intro a hE
        refine s_skip (wk2 hE rfl rfl rfl hc2) rfl rfl hE ?_
        intro a hE
        refine s_skip (wk2 hE rfl rfl rfl hc2) rfl rfl hE ?_
        intro a hE
        refine s_val (wk0 rfl) rfl rfl hE hp (v := (.bool true)) (ex_pick1 rfl hE rfl hc2 rfl) ?_
        intro a hE
        obtain rfl := Option.some.inj hg1
        exact s_nil ⟨hE.cut ⟨rfl, rfl, trivial⟩, hp⟩
      ·
        replace hg1 := (ie hc2).symm.trans hg1
        refine s_val (wk1 hE rfl rfl rfl hc2) rfl rfl hE hp (v := (.agg #[(.int .i64 p0.inputs), vp0_gates])) (ex_load rfl hE rfl (fun w hw => run_ldN (cs := [(.int .i64 p0.inputs), vp0_gates]) varty38 (Hp.cN 0 rfl 0 _ (sub_all rfl) w hw))) ?_
        intro a hE
        obtain ⟨x1, ex1, hg1⟩ := bnd hg1
        refine s_call (wk1 hE rfl rfl rfl hc2) rfl rfl hE rfl [(.agg #[(.int .i64 p0.inputs), vp0_gates])] ⟨rfl, trivial⟩ ent79 (c_gates_nodes hT p0 vp0_gates hp0_gates hp x1 ex1) Ret.ret ?_
        intro v a w hR hE
        obtain ⟨rfl, hp⟩ := Ret.of hR
        have hp : Hp Z ρ (_ :: L) w := hp
        refine s_val (wk1 hE rfl rfl rfl hc2) rfl rfl hE hp (v := (.bool (decide (65536 < x1)))) (ex_gtr rfl hE rfl rfl) ?_
        intro a hE
        refine s_val (wk0 rfl) rfl rfl hE hp (v := (.bool (decide (65536 < x1)))) (ex_pick0 rfl hE rfl hc2 rfl) ?_
        intro a hE
        obtain rfl := Option.some.inj hg1
        exact s_nil ⟨hE.cut ⟨rfl, rfl, trivial⟩, hp⟩
    · rintro a w ⟨hE, hp⟩
      refine s_nil ?_
      refine k_if hE rfl (fun hc3 => ?_) (fun hc3 => ?_)
      · replace hm := (it hc3).symm.trans hm
        refine k_seq ?_
        refine k_region ?_
        refine s_val (wk0 rfl) rfl rfl hE hp (v := (.bool false)) (ex_asn rfl hE rfl) ?_
        intro a hE
        refine s_nil ?_
        refine k_ret ?_
        obtain rfl := Option.some.inj hm
        exact ret1 hE rfl rfl ⟨_, rfl, rfl, (hp.drop)⟩
      · replace hm := (ie hc3).symm.trans hm
        refine k_skip ?_
        refine k_seq ?_
        refine k_region ?_
        refine s_mkmap (κ := Arr2) (β := Bool) (wk0 rfl) rfl rfl hE hp rfl ?_
        intro a w b2 hE hp
        have hp : Hp Z ρ (MapA b2 ([] : List (Arr2 × Bool)) :: _ :: L) w := hp
        refine s_val (wk0 rfl) rfl rfl hE hp (v := (.map (some b2))) (ex_asn rfl hE rfl) ?_
        intro a hE
        refine s_nil ?_
        refine k_seq ?_
        refine k_seq ?_
        refine k_region ?_
        refine s_val (wk0 rfl) rfl rfl hE hp (v := (.pointer (some ⟨b1, 1, none⟩))) (ex_field rfl hE rfl (fldty38_1 _ _)) ?_
        intro a hE
        refine s_val (wk0 rfl) rfl rfl hE hp (v := vp0_gates) (ex_load rfl hE rfl (fun w hw => run_ld1 varty36 (Hp.c 1 rfl 1 rfl w hw))) ?_
        intro a hE
        refine s_val (wk0 rfl) rfl rfl hE hp (v := (.int .i64 (p0.gates.length : Int))) (ex_len rfl hE rfl (RoSl.len hp0_gates slty36)) ?_
        intro a hE
        refine s_val (wk0 rfl) rfl rfl hE hp (v := (.int .i64 0)) (ex_move rfl hE rfl) ?_
        intro a hE
        refine s_nil ?_
        obtain ⟨b3, hc4, hm⟩ := bnd hm
        refine k_block (fun a w => ∃ s : (List (Arr2 × Bool)), b3 = .brk s ∧ (Env 67 [] a ∧ Hp Z ρ (MapA b2 (s : List (Arr2 × Bool)) :: Pt b1 (.cells #[(.int .i64 p0.inputs), vp0_gates] 38 (0, 0)) :: L) w)) ?_ ?_
        · refine k_loop hc4 (fun s a w => Env 67 [(1, (.pointer (some ⟨b1, 0, none⟩))), (3, (.map (some b2))), (22, vp0_gates), (23, (.int .i64 (p0.gates.length : Int))), (24, (.int .i64 s.1))] a ∧ Hp Z ρ (MapA b2 (s.2 : List (Arr2 × Bool)) :: Pt b1 (.cells #[(.int .i64 p0.inputs), vp0_gates] 38 (0, 0)) :: L) w) ?_ ?_
          · exact ⟨hE.cut ⟨rfl, rfl, rfl, rfl, rfl, trivial⟩, hp⟩
          · rintro ⟨lp1_0, lp1_1⟩ st a w ⟨hE, hp⟩ hl1
            have hE : Env 67 [(1, (.pointer (some ⟨b1, 0, none⟩))), (3, (.map (some b2))), (22, vp0_gates), (23, (.int .i64 (p0.gates.length : Int))), (24, (.int .i64 lp1_0))] a := hE
            have hp : Hp Z ρ (MapA b2 (lp1_1 : List (Arr2 × Bool)) :: _ :: L) w := hp
            replace hl1 : m_gates_Valid_lp1 p0 lp1_0 lp1_1 = some st := hl1
            unfold m_gates_Valid_lp1 at hl1
            refine k_seq ?_
            refine k_region ?_
            refine s_val (wk0 rfl) rfl rfl hE hp (v := (.bool (decide (lp1_0 < (p0.gates.length : Int))))) (ex_lss rfl hE rfl rfl) ?_
            intro a hE
            refine s_nil ?_
            refine k_seq ?_
            refine k_if hE rfl (fun hc5 => ?_) (fun hc5 => ?_)
            · replace hl1 := (it hc5).symm.trans hl1
              refine k_skip ?_
              refine k_seq ?_
              refine k_plain ?_
              refine k_seq ?_
              refine k_region ?_
              refine s_val (wk0 rfl) rfl rfl hE hp (v := (.int .i64 lp1_0)) (ex_move rfl hE rfl) ?_
              intro a hE
              obtain ⟨x2, ex2, hl1⟩ := bnd hl1
              obtain ⟨b4, b4o, b4c, b4r, b4k, b4f⟩ := RoSl.at hp0_gates slty36 ex2
              obtain rfl : b4c = Enc.enc x2 := b4k
              have b4f : AtP ρ b4 b4o [(.int .i64 x2.x0), (.int .i64 x2.x1)] := b4f
              refine s_val (wk0 rfl) rfl rfl hE hp (v := (.pointer (some ⟨b4, b4o, none⟩))) (ex_index rfl hE rfl rfl b4r) ?_
              intro a hE
              refine s_val (wk0 rfl) rfl rfl hE hp (v := (.agg #[(.int .i64 x2.x0), (.int .i64 x2.x1)])) (ex_load rfl hE rfl (fun w hw => run_ldN (cs := [(.int .i64 x2.x0), (.int .i64 x2.x1)]) varty62 (fun j u hj => cell_of hw.le (b4f j u hj)))) ?_
              intro a hE
              refine s_new (wk0 rfl) rfl rfl hE hp rfl [(.int .i64 0), (.int .i64 0)] (fun w => by simp [Instr.alloc, go_sem] <;> rfl) ?_
              intro a w b5 hE hp
              have hp : Hp Z ρ (Pt b5 (.cells #[(.int .i64 0), (.int .i64 0)] 62 (0, 0)) :: _ :: _ :: L) w := hp
              refine s_val (wk0 rfl) rfl rfl hE hp (v := (.int .i64 lp1_0)) (ex_asn rfl hE rfl) ?_
              intro a hE
              refine s_store (wk0 rfl) rfl hE hp rfl rfl rfl 0 rfl varty62.size_ rfl (allOne_mem ⟨rfl, rfl, trivial⟩) [(.int .i64 x2.x0), (.int .i64 x2.x1)] rfl ?_
              intro w hp
              have hp : Hp Z ρ (Pt b5 (.cells #[(.int .i64 x2.x0), (.int .i64 x2.x1)] 62 (0, 0)) :: _ :: _ :: L) w := hp
              refine s_nil ?_
              refine k_seq ?_
              refine k_region ?_
              refine s_val (wk0 rfl) rfl rfl hE hp (v := (.pointer (some ⟨b1, 0, none⟩))) (ex_field rfl hE rfl (fldty38_0 _ _)) ?_
              intro a hE
              refine s_val (wk0 rfl) rfl rfl hE hp (v := (.int .i64 p0.inputs)) (ex_load rfl hE rfl (fun w hw => run_ld1 varty3 (Hp.c 2 rfl 0 rfl w hw))) ?_
              intro a hE
              obtain ⟨x3, ex3, hl1⟩ := bnd hl1
              refine s_val (wk0 rfl) rfl rfl hE hp (v := (.int .i64 x3)) (ex_add rfl hE rfl rfl (inK_some ex3)) ?_
              intro a hE
              refine s_val (wk0 rfl) rfl rfl hE hp (v := (.int .i64 lp1_0)) (ex_move rfl hE rfl) ?_
              intro a hE
              obtain ⟨x4, ex4, hl1⟩ := bnd hl1
              refine s_val (wk0 rfl) rfl rfl hE hp (v := (.int .i64 x4)) (ex_add rfl hE rfl rfl (inK_some ex4)) ?_
              intro a hE
              refine s_val (wk0 rfl) rfl rfl hE hp (v := (.int .i64 x4)) (ex_asn rfl hE rfl) ?_
              intro a hE
              refine s_nil ?_
              refine k_seq ?_
              refine k_seq ?_
              refine k_quiet (by kernel_rfl) (by kernel_rfl) hp ?_
              refine q_val (wk0 rfl) rfl rfl hE (v := (.pointer (some ⟨b5, 0, none⟩))) (ex_index rfl hE rfl rfl (aelty62_0 _ _)) ?_
              intro a hE
              refine q_val (wk0 rfl) rfl rfl hE (v := (.int .i64 x2.x0)) (ex_load rfl hE rfl (fun w hw => run_ld1 varty3 (Hp.c 0 rfl 0 rfl w hw))) ?_
              intro a hE
              refine q_val (wk0 rfl) rfl rfl hE (v := (.bool (decide (x2.x0 < 2)))) (ex_lss rfl hE rfl rfl) ?_
              intro a hE
              refine q_val (wk0 rfl) rfl rfl hE (v := (.bool (decide (x2.x0 < 2)))) (ex_move rfl hE rfl) ?_
              intro a hE
              refine q_cut [_, _, _, _, _, _] (fun a => Env 67 [(43, (.bool ((decide (x2.x0 < 2)) || (decide (x2.x1 ≤ x2.x0))))), (1, (.pointer (some ⟨b1, 0, none⟩))), (3, (.map (some b2))), (5, (.pointer (some ⟨b5, 0, none⟩))), (6, (.int .i64 x4)), (22, vp0_gates), (23, (.int .i64 (p0.gates.length : Int))), (24, (.int .i64 lp1_0))] a) ?_ ?_
              · rcases Bool.eq_false_or_eq_true (decide (x2.x0 < 2)) with hc6 | hc6
                ·
                  refine q_skip (wk2 hE rfl rfl rfl hc6) rfl rfl hE ?_
                  intro a hE
                  refine q_skip (wk2 hE rfl rfl rfl hc6) rfl rfl hE ?_
                  intro a hE
                  refine q_skip (wk2 hE rfl rfl rfl hc6) rfl rfl hE ?_
                  intro a hE
                  refine q_skip (wk2 hE rfl rfl rfl hc6) rfl rfl hE ?_
                  intro a hE
                  refine q_skip (wk2 hE rfl rfl rfl hc6) rfl rfl hE ?_
                  intro a hE
                  refine q_val (wk0 rfl) rfl rfl hE (v := (.bool true)) (ex_pick1 rfl hE rfl hc6 rfl) ?_
                  intro a hE
                  have hE := hE.eqv (v' := (.bool ((decide (x2.x0 < 2)) || (decide (x2.x1 ≤ x2.x0))))) (by rw [hc6]; rfl)
                  exact q_nil (hE.cut ⟨rfl, rfl, rfl, rfl, rfl, rfl, rfl, rfl, trivial⟩)
                ·
                  refine q_val (wk1 hE rfl rfl rfl hc6) rfl rfl hE (v := (.pointer (some ⟨b5, 0, none⟩))) (ex_index rfl hE rfl rfl (aelty62_0 _ _)) ?_
                  intro a hE
                  refine q_val (wk1 hE rfl rfl rfl hc6) rfl rfl hE (v := (.int .i64 x2.x0)) (ex_load rfl hE rfl (fun w hw => run_ld1 varty3 (Hp.c 0 rfl 0 rfl w hw))) ?_
                  intro a hE
                  refine q_val (wk1 hE rfl rfl rfl hc6) rfl rfl hE (v := (.pointer (some ⟨b5, 1, none⟩))) (ex_index rfl hE rfl rfl (aelty62_1 _ _)) ?_
                  intro a hE
                  refine q_val (wk1 hE rfl rfl rfl hc6) rfl rfl hE (v := (.int .i64 x2.x1)) (ex_load rfl hE rfl (fun w hw => run_ld1 varty3 (Hp.c 0 rfl 1 rfl w hw))) ?_
                  intro a hE
                  refine q_val (wk1 hE rfl rfl rfl hc6) rfl rfl hE (v := (.bool (decide (x2.x1 ≤ x2.x0)))) (ex_geq rfl hE rfl rfl) ?_
                  intro a hE
                  refine q_val (wk0 rfl) rfl rfl hE (v := (.bool (decide (x2.x1 ≤ x2.x0)))) (ex_pick0 rfl hE rfl hc6 rfl) ?_
                  intro a hE
                  have hE := hE.eqv (v' := (.bool ((decide (x2.x0 < 2)) || (decide (x2.x1 ≤ x2.x0))))) (by rw [hc6]; rfl)
                  exact q_nil (hE.cut ⟨rfl, rfl, rfl, rfl, rfl, rfl, rfl, rfl, trivial⟩)
              · intro a hE
                refine q_val (wk0 rfl) rfl rfl hE (v := (.bool ((decide (x2.x0 < 2)) || (decide (x2.x1 ≤ x2.x0))))) (ex_move rfl hE rfl) ?_
                intro a hE
                obtain ⟨m2, hg2, hl1⟩ := bnd hl1
                refine q_cut [_, _, _, _, _, _] (fun a => Env 67 [(50, (.bool m2)), (1, (.pointer (some ⟨b1, 0, none⟩))), (3, (.map (some b2))), (5, (.pointer (some ⟨b5, 0, none⟩))), (22, vp0_gates), (23, (.int .i64 (p0.gates.length : Int))), (24, (.int .i64 lp1_0))] a) ?_ ?_
                · rcases Bool.eq_false_or_eq_true ((decide (x2.x0 < 2)) || (decide (x2.x1 ≤ x2.x0))) with hc7 | hc7
                  ·
                    replace hg2 := (it hc7).symm.trans hg2
                    refine q_skip (wk2 hE rfl rfl rfl hc7) rfl rfl hE ?_
                    intro a hE
                    refine q_skip (wk2 hE rfl rfl rfl hc7) rfl rfl hE ?_
                    intro a hE
                    refine q_skip (wk2 hE rfl rfl rfl hc7) rfl rfl hE ?_
                    intro a hE
                    refine q_skip (wk2 hE rfl rfl rfl hc7) rfl rfl hE ?_
                    intro a hE
                    refine q_skip (wk2 hE rfl rfl rfl hc7) rfl rfl hE ?_
                    intro a hE
                    refine q_val (wk0 rfl) rfl rfl hE (v := (.bool true)) (ex_pick1 rfl hE rfl hc7 rfl) ?_
                    intro a hE
                    obtain rfl := Option.some.inj hg2
                    exact q_nil (hE.cut ⟨rfl, rfl, rfl, rfl, rfl, rfl, rfl, trivial⟩)
                  ·
                    replace hg2 := (ie hc7).symm.trans hg2
                    refine q_val (wk1 hE rfl rfl rfl hc7) rfl rfl hE (v := (.pointer (some ⟨b5, 1, none⟩))) (ex_index rfl hE rfl rfl (aelty62_1 _ _)) ?_
                    intro a hE
                    refine q_val (wk1 hE rfl rfl rfl hc7) rfl rfl hE (v := (.int .i64 x2.x1)) (ex_load rfl hE rfl (fun w hw => run_ld1 varty3 (Hp.c 0 rfl 1 rfl w hw))) ?_
                    intro a hE
                    refine q_val (wk1 hE rfl rfl rfl hc7) rfl rfl hE (v := (.int .i64 x4)) (ex_move rfl hE rfl) ?_
                    intro a hE
                    obtain ⟨x5, ex5, hg2⟩ := bnd hg2
                    refine q_val (wk1 hE rfl rfl rfl hc7) rfl rfl hE (v := (.int .i64 x5)) (ex_mul rfl hE rfl rfl (inK_some ex5)) ?_
                    intro a hE
                    refine q_val (wk1 hE rfl rfl rfl hc7) rfl rfl hE (v := (.bool (decide (x5 ≤ x2.x1)))) (ex_geq rfl hE rfl rfl) ?_
                    intro a hE
                    refine q_val (wk0 rfl) rfl rfl hE (v := (.bool (decide (x5 ≤ x2.x1)))) (ex_pick0 rfl hE rfl hc7 rfl) ?_
                    intro a hE
                    obtain rfl := Option.some.inj hg2
                    exact q_nil (hE.cut ⟨rfl, rfl, rfl, rfl, rfl, rfl, rfl, trivial⟩)
                · intro a hE
                  refine q_val (wk0 rfl) rfl rfl hE (v := (.bool m2)) (ex_move rfl hE rfl) ?_
                  intro a hE
                  obtain ⟨m3, hg3, hl1⟩ := bnd hl1
                  refine q_cut [_, _, _, _, _, _, _] (fun a => Env 67 [(58, (.bool m3)), (1, (.pointer (some ⟨b1, 0, none⟩))), (3, (.map (some b2))), (5, (.pointer (some ⟨b5, 0, none⟩))), (22, vp0_gates), (23, (.int .i64 (p0.gates.length : Int))), (24, (.int .i64 lp1_0))] a) ?_ ?_
                  · rcases Bool.eq_false_or_eq_true m2 with hc8 | hc8
                    ·
                      replace hg3 := (it hc8).symm.trans hg3
                      refine q_skip (wk2 hE rfl rfl rfl hc8) rfl rfl hE ?_
                      intro a hE
                      refine q_skip (wk2 hE rfl rfl rfl hc8) rfl rfl hE ?_
                      intro a hE
                      refine q_skip (wk2 hE rfl rfl rfl hc8) rfl rfl hE ?_
                      intro a hE
                      refine q_skip (wk2 hE rfl rfl rfl hc8) rfl rfl hE ?_
                      intro a hE
                      refine q_skip (wk2 hE rfl rfl rfl hc8) rfl rfl hE ?_
                      intro a hE
                      refine q_skip (wk2 hE rfl rfl rfl hc8) rfl rfl hE ?_
                      intro a hE
                      refine q_val (wk0 rfl) rfl rfl hE (v := (.bool true)) (ex_pick1 rfl hE rfl hc8 rfl) ?_
                      intro a hE
                      obtain rfl := Option.some.inj hg3
                      exact q_nil (hE.cut ⟨rfl, rfl, rfl, rfl, rfl, rfl, rfl, trivial⟩)
                    ·
                      replace hg3 := (ie hc8).symm.trans hg3
                      refine q_val (wk1 hE rfl rfl rfl hc8) rfl rfl hE (v := (.pointer (some ⟨b5, 1, none⟩))) (ex_index rfl hE rfl rfl (aelty62_1 _ _)) ?_
                      intro a hE
                      refine q_val (wk1 hE rfl rfl rfl hc8) rfl rfl hE (v := (.int .i64 x2.x1)) (ex_load rfl hE rfl (fun w hw => run_ld1 varty3 (Hp.c 0 rfl 1 rfl w hw))) ?_
                      intro a hE
                      refine q_val (wk1 hE rfl rfl rfl hc8) rfl rfl hE (v := (.pointer (some ⟨b5, 0, none⟩))) (ex_index rfl hE rfl rfl (aelty62_0 _ _)) ?_
                      intro a hE
                      refine q_val (wk1 hE rfl rfl rfl hc8) rfl rfl hE (v := (.int .i64 x2.x0)) (ex_load rfl hE rfl (fun w hw => run_ld1 varty3 (Hp.c 0 rfl 0 rfl w hw))) ?_
                      intro a hE
                      obtain ⟨x6, ex6, hg3⟩ := bnd hg3
                      refine q_call (wk1 hE rfl rfl rfl hc8) rfl rfl hE rfl [(.int .i64 x2.x0)] ⟨rfl, trivial⟩ ent80 (v := (.int .i64 x6)) (fun w hw => Calls.mono (c_gates_Not hT x2.x0 hw x6 ex6) fun e w' ⟨v, he, hv, hh⟩ => ⟨by rw [he, hv], hh⟩) ?_
                      intro a hE
                      refine q_val (wk1 hE rfl rfl rfl hc8) rfl rfl hE (v := (.bool (decide (x2.x1 = x6)))) (ex_eql rfl hE rfl rfl) ?_
                      intro a hE
                      refine q_val (wk0 rfl) rfl rfl hE (v := (.bool (decide (x2.x1 = x6)))) (ex_pick0 rfl hE rfl hc8 rfl) ?_
                      intro a hE
                      obtain rfl := Option.some.inj hg3
                      exact q_nil (hE.cut ⟨rfl, rfl, rfl, rfl, rfl, rfl, rfl, trivial⟩)
                  · intro a hE
                    refine q_val (wk0 rfl) rfl rfl hE (v := (.bool m3)) (ex_move rfl hE rfl) ?_
                    intro a hE
                    refine q_cut [_, _, _, _] (fun a => Env 67 [(63, (.bool (m3 || ((mget (lp1_1 : List (Arr2 × Bool)) x2).getD false)))), (1, (.pointer (some ⟨b1, 0, none⟩))), (3, (.map (some b2))), (5, (.pointer (some ⟨b5, 0, none⟩))), (22, vp0_gates), (23, (.int .i64 (p0.gates.length : Int))), (24, (.int .i64 lp1_0))] a) ?_ ?_
                    · rcases Bool.eq_false_or_eq_true m3 with hc9 | hc9
                      ·
                        refine q_skip (wk2 hE rfl rfl rfl hc9) rfl rfl hE ?_
                        intro a hE
                        refine q_skip (wk2 hE rfl rfl rfl hc9) rfl rfl hE ?_
                        intro a hE
                        refine q_skip (wk2 hE rfl rfl rfl hc9) rfl rfl hE ?_
                        intro a hE
                        refine q_val (wk0 rfl) rfl rfl hE (v := (.bool true)) (ex_pick1 rfl hE rfl hc9 rfl) ?_
                        intro a hE
                        have hE := hE.eqv (v' := (.bool (m3 || ((mget (lp1_1 : List (Arr2 × Bool)) x2).getD false)))) (by rw [hc9]; rfl)
                        exact q_nil (hE.cut ⟨rfl, rfl, rfl, rfl, rfl, rfl, rfl, trivial⟩)
                      ·
                        refine q_val (wk1 hE rfl rfl rfl hc9) rfl rfl hE (v := (.map (some b2))) (ex_move rfl hE rfl) ?_
                        intro a hE
                        refine q_val (wk1 hE rfl rfl rfl hc9) rfl rfl hE (v := (.agg #[(.int .i64 x2.x0), (.int .i64 x2.x1)])) (ex_load rfl hE rfl (fun w hw => run_ldN (cs := [(.int .i64 x2.x0), (.int .i64 x2.x1)]) varty62 (Hp.cN 0 rfl 0 _ (sub_all rfl) w hw))) ?_
                        intro a hE
                        refine q_val (wk1 hE rfl rfl rfl hc9) rfl rfl hE (v := (.bool ((mget (lp1_1 : List (Arr2 × Bool)) x2).getD false))) (ex_mget0 (zd := (false : Bool)) kt62 mapty102 zero4 rfl hE 1 (k := x2) rfl rfl rfl) ?_
                        intro a hE
                        refine q_val (wk0 rfl) rfl rfl hE (v := (.bool ((mget (lp1_1 : List (Arr2 × Bool)) x2).getD false))) (ex_pick0 rfl hE rfl hc9 rfl) ?_
                        intro a hE
                        have hE := hE.eqv (v' := (.bool (m3 || ((mget (lp1_1 : List (Arr2 × Bool)) x2).getD false)))) (by rw [hc9]; rfl)
                        exact q_nil (hE.cut ⟨rfl, rfl, rfl, rfl, rfl, rfl, rfl, trivial⟩)
                    · intro a hE
                      refine q_nil fun w hp => ?_
                      have hp : Hp Z ρ (_ :: _ :: _ :: L) w := hp
                      refine k_if hE rfl (fun hc10 => ?_) (fun hc10 => ?_)
                      · replace hl1 := (it hc10).symm.trans hl1
                        refine k_seq ?_
                        refine k_region ?_
                        refine s_val (wk0 rfl) rfl rfl hE hp (v := (.bool false)) (ex_asn rfl hE rfl) ?_
                        intro a hE
                        refine s_nil ?_
                        refine k_ret ?_
                        refine ⟨_, (Option.some.inj hl1).symm, fun hb => ?_⟩
                        subst hb
                        obtain rfl := Option.some.inj hm
                        exact ret1 hE rfl rfl ⟨_, rfl, rfl, (((((hp.get 2 rfl).drop).get 1 rfl).drop).drop)⟩
                      · replace hl1 := (ie hc10).symm.trans hl1
                        refine k_skip ?_
                        refine k_region ?_
                        refine s_val (wk0 rfl) rfl rfl hE hp (v := (.map (some b2))) (ex_move rfl hE rfl) ?_
                        intro a hE
                        refine s_val (wk0 rfl) rfl rfl hE hp (v := (.agg #[(.int .i64 x2.x0), (.int .i64 x2.x1)])) (ex_load rfl hE rfl (fun w hw => run_ldN (cs := [(.int .i64 x2.x0), (.int .i64 x2.x1)]) varty62 (Hp.cN 0 rfl 0 _ (sub_all rfl) w hw))) ?_
                        intro a hE
                        refine s_mput kt62 mapty102 (wk0 rfl) rfl hE hp rfl 1 (k := x2) (v := true) rfl rfl rfl rfl ?_
                        intro w hp
                        have hp : Hp Z ρ (_ :: MapA b2 (mput lp1_1 x2 true : List (Arr2 × Bool)) :: _ :: L) w := hp
                        refine s_nil ?_
                        refine k_region ?_
                        obtain ⟨x7, ex7, hl1⟩ := bnd hl1
                        refine s_val (wk0 rfl) rfl rfl hE hp (v := (.int .i64 x7)) (ex_add rfl hE rfl rfl (inK_some ex7)) ?_
                        intro a hE
                        refine s_val (wk0 rfl) rfl rfl hE hp (v := (.int .i64 x7)) (ex_move rfl hE rfl) ?_
                        intro a hE
                        refine s_nil ?_
                        exact ⟨_, (Option.some.inj hl1).symm, hE.cut ⟨rfl, rfl, rfl, rfl, rfl, trivial⟩, (hp.drop)⟩
            · replace hl1 := (ie hc5).symm.trans hl1
              refine k_exit ?_
              refine ⟨_, (Option.some.inj hl1).symm, fun hbb => ?_⟩
              exact ⟨_, hbb.symm, hE.cut trivial, hp⟩
        · rintro a w ⟨b3s, rfl, hE, hp⟩
          dsimp only at hm
          refine k_seq ?_
          refine k_region ?_
          refine s_val (wk0 rfl) rfl rfl hE hp (v := (.bool true)) (ex_asn rfl hE rfl) ?_
          intro a hE
          refine s_nil ?_
          refine k_ret ?_
          obtain rfl := Option.some.inj hm
          exact ret1 hE rfl rfl ⟨_, rfl, rfl, (((hp.get 1 rfl).drop).drop)⟩
set_option maxRecDepth 100000 in
set_option maxHeartbeats 4000000 in
theorem c_gates_Builder_literal {Z : World} {ρ : PH} {L : List Atom} {w : World} (hT : Tabs ρ) (bp0 : Nat) (p0 : GBuilder) (vp0_circuit_gates : Value) (hp0_circuit_gates : RoSl ρ vp0_circuit_gates p0.circuit.gates) (p1 : (List Int)) (vp1 : Value) (hp1 : RoSl ρ vp1 p1) (hp : Hp Z ρ (Pt bp0 (.cells #[(.int .i64 p0.circuit.inputs), vp0_circuit_gates, (.map none), (.int .i64 p0.err)] 112 (0, 0)) :: L) w) (r : Bool) (hm : m_gates_Builder_literal p0 p1 = some r) :
    Calls Tryz.prog 89 #[(.pointer (some ⟨bp0, 0, none⟩)), vp1] w (Ret fun v w' => v = (.bool r) ∧ Hp Z ρ (Pt bp0 (.cells #[(.int .i64 p0.circuit.inputs), vp0_circuit_gates, (.map none), (.int .i64 p0.err)] 112 (0, 0)) :: L) w') := by
  refine enter (N := 26) Tryz.func89 rfl rfl [(0, (.pointer (some ⟨bp0, 0, none⟩))), (1, vp1)] rfl (argsIn_mem ⟨rfl, rfl, trivial⟩) fun a hE => ?_
  unfold m_gates_Builder_literal at hm
  refine k_seq ?_
  refine k_region ?_
  refine s_val (wk0 rfl) rfl rfl hE hp (v := (.bool false)) (ex_asn rfl hE rfl) ?_
  intro a hE
  refine s_nil ?_
  refine k_seq ?_
  refine k_seq ?_
  refine k_region ?_
  refine s_val (wk0 rfl) rfl rfl hE hp (v := vp1) (ex_move rfl hE rfl) ?_
  intro a hE
  refine s_val (wk0 rfl) rfl rfl hE hp (v := (.int .i64 (p1.length : Int))) (ex_len rfl hE rfl (RoSl.len hp1 slty25)) ?_
  intro a hE
  refine s_val (wk0 rfl) rfl rfl hE hp (v := (.int .i64 0)) (ex_move rfl hE rfl) ?_
  intro a hE
  refine s_nil ?_
  obtain ⟨b1, hc1, hm⟩ := bnd hm
  refine k_block (fun a w => ∃ s : Unit, b1 = .brk s ∧ (Env 26 [] a ∧ Hp Z ρ (Pt bp0 (.cells #[(.int .i64 p0.circuit.inputs), vp0_circuit_gates, (.map none), (.int .i64 p0.err)] 112 (0, 0)) :: L) w)) ?_ ?_
  · refine k_loop hc1 (fun s a w => Env 26 [(0, (.pointer (some ⟨bp0, 0, none⟩))), (7, vp1), (8, (.int .i64 (p1.length : Int))), (9, (.int .i64 s))] a ∧ Hp Z ρ (Pt bp0 (.cells #[(.int .i64 p0.circuit.inputs), vp0_circuit_gates, (.map none), (.int .i64 p0.err)] 112 (0, 0)) :: L) w) ?_ ?_
    · exact ⟨hE.cut ⟨rfl, rfl, rfl, rfl, trivial⟩, hp⟩
    · rintro lp1_0 st a w ⟨hE, hp⟩ hl1
      have hE : Env 26 [(0, (.pointer (some ⟨bp0, 0, none⟩))), (7, vp1), (8, (.int .i64 (p1.length : Int))), (9, (.int .i64 lp1_0))] a := hE
      have hp : Hp Z ρ (Pt bp0 (.cells #[(.int .i64 p0.circuit.inputs), vp0_circuit_gates, (.map none), (.int .i64 p0.err)] 112 (0, 0)) :: L) w := hp
      replace hl1 : m_gates_Builder_literal_lp1 p0 p1 lp1_0 = some st := hl1
      unfold m_gates_Builder_literal_lp1 at hl1
      refine k_seq ?_
      refine k_region ?_
      refine s_val (wk0 rfl) rfl rfl hE hp (v := (.bool (decide (lp1_0 < (p1.length : Int))))) (ex_lss rfl hE rfl rfl) ?_
      intro a hE
      refine s_nil ?_
      refine k_seq ?_
      refine k_if hE rfl (fun hc2 => ?_) (fun hc2 => ?_)
      · replace hl1 := (it hc2).symm.trans hl1
        refine k_skip ?_
        refine k_seq ?_
        refine k_plain ?_
        refine k_seq ?_
        refine k_region ?_
        obtain ⟨x1, ex1, hl1⟩ := bnd hl1
        obtain ⟨b2, b2o, b2c, b2r, b2k, b2f⟩ := RoSl.at hp1 slty25 ex1
        obtain rfl : b2c = Enc.enc x1 := b2k
        have b2f : AtP ρ b2 b2o [(.int .i64 x1)] := b2f
        refine s_val (wk0 rfl) rfl rfl hE hp (v := (.pointer (some ⟨b2, b2o, none⟩))) (ex_index rfl hE rfl rfl b2r) ?_
        intro a hE
        refine s_val (wk0 rfl) rfl rfl hE hp (v := (.int .i64 x1)) (ex_load rfl hE rfl (fun w hw => run_ld1 varty3 (b2f.c 0 rfl w hw))) ?_
        intro a hE
        refine s_val (wk0 rfl) rfl rfl hE hp (v := (.int .i64 x1)) (ex_asn rfl hE rfl) ?_
        intro a hE
        refine s_nil ?_
        refine k_seq ?_
        refine k_region ?_
        refine s_val (wk0 rfl) rfl rfl hE hp (v := (.int .i64 x1)) (ex_move rfl hE rfl) ?_
        intro a hE
        refine s_val (wk0 rfl) rfl rfl hE hp (v := (.bool (decide (x1 < 0)))) (ex_lss rfl hE rfl rfl) ?_
        intro a hE
        refine s_val (wk0 rfl) rfl rfl hE hp (v := (.bool (decide (x1 < 0)))) (ex_move rfl hE rfl) ?_
        intro a hE
        obtain ⟨m1, hg1, hl1⟩ := bnd hl1
        refine s_cut [_, _, _, _, _, _, _, _, _] (fun a w => Env 26 [(24, (.bool m1)), (0, (.pointer (some ⟨bp0, 0, none⟩))), (7, vp1), (8, (.int .i64 (p1.length : Int))), (9, (.int .i64 lp1_0))] a ∧ Hp Z ρ (Pt bp0 (.cells #[(.int .i64 p0.circuit.inputs), vp0_circuit_gates, (.map none), (.int .i64 p0.err)] 112 (0, 0)) :: L) w) ?_ ?_
        · rcases Bool.eq_false_or_eq_true (decide (x1 < 0)) with hc3 | hc3
          ·
            replace hg1 := (it hc3).symm.trans hg1
            refine s_skip (wk2 hE rfl rfl rfl hc3) rfl rfl hE ?_
            intro a hE
            refine s_skip (wk2 hE rfl rfl rfl hc3) rfl rfl hE ?_
            intro a hE
            refine s_skip (wk2 hE rfl rfl rfl hc3) rfl rfl hE ?_
            intro a hE
            refine s_skip (wk2 hE rfl rfl rfl hc3) rfl rfl hE ?_
            intro a hE
            refine s_skip (wk2 hE rfl rfl rfl hc3) rfl rfl hE ?_
            intro a hE
            refine s_skip (wk2 hE rfl rfl rfl hc3) rfl rfl hE ?_
            intro a hE
            refine s_skip (wk2 hE rfl rfl rfl hc3) rfl rfl hE ?_
            intro a hE
            refine s_skip (wk2 hE rfl rfl rfl hc3) rfl rfl hE ?_
            intro a hE
            refine s_val (wk0 rfl) rfl rfl hE hp (v := (.bool true)) (ex_pick1 rfl hE rfl hc3 rfl) ?_
            intro a hE
            obtain rfl := Option.some.inj hg1
            exact s_nil ⟨hE.cut ⟨rfl, rfl, rfl, rfl, rfl, trivial⟩, hp⟩
          ·
            replace hg1 := (ie hc3).symm.trans hg1
            refine s_val (wk1 hE rfl rfl rfl hc3) rfl rfl hE hp (v := (.int .i64 x1)) (ex_move rfl hE rfl) ?_
            intro a hE
            refine s_val (wk1 hE rfl rfl rfl hc3) rfl rfl hE hp (v := (.pointer (some ⟨bp0, 0, none⟩))) (ex_move rfl hE rfl) ?_
            intro a hE
            refine s_val (wk1 hE rfl rfl rfl hc3) rfl rfl hE hp (v := (.pointer (some ⟨bp0, 0, none⟩))) (ex_nil rfl hE rfl) ?_
            intro a hE
            refine s_val (wk1 hE rfl rfl rfl hc3) rfl rfl hE hp (v := (.pointer (some ⟨bp0, 0, none⟩))) (ex_field rfl hE rfl (fldty112_0 _ _)) ?_
            intro a hE
            refine s_val (wk1 hE rfl rfl rfl hc3) rfl rfl hE hp (v := (.agg #[(.int .i64 p0.circuit.inputs), vp0_circuit_gates])) (ex_load rfl hE rfl (fun w hw => run_ldN (cs := [(.int .i64 p0.circuit.inputs), vp0_circuit_gates]) varty38 (Hp.cN 0 rfl 0 _ (sub_all rfl) w hw))) ?_
            intro a hE
            obtain ⟨x2, ex2, hg1⟩ := bnd hg1
            refine s_call (wk1 hE rfl rfl rfl hc3) rfl rfl hE rfl [(.agg #[(.int .i64 p0.circuit.inputs), vp0_circuit_gates])] ⟨rfl, trivial⟩ ent79 (c_gates_nodes hT p0.circuit vp0_circuit_gates hp0_circuit_gates hp x2 ex2) Ret.ret ?_
            intro v a w hR hE
            obtain ⟨rfl, hp⟩ := Ret.of hR
            have hp : Hp Z ρ (_ :: L) w := hp
            obtain ⟨x3, ex3, hg1⟩ := bnd hg1
            refine s_val (wk1 hE rfl rfl rfl hc3) rfl rfl hE hp (v := (.int .i64 x3)) (ex_mul rfl hE rfl rfl (inK_some ex3)) ?_
            intro a hE
            refine s_val (wk1 hE rfl rfl rfl hc3) rfl rfl hE hp (v := (.bool (decide (x3 ≤ x1)))) (ex_geq rfl hE rfl rfl) ?_
            intro a hE
            refine s_val (wk0 rfl) rfl rfl hE hp (v := (.bool (decide (x3 ≤ x1)))) (ex_pick0 rfl hE rfl hc3 rfl) ?_
            intro a hE
            obtain rfl := Option.some.inj hg1
            exact s_nil ⟨hE.cut ⟨rfl, rfl, rfl, rfl, rfl, trivial⟩, hp⟩
        · rintro a w ⟨hE, hp⟩
          refine s_nil ?_
          refine k_if hE rfl (fun hc4 => ?_) (fun hc4 => ?_)
          · replace hl1 := (it hc4).symm.trans hl1
            refine k_seq ?_
            refine k_region ?_
            refine s_val (wk0 rfl) rfl rfl hE hp (v := (.bool false)) (ex_asn rfl hE rfl) ?_
            intro a hE
            refine s_nil ?_
            refine k_ret ?_
            refine ⟨_, (Option.some.inj hl1).symm, fun hb => ?_⟩
            subst hb
            obtain rfl := Option.some.inj hm
            exact ret1 hE rfl rfl ⟨_, rfl, rfl, hp⟩
          · replace hl1 := (ie hc4).symm.trans hl1
            refine k_skip ?_
            refine k_region ?_
            obtain ⟨x4, ex4, hl1⟩ := bnd hl1
            refine s_val (wk0 rfl) rfl rfl hE hp (v := (.int .i64 x4)) (ex_add rfl hE rfl rfl (inK_some ex4)) ?_
            intro a hE
            refine s_val (wk0 rfl) rfl rfl hE hp (v := (.int .i64 x4)) (ex_move rfl hE rfl) ?_
            intro a hE
            refine s_nil ?_
            exact ⟨_, (Option.some.inj hl1).symm, hE.cut ⟨rfl, rfl, rfl, rfl, trivial⟩, hp⟩
      · replace hl1 := (ie hc2).symm.trans hl1
        refine k_exit ?_
        refine ⟨_, (Option.some.inj hl1).symm, fun hbb => ?_⟩
        exact ⟨_, hbb.symm, hE.cut trivial, hp⟩
  · rintro a w ⟨b1s, rfl, hE, hp⟩
    dsimp only at hm
    refine k_seq ?_
    refine k_region ?_
    refine s_val (wk0 rfl) rfl rfl hE hp (v := (.bool true)) (ex_asn rfl hE rfl) ?_
    intro a hE
    refine s_nil ?_
    refine k_ret ?_
    obtain rfl := Option.some.inj hm
    exact ret1 hE rfl rfl ⟨_, rfl, rfl, hp⟩
set_option maxRecDepth 100000 in
set_option maxHeartbeats 4000000 in
theorem c_gates_known {Z : World} {ρ : PH} {L : List Atom} {w : World} (hT : Tabs ρ) (p0 : Gates) (vp0_gates : Value) (hp0_gates : RoSl ρ vp0_gates p0.gates) (p1 : (List Int)) (vp1 : Value) (hp1 : RoSl ρ vp1 p1) (hp : Hp Z ρ (L) w) (r : Bool) (hm : m_gates_known p0 p1 = some r) :
    Calls Tryz.prog 73 #[(.agg #[(.int .i64 p0.inputs), vp0_gates]), vp1] w (Ret fun v w' => v = (.bool r) ∧ Hp Z ρ (L) w') := by
  refine enter (N := 16) Tryz.func73 rfl rfl [(0, (.agg #[(.int .i64 p0.inputs), vp0_gates])), (1, vp1)] rfl (argsIn_mem ⟨rfl, rfl, trivial⟩) fun a hE => ?_
  unfold m_gates_known at hm
  refine k_seq ?_
  refine k_region ?_
  refine s_box (wk0 rfl) rfl rfl hE hp rfl (v := (.agg #[(.int .i64 p0.inputs), vp0_gates])) rfl ?_
  intro a w b1 hE hp
  have hp : Hp Z ρ (Pt b1 (.cells #[(.int .i64 p0.inputs), vp0_gates] 38 (0, 0)) :: L) w := hp
  refine s_val (wk0 rfl) rfl rfl hE hp (v := (.bool false)) (ex_asn rfl hE rfl) ?_
  intro a hE
  refine s_nil ?_
  refine k_seq ?_
  refine k_region ?_
  refine s_val (wk0 rfl) rfl rfl hE hp (v := (.agg #[(.int .i64 p0.inputs), vp0_gates])) (ex_load rfl hE rfl (fun w hw => run_ldN (cs := [(.int .i64 p0.inputs), vp0_gates]) varty38 (Hp.cN 0 rfl 0 _ (sub_all rfl) w hw))) ?_
  intro a hE
  refine s_val (wk0 rfl) rfl rfl hE hp (v := (.agg #[(.int .i64 p0.inputs), vp0_gates, (.map none), (.int .i64 0)])) (ex_bld rfl hE [(0, (.agg #[(.int .i64 p0.inputs), vp0_gates]))] (by exact ⟨⟨rfl, rfl⟩, trivial⟩) (fun w => by have hc0 := RoSl.cells hp0_gates; simp only [Value.cells] at hc0; simp [Instr.build, Instr.fill, Value.cells, hc0, go_sem])) ?_
  intro a hE
  refine s_box (wk0 rfl) rfl rfl hE hp rfl (v := (.agg #[(.int .i64 p0.inputs), vp0_gates, (.map none), (.int .i64 0)])) rfl ?_
  intro a w b2 hE hp
  have hp : Hp Z ρ (Pt b2 (.cells #[(.int .i64 p0.inputs), vp0_gates, (.map none), (.int .i64 0)] 112 (0, 0)) :: _ :: L) w := hp
  refine s_val (wk0 rfl) rfl rfl hE hp (v := (.pointer (some ⟨b2, 0, none⟩))) (ex_asn rfl hE rfl) ?_
  intro a hE
  refine s_nil ?_
  refine k_seq ?_
  refine k_region ?_
  refine s_val (wk0 rfl) rfl rfl hE hp (v := (.agg #[(.int .i64 p0.inputs), vp0_gates])) (ex_load rfl hE rfl (fun w hw => run_ldN (cs := [(.int .i64 p0.inputs), vp0_gates]) varty38 (Hp.cN 1 rfl 0 _ (sub_all rfl) w hw))) ?_
  intro a hE
  obtain ⟨x1, ex1, hm⟩ := bnd hm
  refine s_call (wk0 rfl) rfl rfl hE rfl [(.agg #[(.int .i64 p0.inputs), vp0_gates])] ⟨rfl, trivial⟩ ent51 (c_gates_Valid hT p0 vp0_gates hp0_gates hp x1 ex1) Ret.ret ?_
  intro v a w hR hE
  obtain ⟨rfl, hp⟩ := Ret.of hR
  have hp : Hp Z ρ (_ :: _ :: L) w := hp
  refine s_val (wk0 rfl) rfl rfl hE hp (v := (.bool x1)) (ex_move rfl hE rfl) ?_
  intro a hE
  obtain ⟨m1, hg1, hm⟩ := bnd hm
  refine s_cut [_, _, _, _] (fun a w => Env 16 [(15, (.bool m1))] a ∧ Hp Z ρ (Pt b2 (.cells #[(.int .i64 p0.inputs), vp0_gates, (.map none), (.int .i64 0)] 112 (0, 0)) :: Pt b1 (.cells #[(.int .i64 p0.inputs), vp0_gates] 38 (0, 0)) :: L) w) ?_ ?_
  · rcases Bool.eq_false_or_eq_true x1 with hc1 | hc1
    ·
      replace hg1 := (it hc1).symm.trans hg1
      refine s_val (wk1 hE rfl rfl rfl hc1) rfl rfl hE hp (v := (.pointer (some ⟨b2, 0, none⟩))) (ex_move rfl hE rfl) ?_
      intro a hE
      refine s_val (wk1 hE rfl rfl rfl hc1) rfl rfl hE hp (v := vp1) (ex_move rfl hE rfl) ?_
      intro a hE
      obtain ⟨x2, ex2, hg1⟩ := bnd hg1
      refine s_call (wk1 hE rfl rfl rfl hc1) rfl rfl hE rfl [(.pointer (some ⟨b2, 0, none⟩)), vp1] ⟨rfl, rfl, trivial⟩ ent89 (c_gates_Builder_literal hT b2 (GBuilder.mk p0 ([]) 0) vp0_gates hp0_gates p1 vp1 hp1 hp x2 ex2) Ret.ret ?_
      intro v a w hR hE
      obtain ⟨rfl, hp⟩ := Ret.of hR
      have hp : Hp Z ρ (_ :: _ :: L) w := hp
      refine s_val (wk0 rfl) rfl rfl hE hp (v := (.bool x2)) (ex_pick1 rfl hE rfl hc1 rfl) ?_
      intro a hE
      obtain rfl := Option.some.inj hg1
      exact s_nil ⟨hE.cut ⟨rfl, trivial⟩, hp⟩
    ·
      replace hg1 := (ie hc1).symm.trans hg1
      refine s_skip (wk2 hE rfl rfl rfl hc1) rfl rfl hE ?_
      intro a hE
      refine s_skip (wk2 hE rfl rfl rfl hc1) rfl rfl hE ?_
      intro a hE
      refine s_skip (wk2 hE rfl rfl rfl hc1) rfl rfl hE ?_
      intro a hE
      refine s_val (wk0 rfl) rfl rfl hE hp (v := (.bool false)) (ex_pick0 rfl hE rfl hc1 rfl) ?_
      intro a hE
      obtain rfl := Option.some.inj hg1
      exact s_nil ⟨hE.cut ⟨rfl, trivial⟩, hp⟩
  · rintro a w ⟨hE, hp⟩
    refine s_val (wk0 rfl) rfl rfl hE hp (v := (.bool m1)) (ex_asn rfl hE rfl) ?_
    intro a hE
    refine s_nil ?_
    refine k_ret ?_
    obtain rfl := Option.some.inj hm
    exact ret1 hE rfl rfl ⟨_, rfl, rfl, (((hp.get 1 rfl).drop).drop)⟩
set_option maxRecDepth 100000 in
set_option maxHeartbeats 4000000 in
theorem c_gates_Eval_1 {Z : World} {ρ : PH} {L : List Atom} {w : World} (hT : Tabs ρ) (p0 : Int) (bc0 : Nat) (c0 : (List Bool)) (vc0 : Value) (hc0 : RoSl ρ vc0 c0) (hp : Hp Z ρ (Pt bc0 (.cells #[vc0] 56 (0, 0)) :: L) w) (r : Bool) (hm : m_gates_Eval_1 p0 c0 = some r) :
    Calls Tryz.prog 74 #[(.int .i64 p0), (.pointer (some ⟨bc0, 0, none⟩))] w (Ret fun v w' => v = (.bool r) ∧ Hp Z ρ (Pt bc0 (.cells #[vc0] 56 (0, 0)) :: L) w') := by
  refine enter (N := 13) Tryz.func74 rfl rfl [(0, (.int .i64 p0)), (1, (.pointer (some ⟨bc0, 0, none⟩)))] rfl (argsIn_mem ⟨rfl, rfl, trivial⟩) fun a hE => ?_
  unfold m_gates_Eval_1 at hm
  refine k_seq ?_
  refine k_region ?_
  refine s_val (wk0 rfl) rfl rfl hE hp (v := (.bool false)) (ex_asn rfl hE rfl) ?_
  intro a hE
  refine s_nil ?_
  refine k_seq ?_
  refine k_region ?_
  refine s_val (wk0 rfl) rfl rfl hE hp (v := vc0) (ex_load rfl hE rfl (fun w hw => run_ld1 varty56 (Hp.c 0 rfl 0 rfl w hw))) ?_
  intro a hE
  refine s_val (wk0 rfl) rfl rfl hE hp (v := (.int .i64 p0)) (ex_move rfl hE rfl) ?_
  intro a hE
  obtain ⟨x1, ex1, hm⟩ := bnd hm
  refine s_val (wk0 rfl) rfl rfl hE hp (v := (.int .i64 x1)) (ex_quo rfl hE rfl rfl (quoK_some ex1).1 (quoK_some ex1).2) ?_
  intro a hE
  obtain ⟨x2, ex2, hm⟩ := bnd hm
  obtain ⟨b1, b1o, b1c, b1r, b1k, b1f⟩ := RoSl.at hc0 slty56 ex2
  obtain rfl : b1c = Enc.enc x2 := b1k
  have b1f : AtP ρ b1 b1o [(.bool x2)] := b1f
  refine s_val (wk0 rfl) rfl rfl hE hp (v := (.pointer (some ⟨b1, b1o, none⟩))) (ex_index rfl hE rfl rfl b1r) ?_
  intro a hE
  refine s_val (wk0 rfl) rfl rfl hE hp (v := (.bool x2)) (ex_load rfl hE rfl (fun w hw => run_ld1 varty4 (b1f.c 0 rfl w hw))) ?_
  intro a hE
  refine s_val (wk0 rfl) rfl rfl hE hp (v := (.int .i64 p0)) (ex_move rfl hE rfl) ?_
  intro a hE
  obtain ⟨x3, ex3, hm⟩ := bnd hm
  refine s_val (wk0 rfl) rfl rfl hE hp (v := (.int .i64 x3)) (ex_rem rfl hE rfl rfl (remK_some ex3).1 (remK_some ex3).2) ?_
  intro a hE
  refine s_val (wk0 rfl) rfl rfl hE hp (v := (.bool (decide (x3 = 1)))) (ex_eql rfl hE rfl rfl) ?_
  intro a hE
  refine s_val (wk0 rfl) rfl rfl hE hp (v := (.bool (!(x2 == (decide (x3 = 1)))))) (ex_bneq bty4 rfl hE rfl rfl) ?_
  intro a hE
  refine s_val (wk0 rfl) rfl rfl hE hp (v := (.bool (!(x2 == (decide (x3 = 1)))))) (ex_asn rfl hE rfl) ?_
  intro a hE
  refine s_nil ?_
  refine k_ret ?_
  obtain rfl := Option.some.inj hm
  exact ret1 hE rfl rfl ⟨_, rfl, rfl, hp⟩
set_option maxRecDepth 100000 in
set_option maxHeartbeats 4000000 in
theorem c_gates_Eval {Z : World} {ρ : PH} {L : List Atom} {w : World} (hT : Tabs ρ) (p0 : Gates) (vp0_gates : Value) (hp0_gates : RoSl ρ vp0_gates p0.gates) (p1 : (List Bool)) (vp1 : Value) (hp1 : RoSl ρ vp1 p1) (p2 : (List Int)) (vp2 : Value) (hp2 : RoSl ρ vp2 p2) (hp : Hp Z ρ (L) w) (r : ((List Bool) × Int)) (hm : m_gates_Eval p0 p1 p2 = some r) :
    Calls Tryz.prog 37 #[(.agg #[(.int .i64 p0.inputs), vp0_gates]), vp1, vp2] w (Ret fun v w' => ∃ (vr1 : Value), v = .tuple #[vr1, (.int .i64 r.2)] ∧ Hp Z ρ (OwnSl 4 vr1 r.1 :: L) w') := by
  refine enter (N := 65) Tryz.func37 rfl rfl [(0, (.agg #[(.int .i64 p0.inputs), vp0_gates])), (1, vp1), (2, vp2)] rfl (argsIn_mem ⟨rfl, rfl, rfl, trivial⟩) fun a hE => ?_
  unfold m_gates_Eval at hm
  refine k_seq ?_
  refine k_region ?_
  refine s_box (wk0 rfl) rfl rfl hE hp rfl (v := (.agg #[(.int .i64 p0.inputs), vp0_gates])) rfl ?_
  intro a w b1 hE hp
  have hp : Hp Z ρ (Pt b1 (.cells #[(.int .i64 p0.inputs), vp0_gates] 38 (0, 0)) :: L) w := hp
  refine s_val (wk0 rfl) rfl rfl hE hp (v := (.slice none 0 0)) (ex_asn rfl hE rfl) ?_
  intro a hE
  refine s_val (wk0 rfl) rfl rfl hE hp (v := (.int .i64 0)) (ex_asn rfl hE rfl) ?_
  intro a hE
  refine s_nil ?_
  refine k_seq ?_
  refine k_seq ?_
  refine k_region ?_
  refine s_val (wk0 rfl) rfl rfl hE hp (v := (.agg #[(.int .i64 p0.inputs), vp0_gates])) (ex_load rfl hE rfl (fun w hw => run_ldN (cs := [(.int .i64 p0.inputs), vp0_gates]) varty38 (Hp.cN 0 rfl 0 _ (sub_all rfl) w hw))) ?_
  intro a hE
  refine s_val (wk0 rfl) rfl rfl hE hp (v := vp2) (ex_move rfl hE rfl) ?_
  intro a hE
  obtain ⟨x1, ex1, hm⟩ := bnd hm
  refine s_call (wk0 rfl) rfl rfl hE rfl [(.agg #[(.int .i64 p0.inputs), vp0_gates]), vp2] ⟨rfl, rfl, trivial⟩ ent73 (c_gates_known hT p0 vp0_gates hp0_gates p2 vp2 hp2 hp x1 ex1) Ret.ret ?_
  intro v a w hR hE
  obtain ⟨rfl, hp⟩ := Ret.of hR
  have hp : Hp Z ρ (_ :: L) w := hp
  refine s_val (wk0 rfl) rfl rfl hE hp (v := (.bool (!x1))) (ex_not rfl hE rfl) ?_
  intro a hE
  refine s_val (wk0 rfl) rfl rfl hE hp (v := (.bool (!x1))) (ex_move rfl hE rfl) ?_
  intro a hE
  refine s_cut [_, _, _, _, _, _] (fun a w => Env 65 [(25, (.bool ((!x1) || (!decide ((p1.length : Int) = p0.inputs))))), (1, vp1), (2, vp2), (3, (.pointer (some ⟨b1, 0, none⟩)))] a ∧ Hp Z ρ (Pt b1 (.cells #[(.int .i64 p0.inputs), vp0_gates] 38 (0, 0)) :: L) w) ?_ ?_
  · rcases Bool.eq_false_or_eq_true (!x1) with hc1 | hc1
    ·
      refine s_skip (wk2 hE rfl rfl rfl hc1) rfl rfl hE ?_
      intro a hE
      refine s_skip (wk2 hE rfl rfl rfl hc1) rfl rfl hE ?_
      intro a hE
      refine s_skip (wk2 hE rfl rfl rfl hc1) rfl rfl hE ?_
      intro a hE
      refine s_skip (wk2 hE rfl rfl rfl hc1) rfl rfl hE ?_
      intro a hE
      refine s_skip (wk2 hE rfl rfl rfl hc1) rfl rfl hE ?_
      intro a hE
      refine s_val (wk0 rfl) rfl rfl hE hp (v := (.bool true)) (ex_pick1 rfl hE rfl hc1 rfl) ?_
      intro a hE
      have hE := hE.eqv (v' := (.bool ((!x1) || (!decide ((p1.length : Int) = p0.inputs))))) (by rw [hc1]; rfl)
      exact s_nil ⟨hE.cut ⟨rfl, rfl, rfl, rfl, trivial⟩, hp⟩
    ·
      refine s_val (wk1 hE rfl rfl rfl hc1) rfl rfl hE hp (v := vp1) (ex_move rfl hE rfl) ?_
      intro a hE
      refine s_val (wk1 hE rfl rfl rfl hc1) rfl rfl hE hp (v := (.int .i64 (p1.length : Int))) (ex_len rfl hE rfl (RoSl.len hp1 slty56)) ?_
      intro a hE
      refine s_val (wk1 hE rfl rfl rfl hc1) rfl rfl hE hp (v := (.pointer (some ⟨b1, 0, none⟩))) (ex_field rfl hE rfl (fldty38_0 _ _)) ?_
      intro a hE
      refine s_val (wk1 hE rfl rfl rfl hc1) rfl rfl hE hp (v := (.int .i64 p0.inputs)) (ex_load rfl hE rfl (fun w hw => run_ld1 varty3 (Hp.c 0 rfl 0 rfl w hw))) ?_
      intro a hE
      refine s_val (wk1 hE rfl rfl rfl hc1) rfl rfl hE hp (v := (.bool (!decide ((p1.length : Int) = p0.inputs)))) (ex_neq rfl hE rfl rfl) ?_
      intro a hE
      refine s_val (wk0 rfl) rfl rfl hE hp (v := (.bool (!decide ((p1.length : Int) = p0.inputs)))) (ex_pick0 rfl hE rfl hc1 rfl) ?_
      intro a hE
      have hE := hE.eqv (v' := (.bool ((!x1) || (!decide ((p1.length : Int) = p0.inputs))))) (by rw [hc1]; rfl)
      exact s_nil ⟨hE.cut ⟨rfl, rfl, rfl, rfl, trivial⟩, hp⟩
  · rintro a w ⟨hE, hp⟩
    refine s_nil ?_
    refine k_if hE rfl (fun hc2 => ?_) (fun hc2 => ?_)
    · replace hm := (it hc2).symm.trans hm
      refine k_seq ?_
      refine k_region ?_
      refine s_val (wk0 rfl) rfl rfl hE hp (v := (.slice none 0 0)) (ex_asn rfl hE rfl) ?_
      intro a hE
      refine s_val (wk0 rfl) rfl rfl hE hp (v := (.int .i64 1)) (ex_asn rfl hE rfl) ?_
      intro a hE
      refine s_nil ?_
      refine k_ret ?_
      have hp := hp.emp (OwnSl.nil (α := Bool) 4)
      have hp : Hp Z ρ (OwnSl 4 (.slice none 0 0) ([] : List Bool) :: _ :: L) w := hp
      obtain rfl := Option.some.inj hm
      exact ret2 hE rfl rfl rfl ⟨_, rfl, _, rfl, ((hp.get 1 rfl).drop)⟩
    · replace hm := (ie hc2).symm.trans hm
      refine k_skip ?_
      refine k_seq ?_
      refine k_region ?_
      refine s_lit (wk0 rfl) rfl rfl hE hp rfl [(0, (.bool false))] ⟨⟨rfl, rfl⟩, trivial⟩ [(.bool false)] 4 (fun w => by simp [Instr.buildSlice, Instr.fill, Value.cells, go_sem]) ?_
      intro a w b2 hE hp
      have hp : Hp Z ρ (Pt b2 (.cells #[(.bool false)] 4 (0, 0)) :: _ :: L) w := hp
      refine s_val (wk0 rfl) rfl rfl hE hp (v := vp1) (ex_move rfl hE rfl) ?_
      intro a hE
      have hp := (hp.get 0 rfl).imp (own_of_pt (l := (([false] : List Bool) : List Bool)) (n := 1) rfl (by decide) rfl)
      have hp : Hp Z ρ (OwnSl 4 (.slice (some ⟨b2, 0, none⟩) 1 1) ([false] : List Bool) :: _ :: L) w := hp
      obtain ⟨x2, ex2, hm⟩ := bnd hm
      refine s_apps (wk0 rfl) rfl rfl hE hp rfl slty56 rfl rfl 0 rfl rfl hp1 ex2 ?_
      intro v1 a w hE hp
      have hp : Hp Z ρ (OwnSl 4 v1 x2 :: _ :: L) w := hp
      refine s_new (wk0 rfl) rfl rfl hE hp rfl [(.slice none 0 0)] (fun w => by simp [Instr.alloc, go_sem] <;> rfl) ?_
      intro a w b3 hE hp
      have hp : Hp Z ρ (Pt b3 (.cells #[(.slice none 0 0)] 56 (0, 0)) :: _ :: _ :: L) w := hp
      refine s_store1 (wk0 rfl) rfl hE hp rfl rfl rfl 0 rfl varty56.size_ (OwnSl.cells hp 1 rfl) (OwnSl.one hp 1 rfl) rfl [v1] rfl ?_
      intro w hp
      have hp : Hp Z ρ (Pt b3 (.cells #[v1] 56 (0, 0)) :: _ :: _ :: L) w := hp
      refine s_nil ?_
      refine k_seq ?_
      refine k_region ?_
      refine s_val (wk0 rfl) rfl rfl hE hp (v := (.func (.func 74) #[] #[(.pointer (some ⟨b3, 0, none⟩))])) (ex_fn rfl hE [(.pointer (some ⟨b3, 0, none⟩))] (by exact ⟨rfl, trivial⟩)) ?_
      intro a hE
      refine s_val (wk0 rfl) rfl rfl hE hp (v := (.func (.func 74) #[] #[(.pointer (some ⟨b3, 0, none⟩))])) (ex_asn rfl hE rfl) ?_
      intro a hE
      refine s_nil ?_
      refine k_seq ?_
      refine k_seq ?_
      refine k_region ?_
      refine s_val (wk0 rfl) rfl rfl hE hp (v := (.pointer (some ⟨b1, 1, none⟩))) (ex_field rfl hE rfl (fldty38_1 _ _)) ?_
      intro a hE
      refine s_val (wk0 rfl) rfl rfl hE hp (v := vp0_gates) (ex_load rfl hE rfl (fun w hw => run_ld1 varty36 (Hp.c 2 rfl 1 rfl w hw))) ?_
      intro a hE
      refine s_val (wk0 rfl) rfl rfl hE hp (v := (.int .i64 (p0.gates.length : Int))) (ex_len rfl hE rfl (RoSl.len hp0_gates slty36)) ?_
      intro a hE
      refine s_val (wk0 rfl) rfl rfl hE hp (v := (.int .i64 0)) (ex_move rfl hE rfl) ?_
      intro a hE
      refine s_nil ?_
      obtain ⟨b4, hc3, hm⟩ := bnd hm
      refine k_block (fun a w => ∃ (w4 : Value), Env 65 [(2, vp2), (9, (.func (.func 74) #[] #[(.pointer (some ⟨b3, 0, none⟩))]))] a ∧ Hp Z ρ (Pt b3 (.cells #[w4] 56 (0, 0)) :: OwnSl 4 w4 b4 :: Pt b1 (.cells #[(.int .i64 p0.inputs), vp0_gates] 38 (0, 0)) :: L) w) ?_ ?_
      · refine k_loop hc3 (fun s a w => ∃ (w4 : Value), Env 65 [(2, vp2), (8, (.pointer (some ⟨b3, 0, none⟩))), (9, (.func (.func 74) #[] #[(.pointer (some ⟨b3, 0, none⟩))])), (31, vp0_gates), (32, (.int .i64 (p0.gates.length : Int))), (33, (.int .i64 s.1))] a ∧ Hp Z ρ (Pt b3 (.cells #[w4] 56 (0, 0)) :: OwnSl 4 w4 s.2 :: Pt b1 (.cells #[(.int .i64 p0.inputs), vp0_gates] 38 (0, 0)) :: L) w) ?_ ?_
        · exact ⟨_, hE.cut ⟨rfl, rfl, rfl, rfl, rfl, rfl, trivial⟩, hp⟩
        · rintro ⟨lp1_0, lp1_1⟩ st a w ⟨w4, hE, hp⟩ hl1
          have hE : Env 65 [(2, vp2), (8, (.pointer (some ⟨b3, 0, none⟩))), (9, (.func (.func 74) #[] #[(.pointer (some ⟨b3, 0, none⟩))])), (31, vp0_gates), (32, (.int .i64 (p0.gates.length : Int))), (33, (.int .i64 lp1_0))] a := hE
          have hp : Hp Z ρ (Pt b3 (.cells #[w4] 56 (0, 0)) :: OwnSl 4 w4 lp1_1 :: _ :: L) w := hp
          replace hl1 : m_gates_Eval_lp1 p0 lp1_0 lp1_1 = some st := hl1
          unfold m_gates_Eval_lp1 at hl1
          refine k_seq ?_
          refine k_region ?_
          refine s_val (wk0 rfl) rfl rfl hE hp (v := (.bool (decide (lp1_0 < (p0.gates.length : Int))))) (ex_lss rfl hE rfl rfl) ?_
          intro a hE
          refine s_nil ?_
          refine k_seq ?_
          refine k_if hE rfl (fun hc4 => ?_) (fun hc4 => ?_)
          · replace hl1 := (it hc4).symm.trans hl1
            refine k_skip ?_
            refine k_seq ?_
            refine k_plain ?_
            refine k_seq ?_
            refine k_region ?_
            obtain ⟨x3, ex3, hl1⟩ := bnd hl1
            obtain ⟨b5, b5o, b5c, b5r, b5k, b5f⟩ := RoSl.at hp0_gates slty36 ex3
            obtain rfl : b5c = Enc.enc x3 := b5k
            have b5f : AtP ρ b5 b5o [(.int .i64 x3.x0), (.int .i64 x3.x1)] := b5f
            refine s_val (wk0 rfl) rfl rfl hE hp (v := (.pointer (some ⟨b5, b5o, none⟩))) (ex_index rfl hE rfl rfl b5r) ?_
            intro a hE
            refine s_val (wk0 rfl) rfl rfl hE hp (v := (.agg #[(.int .i64 x3.x0), (.int .i64 x3.x1)])) (ex_load rfl hE rfl (fun w hw => run_ldN (cs := [(.int .i64 x3.x0), (.int .i64 x3.x1)]) varty62 (fun j u hj => cell_of hw.le (b5f j u hj)))) ?_
            intro a hE
            refine s_new (wk0 rfl) rfl rfl hE hp rfl [(.int .i64 0), (.int .i64 0)] (fun w => by simp [Instr.alloc, go_sem] <;> rfl) ?_
            intro a w b6 hE hp
            have hp : Hp Z ρ (Pt b6 (.cells #[(.int .i64 0), (.int .i64 0)] 62 (0, 0)) :: _ :: _ :: _ :: L) w := hp
            refine s_store (wk0 rfl) rfl hE hp rfl rfl rfl 0 rfl varty62.size_ rfl (allOne_mem ⟨rfl, rfl, trivial⟩) [(.int .i64 x3.x0), (.int .i64 x3.x1)] rfl ?_
            intro w hp
            have hp : Hp Z ρ (Pt b6 (.cells #[(.int .i64 x3.x0), (.int .i64 x3.x1)] 62 (0, 0)) :: _ :: _ :: _ :: L) w := hp
            refine s_nil ?_
            obtain ⟨x4, ex4, hl1⟩ := bnd hl1
            obtain ⟨m1, hg1, hl1⟩ := bnd hl1
            obtain ⟨x6, ex6, hl1⟩ := bnd hl1
            have hp := hp.drew
            refine k_heldV ([([], At0 Z ρ), ([], At1 Z ρ (Pt b6 (.cells #[(.int .i64 x3.x0), (.int .i64 x3.x1)] 62 (0, 0)))), ([13], At1 Z ρ (Pt b3 (.cells #[w4] 56 (0, 0))))] : Facts) (fun a w => ∃ y9 : Nat, ∃ y4 : Value, Env 65 [(2, vp2), (8, (.pointer (some ⟨b3, 0, none⟩))), (9, (.func (.func 74) #[] #[(.pointer (some ⟨b3, 0, none⟩))])), (31, vp0_gates), (32, (.int .i64 (p0.gates.length : Int))), (33, (.int .i64 lp1_0))] a ∧ Hp Z ρ (Pt y9 (.cells #[(.bool m1)] 4 (0, 0)) :: OwnSl 4 y4 x6 :: Pt b3 (.cells #[y4] 56 (0, 0)) :: Pt b6 (.cells #[(.int .i64 x3.x0), (.int .i64 x3.x1)] 62 (0, 0)) :: Pt b1 (.cells #[(.int .i64 p0.inputs), vp0_gates] 38 (0, 0)) :: L) w) (by kernel_rfl) ⟨fun _ => ⟨_, hp⟩, fun _ => ⟨_, (hp.get 0 rfl)⟩, fun _ => ⟨_, (hp.get 1 rfl)⟩, trivial⟩ (fun hS => ?_) ?_
            ·
              generalize w.drew = w at hS hp ⊢
              refine v_take1 0 2 (wk0 rfl) rfl rfl rfl hE (by kernel_rfl) (by kernel_rfl) (by kernel_rfl) rfl (by kernel_rfl) hS (v := w4) (fun _ => ex_load rfl hE rfl (fun w hw => run_ld1 varty56 (Hp.c 0 rfl 0 rfl w hw))) ?_
              intro a hE hS
              refine v_take0 1 (wk0 rfl) rfl rfl rfl hE (by kernel_rfl) (by kernel_rfl) (by kernel_rfl) rfl (by kernel_rfl) hS (v := (.func (.func 74) #[] #[(.pointer (some ⟨b3, 0, none⟩))])) (fun _ => ex_move rfl hE rfl) ?_
              intro a hE hS
              refine v_take0 2 (wk0 rfl) rfl rfl rfl hE (by kernel_rfl) (by kernel_rfl) (by kernel_rfl) rfl (by kernel_rfl) hS (v := (.pointer (some ⟨b6, 0, none⟩))) (fun _ => ex_index rfl hE rfl rfl (aelty62_0 _ _)) ?_
              intro a hE hS
              refine v_take1 3 1 (wk0 rfl) rfl rfl rfl hE (by kernel_rfl) (by kernel_rfl) (by kernel_rfl) rfl (by kernel_rfl) hS (v := (.int .i64 x3.x0)) (fun _ => ex_load rfl hE rfl (fun w hw => run_ld1 varty3 (Hp.c 0 rfl 0 rfl w hw))) ?_
              intro a hE hS
              refine v_all [4] (by kernel_rfl) rfl ?_
              refine List.forall_mem_cons.2 ⟨?_, fun _ h => absurd h (by simp)⟩
              ·
                refine h_op rfl ?_
                obtain ⟨k3, k3a, k3d, k3h⟩ := (hp.get 2 rfl).lend
                refine s_callv (wk0 rfl) rfl rfl hE rfl rfl [(.int .i64 x3.x0)] ⟨rfl, trivial⟩ ent74 (c_gates_Eval_1 (Tabs.mono hT (PH.le_un _ k3)) x3.x0 b3 lp1_1 w4 (OwnSl.ro k3d k3a) (k3h.get 1 rfl) x4 ex4) Ret.ret ?_
                intro v a w hR hE
                obtain ⟨rfl, hp⟩ := Ret.of hR
                have hp := Hp.back k3a k3d hp
                have hp : Hp Z ρ (_ :: _ :: _ :: _ :: L) w := hp
                refine s_nil (and_with ⟨fun _ => ⟨_, hp⟩, fun _ => ⟨_, (hp.get 2 rfl)⟩, fun _ => ⟨_, (hp.get 1 rfl)⟩, trivial⟩ fun hS => ?_)
                refine v_take0 5 (wk0 rfl) rfl rfl rfl hE (by kernel_rfl) (by kernel_rfl) (by kernel_rfl) rfl (by kernel_rfl) hS (v := (.bool x4)) (fun _ => ex_move rfl hE rfl) ?_
                intro a hE hS
                rcases Bool.eq_false_or_eq_true x4 with hc6 | hc6
                ·
                  have hg1 := (it hc6).symm.trans hg1
                  obtain ⟨x5, ex5, hg1⟩ := bnd hg1
                  refine v_take0 6 (wk1 hE rfl rfl rfl hc6) rfl rfl rfl hE (by kernel_rfl) (by kernel_rfl) (by kernel_rfl) rfl (by kernel_rfl) hS (v := (.func (.func 74) #[] #[(.pointer (some ⟨b3, 0, none⟩))])) (fun _ => ex_move rfl hE rfl) ?_
                  intro a hE hS
                  refine v_take0 7 (wk1 hE rfl rfl rfl hc6) rfl rfl rfl hE (by kernel_rfl) (by kernel_rfl) (by kernel_rfl) rfl (by kernel_rfl) hS (v := (.pointer (some ⟨b6, 1, none⟩))) (fun _ => ex_index rfl hE rfl rfl (aelty62_1 _ _)) ?_
                  intro a hE hS
                  refine v_take1 8 1 (wk1 hE rfl rfl rfl hc6) rfl rfl rfl hE (by kernel_rfl) (by kernel_rfl) (by kernel_rfl) rfl (by kernel_rfl) hS (v := (.int .i64 x3.x1)) (fun _ => ex_load rfl hE rfl (fun w hw => run_ld1 varty3 (Hp.c 0 rfl 1 rfl w hw))) ?_
                  intro a hE hS
                  refine v_all [9] (by kernel_rfl) rfl ?_
                  refine List.forall_mem_cons.2 ⟨?_, fun _ h => absurd h (by simp)⟩
                  ·
                    refine h_op rfl ?_
                    obtain ⟨k4, k4a, k4d, k4h⟩ := (hp.get 0 rfl).lend
                    refine s_callv (wk1 hE rfl rfl rfl hc6) rfl rfl hE rfl rfl [(.int .i64 x3.x1)] ⟨rfl, trivial⟩ ent74 (c_gates_Eval_1 (Tabs.mono hT (PH.le_un _ k4)) x3.x1 b3 lp1_1 w4 (OwnSl.ro k4d k4a) k4h x5 ex5) Ret.ret ?_
                    intro v a w hR hE
                    obtain ⟨rfl, hp⟩ := Ret.of hR
                    have hp := Hp.back k4a k4d hp
                    have hp : Hp Z ρ (_ :: _ :: _ :: _ :: L) w := hp
                    refine s_nil (and_with ⟨fun _ => ⟨_, hp⟩, fun _ => ⟨_, (hp.get 2 rfl)⟩, fun _ => ⟨_, (hp.get 1 rfl)⟩, trivial⟩ fun hS => ?_)
                    refine v_take0 10 (wk0 rfl) rfl rfl rfl hE (by kernel_rfl) (by kernel_rfl) (by kernel_rfl) rfl (by kernel_rfl) hS (v := (.bool x5)) (fun _ => ex_pick1 rfl hE rfl hc6 rfl) ?_
                    intro a hE hS
                    have hE := hE.eqv (v' := (.bool m1)) (congrArg Value.bool (Option.some.inj hg1))
                    refine v_all [11] (by kernel_rfl) rfl ?_
                    refine List.forall_mem_cons.2 ⟨?_, fun _ h => absurd h (by simp)⟩
                    ·
                      refine h_op rfl ?_
                      refine s_lit (wk0 rfl) rfl rfl hE hp rfl [(0, (.bool m1))] ⟨⟨rfl, rfl⟩, trivial⟩ [(.bool m1)] 4 (fun w => by simp [Instr.buildSlice, Instr.fill, Value.cells, go_sem]) ?_
                      intro a w b8 hE hp
                      have hp : Hp Z ρ (Pt b8 (.cells #[(.bool m1)] 4 (0, 0)) :: _ :: _ :: _ :: _ :: L) w := hp
                      refine s_nil (and_with ⟨fun _ => ⟨_, hp⟩, fun _ => ⟨_, (hp.get 3 rfl)⟩, fun _ => ⟨_, (hp.get 2 rfl)⟩, trivial⟩ fun hS => ?_)
                      refine v_all [12] (by kernel_rfl) rfl ?_
                      refine List.forall_mem_cons.2 ⟨?_, fun _ h => absurd h (by simp)⟩
                      ·
                        refine h_op rfl ?_
                        refine s_app (wk0 rfl) rfl rfl hE hp rfl slty56 rfl rfl 1 rfl rfl (l2 := [m1]) rfl (fun j u hj => by have := Hp.cN 0 rfl 0 _ (sub_all rfl) w hp j u hj; simpa using this) ex6 ?_
                        intro v3 a w hE hp
                        have hp : Hp Z ρ (_ :: OwnSl 4 v3 x6 :: _ :: _ :: _ :: L) w := hp
                        refine s_nil (and_with ⟨fun _ => ⟨_, hp⟩, fun _ => ⟨_, (hp.get 3 rfl)⟩, fun _ => ⟨_, (hp.get 2 rfl)⟩, trivial⟩ fun hS => ?_)
                        refine v_all [13] (by kernel_rfl) rfl ?_
                        refine List.forall_mem_cons.2 ⟨?_, fun _ h => absurd h (by simp)⟩
                        ·
                          refine h_op rfl ?_
                          refine s_store1 (wk0 rfl) rfl hE hp rfl rfl rfl 2 rfl varty56.size_ (OwnSl.cells hp 1 rfl) (OwnSl.one hp 1 rfl) rfl [v3] rfl ?_
                          intro w hp
                          have hp : Hp Z ρ (_ :: _ :: Pt b3 (.cells #[v3] 56 (0, 0)) :: _ :: _ :: L) w := hp
                          refine s_nil (and_with ⟨fun _ => ⟨_, hp⟩, fun _ => ⟨_, (hp.get 3 rfl)⟩, dead (by kernel_rfl), trivial⟩ fun hS => ?_)
                          exact v_done (by kernel_rfl) ⟨_, _, hE.cut ⟨rfl, rfl, rfl, rfl, rfl, rfl, trivial⟩, hp⟩
                ·
                  have hg1 := (ie hc6).symm.trans hg1
                  refine v_skip 6 (wk2 hE rfl rfl rfl hc6) rfl rfl rfl hE (by kernel_rfl) (by kernel_rfl) (by kernel_rfl) rfl (by kernel_rfl) hS ?_
                  intro a hE hS
                  refine v_skip 7 (wk2 hE rfl rfl rfl hc6) rfl rfl rfl hE (by kernel_rfl) (by kernel_rfl) (by kernel_rfl) rfl (by kernel_rfl) hS ?_
                  intro a hE hS
                  refine v_skip 8 (wk2 hE rfl rfl rfl hc6) rfl rfl rfl hE (by kernel_rfl) (by kernel_rfl) (by kernel_rfl) rfl (by kernel_rfl) hS ?_
                  intro a hE hS
                  refine v_skip 9 (wk2 hE rfl rfl rfl hc6) rfl rfl rfl hE (by kernel_rfl) (by kernel_rfl) (by kernel_rfl) rfl (by kernel_rfl) hS ?_
                  intro a hE hS
                  refine v_take0 10 (wk0 rfl) rfl rfl rfl hE (by kernel_rfl) (by kernel_rfl) (by kernel_rfl) rfl (by kernel_rfl) hS (v := (.bool false)) (fun _ => ex_pick0 rfl hE rfl hc6 rfl) ?_
                  intro a hE hS
                  have hE := hE.eqv (v' := (.bool m1)) (congrArg Value.bool (Option.some.inj hg1))
                  refine v_all [11] (by kernel_rfl) rfl ?_
                  refine List.forall_mem_cons.2 ⟨?_, fun _ h => absurd h (by simp)⟩
                  ·
                    refine h_op rfl ?_
                    refine s_lit (wk0 rfl) rfl rfl hE hp rfl [(0, (.bool m1))] ⟨⟨rfl, rfl⟩, trivial⟩ [(.bool m1)] 4 (fun w => by simp [Instr.buildSlice, Instr.fill, Value.cells, go_sem]) ?_
                    intro a w b9 hE hp
                    have hp : Hp Z ρ (Pt b9 (.cells #[(.bool m1)] 4 (0, 0)) :: _ :: _ :: _ :: _ :: L) w := hp
                    refine s_nil (and_with ⟨fun _ => ⟨_, hp⟩, fun _ => ⟨_, (hp.get 3 rfl)⟩, fun _ => ⟨_, (hp.get 2 rfl)⟩, trivial⟩ fun hS => ?_)
                    refine v_all [12] (by kernel_rfl) rfl ?_
                    refine List.forall_mem_cons.2 ⟨?_, fun _ h => absurd h (by simp)⟩
                    ·
                      refine h_op rfl ?_
                      refine s_app (wk0 rfl) rfl rfl hE hp rfl slty56 rfl rfl 1 rfl rfl (l2 := [m1]) rfl (fun j u hj => by have := Hp.cN 0 rfl 0 _ (sub_all rfl) w hp j u hj; simpa using this) ex6 ?_
                      intro v4 a w hE hp
                      have hp : Hp Z ρ (_ :: OwnSl 4 v4 x6 :: _ :: _ :: _ :: L) w := hp
                      refine s_nil (and_with ⟨fun _ => ⟨_, hp⟩, fun _ => ⟨_, (hp.get 3 rfl)⟩, fun _ => ⟨_, (hp.get 2 rfl)⟩, trivial⟩ fun hS => ?_)
                      refine v_all [13] (by kernel_rfl) rfl ?_
                      refine List.forall_mem_cons.2 ⟨?_, fun _ h => absurd h (by simp)⟩
                      ·
                        refine h_op rfl ?_
                        refine s_store1 (wk0 rfl) rfl hE hp rfl rfl rfl 2 rfl varty56.size_ (OwnSl.cells hp 1 rfl) (OwnSl.one hp 1 rfl) rfl [v4] rfl ?_
                        intro w hp
                        have hp : Hp Z ρ (_ :: _ :: Pt b3 (.cells #[v4] 56 (0, 0)) :: _ :: _ :: L) w := hp
                        refine s_nil (and_with ⟨fun _ => ⟨_, hp⟩, fun _ => ⟨_, (hp.get 3 rfl)⟩, dead (by kernel_rfl), trivial⟩ fun hS => ?_)
                        exact v_done (by kernel_rfl) ⟨_, _, hE.cut ⟨rfl, rfl, rfl, rfl, rfl, rfl, trivial⟩, hp⟩
            · rintro a w ⟨y9, y4, hE, hp⟩
              refine k_region ?_
              obtain ⟨x7, ex7, hl1⟩ := bnd hl1
              refine s_val (wk0 rfl) rfl rfl hE hp (v := (.int .i64 x7)) (ex_add rfl hE rfl rfl (inK_some ex7)) ?_
              intro a hE
              refine s_val (wk0 rfl) rfl rfl hE hp (v := (.int .i64 x7)) (ex_move rfl hE rfl) ?_
              intro a hE
              refine s_nil ?_
              exact ⟨_, (Option.some.inj hl1).symm, _, hE.cut ⟨rfl, rfl, rfl, rfl, rfl, rfl, trivial⟩, (((((((hp.get 4 rfl).get 2 rfl).get 3 rfl).get 4 rfl).drop).get 3 rfl).drop)⟩
          · replace hl1 := (ie hc4).symm.trans hl1
            refine k_exit ?_
            refine ⟨_, (Option.some.inj hl1).symm, fun hbb => ?_⟩
            subst hbb
            exact ⟨_, hE.cut ⟨rfl, rfl, trivial⟩, hp⟩
      · rintro a w ⟨w4, hE, hp⟩
        refine k_seq ?_
        refine k_region ?_
        refine s_val (wk0 rfl) rfl rfl hE hp (v := (.slice none 0 0)) (ex_asn rfl hE rfl) ?_
        intro a hE
        refine s_nil ?_
        refine k_seq ?_
        refine k_seq ?_
        refine k_region ?_
        refine s_val (wk0 rfl) rfl rfl hE hp (v := vp2) (ex_move rfl hE rfl) ?_
        intro a hE
        refine s_val (wk0 rfl) rfl rfl hE hp (v := (.int .i64 (p2.length : Int))) (ex_len rfl hE rfl (RoSl.len hp2 slty25)) ?_
        intro a hE
        refine s_val (wk0 rfl) rfl rfl hE hp (v := (.int .i64 0)) (ex_move rfl hE rfl) ?_
        intro a hE
        refine s_nil ?_
        have hp := hp.emp (OwnSl.nil (α := Bool) 4)
        have hp : Hp Z ρ (OwnSl 4 (.slice none 0 0) ([] : List Bool) :: Pt b3 (.cells #[w4] 56 (0, 0)) :: OwnSl 4 w4 b4 :: _ :: L) w := hp
        obtain ⟨b10, hc7, hm⟩ := bnd hm
        refine k_block (fun a w => ∃ (w12 : Value), Env 65 [(12, w12)] a ∧ Hp Z ρ (OwnSl 4 w12 b10 :: Pt b3 (.cells #[w4] 56 (0, 0)) :: OwnSl 4 w4 b4 :: Pt b1 (.cells #[(.int .i64 p0.inputs), vp0_gates] 38 (0, 0)) :: L) w) ?_ ?_
        · refine k_loop hc7 (fun s a w => ∃ (w12 : Value), Env 65 [(9, (.func (.func 74) #[] #[(.pointer (some ⟨b3, 0, none⟩))])), (12, w12), (51, vp2), (52, (.int .i64 (p2.length : Int))), (53, (.int .i64 s.1))] a ∧ Hp Z ρ (OwnSl 4 w12 s.2 :: Pt b3 (.cells #[w4] 56 (0, 0)) :: OwnSl 4 w4 b4 :: Pt b1 (.cells #[(.int .i64 p0.inputs), vp0_gates] 38 (0, 0)) :: L) w) ?_ ?_
          · exact ⟨_, hE.cut ⟨rfl, rfl, rfl, rfl, rfl, trivial⟩, hp⟩
          · rintro ⟨lp2_0, lp2_1⟩ st a w ⟨w12, hE, hp⟩ hl2
            have hE : Env 65 [(9, (.func (.func 74) #[] #[(.pointer (some ⟨b3, 0, none⟩))])), (12, w12), (51, vp2), (52, (.int .i64 (p2.length : Int))), (53, (.int .i64 lp2_0))] a := hE
            have hp : Hp Z ρ (OwnSl 4 w12 lp2_1 :: _ :: _ :: _ :: L) w := hp
            replace hl2 : m_gates_Eval_lp2 p2 b4 lp2_0 lp2_1 = some st := hl2
            unfold m_gates_Eval_lp2 at hl2
            refine k_seq ?_
            refine k_region ?_
            refine s_val (wk0 rfl) rfl rfl hE hp (v := (.bool (decide (lp2_0 < (p2.length : Int))))) (ex_lss rfl hE rfl rfl) ?_
            intro a hE
            refine s_nil ?_
            refine k_seq ?_
            refine k_if hE rfl (fun hc8 => ?_) (fun hc8 => ?_)
            · replace hl2 := (it hc8).symm.trans hl2
              refine k_skip ?_
              refine k_seq ?_
              refine k_plain ?_
              refine k_seq ?_
              refine k_region ?_
              obtain ⟨x8, ex8, hl2⟩ := bnd hl2
              obtain ⟨b11, b11o, b11c, b11r, b11k, b11f⟩ := RoSl.at hp2 slty25 ex8
              obtain rfl : b11c = Enc.enc x8 := b11k
              have b11f : AtP ρ b11 b11o [(.int .i64 x8)] := b11f
              refine s_val (wk0 rfl) rfl rfl hE hp (v := (.pointer (some ⟨b11, b11o, none⟩))) (ex_index rfl hE rfl rfl b11r) ?_
              intro a hE
              refine s_val (wk0 rfl) rfl rfl hE hp (v := (.int .i64 x8)) (ex_load rfl hE rfl (fun w hw => run_ld1 varty3 (b11f.c 0 rfl w hw))) ?_
              intro a hE
              refine s_val (wk0 rfl) rfl rfl hE hp (v := (.int .i64 x8)) (ex_asn rfl hE rfl) ?_
              intro a hE
              refine s_nil ?_
              refine k_region ?_
              refine s_val (wk0 rfl) rfl rfl hE hp (v := w12) (ex_move rfl hE rfl) ?_
              intro a hE
              refine s_val (wk0 rfl) rfl rfl hE hp (v := (.func (.func 74) #[] #[(.pointer (some ⟨b3, 0, none⟩))])) (ex_move rfl hE rfl) ?_
              intro a hE
              refine s_val (wk0 rfl) rfl rfl hE hp (v := (.int .i64 x8)) (ex_move rfl hE rfl) ?_
              intro a hE
              obtain ⟨k5, k5a, k5d, k5h⟩ := (hp.get 2 rfl).lend
              obtain ⟨x9, ex9, hl2⟩ := bnd hl2
              refine s_callv (wk0 rfl) rfl rfl hE rfl rfl [(.int .i64 x8)] ⟨rfl, trivial⟩ ent74 (c_gates_Eval_1 (Tabs.mono hT (PH.le_un _ k5)) x8 b3 b4 w4 (OwnSl.ro k5d k5a) (k5h.get 1 rfl) x9 ex9) Ret.ret ?_
              intro v a w hR hE
              obtain ⟨rfl, hp⟩ := Ret.of hR
              have hp := Hp.back k5a k5d hp
              have hp : Hp Z ρ (_ :: _ :: _ :: _ :: L) w := hp
              refine s_lit (wk0 rfl) rfl rfl hE hp rfl [(0, (.bool x9))] ⟨⟨rfl, rfl⟩, trivial⟩ [(.bool x9)] 4 (fun w => by simp [Instr.buildSlice, Instr.fill, Value.cells, go_sem]) ?_
              intro a w b12 hE hp
              have hp : Hp Z ρ (Pt b12 (.cells #[(.bool x9)] 4 (0, 0)) :: _ :: _ :: _ :: _ :: L) w := hp
              obtain ⟨x10, ex10, hl2⟩ := bnd hl2
              refine s_app (wk0 rfl) rfl rfl hE hp rfl slty56 rfl rfl 3 rfl rfl (l2 := [x9]) rfl (fun j u hj => by have := Hp.cN 0 rfl 0 _ (sub_all rfl) w hp j u hj; simpa using this) ex10 ?_
              intro v5 a w hE hp
              have hp : Hp Z ρ (_ :: _ :: _ :: OwnSl 4 v5 x10 :: _ :: L) w := hp
              refine s_val (wk0 rfl) rfl rfl hE hp (v := v5) (ex_asn rfl hE rfl) ?_
              intro a hE
              refine s_nil ?_
              have hE := hE.cut (E' := [(9, (.func (.func 74) #[] #[(.pointer (some ⟨b3, 0, none⟩))])), (12, v5), (51, vp2), (52, (.int .i64 (p2.length : Int))), (53, (.int .i64 lp2_0))]) ⟨rfl, rfl, rfl, rfl, rfl, trivial⟩
              refine k_region ?_
              obtain ⟨x11, ex11, hl2⟩ := bnd hl2
              refine s_val (wk0 rfl) rfl rfl hE hp (v := (.int .i64 x11)) (ex_add rfl hE rfl rfl (inK_some ex11)) ?_
              intro a hE
              refine s_val (wk0 rfl) rfl rfl hE hp (v := (.int .i64 x11)) (ex_move rfl hE rfl) ?_
              intro a hE
              refine s_nil ?_
              exact ⟨_, (Option.some.inj hl2).symm, _, hE.cut ⟨rfl, rfl, rfl, rfl, rfl, trivial⟩, ((((((hp.get 4 rfl).get 2 rfl).get 3 rfl).get 4 rfl).get 4 rfl).drop)⟩
            · replace hl2 := (ie hc8).symm.trans hl2
              refine k_exit ?_
              refine ⟨_, (Option.some.inj hl2).symm, fun hbb => ?_⟩
              subst hbb
              exact ⟨_, hE.cut ⟨rfl, trivial⟩, hp⟩
        · rintro a w ⟨w12, hE, hp⟩
          refine k_seq ?_
          refine k_region ?_
          refine s_val (wk0 rfl) rfl rfl hE hp (v := w12) (ex_move rfl hE rfl) ?_
          intro a hE
          refine s_val (wk0 rfl) rfl rfl hE hp (v := w12) (ex_asn rfl hE rfl) ?_
          intro a hE
          refine s_val (wk0 rfl) rfl rfl hE hp (v := (.int .i64 0)) (ex_asn rfl hE rfl) ?_
          intro a hE
          refine s_nil ?_
          refine k_ret ?_
          obtain rfl := Option.some.inj hm
          exact ret2 hE rfl rfl rfl ⟨_, rfl, _, rfl, ((((((hp.get 3 rfl).drop).get 2 rfl).drop).get 1 rfl).drop)⟩
set_option maxRecDepth 100000 in
set_option maxHeartbeats 4000000 in
theorem c_assessorref24_Nodes {Z : World} {ρ : PH} {L : List Atom} {w : World} (hT : Tabs ρ) (p0 : Gates) (vp0_gates : Value) (hp0_gates : RoSl ρ vp0_gates p0.gates) (hp : Hp Z ρ (L) w) (r : Int) (hm : m_assessorref24_Nodes p0 = some r) :
    Calls Tryz.prog 38 #[(.agg #[(.int .i64 p0.inputs), vp0_gates])] w (Ret fun v w' => v = (.int .i64 r) ∧ Hp Z ρ (L) w') := by
  refine enter (N := 10) Tryz.func38 rfl rfl [(0, (.agg #[(.int .i64 p0.inputs), vp0_gates]))] rfl (argsIn_mem ⟨rfl, trivial⟩) fun a hE => ?_
  unfold m_assessorref24_Nodes at hm
  refine k_seq ?_
  refine k_region ?_
  refine s_box (wk0 rfl) rfl rfl hE hp rfl (v := (.agg #[(.int .i64 p0.inputs), vp0_gates])) rfl ?_
  intro a w b1 hE hp
  have hp : Hp Z ρ (Pt b1 (.cells #[(.int .i64 p0.inputs), vp0_gates] 38 (0, 0)) :: L) w := hp
  refine s_val (wk0 rfl) rfl rfl hE hp (v := (.int .i64 0)) (ex_asn rfl hE rfl) ?_
  intro a hE
  refine s_nil ?_
  refine k_seq ?_
  refine k_region ?_
  refine s_val (wk0 rfl) rfl rfl hE hp (v := (.pointer (some ⟨b1, 0, none⟩))) (ex_field rfl hE rfl (fldty38_0 _ _)) ?_
  intro a hE
  refine s_val (wk0 rfl) rfl rfl hE hp (v := (.int .i64 p0.inputs)) (ex_load rfl hE rfl (fun w hw => run_ld1 varty3 (Hp.c 0 rfl 0 rfl w hw))) ?_
  intro a hE
  obtain ⟨x1, ex1, hm⟩ := bnd hm
  refine s_val (wk0 rfl) rfl rfl hE hp (v := (.int .i64 x1)) (ex_add rfl hE rfl rfl (inK_some ex1)) ?_
  intro a hE
  refine s_val (wk0 rfl) rfl rfl hE hp (v := (.pointer (some ⟨b1, 1, none⟩))) (ex_field rfl hE rfl (fldty38_1 _ _)) ?_
  intro a hE
  refine s_val (wk0 rfl) rfl rfl hE hp (v := vp0_gates) (ex_load rfl hE rfl (fun w hw => run_ld1 varty36 (Hp.c 0 rfl 1 rfl w hw))) ?_
  intro a hE
  refine s_val (wk0 rfl) rfl rfl hE hp (v := (.int .i64 (p0.gates.length : Int))) (ex_len rfl hE rfl (RoSl.len hp0_gates slty36)) ?_
  intro a hE
  obtain ⟨x2, ex2, hm⟩ := bnd hm
  refine s_val (wk0 rfl) rfl rfl hE hp (v := (.int .i64 x2)) (ex_add rfl hE rfl rfl (inK_some ex2)) ?_
  intro a hE
  refine s_val (wk0 rfl) rfl rfl hE hp (v := (.int .i64 x2)) (ex_asn rfl hE rfl) ?_
  intro a hE
  refine s_nil ?_
  refine k_ret ?_
  obtain rfl := Option.some.inj hm
  exact ret1 hE rfl rfl ⟨_, rfl, rfl, (hp.drop)⟩
end Go.Proofs.YtelioaepnpnojaaGreatDoor

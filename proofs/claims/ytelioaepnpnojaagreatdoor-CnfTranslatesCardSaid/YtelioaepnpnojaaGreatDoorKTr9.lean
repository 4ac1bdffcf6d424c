/- The code goes as its model: assessor/cnf.Translate$1, assessor/cnf.Translate, assessor/assessorref26.Translate. (Printed by wip/sp/gen.py.) -/
import Derived.Test.YtelioaepnpnojaaGreatDoorKTr4
import Derived.Test.YtelioaepnpnojaaGreatDoorKTr8
import Derived.Test.YtelioaepnpnojaaGreatDoorKTr6
import Derived.Test.YtelioaepnpnojaaGreatDoorKTr7
set_option linter.unusedVariables false
set_option linter.unusedSimpArgs false
namespace Go.Proofs.YtelioaepnpnojaaGreatDoor
open Go.RowKit
set_option maxRecDepth 100000 in
set_option maxHeartbeats 4000000 in
theorem c_cnf_Translate_1 {Z : World} {ρ : PH} {L : List Atom} {w : World} (hT : Tabs ρ) (p0 : (List Int)) (vp0 : Value) (hp0 : RoSl ρ vp0 p0) (bc0 : Nat) (c0 : Formula) (vc0_clauses : Value) (usc0_clauses : List Sl) (hp : Hp Z ρ (Pt bc0 (.cells #[(.int .i64 c0.vars), vc0_clauses] 24 (0, 0)) :: TblA 25 3 vc0_clauses usc0_clauses (c0.clauses : (List (List Int))) :: L) w) (r : Formula) (hm : m_cnf_Translate_1 p0 c0 = some r) :
    Calls Tryz.prog 52 #[vp0, (.pointer (some ⟨bc0, 0, none⟩))] w (Ret fun v w' => ∃ (vzc0_clauses : Value) (uszc0_clauses : List Sl), v = .tuple #[] ∧ Hp Z ρ (Pt bc0 (.cells #[(.int .i64 r.vars), vzc0_clauses] 24 (0, 0)) :: TblA 25 3 vzc0_clauses uszc0_clauses (r.clauses : (List (List Int))) :: L) w') := by
  refine enter (N := 16) Tryz.func52 rfl rfl [(0, vp0), (1, (.pointer (some ⟨bc0, 0, none⟩)))] rfl (argsIn_mem ⟨rfl, rfl, trivial⟩) fun a hE => ?_
  unfold m_cnf_Translate_1 at hm
  refine k_seq ?_
  refine k_region ?_
  refine s_val (wk0 rfl) rfl rfl hE hp (v := vp0) (ex_move rfl hE rfl) ?_
  intro a hE
  obtain ⟨x1, ex1, hm⟩ := bnd hm
  refine s_call (wk0 rfl) rfl rfl hE rfl [vp0] ⟨rfl, trivial⟩ ent12 (c_cnf_Normal hT p0 vp0 hp0 hp x1 ex1) Ret.ret ?_
  intro v a w hR hE
  obtain ⟨vr1, rfl, hp⟩ := Ret.of hR
  have hp : Hp Z ρ (OwnSl 3 vr1 x1.1 :: Pt bc0 (.cells #[(.int .i64 c0.vars), vc0_clauses] 24 (0, 0)) :: TblA 25 3 vc0_clauses usc0_clauses (c0.clauses : (List (List Int))) :: L) w := hp
  refine s_val (wk0 rfl) rfl rfl hE hp (v := (.tuple #[vr1, (.bool x1.2)])) (ex_move rfl hE rfl) ?_
  intro a hE
  refine s_val (wk0 rfl) rfl rfl hE hp (v := vr1) (ex_extract rfl hE rfl rfl) ?_
  intro a hE
  refine s_val (wk0 rfl) rfl rfl hE hp (v := (.bool x1.2)) (ex_extract rfl hE rfl rfl) ?_
  intro a hE
  refine s_val (wk0 rfl) rfl rfl hE hp (v := vr1) (ex_asn rfl hE rfl) ?_
  intro a hE
  refine s_val (wk0 rfl) rfl rfl hE hp (v := (.bool x1.2)) (ex_asn rfl hE rfl) ?_
  intro a hE
  refine s_nil ?_
  refine k_region ?_
  refine s_val (wk0 rfl) rfl rfl hE hp (v := (.pointer (some ⟨bc0, 1, none⟩))) (ex_field rfl hE rfl (fldty24_1 _ _)) ?_
  intro a hE
  refine s_val (wk0 rfl) rfl rfl hE hp (v := vc0_clauses) (ex_load rfl hE rfl (fun w hw => run_ld1 varty22 (Hp.c 1 rfl 1 rfl w hw))) ?_
  intro a hE
  refine s_val (wk0 rfl) rfl rfl hE hp (v := vr1) (ex_move rfl hE rfl) ?_
  intro a hE
  refine s_lit (wk0 rfl) rfl rfl hE hp rfl [(0, vr1)] ⟨⟨rfl, rfl⟩, trivial⟩ [vr1] 25 (fun w => by have hc0 := OwnSl.cells hp 0 rfl; simp only [Value.cells] at hc0; simp [Instr.buildSlice, Instr.fill, Value.cells, hc0, go_sem]) ?_
  intro a w b1 hE hp
  have hp : Hp Z ρ (Pt b1 (.cells #[vr1] 25 (0, 0)) :: _ :: _ :: _ :: L) w := hp
  obtain ⟨x2, ex2, hm⟩ := bnd hm
  obtain ⟨sl1, sl1e⟩ := OwnSl.toSl hp 1 rfl
  refine s_tapp (wk0 rfl) rfl rfl hE sl1e (hp.get 1 rfl) rfl slty22 rfl rfl 2 rfl rfl (Hp.c 0 rfl 0 rfl w hp) ex2 ?_
  intro v1 us1 a w hE hp
  have hp : Hp Z ρ (_ :: _ :: TblA 25 3 v1 us1 (x2 : (List (List Int))) :: L) w := hp
  refine s_val (wk0 rfl) rfl rfl hE hp (v := (.pointer (some ⟨bc0, 1, none⟩))) (ex_field rfl hE rfl (fldty24_1 _ _)) ?_
  intro a hE
  refine s_store1 (wk0 rfl) rfl hE hp rfl rfl rfl 1 rfl varty22.size_ (TblA.cells hp 2 rfl) (TblA.one hp 2 rfl) rfl [(.int .i64 c0.vars), v1] rfl ?_
  intro w hp
  have hp : Hp Z ρ (_ :: Pt bc0 (.cells #[(.int .i64 c0.vars), v1] 24 (0, 0)) :: _ :: L) w := hp
  refine s_nil ?_
  obtain rfl := Option.some.inj hm
  exact ret0n hE rfl ⟨_, rfl, _, _, rfl, (hp.drop)⟩
set_option maxRecDepth 100000 in
set_option maxHeartbeats 4000000 in
theorem c_cnf_Translate {Z : World} {ρ : PH} {L : List Atom} {w : World} (hT : Tabs ρ) (p0 : Gates) (vp0_gates : Value) (hp0_gates : RoSl ρ vp0_gates p0.gates) (p1 : (List Int)) (vp1 : Value) (hp1 : RoSl ρ vp1 p1) (hp : Hp Z ρ (L) w) (r : (Formula × Int)) (hm : m_cnf_Translate p0 p1 = some r) :
    Calls Tryz.prog 21 #[(.agg #[(.int .i64 p0.inputs), vp0_gates]), vp1] w (Ret fun v w' => ∃ (vr1_clauses : Value) (usr1_clauses : List Sl), v = .tuple #[(.agg #[(.int .i64 r.1.vars), vr1_clauses]), (.int .i64 r.2)] ∧ Hp Z ρ (TblA 25 3 vr1_clauses usr1_clauses (r.1.clauses : (List (List Int))) :: L) w') := by
  refine enter (N := 113) Tryz.func21 rfl rfl [(0, (.agg #[(.int .i64 p0.inputs), vp0_gates])), (1, vp1)] rfl (argsIn_mem ⟨rfl, rfl, trivial⟩) fun a hE => ?_
  unfold m_cnf_Translate at hm
  refine k_seq ?_
  refine k_region ?_
  refine s_box (wk0 rfl) rfl rfl hE hp rfl (v := (.agg #[(.int .i64 p0.inputs), vp0_gates])) rfl ?_
  intro a w b1 hE hp
  have hp : Hp Z ρ (Pt b1 (.cells #[(.int .i64 p0.inputs), vp0_gates] 38 (0, 0)) :: L) w := hp
  refine s_new (wk0 rfl) rfl rfl hE hp rfl [(.int .i64 0), (.slice none 0 0)] (fun w => by simp [Instr.alloc, go_sem] <;> rfl) ?_
  intro a w b2 hE hp
  have hp : Hp Z ρ (Pt b2 (.cells #[(.int .i64 0), (.slice none 0 0)] 24 (0, 0)) :: _ :: L) w := hp
  refine s_val (wk0 rfl) rfl rfl hE hp (v := (.int .i64 0)) (ex_asn rfl hE rfl) ?_
  intro a hE
  refine s_nil ?_
  refine k_seq ?_
  refine k_seq ?_
  refine k_region ?_
  refine s_val (wk0 rfl) rfl rfl hE hp (v := (.agg #[(.int .i64 p0.inputs), vp0_gates])) (ex_load rfl hE rfl (fun w hw => run_ldN (cs := [(.int .i64 p0.inputs), vp0_gates]) varty38 (Hp.cN 1 rfl 0 _ (sub_all rfl) w hw))) ?_
  intro a hE
  obtain ⟨x1, ex1, hm⟩ := bnd hm
  refine s_call (wk0 rfl) rfl rfl hE rfl [(.agg #[(.int .i64 p0.inputs), vp0_gates])] ⟨rfl, trivial⟩ ent51 (c_gates_Valid hT p0 vp0_gates hp0_gates hp x1 ex1) Ret.ret ?_
  intro v a w hR hE
  obtain ⟨rfl, hp⟩ := Ret.of hR
  have hp : Hp Z ρ (_ :: _ :: L) w := hp
  refine s_val (wk0 rfl) rfl rfl hE hp (v := (.bool (!x1))) (ex_not rfl hE rfl) ?_
  intro a hE
  refine s_nil ?_
  refine k_if hE rfl (fun hc1 => ?_) (fun hc1 => ?_)
  · replace hm := (it hc1).symm.trans hm
    refine k_seq ?_
    refine k_region ?_
    refine s_val (wk0 rfl) rfl rfl hE hp (v := (.agg #[(.int .i64 0), (.slice none 0 0)])) (ex_bld rfl hE [] (by exact trivial) (fun w => by simp [Instr.build, Instr.fill, Value.cells, go_sem])) ?_
    intro a hE
    refine s_store (wk0 rfl) rfl hE hp rfl rfl rfl 0 rfl varty24.size_ rfl (allOne_mem ⟨rfl, rfl, trivial⟩) [(.int .i64 0), (.slice none 0 0)] rfl ?_
    intro w hp
    have hp : Hp Z ρ (_ :: _ :: L) w := hp
    refine s_val (wk0 rfl) rfl rfl hE hp (v := (.int .i64 1)) (ex_asn rfl hE rfl) ?_
    intro a hE
    refine s_nil ?_
    refine k_ret ?_
    have hp := hp.emp (TblA.none (α := Int) 25 3 none)
    have hp : Hp Z ρ (TblA 25 3 (.slice none 0 0) ([]) ([] : (List (List Int))) :: _ :: _ :: L) w := hp
    have hp : Hp Z ρ (_ :: _ :: _ :: L) w := hp
    obtain rfl := Option.some.inj hm
    exact retct hE rfl rfl rfl (run_lvN (cs := [(.int .i64 0), (.slice none 0 0)]) varty24 (Hp.cN 1 rfl 0 _ (sub_all rfl) _ hp)) ⟨_, rfl, _, _, rfl, ((((hp.get 2 rfl).drop).get 1 rfl).drop)⟩
  · replace hm := (ie hc1).symm.trans hm
    refine k_skip ?_
    refine k_seq ?_
    refine k_region ?_
    refine s_val (wk0 rfl) rfl rfl hE hp (v := (.pointer (some ⟨b1, 0, none⟩))) (ex_field rfl hE rfl (fldty38_0 _ _)) ?_
    intro a hE
    refine s_val (wk0 rfl) rfl rfl hE hp (v := (.int .i64 p0.inputs)) (ex_load rfl hE rfl (fun w hw => run_ld1 varty3 (Hp.c 1 rfl 0 rfl w hw))) ?_
    intro a hE
    obtain ⟨x2, ex2, hm⟩ := bnd hm
    refine s_val (wk0 rfl) rfl rfl hE hp (v := (.int .i64 x2)) (ex_add rfl hE rfl rfl (inK_some ex2)) ?_
    intro a hE
    refine s_val (wk0 rfl) rfl rfl hE hp (v := (.pointer (some ⟨b1, 1, none⟩))) (ex_field rfl hE rfl (fldty38_1 _ _)) ?_
    intro a hE
    refine s_val (wk0 rfl) rfl rfl hE hp (v := vp0_gates) (ex_load rfl hE rfl (fun w hw => run_ld1 varty36 (Hp.c 1 rfl 1 rfl w hw))) ?_
    intro a hE
    refine s_val (wk0 rfl) rfl rfl hE hp (v := (.int .i64 (p0.gates.length : Int))) (ex_len rfl hE rfl (RoSl.len hp0_gates slty36)) ?_
    intro a hE
    obtain ⟨x3, ex3, hm⟩ := bnd hm
    refine s_val (wk0 rfl) rfl rfl hE hp (v := (.int .i64 x3)) (ex_add rfl hE rfl rfl (inK_some ex3)) ?_
    intro a hE
    refine s_val (wk0 rfl) rfl rfl hE hp (v := (.int .i64 x3)) (ex_asn rfl hE rfl) ?_
    intro a hE
    refine s_nil ?_
    refine k_seq ?_
    refine k_seq ?_
    refine k_region ?_
    refine s_val (wk0 rfl) rfl rfl hE hp (v := vp1) (ex_move rfl hE rfl) ?_
    intro a hE
    refine s_val (wk0 rfl) rfl rfl hE hp (v := (.int .i64 (p1.length : Int))) (ex_len rfl hE rfl (RoSl.len hp1 slty25)) ?_
    intro a hE
    refine s_val (wk0 rfl) rfl rfl hE hp (v := (.int .i64 0)) (ex_move rfl hE rfl) ?_
    intro a hE
    refine s_nil ?_
    obtain ⟨b3, hc2, hm⟩ := bnd hm
    refine k_block (fun a w => ∃ s : Unit, b3 = .brk s ∧ (Env 113 [(1, vp1), (2, (.pointer (some ⟨b1, 0, none⟩))), (4, (.pointer (some ⟨b2, 0, none⟩))), (6, (.int .i64 x3))] a ∧ Hp Z ρ (Pt b2 (.cells #[(.int .i64 0), (.slice none 0 0)] 24 (0, 0)) :: Pt b1 (.cells #[(.int .i64 p0.inputs), vp0_gates] 38 (0, 0)) :: L) w)) ?_ ?_
    · refine k_loop hc2 (fun s a w => Env 113 [(1, vp1), (2, (.pointer (some ⟨b1, 0, none⟩))), (4, (.pointer (some ⟨b2, 0, none⟩))), (6, (.int .i64 x3)), (29, vp1), (30, (.int .i64 (p1.length : Int))), (31, (.int .i64 s))] a ∧ Hp Z ρ (Pt b2 (.cells #[(.int .i64 0), (.slice none 0 0)] 24 (0, 0)) :: Pt b1 (.cells #[(.int .i64 p0.inputs), vp0_gates] 38 (0, 0)) :: L) w) ?_ ?_
      · exact ⟨hE.cut ⟨rfl, rfl, rfl, rfl, rfl, rfl, rfl, trivial⟩, hp⟩
      · rintro lp1_0 st a w ⟨hE, hp⟩ hl1
        have hE : Env 113 [(1, vp1), (2, (.pointer (some ⟨b1, 0, none⟩))), (4, (.pointer (some ⟨b2, 0, none⟩))), (6, (.int .i64 x3)), (29, vp1), (30, (.int .i64 (p1.length : Int))), (31, (.int .i64 lp1_0))] a := hE
        have hp : Hp Z ρ (_ :: _ :: L) w := hp
        replace hl1 : m_cnf_Translate_lp1 p1 x3 lp1_0 = some st := hl1
        unfold m_cnf_Translate_lp1 at hl1
        refine k_seq ?_
        refine k_region ?_
        refine s_val (wk0 rfl) rfl rfl hE hp (v := (.bool (decide (lp1_0 < (p1.length : Int))))) (ex_lss rfl hE rfl rfl) ?_
        intro a hE
        refine s_nil ?_
        refine k_seq ?_
        refine k_if hE rfl (fun hc3 => ?_) (fun hc3 => ?_)
        · replace hl1 := (it hc3).symm.trans hl1
          refine k_skip ?_
          refine k_seq ?_
          refine k_plain ?_
          refine k_seq ?_
          refine k_region ?_
          obtain ⟨x4, ex4, hl1⟩ := bnd hl1
          obtain ⟨b4, b4o, b4c, b4r, b4k, b4f⟩ := RoSl.at hp1 slty25 ex4
          obtain rfl : b4c = Enc.enc x4 := b4k
          have b4f : AtP ρ b4 b4o [(.int .i64 x4)] := b4f
          refine s_val (wk0 rfl) rfl rfl hE hp (v := (.pointer (some ⟨b4, b4o, none⟩))) (ex_index rfl hE rfl rfl b4r) ?_
          intro a hE
          refine s_val (wk0 rfl) rfl rfl hE hp (v := (.int .i64 x4)) (ex_load rfl hE rfl (fun w hw => run_ld1 varty3 (b4f.c 0 rfl w hw))) ?_
          intro a hE
          refine s_val (wk0 rfl) rfl rfl hE hp (v := (.int .i64 x4)) (ex_asn rfl hE rfl) ?_
          intro a hE
          refine s_nil ?_
          refine k_seq ?_
          refine k_region ?_
          refine s_val (wk0 rfl) rfl rfl hE hp (v := (.int .i64 x4)) (ex_move rfl hE rfl) ?_
          intro a hE
          refine s_val (wk0 rfl) rfl rfl hE hp (v := (.bool (decide (x4 < 0)))) (ex_lss rfl hE rfl rfl) ?_
          intro a hE
          refine s_val (wk0 rfl) rfl rfl hE hp (v := (.bool (decide (x4 < 0)))) (ex_move rfl hE rfl) ?_
          intro a hE
          obtain ⟨m1, hg1, hl1⟩ := bnd hl1
          refine s_cut [_, _, _, _, _] (fun a w => Env 113 [(42, (.bool m1)), (1, vp1), (2, (.pointer (some ⟨b1, 0, none⟩))), (4, (.pointer (some ⟨b2, 0, none⟩))), (6, (.int .i64 x3)), (29, vp1), (30, (.int .i64 (p1.length : Int))), (31, (.int .i64 lp1_0))] a ∧ Hp Z ρ (Pt b2 (.cells #[(.int .i64 0), (.slice none 0 0)] 24 (0, 0)) :: Pt b1 (.cells #[(.int .i64 p0.inputs), vp0_gates] 38 (0, 0)) :: L) w) ?_ ?_
          · rcases Bool.eq_false_or_eq_true (decide (x4 < 0)) with hc4 | hc4
            ·
              replace hg1 := (it hc4).symm.trans hg1
              refine s_skip (wk2 hE rfl rfl rfl hc4) rfl rfl hE ?_
              intro a hE
              refine s_skip (wk2 hE rfl rfl rfl hc4) rfl rfl hE ?_
              intro a hE
              refine s_skip (wk2 hE rfl rfl rfl hc4) rfl rfl hE ?_
              intro a hE
              refine s_skip (wk2 hE rfl rfl rfl hc4) rfl rfl hE ?_
              intro a hE
              refine s_val (wk0 rfl) rfl rfl hE hp (v := (.bool true)) (ex_pick1 rfl hE rfl hc4 rfl) ?_
              intro a hE
              obtain rfl := Option.some.inj hg1
              exact s_nil ⟨hE.cut ⟨rfl, rfl, rfl, rfl, rfl, rfl, rfl, rfl, trivial⟩, hp⟩
            ·
              replace hg1 := (ie hc4).symm.trans hg1
              refine s_val (wk1 hE rfl rfl rfl hc4) rfl rfl hE hp (v := (.int .i64 x4)) (ex_move rfl hE rfl) ?_
              intro a hE
              refine s_val (wk1 hE rfl rfl rfl hc4) rfl rfl hE hp (v := (.int .i64 x3)) (ex_move rfl hE rfl) ?_
              intro a hE
              obtain ⟨x5, ex5, hg1⟩ := bnd hg1
              refine s_val (wk1 hE rfl rfl rfl hc4) rfl rfl hE hp (v := (.int .i64 x5)) (ex_mul rfl hE rfl rfl (inK_some ex5)) ?_
              intro a hE
              refine s_val (wk1 hE rfl rfl rfl hc4) rfl rfl hE hp (v := (.bool (decide (x5 ≤ x4)))) (ex_geq rfl hE rfl rfl) ?_
              intro a hE
              refine s_val (wk0 rfl) rfl rfl hE hp (v := (.bool (decide (x5 ≤ x4)))) (ex_pick0 rfl hE rfl hc4 rfl) ?_
              intro a hE
              obtain rfl := Option.some.inj hg1
              exact s_nil ⟨hE.cut ⟨rfl, rfl, rfl, rfl, rfl, rfl, rfl, rfl, trivial⟩, hp⟩
          · rintro a w ⟨hE, hp⟩
            refine s_nil ?_
            refine k_if hE rfl (fun hc5 => ?_) (fun hc5 => ?_)
            · replace hl1 := (it hc5).symm.trans hl1
              refine k_seq ?_
              refine k_region ?_
              refine s_val (wk0 rfl) rfl rfl hE hp (v := (.agg #[(.int .i64 0), (.slice none 0 0)])) (ex_bld rfl hE [] (by exact trivial) (fun w => by simp [Instr.build, Instr.fill, Value.cells, go_sem])) ?_
              intro a hE
              refine s_store (wk0 rfl) rfl hE hp rfl rfl rfl 0 rfl varty24.size_ rfl (allOne_mem ⟨rfl, rfl, trivial⟩) [(.int .i64 0), (.slice none 0 0)] rfl ?_
              intro w hp
              have hp : Hp Z ρ (_ :: _ :: L) w := hp
              refine s_val (wk0 rfl) rfl rfl hE hp (v := (.int .i64 1)) (ex_asn rfl hE rfl) ?_
              intro a hE
              refine s_nil ?_
              refine k_ret ?_
              refine ⟨_, (Option.some.inj hl1).symm, fun hb => ?_⟩
              subst hb
              have hp := hp.emp (TblA.none (α := Int) 25 3 none)
              have hp : Hp Z ρ (TblA 25 3 (.slice none 0 0) ([]) ([] : (List (List Int))) :: _ :: _ :: L) w := hp
              have hp : Hp Z ρ (_ :: _ :: _ :: L) w := hp
              obtain rfl := Option.some.inj hm
              exact retct hE rfl rfl rfl (run_lvN (cs := [(.int .i64 0), (.slice none 0 0)]) varty24 (Hp.cN 1 rfl 0 _ (sub_all rfl) _ hp)) ⟨_, rfl, _, _, rfl, ((((hp.get 2 rfl).drop).get 1 rfl).drop)⟩
            · replace hl1 := (ie hc5).symm.trans hl1
              refine k_skip ?_
              refine k_region ?_
              obtain ⟨x6, ex6, hl1⟩ := bnd hl1
              refine s_val (wk0 rfl) rfl rfl hE hp (v := (.int .i64 x6)) (ex_add rfl hE rfl rfl (inK_some ex6)) ?_
              intro a hE
              refine s_val (wk0 rfl) rfl rfl hE hp (v := (.int .i64 x6)) (ex_move rfl hE rfl) ?_
              intro a hE
              refine s_nil ?_
              exact ⟨_, (Option.some.inj hl1).symm, hE.cut ⟨rfl, rfl, rfl, rfl, rfl, rfl, rfl, trivial⟩, hp⟩
        · replace hl1 := (ie hc3).symm.trans hl1
          refine k_exit ?_
          refine ⟨_, (Option.some.inj hl1).symm, fun hbb => ?_⟩
          exact ⟨_, hbb.symm, hE.cut ⟨rfl, rfl, rfl, rfl, trivial⟩, hp⟩
    · rintro a w ⟨b3s, rfl, hE, hp⟩
      dsimp only at hm
      refine k_seq ?_
      refine k_seq ?_
      refine k_region ?_
      refine s_val (wk0 rfl) rfl rfl hE hp (v := (.pointer (some ⟨b1, 1, none⟩))) (ex_field rfl hE rfl (fldty38_1 _ _)) ?_
      intro a hE
      refine s_val (wk0 rfl) rfl rfl hE hp (v := vp0_gates) (ex_load rfl hE rfl (fun w hw => run_ld1 varty36 (Hp.c 1 rfl 1 rfl w hw))) ?_
      intro a hE
      refine s_val (wk0 rfl) rfl rfl hE hp (v := (.int .i64 (p0.gates.length : Int))) (ex_len rfl hE rfl (RoSl.len hp0_gates slty36)) ?_
      intro a hE
      obtain ⟨x7, ex7, hm⟩ := bnd hm
      refine s_val (wk0 rfl) rfl rfl hE hp (v := (.int .i64 x7)) (ex_mul rfl hE rfl rfl (inK_some ex7)) ?_
      intro a hE
      obtain ⟨x8, ex8, hm⟩ := bnd hm
      refine s_val (wk0 rfl) rfl rfl hE hp (v := (.int .i64 x8)) (ex_add rfl hE rfl rfl (inK_some ex8)) ?_
      intro a hE
      refine s_val (wk0 rfl) rfl rfl hE hp (v := vp1) (ex_move rfl hE rfl) ?_
      intro a hE
      refine s_val (wk0 rfl) rfl rfl hE hp (v := (.int .i64 (p1.length : Int))) (ex_len rfl hE rfl (RoSl.len hp1 slty25)) ?_
      intro a hE
      obtain ⟨x9, ex9, hm⟩ := bnd hm
      refine s_val (wk0 rfl) rfl rfl hE hp (v := (.int .i64 x9)) (ex_add rfl hE rfl rfl (inK_some ex9)) ?_
      intro a hE
      refine s_val (wk0 rfl) rfl rfl hE hp (v := (.bool (decide (262144 < x9)))) (ex_gtr rfl hE rfl rfl) ?_
      intro a hE
      refine s_nil ?_
      refine k_if hE rfl (fun hc6 => ?_) (fun hc6 => ?_)
      · replace hm := (it hc6).symm.trans hm
        refine k_seq ?_
        refine k_region ?_
        refine s_val (wk0 rfl) rfl rfl hE hp (v := (.agg #[(.int .i64 0), (.slice none 0 0)])) (ex_bld rfl hE [] (by exact trivial) (fun w => by simp [Instr.build, Instr.fill, Value.cells, go_sem])) ?_
        intro a hE
        refine s_store (wk0 rfl) rfl hE hp rfl rfl rfl 0 rfl varty24.size_ rfl (allOne_mem ⟨rfl, rfl, trivial⟩) [(.int .i64 0), (.slice none 0 0)] rfl ?_
        intro w hp
        have hp : Hp Z ρ (_ :: _ :: L) w := hp
        refine s_val (wk0 rfl) rfl rfl hE hp (v := (.int .i64 8)) (ex_asn rfl hE rfl) ?_
        intro a hE
        refine s_nil ?_
        refine k_ret ?_
        have hp := hp.emp (TblA.none (α := Int) 25 3 none)
        have hp : Hp Z ρ (TblA 25 3 (.slice none 0 0) ([]) ([] : (List (List Int))) :: _ :: _ :: L) w := hp
        have hp : Hp Z ρ (_ :: _ :: _ :: L) w := hp
        obtain rfl := Option.some.inj hm
        exact retct hE rfl rfl rfl (run_lvN (cs := [(.int .i64 0), (.slice none 0 0)]) varty24 (Hp.cN 1 rfl 0 _ (sub_all rfl) _ hp)) ⟨_, rfl, _, _, rfl, ((((hp.get 2 rfl).drop).get 1 rfl).drop)⟩
      · replace hm := (ie hc6).symm.trans hm
        refine k_skip ?_
        refine k_seq ?_
        refine k_region ?_
        refine s_val (wk0 rfl) rfl rfl hE hp (v := (.int .i64 x3)) (ex_move rfl hE rfl) ?_
        intro a hE
        refine s_lit (wk0 rfl) rfl rfl hE hp rfl [(0, (.int .i64 (-1)))] ⟨⟨rfl, rfl⟩, trivial⟩ [(.int .i64 (-1))] 3 (fun w => by simp [Instr.buildSlice, Instr.fill, Value.cells, go_sem]) ?_
        intro a w b5 hE hp
        have hp : Hp Z ρ (Pt b5 (.cells #[(.int .i64 (-1))] 3 (0, 0)) :: _ :: _ :: L) w := hp
        refine s_lit (wk0 rfl) rfl rfl hE hp rfl [(0, (.slice (some ⟨b5, 0, none⟩) 1 1))] ⟨⟨rfl, rfl⟩, trivial⟩ [(.slice (some ⟨b5, 0, none⟩) 1 1)] 25 (fun w => by simp [Instr.buildSlice, Instr.fill, Value.cells, go_sem]) ?_
        intro a w b6 hE hp
        have hp : Hp Z ρ (Pt b6 (.cells #[(.slice (some ⟨b5, 0, none⟩) 1 1)] 25 (0, 0)) :: _ :: _ :: _ :: L) w := hp
        have hp := (hp.get 1 rfl).imp (own_of_pt (l := (([(-1)] : List Int) : List Int)) (n := 1) rfl (by decide) rfl)
        have hp : Hp Z ρ (OwnSl 3 (.slice (some ⟨b5, 0, none⟩) 1 1) ([(-1)] : List Int) :: _ :: _ :: _ :: L) w := hp
        have hp : Hp Z ρ (_ :: _ :: _ :: _ :: L) w := hp
        obtain ⟨sl1, sl1e⟩ := OwnSl.toSl hp 0 rfl
        have hp := Hp.rowsNil (α := Int) 3 hp
        have hp := Hp.rowsCons sl1e (hp.get 1 rfl)
        have hp : Hp Z ρ (RowsA 3 [sl1] ([([(-1)] : List Int)] : List (List Int)) :: _ :: _ :: _ :: L) w := hp
        have hp := Hp.tblShut (hp.front2 0 rfl (own_of_pt (α := Sl) (l := [sl1]) (n := 1) rfl (by decide) (by simp [flat, Enc.enc, sl1e])))
        have hp : Hp Z ρ (TblA 25 3 (.slice (some ⟨b6, 0, none⟩) 1 1) ([sl1]) ([([(-1)] : List Int)] : (List (List Int))) :: _ :: _ :: L) w := hp
        refine s_val (wk0 rfl) rfl rfl hE hp (v := (.agg #[(.int .i64 x3), (.slice (some ⟨b6, 0, none⟩) 1 1)])) (ex_bld rfl hE [(0, (.int .i64 x3)), (1, (.slice (some ⟨b6, 0, none⟩) 1 1))] (by exact ⟨⟨rfl, rfl⟩, ⟨rfl, rfl⟩, trivial⟩) (fun w => by have hc0 := TblA.cells hp 0 rfl; simp only [Value.cells] at hc0; simp [Instr.build, Instr.fill, Value.cells, hc0, go_sem])) ?_
        intro a hE
        refine s_new (wk0 rfl) rfl rfl hE hp rfl [(.int .i64 0), (.slice none 0 0)] (fun w => by simp [Instr.alloc, go_sem] <;> rfl) ?_
        intro a w b7 hE hp
        have hp : Hp Z ρ (Pt b7 (.cells #[(.int .i64 0), (.slice none 0 0)] 24 (0, 0)) :: _ :: _ :: _ :: L) w := hp
        refine s_store (wk0 rfl) rfl hE hp rfl rfl rfl 0 rfl varty24.size_ rfl (allOne_mem ⟨rfl, (TblA.one hp 1 rfl), trivial⟩) [(.int .i64 x3), (.slice (some ⟨b6, 0, none⟩) 1 1)] rfl ?_
        intro w hp
        have hp : Hp Z ρ (Pt b7 (.cells #[(.int .i64 x3), (.slice (some ⟨b6, 0, none⟩) 1 1)] 24 (0, 0)) :: _ :: _ :: _ :: L) w := hp
        refine s_nil ?_
        have hE := hE.cut (E' := [(1, vp1), (2, (.pointer (some ⟨b1, 0, none⟩))), (4, (.pointer (some ⟨b2, 0, none⟩))), (9, (.pointer (some ⟨b7, 0, none⟩)))]) ⟨rfl, rfl, rfl, rfl, trivial⟩
        refine k_seq ?_
        refine k_region ?_
        refine s_val (wk0 rfl) rfl rfl hE hp (v := (.func (.func 52) #[] #[(.pointer (some ⟨b7, 0, none⟩))])) (ex_fn rfl hE [(.pointer (some ⟨b7, 0, none⟩))] (by exact ⟨rfl, trivial⟩)) ?_
        intro a hE
        refine s_val (wk0 rfl) rfl rfl hE hp (v := (.func (.func 52) #[] #[(.pointer (some ⟨b7, 0, none⟩))])) (ex_asn rfl hE rfl) ?_
        intro a hE
        refine s_nil ?_
        refine k_seq ?_
        refine k_seq ?_
        refine k_region ?_
        refine s_val (wk0 rfl) rfl rfl hE hp (v := (.pointer (some ⟨b1, 1, none⟩))) (ex_field rfl hE rfl (fldty38_1 _ _)) ?_
        intro a hE
        refine s_val (wk0 rfl) rfl rfl hE hp (v := vp0_gates) (ex_load rfl hE rfl (fun w hw => run_ld1 varty36 (Hp.c 3 rfl 1 rfl w hw))) ?_
        intro a hE
        refine s_val (wk0 rfl) rfl rfl hE hp (v := (.int .i64 (p0.gates.length : Int))) (ex_len rfl hE rfl (RoSl.len hp0_gates slty36)) ?_
        intro a hE
        refine s_val (wk0 rfl) rfl rfl hE hp (v := (.int .i64 0)) (ex_move rfl hE rfl) ?_
        intro a hE
        refine s_nil ?_
        obtain ⟨b8, hc7, hm⟩ := bnd hm
        refine k_block (fun a w => ∃ (w8 : Value) (us8 : List Sl), Env 113 [(1, vp1), (4, (.pointer (some ⟨b2, 0, none⟩))), (9, (.pointer (some ⟨b7, 0, none⟩))), (10, (.func (.func 52) #[] #[(.pointer (some ⟨b7, 0, none⟩))]))] a ∧ Hp Z ρ (Pt b7 (.cells #[(.int .i64 b8.1), w8] 24 (0, 0)) :: TblA 25 3 w8 us8 (b8.2 : (List (List Int))) :: Pt b2 (.cells #[(.int .i64 0), (.slice none 0 0)] 24 (0, 0)) :: Pt b1 (.cells #[(.int .i64 p0.inputs), vp0_gates] 38 (0, 0)) :: L) w) ?_ ?_
        · refine k_loop hc7 (fun s a w => ∃ (w8 : Value) (us8 : List Sl), Env 113 [(1, vp1), (2, (.pointer (some ⟨b1, 0, none⟩))), (4, (.pointer (some ⟨b2, 0, none⟩))), (9, (.pointer (some ⟨b7, 0, none⟩))), (10, (.func (.func 52) #[] #[(.pointer (some ⟨b7, 0, none⟩))])), (61, vp0_gates), (62, (.int .i64 (p0.gates.length : Int))), (63, (.int .i64 s.1))] a ∧ Hp Z ρ (Pt b7 (.cells #[(.int .i64 s.2.1), w8] 24 (0, 0)) :: TblA 25 3 w8 us8 (s.2.2 : (List (List Int))) :: Pt b2 (.cells #[(.int .i64 0), (.slice none 0 0)] 24 (0, 0)) :: Pt b1 (.cells #[(.int .i64 p0.inputs), vp0_gates] 38 (0, 0)) :: L) w) ?_ ?_
          · exact ⟨_, _, hE.cut ⟨rfl, rfl, rfl, rfl, rfl, rfl, rfl, rfl, trivial⟩, hp⟩
          · rintro ⟨lp2_0, lp2_1, lp2_2⟩ st a w ⟨w8, us8, hE, hp⟩ hl2
            have hE : Env 113 [(1, vp1), (2, (.pointer (some ⟨b1, 0, none⟩))), (4, (.pointer (some ⟨b2, 0, none⟩))), (9, (.pointer (some ⟨b7, 0, none⟩))), (10, (.func (.func 52) #[] #[(.pointer (some ⟨b7, 0, none⟩))])), (61, vp0_gates), (62, (.int .i64 (p0.gates.length : Int))), (63, (.int .i64 lp2_0))] a := hE
            have hp : Hp Z ρ (Pt b7 (.cells #[(.int .i64 lp2_1), w8] 24 (0, 0)) :: TblA 25 3 w8 us8 (lp2_2 : (List (List Int))) :: _ :: _ :: L) w := hp
            replace hl2 : m_cnf_Translate_lp2 p0 lp2_0 lp2_1 lp2_2 = some st := hl2
            unfold m_cnf_Translate_lp2 at hl2
            refine k_seq ?_
            refine k_region ?_
            refine s_val (wk0 rfl) rfl rfl hE hp (v := (.bool (decide (lp2_0 < (p0.gates.length : Int))))) (ex_lss rfl hE rfl rfl) ?_
            intro a hE
            refine s_nil ?_
            refine k_seq ?_
            refine k_if hE rfl (fun hc8 => ?_) (fun hc8 => ?_)
            · replace hl2 := (it hc8).symm.trans hl2
              refine k_skip ?_
              refine k_seq ?_
              refine k_plain ?_
              refine k_seq ?_
              refine k_region ?_
              refine s_val (wk0 rfl) rfl rfl hE hp (v := (.int .i64 lp2_0)) (ex_move rfl hE rfl) ?_
              intro a hE
              obtain ⟨x10, ex10, hl2⟩ := bnd hl2
              obtain ⟨b9, b9o, b9c, b9r, b9k, b9f⟩ := RoSl.at hp0_gates slty36 ex10
              obtain rfl : b9c = Enc.enc x10 := b9k
              have b9f : AtP ρ b9 b9o [(.int .i64 x10.x0), (.int .i64 x10.x1)] := b9f
              refine s_val (wk0 rfl) rfl rfl hE hp (v := (.pointer (some ⟨b9, b9o, none⟩))) (ex_index rfl hE rfl rfl b9r) ?_
              intro a hE
              refine s_val (wk0 rfl) rfl rfl hE hp (v := (.agg #[(.int .i64 x10.x0), (.int .i64 x10.x1)])) (ex_load rfl hE rfl (fun w hw => run_ldN (cs := [(.int .i64 x10.x0), (.int .i64 x10.x1)]) varty62 (fun j u hj => cell_of hw.le (b9f j u hj)))) ?_
              intro a hE
              refine s_new (wk0 rfl) rfl rfl hE hp rfl [(.int .i64 0), (.int .i64 0)] (fun w => by simp [Instr.alloc, go_sem] <;> rfl) ?_
              intro a w b10 hE hp
              have hp : Hp Z ρ (Pt b10 (.cells #[(.int .i64 0), (.int .i64 0)] 62 (0, 0)) :: _ :: _ :: _ :: _ :: L) w := hp
              refine s_val (wk0 rfl) rfl rfl hE hp (v := (.int .i64 lp2_0)) (ex_asn rfl hE rfl) ?_
              intro a hE
              refine s_store (wk0 rfl) rfl hE hp rfl rfl rfl 0 rfl varty62.size_ rfl (allOne_mem ⟨rfl, rfl, trivial⟩) [(.int .i64 x10.x0), (.int .i64 x10.x1)] rfl ?_
              intro w hp
              have hp : Hp Z ρ (Pt b10 (.cells #[(.int .i64 x10.x0), (.int .i64 x10.x1)] 62 (0, 0)) :: _ :: _ :: _ :: _ :: L) w := hp
              refine s_nil ?_
              refine k_seq ?_
              refine k_quiet (by kernel_rfl) (by kernel_rfl) hp ?_
              refine q_val (wk0 rfl) rfl rfl hE (v := (.pointer (some ⟨b1, 0, none⟩))) (ex_field rfl hE rfl (fldty38_0 _ _)) ?_
              intro a hE
              refine q_val (wk0 rfl) rfl rfl hE (v := (.int .i64 p0.inputs)) (ex_load rfl hE rfl (fun w hw => run_ld1 varty3 (Hp.c 4 rfl 0 rfl w hw))) ?_
              intro a hE
              refine q_val (wk0 rfl) rfl rfl hE (v := (.int .i64 lp2_0)) (ex_move rfl hE rfl) ?_
              intro a hE
              obtain ⟨x11, ex11, hl2⟩ := bnd hl2
              refine q_val (wk0 rfl) rfl rfl hE (v := (.int .i64 x11)) (ex_add rfl hE rfl rfl (inK_some ex11)) ?_
              intro a hE
              obtain ⟨x12, ex12, hl2⟩ := bnd hl2
              refine q_val (wk0 rfl) rfl rfl hE (v := (.int .i64 x12)) (ex_add rfl hE rfl rfl (inK_some ex12)) ?_
              intro a hE
              refine q_val (wk0 rfl) rfl rfl hE (v := (.pointer (some ⟨b10, 0, none⟩))) (ex_index rfl hE rfl rfl (aelty62_0 _ _)) ?_
              intro a hE
              refine q_val (wk0 rfl) rfl rfl hE (v := (.int .i64 x10.x0)) (ex_load rfl hE rfl (fun w hw => run_ld1 varty3 (Hp.c 0 rfl 0 rfl w hw))) ?_
              intro a hE
              obtain ⟨x13, ex13, hl2⟩ := bnd hl2
              refine q_call (wk0 rfl) rfl rfl hE rfl [(.int .i64 x10.x0)] ⟨rfl, trivial⟩ ent19 (v := (.int .i64 x13)) (fun w hw => Calls.mono (c_cnf_Literal hT x10.x0 hw x13 ex13) fun e w' ⟨v, he, hv, hh⟩ => ⟨by rw [he, hv], hh⟩) ?_
              intro a hE
              refine q_val (wk0 rfl) rfl rfl hE (v := (.pointer (some ⟨b10, 1, none⟩))) (ex_index rfl hE rfl rfl (aelty62_1 _ _)) ?_
              intro a hE
              refine q_val (wk0 rfl) rfl rfl hE (v := (.int .i64 x10.x1)) (ex_load rfl hE rfl (fun w hw => run_ld1 varty3 (Hp.c 0 rfl 1 rfl w hw))) ?_
              intro a hE
              obtain ⟨x14, ex14, hl2⟩ := bnd hl2
              refine q_call (wk0 rfl) rfl rfl hE rfl [(.int .i64 x10.x1)] ⟨rfl, trivial⟩ ent19 (v := (.int .i64 x14)) (fun w hw => Calls.mono (c_cnf_Literal hT x10.x1 hw x14 ex14) fun e w' ⟨v, he, hv, hh⟩ => ⟨by rw [he, hv], hh⟩) ?_
              intro a hE
              refine q_val (wk0 rfl) rfl rfl hE (v := (.int .i64 x12)) (ex_asn rfl hE rfl) ?_
              intro a hE
              refine q_val (wk0 rfl) rfl rfl hE (v := (.int .i64 x13)) (ex_asn rfl hE rfl) ?_
              intro a hE
              refine q_val (wk0 rfl) rfl rfl hE (v := (.int .i64 x14)) (ex_asn rfl hE rfl) ?_
              intro a hE
              refine q_nil fun w hp => ?_
              have hp : Hp Z ρ (_ :: _ :: _ :: _ :: _ :: L) w := hp
              have hE := hE.cut (E' := [(1, vp1), (2, (.pointer (some ⟨b1, 0, none⟩))), (4, (.pointer (some ⟨b2, 0, none⟩))), (9, (.pointer (some ⟨b7, 0, none⟩))), (10, (.func (.func 52) #[] #[(.pointer (some ⟨b7, 0, none⟩))])), (13, (.int .i64 x12)), (14, (.int .i64 x13)), (15, (.int .i64 x14)), (61, vp0_gates), (62, (.int .i64 (p0.gates.length : Int))), (63, (.int .i64 lp2_0))]) ⟨rfl, rfl, rfl, rfl, rfl, rfl, rfl, rfl, rfl, rfl, rfl, trivial⟩
              refine k_seq ?_
              refine k_region ?_
              refine s_val (wk0 rfl) rfl rfl hE hp (v := (.func (.func 52) #[] #[(.pointer (some ⟨b7, 0, none⟩))])) (ex_move rfl hE rfl) ?_
              intro a hE
              refine s_val (wk0 rfl) rfl rfl hE hp (v := (.int .i64 x12)) (ex_move rfl hE rfl) ?_
              intro a hE
              obtain ⟨x15, ex15, hl2⟩ := bnd hl2
              refine s_val (wk0 rfl) rfl rfl hE hp (v := (.int .i64 x15)) (ex_neg rfl hE rfl (inK_some ex15)) ?_
              intro a hE
              refine s_val (wk0 rfl) rfl rfl hE hp (v := (.int .i64 x13)) (ex_move rfl hE rfl) ?_
              intro a hE
              refine s_lit (wk0 rfl) rfl rfl hE hp rfl [(0, (.int .i64 x15)), (1, (.int .i64 x13))] ⟨⟨rfl, rfl⟩, ⟨rfl, rfl⟩, trivial⟩ [(.int .i64 x15), (.int .i64 x13)] 3 (fun w => by simp [Instr.buildSlice, Instr.fill, Value.cells, go_sem]) ?_
              intro a w b11 hE hp
              have hp : Hp Z ρ (Pt b11 (.cells #[(.int .i64 x15), (.int .i64 x13)] 3 (0, 0)) :: _ :: _ :: _ :: _ :: _ :: L) w := hp
              have hp := (hp.get 0 rfl).imp (own_of_pt (l := (([x15, x13] : List Int) : List Int)) (n := 2) rfl (by decide) rfl)
              have hp : Hp Z ρ (OwnSl 3 (.slice (some ⟨b11, 0, none⟩) 2 2) ([x15, x13] : List Int) :: _ :: _ :: _ :: _ :: _ :: L) w := hp
              obtain ⟨k1, k1a, k1d, k1h⟩ := (hp.get 0 rfl).lend
              obtain ⟨x16, ex16, hl2⟩ := bnd hl2
              refine s_callv (wk0 rfl) rfl rfl hE rfl rfl [(.slice (some ⟨b11, 0, none⟩) 2 2)] ⟨rfl, trivial⟩ ent52 (c_cnf_Translate_1 (Tabs.mono hT (PH.le_un _ k1)) ([x15, x13] : List Int) (.slice (some ⟨b11, 0, none⟩) 2 2) (OwnSl.ro k1d k1a) b7 (Formula.mk lp2_1 lp2_2) w8 us8 ((k1h.get 2 rfl).get 2 rfl) x16 ex16) Ret.ret ?_
              intro v a w hR hE
              obtain ⟨vz1_clauses, usz1_clauses, rfl, hp⟩ := Ret.of hR
              have hp := Hp.back k1a k1d hp
              have hp : Hp Z ρ (_ :: Pt b7 (.cells #[(.int .i64 x16.vars), vz1_clauses] 24 (0, 0)) :: TblA 25 3 vz1_clauses usz1_clauses (x16.clauses : (List (List Int))) :: _ :: _ :: _ :: L) w := hp
              refine s_nil ?_
              refine k_seq ?_
              refine k_region ?_
              refine s_val (wk0 rfl) rfl rfl hE hp (v := (.func (.func 52) #[] #[(.pointer (some ⟨b7, 0, none⟩))])) (ex_move rfl hE rfl) ?_
              intro a hE
              refine s_val (wk0 rfl) rfl rfl hE hp (v := (.int .i64 x12)) (ex_move rfl hE rfl) ?_
              intro a hE
              obtain ⟨x17, ex17, hl2⟩ := bnd hl2
              refine s_val (wk0 rfl) rfl rfl hE hp (v := (.int .i64 x17)) (ex_neg rfl hE rfl (inK_some ex17)) ?_
              intro a hE
              refine s_val (wk0 rfl) rfl rfl hE hp (v := (.int .i64 x14)) (ex_move rfl hE rfl) ?_
              intro a hE
              refine s_lit (wk0 rfl) rfl rfl hE hp rfl [(0, (.int .i64 x17)), (1, (.int .i64 x14))] ⟨⟨rfl, rfl⟩, ⟨rfl, rfl⟩, trivial⟩ [(.int .i64 x17), (.int .i64 x14)] 3 (fun w => by simp [Instr.buildSlice, Instr.fill, Value.cells, go_sem]) ?_
              intro a w b12 hE hp
              have hp : Hp Z ρ (Pt b12 (.cells #[(.int .i64 x17), (.int .i64 x14)] 3 (0, 0)) :: _ :: _ :: _ :: _ :: _ :: _ :: L) w := hp
              have hp := (hp.get 0 rfl).imp (own_of_pt (l := (([x17, x14] : List Int) : List Int)) (n := 2) rfl (by decide) rfl)
              have hp : Hp Z ρ (OwnSl 3 (.slice (some ⟨b12, 0, none⟩) 2 2) ([x17, x14] : List Int) :: _ :: _ :: _ :: _ :: _ :: _ :: L) w := hp
              obtain ⟨k2, k2a, k2d, k2h⟩ := (hp.get 0 rfl).lend
              obtain ⟨x18, ex18, hl2⟩ := bnd hl2
              refine s_callv (wk0 rfl) rfl rfl hE rfl rfl [(.slice (some ⟨b12, 0, none⟩) 2 2)] ⟨rfl, trivial⟩ ent52 (c_cnf_Translate_1 (Tabs.mono hT (PH.le_un _ k2)) ([x17, x14] : List Int) (.slice (some ⟨b12, 0, none⟩) 2 2) (OwnSl.ro k2d k2a) b7 x16 vz1_clauses usz1_clauses ((k2h.get 2 rfl).get 2 rfl) x18 ex18) Ret.ret ?_
              intro v a w hR hE
              obtain ⟨vz2_clauses, usz2_clauses, rfl, hp⟩ := Ret.of hR
              have hp := Hp.back k2a k2d hp
              have hp : Hp Z ρ (_ :: Pt b7 (.cells #[(.int .i64 x18.vars), vz2_clauses] 24 (0, 0)) :: TblA 25 3 vz2_clauses usz2_clauses (x18.clauses : (List (List Int))) :: _ :: _ :: _ :: _ :: L) w := hp
              refine s_nil ?_
              refine k_region ?_
              refine s_val (wk0 rfl) rfl rfl hE hp (v := (.func (.func 52) #[] #[(.pointer (some ⟨b7, 0, none⟩))])) (ex_move rfl hE rfl) ?_
              intro a hE
              refine s_val (wk0 rfl) rfl rfl hE hp (v := (.int .i64 x12)) (ex_move rfl hE rfl) ?_
              intro a hE
              refine s_val (wk0 rfl) rfl rfl hE hp (v := (.int .i64 x13)) (ex_move rfl hE rfl) ?_
              intro a hE
              obtain ⟨x19, ex19, hl2⟩ := bnd hl2
              refine s_val (wk0 rfl) rfl rfl hE hp (v := (.int .i64 x19)) (ex_neg rfl hE rfl (inK_some ex19)) ?_
              intro a hE
              refine s_val (wk0 rfl) rfl rfl hE hp (v := (.int .i64 x14)) (ex_move rfl hE rfl) ?_
              intro a hE
              obtain ⟨x20, ex20, hl2⟩ := bnd hl2
              refine s_val (wk0 rfl) rfl rfl hE hp (v := (.int .i64 x20)) (ex_neg rfl hE rfl (inK_some ex20)) ?_
              intro a hE
              refine s_lit (wk0 rfl) rfl rfl hE hp rfl [(0, (.int .i64 x12)), (1, (.int .i64 x19)), (2, (.int .i64 x20))] ⟨⟨rfl, rfl⟩, ⟨rfl, rfl⟩, ⟨rfl, rfl⟩, trivial⟩ [(.int .i64 x12), (.int .i64 x19), (.int .i64 x20)] 3 (fun w => by simp [Instr.buildSlice, Instr.fill, Value.cells, go_sem]) ?_
              intro a w b13 hE hp
              have hp : Hp Z ρ (Pt b13 (.cells #[(.int .i64 x12), (.int .i64 x19), (.int .i64 x20)] 3 (0, 0)) :: _ :: _ :: _ :: _ :: _ :: _ :: _ :: L) w := hp
              have hp := (hp.get 0 rfl).imp (own_of_pt (l := (([x12, x19, x20] : List Int) : List Int)) (n := 3) rfl (by decide) rfl)
              have hp : Hp Z ρ (OwnSl 3 (.slice (some ⟨b13, 0, none⟩) 3 3) ([x12, x19, x20] : List Int) :: _ :: _ :: _ :: _ :: _ :: _ :: _ :: L) w := hp
              obtain ⟨k3, k3a, k3d, k3h⟩ := (hp.get 0 rfl).lend
              obtain ⟨x21, ex21, hl2⟩ := bnd hl2
              refine s_callv (wk0 rfl) rfl rfl hE rfl rfl [(.slice (some ⟨b13, 0, none⟩) 3 3)] ⟨rfl, trivial⟩ ent52 (c_cnf_Translate_1 (Tabs.mono hT (PH.le_un _ k3)) ([x12, x19, x20] : List Int) (.slice (some ⟨b13, 0, none⟩) 3 3) (OwnSl.ro k3d k3a) b7 x18 vz2_clauses usz2_clauses ((k3h.get 2 rfl).get 2 rfl) x21 ex21) Ret.ret ?_
              intro v a w hR hE
              obtain ⟨vz3_clauses, usz3_clauses, rfl, hp⟩ := Ret.of hR
              have hp := Hp.back k3a k3d hp
              have hp : Hp Z ρ (_ :: Pt b7 (.cells #[(.int .i64 x21.vars), vz3_clauses] 24 (0, 0)) :: TblA 25 3 vz3_clauses usz3_clauses (x21.clauses : (List (List Int))) :: _ :: _ :: _ :: _ :: _ :: L) w := hp
              refine s_nil ?_
              have hE := hE.cut (E' := [(1, vp1), (2, (.pointer (some ⟨b1, 0, none⟩))), (4, (.pointer (some ⟨b2, 0, none⟩))), (9, (.pointer (some ⟨b7, 0, none⟩))), (10, (.func (.func 52) #[] #[(.pointer (some ⟨b7, 0, none⟩))])), (61, vp0_gates), (62, (.int .i64 (p0.gates.length : Int))), (63, (.int .i64 lp2_0))]) ⟨rfl, rfl, rfl, rfl, rfl, rfl, rfl, rfl, trivial⟩
              refine k_region ?_
              obtain ⟨x22, ex22, hl2⟩ := bnd hl2
              refine s_val (wk0 rfl) rfl rfl hE hp (v := (.int .i64 x22)) (ex_add rfl hE rfl rfl (inK_some ex22)) ?_
              intro a hE
              refine s_val (wk0 rfl) rfl rfl hE hp (v := (.int .i64 x22)) (ex_move rfl hE rfl) ?_
              intro a hE
              refine s_nil ?_
              exact ⟨_, (Option.some.inj hl2).symm, _, _, hE.cut ⟨rfl, rfl, rfl, rfl, rfl, rfl, rfl, rfl, trivial⟩, (((((((hp.get 5 rfl).drop).get 4 rfl).drop).get 3 rfl).drop).drop)⟩
            · replace hl2 := (ie hc8).symm.trans hl2
              refine k_exit ?_
              refine ⟨_, (Option.some.inj hl2).symm, fun hbb => ?_⟩
              subst hbb
              exact ⟨_, _, hE.cut ⟨rfl, rfl, rfl, rfl, trivial⟩, hp⟩
        · rintro a w ⟨w8, us8, hE, hp⟩
          refine k_seq ?_
          refine k_seq ?_
          refine k_region ?_
          refine s_val (wk0 rfl) rfl rfl hE hp (v := vp1) (ex_move rfl hE rfl) ?_
          intro a hE
          refine s_val (wk0 rfl) rfl rfl hE hp (v := (.int .i64 (p1.length : Int))) (ex_len rfl hE rfl (RoSl.len hp1 slty25)) ?_
          intro a hE
          refine s_val (wk0 rfl) rfl rfl hE hp (v := (.int .i64 0)) (ex_move rfl hE rfl) ?_
          intro a hE
          refine s_nil ?_
          obtain ⟨b14, hc9, hm⟩ := bnd hm
          refine k_block (fun a w => ∃ (w8q : Value) (us8q : List Sl), Env 113 [(4, (.pointer (some ⟨b2, 0, none⟩))), (9, (.pointer (some ⟨b7, 0, none⟩)))] a ∧ Hp Z ρ (Pt b7 (.cells #[(.int .i64 b14.1), w8q] 24 (0, 0)) :: TblA 25 3 w8q us8q (b14.2 : (List (List Int))) :: Pt b2 (.cells #[(.int .i64 0), (.slice none 0 0)] 24 (0, 0)) :: Pt b1 (.cells #[(.int .i64 p0.inputs), vp0_gates] 38 (0, 0)) :: L) w) ?_ ?_
          · refine k_loop hc9 (fun s a w => ∃ (w8q : Value) (us8q : List Sl), Env 113 [(4, (.pointer (some ⟨b2, 0, none⟩))), (9, (.pointer (some ⟨b7, 0, none⟩))), (10, (.func (.func 52) #[] #[(.pointer (some ⟨b7, 0, none⟩))])), (100, vp1), (101, (.int .i64 (p1.length : Int))), (102, (.int .i64 s.1))] a ∧ Hp Z ρ (Pt b7 (.cells #[(.int .i64 s.2.1), w8q] 24 (0, 0)) :: TblA 25 3 w8q us8q (s.2.2 : (List (List Int))) :: Pt b2 (.cells #[(.int .i64 0), (.slice none 0 0)] 24 (0, 0)) :: Pt b1 (.cells #[(.int .i64 p0.inputs), vp0_gates] 38 (0, 0)) :: L) w) ?_ ?_
            · exact ⟨_, _, hE.cut ⟨rfl, rfl, rfl, rfl, rfl, rfl, trivial⟩, hp⟩
            · rintro ⟨lp3_0, lp3_1, lp3_2⟩ st a w ⟨w8q, us8q, hE, hp⟩ hl3
              have hE : Env 113 [(4, (.pointer (some ⟨b2, 0, none⟩))), (9, (.pointer (some ⟨b7, 0, none⟩))), (10, (.func (.func 52) #[] #[(.pointer (some ⟨b7, 0, none⟩))])), (100, vp1), (101, (.int .i64 (p1.length : Int))), (102, (.int .i64 lp3_0))] a := hE
              have hp : Hp Z ρ (Pt b7 (.cells #[(.int .i64 lp3_1), w8q] 24 (0, 0)) :: TblA 25 3 w8q us8q (lp3_2 : (List (List Int))) :: _ :: _ :: L) w := hp
              replace hl3 : m_cnf_Translate_lp3 p1 lp3_0 lp3_1 lp3_2 = some st := hl3
              unfold m_cnf_Translate_lp3 at hl3
              refine k_seq ?_
              refine k_region ?_
              refine s_val (wk0 rfl) rfl rfl hE hp (v := (.bool (decide (lp3_0 < (p1.length : Int))))) (ex_lss rfl hE rfl rfl) ?_
              intro a hE
              refine s_nil ?_
              have hE := hE.cut (E' := [(4, (.pointer (some ⟨b2, 0, none⟩))), (9, (.pointer (some ⟨b7, 0, none⟩))), (10, (.func (.func 52) #[] #[(.pointer (some ⟨b7, 0, none⟩))])), (100, vp1), (101, (.int .i64 (p1.length : Int))), (102, (.int .i64 lp3_0)), (103, (.bool (decide (lp3_0 < (p1.length : Int)))))]) ⟨rfl, rfl, rfl, rfl, rfl, rfl, rfl, trivial⟩
              refine k_seq ?_
              refine k_if hE rfl (fun hc10 => ?_) (fun hc10 => ?_)
              · replace hl3 := (it hc10).symm.trans hl3
                refine k_skip ?_
                refine k_seq ?_
                refine k_plain ?_
                refine k_seq ?_
                refine k_region ?_
                obtain ⟨x23, ex23, hl3⟩ := bnd hl3
                obtain ⟨b15, b15o, b15c, b15r, b15k, b15f⟩ := RoSl.at hp1 slty25 ex23
                obtain rfl : b15c = Enc.enc x23 := b15k
                have b15f : AtP ρ b15 b15o [(.int .i64 x23)] := b15f
                refine s_val (wk0 rfl) rfl rfl hE hp (v := (.pointer (some ⟨b15, b15o, none⟩))) (ex_index rfl hE rfl rfl b15r) ?_
                intro a hE
                refine s_val (wk0 rfl) rfl rfl hE hp (v := (.int .i64 x23)) (ex_load rfl hE rfl (fun w hw => run_ld1 varty3 (b15f.c 0 rfl w hw))) ?_
                intro a hE
                refine s_val (wk0 rfl) rfl rfl hE hp (v := (.int .i64 x23)) (ex_asn rfl hE rfl) ?_
                intro a hE
                refine s_nil ?_
                refine k_region ?_
                refine s_val (wk0 rfl) rfl rfl hE hp (v := (.func (.func 52) #[] #[(.pointer (some ⟨b7, 0, none⟩))])) (ex_move rfl hE rfl) ?_
                intro a hE
                refine s_val (wk0 rfl) rfl rfl hE hp (v := (.int .i64 x23)) (ex_move rfl hE rfl) ?_
                intro a hE
                obtain ⟨x24, ex24, hl3⟩ := bnd hl3
                refine s_call (wk0 rfl) rfl rfl hE rfl [(.int .i64 x23)] ⟨rfl, trivial⟩ ent19 (c_cnf_Literal hT x23 hp x24 ex24) Ret.ret ?_
                intro v a w hR hE
                obtain ⟨rfl, hp⟩ := Ret.of hR
                have hp : Hp Z ρ (_ :: _ :: _ :: _ :: L) w := hp
                refine s_lit (wk0 rfl) rfl rfl hE hp rfl [(0, (.int .i64 x24))] ⟨⟨rfl, rfl⟩, trivial⟩ [(.int .i64 x24)] 3 (fun w => by simp [Instr.buildSlice, Instr.fill, Value.cells, go_sem]) ?_
                intro a w b16 hE hp
                have hp : Hp Z ρ (Pt b16 (.cells #[(.int .i64 x24)] 3 (0, 0)) :: _ :: _ :: _ :: _ :: L) w := hp
                have hp := (hp.get 0 rfl).imp (own_of_pt (l := (([x24] : List Int) : List Int)) (n := 1) rfl (by decide) rfl)
                have hp : Hp Z ρ (OwnSl 3 (.slice (some ⟨b16, 0, none⟩) 1 1) ([x24] : List Int) :: _ :: _ :: _ :: _ :: L) w := hp
                obtain ⟨k4, k4a, k4d, k4h⟩ := (hp.get 0 rfl).lend
                obtain ⟨x25, ex25, hl3⟩ := bnd hl3
                refine s_callv (wk0 rfl) rfl rfl hE rfl rfl [(.slice (some ⟨b16, 0, none⟩) 1 1)] ⟨rfl, trivial⟩ ent52 (c_cnf_Translate_1 (Tabs.mono hT (PH.le_un _ k4)) ([x24] : List Int) (.slice (some ⟨b16, 0, none⟩) 1 1) (OwnSl.ro k4d k4a) b7 (Formula.mk lp3_1 lp3_2) w8q us8q ((k4h.get 1 rfl).get 1 rfl) x25 ex25) Ret.ret ?_
                intro v a w hR hE
                obtain ⟨vz4_clauses, usz4_clauses, rfl, hp⟩ := Ret.of hR
                have hp := Hp.back k4a k4d hp
                have hp : Hp Z ρ (_ :: Pt b7 (.cells #[(.int .i64 x25.vars), vz4_clauses] 24 (0, 0)) :: TblA 25 3 vz4_clauses usz4_clauses (x25.clauses : (List (List Int))) :: _ :: _ :: L) w := hp
                refine s_nil ?_
                refine k_region ?_
                obtain ⟨x26, ex26, hl3⟩ := bnd hl3
                refine s_val (wk0 rfl) rfl rfl hE hp (v := (.int .i64 x26)) (ex_add rfl hE rfl rfl (inK_some ex26)) ?_
                intro a hE
                refine s_val (wk0 rfl) rfl rfl hE hp (v := (.int .i64 x26)) (ex_move rfl hE rfl) ?_
                intro a hE
                refine s_nil ?_
                exact ⟨_, (Option.some.inj hl3).symm, _, _, hE.cut ⟨rfl, rfl, rfl, rfl, rfl, rfl, trivial⟩, (hp.drop)⟩
              · replace hl3 := (ie hc10).symm.trans hl3
                refine k_exit ?_
                refine ⟨_, (Option.some.inj hl3).symm, fun hbb => ?_⟩
                subst hbb
                exact ⟨_, _, hE.cut ⟨rfl, rfl, trivial⟩, hp⟩
          · rintro a w ⟨w8q, us8q, hE, hp⟩
            refine k_seq ?_
            refine k_region ?_
            refine s_val (wk0 rfl) rfl rfl hE hp (v := (.agg #[(.int .i64 b14.1), w8q])) (ex_load rfl hE rfl (fun w hw => run_ldN (cs := [(.int .i64 b14.1), w8q]) varty24 (Hp.cN 0 rfl 0 _ (sub_all rfl) w hw))) ?_
            intro a hE
            refine s_store (wk0 rfl) rfl hE hp rfl rfl rfl 2 rfl varty24.size_ rfl (allOne_mem ⟨rfl, (TblA.one hp 1 rfl), trivial⟩) [(.int .i64 b14.1), w8q] rfl ?_
            intro w hp
            have hp : Hp Z ρ (Pt b7 (.cells #[(.int .i64 b14.1), w8q] 24 (0, 0)) :: TblA 25 3 w8q us8q (b14.2 : (List (List Int))) :: Pt b2 (.cells #[(.int .i64 b14.1), w8q] 24 (0, 0)) :: _ :: L) w := hp
            refine s_val (wk0 rfl) rfl rfl hE hp (v := (.int .i64 0)) (ex_asn rfl hE rfl) ?_
            intro a hE
            refine s_nil ?_
            refine k_ret ?_
            obtain rfl := Option.some.inj hm
            exact retct hE rfl rfl rfl (run_lvN (cs := [(.int .i64 b14.1), w8q]) varty24 (Hp.cN 2 rfl 0 _ (sub_all rfl) _ hp)) ⟨_, rfl, _, _, rfl, (((((hp.get 3 rfl).drop).get 2 rfl).drop).drop)⟩
set_option maxRecDepth 100000 in
set_option maxHeartbeats 4000000 in
theorem c_assessorref26_Translate {Z : World} {ρ : PH} {L : List Atom} {w : World} (hT : Tabs ρ) (p0 : Gates) (vp0_gates : Value) (hp0_gates : RoSl ρ vp0_gates p0.gates) (p1 : (List Int)) (vp1 : Value) (hp1 : RoSl ρ vp1 p1) (hp : Hp Z ρ (L) w) (r : (Formula × Int)) (hm : m_assessorref26_Translate p0 p1 = some r) :
    Calls Tryz.prog 22 #[(.agg #[(.int .i64 p0.inputs), vp0_gates]), vp1] w (Ret fun v w' => ∃ (vr1_clauses : Value) (usr1_clauses : List Sl), v = .tuple #[(.agg #[(.int .i64 r.1.vars), vr1_clauses]), (.int .i64 r.2)] ∧ Hp Z ρ (TblA 25 3 vr1_clauses usr1_clauses (r.1.clauses : (List (List Int))) :: L) w') := by
  refine enter (N := 131) Tryz.func22 rfl rfl [(0, (.agg #[(.int .i64 p0.inputs), vp0_gates])), (1, vp1)] rfl (argsIn_mem ⟨rfl, rfl, trivial⟩) fun a hE => ?_
  unfold m_assessorref26_Translate at hm
  refine k_seq ?_
  refine k_region ?_
  refine s_box (wk0 rfl) rfl rfl hE hp rfl (v := (.agg #[(.int .i64 p0.inputs), vp0_gates])) rfl ?_
  intro a w b1 hE hp
  have hp : Hp Z ρ (Pt b1 (.cells #[(.int .i64 p0.inputs), vp0_gates] 38 (0, 0)) :: L) w := hp
  refine s_new (wk0 rfl) rfl rfl hE hp rfl [(.int .i64 0), (.slice none 0 0)] (fun w => by simp [Instr.alloc, go_sem] <;> rfl) ?_
  intro a w b2 hE hp
  have hp : Hp Z ρ (Pt b2 (.cells #[(.int .i64 0), (.slice none 0 0)] 24 (0, 0)) :: _ :: L) w := hp
  refine s_val (wk0 rfl) rfl rfl hE hp (v := (.int .i64 0)) (ex_asn rfl hE rfl) ?_
  intro a hE
  refine s_nil ?_
  refine k_seq ?_
  refine k_seq ?_
  refine k_region ?_
  refine s_val (wk0 rfl) rfl rfl hE hp (v := (.agg #[(.int .i64 p0.inputs), vp0_gates])) (ex_load rfl hE rfl (fun w hw => run_ldN (cs := [(.int .i64 p0.inputs), vp0_gates]) varty38 (Hp.cN 1 rfl 0 _ (sub_all rfl) w hw))) ?_
  intro a hE
  obtain ⟨x1, ex1, hm⟩ := bnd hm
  refine s_call (wk0 rfl) rfl rfl hE rfl [(.agg #[(.int .i64 p0.inputs), vp0_gates])] ⟨rfl, trivial⟩ ent53 (c_assessorref24_Valid hT p0 vp0_gates hp0_gates hp x1 ex1) Ret.ret ?_
  intro v a w hR hE
  obtain ⟨rfl, hp⟩ := Ret.of hR
  have hp : Hp Z ρ (_ :: _ :: L) w := hp
  refine s_val (wk0 rfl) rfl rfl hE hp (v := (.bool (!x1))) (ex_not rfl hE rfl) ?_
  intro a hE
  refine s_nil ?_
  refine k_if hE rfl (fun hc1 => ?_) (fun hc1 => ?_)
  · replace hm := (it hc1).symm.trans hm
    refine k_seq ?_
    refine k_region ?_
    refine s_val (wk0 rfl) rfl rfl hE hp (v := (.agg #[(.int .i64 0), (.slice none 0 0)])) (ex_bld rfl hE [] (by exact trivial) (fun w => by simp [Instr.build, Instr.fill, Value.cells, go_sem])) ?_
    intro a hE
    refine s_store (wk0 rfl) rfl hE hp rfl rfl rfl 0 rfl varty24.size_ rfl (allOne_mem ⟨rfl, rfl, trivial⟩) [(.int .i64 0), (.slice none 0 0)] rfl ?_
    intro w hp
    have hp : Hp Z ρ (_ :: _ :: L) w := hp
    refine s_val (wk0 rfl) rfl rfl hE hp (v := (.int .i64 1)) (ex_asn rfl hE rfl) ?_
    intro a hE
    refine s_nil ?_
    refine k_ret ?_
    have hp := hp.emp (TblA.none (α := Int) 25 3 none)
    have hp : Hp Z ρ (TblA 25 3 (.slice none 0 0) ([]) ([] : (List (List Int))) :: _ :: _ :: L) w := hp
    have hp : Hp Z ρ (_ :: _ :: _ :: L) w := hp
    obtain rfl := Option.some.inj hm
    exact retct hE rfl rfl rfl (run_lvN (cs := [(.int .i64 0), (.slice none 0 0)]) varty24 (Hp.cN 1 rfl 0 _ (sub_all rfl) _ hp)) ⟨_, rfl, _, _, rfl, ((((hp.get 2 rfl).drop).get 1 rfl).drop)⟩
  · replace hm := (ie hc1).symm.trans hm
    refine k_skip ?_
    refine k_seq ?_
    refine k_seq ?_
    refine k_region ?_
    refine s_val (wk0 rfl) rfl rfl hE hp (v := (.int .i64 0)) (ex_asn rfl hE rfl) ?_
    intro a hE
    refine s_nil ?_
    obtain ⟨b3, hc2, hm⟩ := bnd hm
    refine k_block (fun a w => ∃ s : Unit, b3 = .brk s ∧ (Env 131 [(1, vp1), (2, (.pointer (some ⟨b1, 0, none⟩))), (4, (.pointer (some ⟨b2, 0, none⟩)))] a ∧ Hp Z ρ (Pt b2 (.cells #[(.int .i64 0), (.slice none 0 0)] 24 (0, 0)) :: Pt b1 (.cells #[(.int .i64 p0.inputs), vp0_gates] 38 (0, 0)) :: L) w)) ?_ ?_
    · refine k_loop hc2 (fun s a w => Env 131 [(1, vp1), (2, (.pointer (some ⟨b1, 0, none⟩))), (4, (.pointer (some ⟨b2, 0, none⟩))), (6, (.int .i64 s))] a ∧ Hp Z ρ (Pt b2 (.cells #[(.int .i64 0), (.slice none 0 0)] 24 (0, 0)) :: Pt b1 (.cells #[(.int .i64 p0.inputs), vp0_gates] 38 (0, 0)) :: L) w) ?_ ?_
      · exact ⟨hE.cut ⟨rfl, rfl, rfl, rfl, trivial⟩, hp⟩
      · rintro lp1_0 st a w ⟨hE, hp⟩ hl1
        have hE : Env 131 [(1, vp1), (2, (.pointer (some ⟨b1, 0, none⟩))), (4, (.pointer (some ⟨b2, 0, none⟩))), (6, (.int .i64 lp1_0))] a := hE
        have hp : Hp Z ρ (_ :: _ :: L) w := hp
        replace hl1 : m_assessorref26_Translate_lp1 p0 p1 lp1_0 = some st := hl1
        unfold m_assessorref26_Translate_lp1 at hl1
        refine k_seq ?_
        refine k_seq ?_
        refine k_region ?_
        refine s_val (wk0 rfl) rfl rfl hE hp (v := (.int .i64 lp1_0)) (ex_move rfl hE rfl) ?_
        intro a hE
        refine s_val (wk0 rfl) rfl rfl hE hp (v := vp1) (ex_move rfl hE rfl) ?_
        intro a hE
        refine s_val (wk0 rfl) rfl rfl hE hp (v := (.int .i64 (p1.length : Int))) (ex_len rfl hE rfl (RoSl.len hp1 slty25)) ?_
        intro a hE
        refine s_val (wk0 rfl) rfl rfl hE hp (v := (.bool (decide (lp1_0 < (p1.length : Int))))) (ex_lss rfl hE rfl rfl) ?_
        intro a hE
        refine s_nil ?_
        refine k_if hE rfl (fun hc3 => ?_) (fun hc3 => ?_)
        · replace hl1 := (it hc3).symm.trans hl1
          refine k_skip ?_
          refine k_seq ?_
          refine k_plain ?_
          refine k_seq ?_
          refine k_quiet (by kernel_rfl) (by kernel_rfl) hp ?_
          refine q_val (wk0 rfl) rfl rfl hE (v := (.agg #[(.int .i64 p0.inputs), vp0_gates])) (ex_load rfl hE rfl (fun w hw => run_ldN (cs := [(.int .i64 p0.inputs), vp0_gates]) varty38 (Hp.cN 1 rfl 0 _ (sub_all rfl) w hw))) ?_
          intro a hE
          refine q_val (wk0 rfl) rfl rfl hE (v := vp1) (ex_move rfl hE rfl) ?_
          intro a hE
          refine q_val (wk0 rfl) rfl rfl hE (v := (.int .i64 lp1_0)) (ex_move rfl hE rfl) ?_
          intro a hE
          obtain ⟨x2, ex2, hl1⟩ := bnd hl1
          obtain ⟨b4, b4o, b4c, b4r, b4k, b4f⟩ := RoSl.at hp1 slty25 ex2
          obtain rfl : b4c = Enc.enc x2 := b4k
          have b4f : AtP ρ b4 b4o [(.int .i64 x2)] := b4f
          refine q_val (wk0 rfl) rfl rfl hE (v := (.pointer (some ⟨b4, b4o, none⟩))) (ex_index rfl hE rfl rfl b4r) ?_
          intro a hE
          refine q_val (wk0 rfl) rfl rfl hE (v := (.int .i64 x2)) (ex_load rfl hE rfl (fun w hw => run_ld1 varty3 (b4f.c 0 rfl w hw))) ?_
          intro a hE
          obtain ⟨x3, ex3, hl1⟩ := bnd hl1
          refine q_call (wk0 rfl) rfl rfl hE rfl [(.agg #[(.int .i64 p0.inputs), vp0_gates]), (.int .i64 x2)] ⟨rfl, rfl, trivial⟩ ent54 (v := (.bool x3)) (fun w hw => Calls.mono (c_assessorref24_IsLiteral hT p0 vp0_gates hp0_gates x2 hw x3 ex3) fun e w' ⟨v, he, hv, hh⟩ => ⟨by rw [he, hv], hh⟩) ?_
          intro a hE
          refine q_val (wk0 rfl) rfl rfl hE (v := (.bool (!x3))) (ex_not rfl hE rfl) ?_
          intro a hE
          refine q_nil fun w hp => ?_
          have hp : Hp Z ρ (_ :: _ :: L) w := hp
          refine k_if hE rfl (fun hc4 => ?_) (fun hc4 => ?_)
          · replace hl1 := (it hc4).symm.trans hl1
            refine k_seq ?_
            refine k_region ?_
            refine s_val (wk0 rfl) rfl rfl hE hp (v := (.agg #[(.int .i64 0), (.slice none 0 0)])) (ex_bld rfl hE [] (by exact trivial) (fun w => by simp [Instr.build, Instr.fill, Value.cells, go_sem])) ?_
            intro a hE
            refine s_store (wk0 rfl) rfl hE hp rfl rfl rfl 0 rfl varty24.size_ rfl (allOne_mem ⟨rfl, rfl, trivial⟩) [(.int .i64 0), (.slice none 0 0)] rfl ?_
            intro w hp
            have hp : Hp Z ρ (_ :: _ :: L) w := hp
            refine s_val (wk0 rfl) rfl rfl hE hp (v := (.int .i64 1)) (ex_asn rfl hE rfl) ?_
            intro a hE
            refine s_nil ?_
            refine k_ret ?_
            refine ⟨_, (Option.some.inj hl1).symm, fun hb => ?_⟩
            subst hb
            have hp := hp.emp (TblA.none (α := Int) 25 3 none)
            have hp : Hp Z ρ (TblA 25 3 (.slice none 0 0) ([]) ([] : (List (List Int))) :: _ :: _ :: L) w := hp
            have hp : Hp Z ρ (_ :: _ :: _ :: L) w := hp
            obtain rfl := Option.some.inj hm
            exact retct hE rfl rfl rfl (run_lvN (cs := [(.int .i64 0), (.slice none 0 0)]) varty24 (Hp.cN 1 rfl 0 _ (sub_all rfl) _ hp)) ⟨_, rfl, _, _, rfl, ((((hp.get 2 rfl).drop).get 1 rfl).drop)⟩
          · replace hl1 := (ie hc4).symm.trans hl1
            refine k_skip ?_
            refine k_region ?_
            refine s_val (wk0 rfl) rfl rfl hE hp (v := (.int .i64 lp1_0)) (ex_move rfl hE rfl) ?_
            intro a hE
            obtain ⟨x4, ex4, hl1⟩ := bnd hl1
            refine s_val (wk0 rfl) rfl rfl hE hp (v := (.int .i64 x4)) (ex_add rfl hE rfl rfl (inK_some ex4)) ?_
            intro a hE
            refine s_val (wk0 rfl) rfl rfl hE hp (v := (.int .i64 x4)) (ex_asn rfl hE rfl) ?_
            intro a hE
            refine s_nil ?_
            exact ⟨_, (Option.some.inj hl1).symm, hE.cut ⟨rfl, rfl, rfl, rfl, trivial⟩, hp⟩
        · replace hl1 := (ie hc3).symm.trans hl1
          refine k_exit ?_
          refine ⟨_, (Option.some.inj hl1).symm, fun hbb => ?_⟩
          exact ⟨_, hbb.symm, hE.cut ⟨rfl, rfl, rfl, trivial⟩, hp⟩
    · rintro a w ⟨b3s, rfl, hE, hp⟩
      dsimp only at hm
      refine k_seq ?_
      refine k_seq ?_
      refine k_region ?_
      refine s_val (wk0 rfl) rfl rfl hE hp (v := (.pointer (some ⟨b1, 1, none⟩))) (ex_field rfl hE rfl (fldty38_1 _ _)) ?_
      intro a hE
      refine s_val (wk0 rfl) rfl rfl hE hp (v := vp0_gates) (ex_load rfl hE rfl (fun w hw => run_ld1 varty36 (Hp.c 1 rfl 1 rfl w hw))) ?_
      intro a hE
      refine s_val (wk0 rfl) rfl rfl hE hp (v := (.int .i64 (p0.gates.length : Int))) (ex_len rfl hE rfl (RoSl.len hp0_gates slty36)) ?_
      intro a hE
      obtain ⟨x5, ex5, hm⟩ := bnd hm
      refine s_val (wk0 rfl) rfl rfl hE hp (v := (.int .i64 x5)) (ex_mul rfl hE rfl rfl (inK_some ex5)) ?_
      intro a hE
      obtain ⟨x6, ex6, hm⟩ := bnd hm
      refine s_val (wk0 rfl) rfl rfl hE hp (v := (.int .i64 x6)) (ex_add rfl hE rfl rfl (inK_some ex6)) ?_
      intro a hE
      refine s_val (wk0 rfl) rfl rfl hE hp (v := vp1) (ex_move rfl hE rfl) ?_
      intro a hE
      refine s_val (wk0 rfl) rfl rfl hE hp (v := (.int .i64 (p1.length : Int))) (ex_len rfl hE rfl (RoSl.len hp1 slty25)) ?_
      intro a hE
      obtain ⟨x7, ex7, hm⟩ := bnd hm
      refine s_val (wk0 rfl) rfl rfl hE hp (v := (.int .i64 x7)) (ex_add rfl hE rfl rfl (inK_some ex7)) ?_
      intro a hE
      refine s_val (wk0 rfl) rfl rfl hE hp (v := (.bool (decide (262144 < x7)))) (ex_gtr rfl hE rfl rfl) ?_
      intro a hE
      refine s_nil ?_
      have hE := hE.cut (E' := [(1, vp1), (2, (.pointer (some ⟨b1, 0, none⟩))), (4, (.pointer (some ⟨b2, 0, none⟩))), (45, (.bool (decide (262144 < x7))))]) ⟨rfl, rfl, rfl, rfl, trivial⟩
      refine k_if hE rfl (fun hc5 => ?_) (fun hc5 => ?_)
      · replace hm := (it hc5).symm.trans hm
        refine k_seq ?_
        refine k_region ?_
        refine s_val (wk0 rfl) rfl rfl hE hp (v := (.agg #[(.int .i64 0), (.slice none 0 0)])) (ex_bld rfl hE [] (by exact trivial) (fun w => by simp [Instr.build, Instr.fill, Value.cells, go_sem])) ?_
        intro a hE
        refine s_store (wk0 rfl) rfl hE hp rfl rfl rfl 0 rfl varty24.size_ rfl (allOne_mem ⟨rfl, rfl, trivial⟩) [(.int .i64 0), (.slice none 0 0)] rfl ?_
        intro w hp
        have hp : Hp Z ρ (_ :: _ :: L) w := hp
        refine s_val (wk0 rfl) rfl rfl hE hp (v := (.int .i64 8)) (ex_asn rfl hE rfl) ?_
        intro a hE
        refine s_nil ?_
        refine k_ret ?_
        have hp := hp.emp (TblA.none (α := Int) 25 3 none)
        have hp : Hp Z ρ (TblA 25 3 (.slice none 0 0) ([]) ([] : (List (List Int))) :: _ :: _ :: L) w := hp
        have hp : Hp Z ρ (_ :: _ :: _ :: L) w := hp
        obtain rfl := Option.some.inj hm
        exact retct hE rfl rfl rfl (run_lvN (cs := [(.int .i64 0), (.slice none 0 0)]) varty24 (Hp.cN 1 rfl 0 _ (sub_all rfl) _ hp)) ⟨_, rfl, _, _, rfl, ((((hp.get 2 rfl).drop).get 1 rfl).drop)⟩
      · replace hm := (ie hc5).symm.trans hm
        refine k_skip ?_
        refine k_seq ?_
        refine k_region ?_
        refine s_val (wk0 rfl) rfl rfl hE hp (v := (.agg #[(.int .i64 p0.inputs), vp0_gates])) (ex_load rfl hE rfl (fun w hw => run_ldN (cs := [(.int .i64 p0.inputs), vp0_gates]) varty38 (Hp.cN 1 rfl 0 _ (sub_all rfl) w hw))) ?_
        intro a hE
        obtain ⟨x8, ex8, hm⟩ := bnd hm
        refine s_call (wk0 rfl) rfl rfl hE rfl [(.agg #[(.int .i64 p0.inputs), vp0_gates])] ⟨rfl, trivial⟩ ent38 (c_assessorref24_Nodes hT p0 vp0_gates hp0_gates hp x8 ex8) Ret.ret ?_
        intro v a w hR hE
        obtain ⟨rfl, hp⟩ := Ret.of hR
        have hp : Hp Z ρ (_ :: _ :: L) w := hp
        refine s_lit (wk0 rfl) rfl rfl hE hp rfl [(0, (.int .i64 (-1)))] ⟨⟨rfl, rfl⟩, trivial⟩ [(.int .i64 (-1))] 3 (fun w => by simp [Instr.buildSlice, Instr.fill, Value.cells, go_sem]) ?_
        intro a w b5 hE hp
        have hp : Hp Z ρ (Pt b5 (.cells #[(.int .i64 (-1))] 3 (0, 0)) :: _ :: _ :: L) w := hp
        refine s_lit (wk0 rfl) rfl rfl hE hp rfl [(0, (.slice (some ⟨b5, 0, none⟩) 1 1))] ⟨⟨rfl, rfl⟩, trivial⟩ [(.slice (some ⟨b5, 0, none⟩) 1 1)] 25 (fun w => by simp [Instr.buildSlice, Instr.fill, Value.cells, go_sem]) ?_
        intro a w b6 hE hp
        have hp : Hp Z ρ (Pt b6 (.cells #[(.slice (some ⟨b5, 0, none⟩) 1 1)] 25 (0, 0)) :: _ :: _ :: _ :: L) w := hp
        have hp := (hp.get 1 rfl).imp (own_of_pt (l := (([(-1)] : List Int) : List Int)) (n := 1) rfl (by decide) rfl)
        have hp : Hp Z ρ (OwnSl 3 (.slice (some ⟨b5, 0, none⟩) 1 1) ([(-1)] : List Int) :: _ :: _ :: _ :: L) w := hp
        have hp : Hp Z ρ (_ :: _ :: _ :: _ :: L) w := hp
        obtain ⟨sl1, sl1e⟩ := OwnSl.toSl hp 0 rfl
        have hp := Hp.rowsNil (α := Int) 3 hp
        have hp := Hp.rowsCons sl1e (hp.get 1 rfl)
        have hp : Hp Z ρ (RowsA 3 [sl1] ([([(-1)] : List Int)] : List (List Int)) :: _ :: _ :: _ :: L) w := hp
        have hp := Hp.tblShut (hp.front2 0 rfl (own_of_pt (α := Sl) (l := [sl1]) (n := 1) rfl (by decide) (by simp [flat, Enc.enc, sl1e])))
        have hp : Hp Z ρ (TblA 25 3 (.slice (some ⟨b6, 0, none⟩) 1 1) ([sl1]) ([([(-1)] : List Int)] : (List (List Int))) :: _ :: _ :: L) w := hp
        refine s_val (wk0 rfl) rfl rfl hE hp (v := (.agg #[(.int .i64 x8), (.slice (some ⟨b6, 0, none⟩) 1 1)])) (ex_bld rfl hE [(0, (.int .i64 x8)), (1, (.slice (some ⟨b6, 0, none⟩) 1 1))] (by exact ⟨⟨rfl, rfl⟩, ⟨rfl, rfl⟩, trivial⟩) (fun w => by have hc0 := TblA.cells hp 0 rfl; simp only [Value.cells] at hc0; simp [Instr.build, Instr.fill, Value.cells, hc0, go_sem])) ?_
        intro a hE
        refine s_new (wk0 rfl) rfl rfl hE hp rfl [(.int .i64 0), (.slice none 0 0)] (fun w => by simp [Instr.alloc, go_sem] <;> rfl) ?_
        intro a w b7 hE hp
        have hp : Hp Z ρ (Pt b7 (.cells #[(.int .i64 0), (.slice none 0 0)] 24 (0, 0)) :: _ :: _ :: _ :: L) w := hp
        refine s_store (wk0 rfl) rfl hE hp rfl rfl rfl 0 rfl varty24.size_ rfl (allOne_mem ⟨rfl, (TblA.one hp 1 rfl), trivial⟩) [(.int .i64 x8), (.slice (some ⟨b6, 0, none⟩) 1 1)] rfl ?_
        intro w hp
        have hp : Hp Z ρ (Pt b7 (.cells #[(.int .i64 x8), (.slice (some ⟨b6, 0, none⟩) 1 1)] 24 (0, 0)) :: _ :: _ :: _ :: L) w := hp
        refine s_nil ?_
        refine k_seq ?_
        refine k_seq ?_
        refine k_region ?_
        refine s_val (wk0 rfl) rfl rfl hE hp (v := (.int .i64 0)) (ex_asn rfl hE rfl) ?_
        intro a hE
        refine s_nil ?_
        obtain ⟨b8, hc6, hm⟩ := bnd hm
        refine k_block (fun a w => ∃ (w8 : Value) (us8 : List Sl), Env 131 [(1, vp1), (4, (.pointer (some ⟨b2, 0, none⟩))), (7, (.pointer (some ⟨b7, 0, none⟩)))] a ∧ Hp Z ρ (Pt b7 (.cells #[(.int .i64 x8), w8] 24 (0, 0)) :: TblA 25 3 w8 us8 (b8 : (List (List Int))) :: Pt b2 (.cells #[(.int .i64 0), (.slice none 0 0)] 24 (0, 0)) :: Pt b1 (.cells #[(.int .i64 p0.inputs), vp0_gates] 38 (0, 0)) :: L) w) ?_ ?_
        · refine k_loop hc6 (fun s a w => ∃ (w8 : Value) (us8 : List Sl), Env 131 [(1, vp1), (2, (.pointer (some ⟨b1, 0, none⟩))), (4, (.pointer (some ⟨b2, 0, none⟩))), (7, (.pointer (some ⟨b7, 0, none⟩))), (8, (.int .i64 s.1))] a ∧ Hp Z ρ (Pt b7 (.cells #[(.int .i64 x8), w8] 24 (0, 0)) :: TblA 25 3 w8 us8 (s.2 : (List (List Int))) :: Pt b2 (.cells #[(.int .i64 0), (.slice none 0 0)] 24 (0, 0)) :: Pt b1 (.cells #[(.int .i64 p0.inputs), vp0_gates] 38 (0, 0)) :: L) w) ?_ ?_
          · exact ⟨_, _, hE.cut ⟨rfl, rfl, rfl, rfl, rfl, trivial⟩, hp⟩
          · rintro ⟨lp2_0, lp2_1⟩ st a w ⟨w8, us8, hE, hp⟩ hl2
            have hE : Env 131 [(1, vp1), (2, (.pointer (some ⟨b1, 0, none⟩))), (4, (.pointer (some ⟨b2, 0, none⟩))), (7, (.pointer (some ⟨b7, 0, none⟩))), (8, (.int .i64 lp2_0))] a := hE
            have hp : Hp Z ρ (Pt b7 (.cells #[(.int .i64 x8), w8] 24 (0, 0)) :: TblA 25 3 w8 us8 (lp2_1 : (List (List Int))) :: _ :: _ :: L) w := hp
            replace hl2 : m_assessorref26_Translate_lp2 p0 lp2_0 lp2_1 = some st := hl2
            unfold m_assessorref26_Translate_lp2 at hl2
            refine k_seq ?_
            refine k_seq ?_
            refine k_region ?_
            refine s_val (wk0 rfl) rfl rfl hE hp (v := (.int .i64 lp2_0)) (ex_move rfl hE rfl) ?_
            intro a hE
            refine s_val (wk0 rfl) rfl rfl hE hp (v := (.pointer (some ⟨b1, 1, none⟩))) (ex_field rfl hE rfl (fldty38_1 _ _)) ?_
            intro a hE
            refine s_val (wk0 rfl) rfl rfl hE hp (v := vp0_gates) (ex_load rfl hE rfl (fun w hw => run_ld1 varty36 (Hp.c 3 rfl 1 rfl w hw))) ?_
            intro a hE
            refine s_val (wk0 rfl) rfl rfl hE hp (v := (.int .i64 (p0.gates.length : Int))) (ex_len rfl hE rfl (RoSl.len hp0_gates slty36)) ?_
            intro a hE
            refine s_val (wk0 rfl) rfl rfl hE hp (v := (.bool (decide (lp2_0 < (p0.gates.length : Int))))) (ex_lss rfl hE rfl rfl) ?_
            intro a hE
            refine s_nil ?_
            refine k_if hE rfl (fun hc7 => ?_) (fun hc7 => ?_)
            · replace hl2 := (it hc7).symm.trans hl2
              refine k_skip ?_
              refine k_seq ?_
              refine k_plain ?_
              refine k_seq ?_
              refine k_region ?_
              refine s_val (wk0 rfl) rfl rfl hE hp (v := (.pointer (some ⟨b1, 0, none⟩))) (ex_field rfl hE rfl (fldty38_0 _ _)) ?_
              intro a hE
              refine s_val (wk0 rfl) rfl rfl hE hp (v := (.int .i64 p0.inputs)) (ex_load rfl hE rfl (fun w hw => run_ld1 varty3 (Hp.c 3 rfl 0 rfl w hw))) ?_
              intro a hE
              obtain ⟨x9, ex9, hl2⟩ := bnd hl2
              refine s_val (wk0 rfl) rfl rfl hE hp (v := (.int .i64 x9)) (ex_add rfl hE rfl rfl (inK_some ex9)) ?_
              intro a hE
              refine s_val (wk0 rfl) rfl rfl hE hp (v := (.int .i64 lp2_0)) (ex_move rfl hE rfl) ?_
              intro a hE
              obtain ⟨x10, ex10, hl2⟩ := bnd hl2
              refine s_val (wk0 rfl) rfl rfl hE hp (v := (.int .i64 x10)) (ex_add rfl hE rfl rfl (inK_some ex10)) ?_
              intro a hE
              obtain ⟨x11, ex11, hl2⟩ := bnd hl2
              refine s_val (wk0 rfl) rfl rfl hE hp (v := (.int .i64 x11)) (ex_add rfl hE rfl rfl (inK_some ex11)) ?_
              intro a hE
              refine s_val (wk0 rfl) rfl rfl hE hp (v := (.int .i64 x11)) (ex_asn rfl hE rfl) ?_
              intro a hE
              refine s_nil ?_
              have hE := hE.cut (E' := [(1, vp1), (2, (.pointer (some ⟨b1, 0, none⟩))), (4, (.pointer (some ⟨b2, 0, none⟩))), (7, (.pointer (some ⟨b7, 0, none⟩))), (8, (.int .i64 lp2_0)), (9, (.int .i64 x11))]) ⟨rfl, rfl, rfl, rfl, rfl, rfl, trivial⟩
              refine k_seq ?_
              refine k_quiet (by kernel_rfl) (by kernel_rfl) hp ?_
              refine q_val (wk0 rfl) rfl rfl hE (v := (.pointer (some ⟨b1, 1, none⟩))) (ex_field rfl hE rfl (fldty38_1 _ _)) ?_
              intro a hE
              refine q_val (wk0 rfl) rfl rfl hE (v := vp0_gates) (ex_load rfl hE rfl (fun w hw => run_ld1 varty36 (Hp.c 3 rfl 1 rfl w hw))) ?_
              intro a hE
              refine q_val (wk0 rfl) rfl rfl hE (v := (.int .i64 lp2_0)) (ex_move rfl hE rfl) ?_
              intro a hE
              obtain ⟨x12, ex12, hl2⟩ := bnd hl2
              obtain ⟨b9, b9o, b9c, b9r, b9k, b9f⟩ := RoSl.at hp0_gates slty36 ex12
              obtain rfl : b9c = Enc.enc x12 := b9k
              have b9f : AtP ρ b9 b9o [(.int .i64 x12.x0), (.int .i64 x12.x1)] := b9f
              refine q_val (wk0 rfl) rfl rfl hE (v := (.pointer (some ⟨b9, b9o, none⟩))) (ex_index rfl hE rfl rfl b9r) ?_
              intro a hE
              refine q_val (wk0 rfl) rfl rfl hE (v := (.pointer (some ⟨b9, b9o, none⟩))) (ex_index rfl hE rfl rfl (aelty62_0 _ _)) ?_
              intro a hE
              refine q_val (wk0 rfl) rfl rfl hE (v := (.int .i64 x12.x0)) (ex_load rfl hE rfl (fun w hw => run_ld1 varty3 (b9f.c 0 rfl w hw))) ?_
              intro a hE
              obtain ⟨x13, ex13, hl2⟩ := bnd hl2
              refine q_call (wk0 rfl) rfl rfl hE rfl [(.int .i64 x12.x0)] ⟨rfl, trivial⟩ ent20 (v := (.int .i64 x13)) (fun w hw => Calls.mono (c_assessorref26_Literal hT x12.x0 hw x13 ex13) fun e w' ⟨v, he, hv, hh⟩ => ⟨by rw [he, hv], hh⟩) ?_
              intro a hE
              refine q_val (wk0 rfl) rfl rfl hE (v := (.pointer (some ⟨b1, 1, none⟩))) (ex_field rfl hE rfl (fldty38_1 _ _)) ?_
              intro a hE
              refine q_val (wk0 rfl) rfl rfl hE (v := vp0_gates) (ex_load rfl hE rfl (fun w hw => run_ld1 varty36 (Hp.c 3 rfl 1 rfl w hw))) ?_
              intro a hE
              refine q_val (wk0 rfl) rfl rfl hE (v := (.int .i64 lp2_0)) (ex_move rfl hE rfl) ?_
              intro a hE
              obtain ⟨x14, ex14, hl2⟩ := bnd hl2
              obtain ⟨b10, b10o, b10c, b10r, b10k, b10f⟩ := RoSl.at hp0_gates slty36 ex14
              obtain rfl : b10c = Enc.enc x14 := b10k
              have b10f : AtP ρ b10 b10o [(.int .i64 x14.x0), (.int .i64 x14.x1)] := b10f
              refine q_val (wk0 rfl) rfl rfl hE (v := (.pointer (some ⟨b10, b10o, none⟩))) (ex_index rfl hE rfl rfl b10r) ?_
              intro a hE
              refine q_val (wk0 rfl) rfl rfl hE (v := (.pointer (some ⟨b10, b10o + 1, none⟩))) (ex_index rfl hE rfl rfl (aelty62_1 _ _)) ?_
              intro a hE
              refine q_val (wk0 rfl) rfl rfl hE (v := (.int .i64 x14.x1)) (ex_load rfl hE rfl (fun w hw => run_ld1 varty3 (b10f.c 1 rfl w hw))) ?_
              intro a hE
              obtain ⟨x15, ex15, hl2⟩ := bnd hl2
              refine q_call (wk0 rfl) rfl rfl hE rfl [(.int .i64 x14.x1)] ⟨rfl, trivial⟩ ent20 (v := (.int .i64 x15)) (fun w hw => Calls.mono (c_assessorref26_Literal hT x14.x1 hw x15 ex15) fun e w' ⟨v, he, hv, hh⟩ => ⟨by rw [he, hv], hh⟩) ?_
              intro a hE
              refine q_val (wk0 rfl) rfl rfl hE (v := (.int .i64 x13)) (ex_asn rfl hE rfl) ?_
              intro a hE
              refine q_val (wk0 rfl) rfl rfl hE (v := (.int .i64 x15)) (ex_asn rfl hE rfl) ?_
              intro a hE
              refine q_nil fun w hp => ?_
              have hp : Hp Z ρ (_ :: _ :: _ :: _ :: L) w := hp
              refine k_seq ?_
              refine k_region ?_
              refine s_val (wk0 rfl) rfl rfl hE hp (v := (.int .i64 x11)) (ex_move rfl hE rfl) ?_
              intro a hE
              obtain ⟨x16, ex16, hl2⟩ := bnd hl2
              refine s_val (wk0 rfl) rfl rfl hE hp (v := (.int .i64 x16)) (ex_neg rfl hE rfl (inK_some ex16)) ?_
              intro a hE
              refine s_val (wk0 rfl) rfl rfl hE hp (v := (.int .i64 x13)) (ex_move rfl hE rfl) ?_
              intro a hE
              refine s_lit (wk0 rfl) rfl rfl hE hp rfl [(0, (.int .i64 x16)), (1, (.int .i64 x13))] ⟨⟨rfl, rfl⟩, ⟨rfl, rfl⟩, trivial⟩ [(.int .i64 x16), (.int .i64 x13)] 3 (fun w => by simp [Instr.buildSlice, Instr.fill, Value.cells, go_sem]) ?_
              intro a w b11 hE hp
              have hp : Hp Z ρ (Pt b11 (.cells #[(.int .i64 x16), (.int .i64 x13)] 3 (0, 0)) :: _ :: _ :: _ :: _ :: L) w := hp
              have hp := (hp.get 0 rfl).imp (own_of_pt (l := (([x16, x13] : List Int) : List Int)) (n := 2) rfl (by decide) rfl)
              have hp : Hp Z ρ (OwnSl 3 (.slice (some ⟨b11, 0, none⟩) 2 2) ([x16, x13] : List Int) :: _ :: _ :: _ :: _ :: L) w := hp
              obtain ⟨k1, k1a, k1d, k1h⟩ := (hp.get 0 rfl).lend
              obtain ⟨x17, ex17, hl2⟩ := bnd hl2
              refine s_call (wk0 rfl) rfl rfl hE rfl [(.slice (some ⟨b11, 0, none⟩) 2 2)] ⟨rfl, trivial⟩ ent13 (c_assessorref26_Normal (Tabs.mono hT (PH.le_un _ k1)) ([x16, x13] : List Int) (.slice (some ⟨b11, 0, none⟩) 2 2) (OwnSl.ro k1d k1a) k1h x17 ex17) Ret.ret ?_
              intro v a w hR hE
              obtain ⟨vr3, rfl, hp⟩ := Ret.of hR
              have hp := Hp.back k1a k1d hp
              have hp : Hp Z ρ (_ :: OwnSl 3 vr3 x17.1 :: _ :: _ :: _ :: _ :: L) w := hp
              refine s_val (wk0 rfl) rfl rfl hE hp (v := (.tuple #[vr3, (.bool x17.2)])) (ex_move rfl hE rfl) ?_
              intro a hE
              refine s_val (wk0 rfl) rfl rfl hE hp (v := vr3) (ex_extract rfl hE rfl rfl) ?_
              intro a hE
              refine s_val (wk0 rfl) rfl rfl hE hp (v := (.bool x17.2)) (ex_extract rfl hE rfl rfl) ?_
              intro a hE
              refine s_val (wk0 rfl) rfl rfl hE hp (v := vr3) (ex_asn rfl hE rfl) ?_
              intro a hE
              refine s_val (wk0 rfl) rfl rfl hE hp (v := (.bool x17.2)) (ex_asn rfl hE rfl) ?_
              intro a hE
              refine s_nil ?_
              have hE := hE.cut (E' := [(1, vp1), (2, (.pointer (some ⟨b1, 0, none⟩))), (4, (.pointer (some ⟨b2, 0, none⟩))), (7, (.pointer (some ⟨b7, 0, none⟩))), (8, (.int .i64 lp2_0)), (9, (.int .i64 x11)), (10, (.int .i64 x13)), (11, (.int .i64 x15)), (12, vr3)]) ⟨rfl, rfl, rfl, rfl, rfl, rfl, rfl, rfl, rfl, trivial⟩
              refine k_seq ?_
              refine k_region ?_
              refine s_val (wk0 rfl) rfl rfl hE hp (v := (.int .i64 x11)) (ex_move rfl hE rfl) ?_
              intro a hE
              obtain ⟨x18, ex18, hl2⟩ := bnd hl2
              refine s_val (wk0 rfl) rfl rfl hE hp (v := (.int .i64 x18)) (ex_neg rfl hE rfl (inK_some ex18)) ?_
              intro a hE
              refine s_val (wk0 rfl) rfl rfl hE hp (v := (.int .i64 x15)) (ex_move rfl hE rfl) ?_
              intro a hE
              refine s_lit (wk0 rfl) rfl rfl hE hp rfl [(0, (.int .i64 x18)), (1, (.int .i64 x15))] ⟨⟨rfl, rfl⟩, ⟨rfl, rfl⟩, trivial⟩ [(.int .i64 x18), (.int .i64 x15)] 3 (fun w => by simp [Instr.buildSlice, Instr.fill, Value.cells, go_sem]) ?_
              intro a w b12 hE hp
              have hp : Hp Z ρ (Pt b12 (.cells #[(.int .i64 x18), (.int .i64 x15)] 3 (0, 0)) :: _ :: _ :: _ :: _ :: _ :: _ :: L) w := hp
              have hp := (hp.get 0 rfl).imp (own_of_pt (l := (([x18, x15] : List Int) : List Int)) (n := 2) rfl (by decide) rfl)
              have hp : Hp Z ρ (OwnSl 3 (.slice (some ⟨b12, 0, none⟩) 2 2) ([x18, x15] : List Int) :: _ :: _ :: _ :: _ :: _ :: _ :: L) w := hp
              obtain ⟨k2, k2a, k2d, k2h⟩ := (hp.get 0 rfl).lend
              obtain ⟨x19, ex19, hl2⟩ := bnd hl2
              refine s_call (wk0 rfl) rfl rfl hE rfl [(.slice (some ⟨b12, 0, none⟩) 2 2)] ⟨rfl, trivial⟩ ent13 (c_assessorref26_Normal (Tabs.mono hT (PH.le_un _ k2)) ([x18, x15] : List Int) (.slice (some ⟨b12, 0, none⟩) 2 2) (OwnSl.ro k2d k2a) k2h x19 ex19) Ret.ret ?_
              intro v a w hR hE
              obtain ⟨vr5, rfl, hp⟩ := Ret.of hR
              have hp := Hp.back k2a k2d hp
              have hp : Hp Z ρ (_ :: OwnSl 3 vr5 x19.1 :: _ :: _ :: _ :: _ :: _ :: _ :: L) w := hp
              refine s_val (wk0 rfl) rfl rfl hE hp (v := (.tuple #[vr5, (.bool x19.2)])) (ex_move rfl hE rfl) ?_
              intro a hE
              refine s_val (wk0 rfl) rfl rfl hE hp (v := vr5) (ex_extract rfl hE rfl rfl) ?_
              intro a hE
              refine s_val (wk0 rfl) rfl rfl hE hp (v := (.bool x19.2)) (ex_extract rfl hE rfl rfl) ?_
              intro a hE
              refine s_val (wk0 rfl) rfl rfl hE hp (v := vr5) (ex_asn rfl hE rfl) ?_
              intro a hE
              refine s_val (wk0 rfl) rfl rfl hE hp (v := (.bool x19.2)) (ex_asn rfl hE rfl) ?_
              intro a hE
              refine s_nil ?_
              refine k_seq ?_
              refine k_region ?_
              refine s_val (wk0 rfl) rfl rfl hE hp (v := (.int .i64 x11)) (ex_move rfl hE rfl) ?_
              intro a hE
              refine s_val (wk0 rfl) rfl rfl hE hp (v := (.int .i64 x13)) (ex_move rfl hE rfl) ?_
              intro a hE
              obtain ⟨x20, ex20, hl2⟩ := bnd hl2
              refine s_val (wk0 rfl) rfl rfl hE hp (v := (.int .i64 x20)) (ex_neg rfl hE rfl (inK_some ex20)) ?_
              intro a hE
              refine s_val (wk0 rfl) rfl rfl hE hp (v := (.int .i64 x15)) (ex_move rfl hE rfl) ?_
              intro a hE
              obtain ⟨x21, ex21, hl2⟩ := bnd hl2
              refine s_val (wk0 rfl) rfl rfl hE hp (v := (.int .i64 x21)) (ex_neg rfl hE rfl (inK_some ex21)) ?_
              intro a hE
              refine s_lit (wk0 rfl) rfl rfl hE hp rfl [(0, (.int .i64 x11)), (1, (.int .i64 x20)), (2, (.int .i64 x21))] ⟨⟨rfl, rfl⟩, ⟨rfl, rfl⟩, ⟨rfl, rfl⟩, trivial⟩ [(.int .i64 x11), (.int .i64 x20), (.int .i64 x21)] 3 (fun w => by simp [Instr.buildSlice, Instr.fill, Value.cells, go_sem]) ?_
              intro a w b13 hE hp
              have hp : Hp Z ρ (Pt b13 (.cells #[(.int .i64 x11), (.int .i64 x20), (.int .i64 x21)] 3 (0, 0)) :: _ :: _ :: _ :: _ :: _ :: _ :: _ :: _ :: L) w := hp
              have hp := (hp.get 0 rfl).imp (own_of_pt (l := (([x11, x20, x21] : List Int) : List Int)) (n := 3) rfl (by decide) rfl)
              have hp : Hp Z ρ (OwnSl 3 (.slice (some ⟨b13, 0, none⟩) 3 3) ([x11, x20, x21] : List Int) :: _ :: _ :: _ :: _ :: _ :: _ :: _ :: _ :: L) w := hp
              obtain ⟨k3, k3a, k3d, k3h⟩ := (hp.get 0 rfl).lend
              obtain ⟨x22, ex22, hl2⟩ := bnd hl2
              refine s_call (wk0 rfl) rfl rfl hE rfl [(.slice (some ⟨b13, 0, none⟩) 3 3)] ⟨rfl, trivial⟩ ent13 (c_assessorref26_Normal (Tabs.mono hT (PH.le_un _ k3)) ([x11, x20, x21] : List Int) (.slice (some ⟨b13, 0, none⟩) 3 3) (OwnSl.ro k3d k3a) k3h x22 ex22) Ret.ret ?_
              intro v a w hR hE
              obtain ⟨vr7, rfl, hp⟩ := Ret.of hR
              have hp := Hp.back k3a k3d hp
              have hp : Hp Z ρ (_ :: OwnSl 3 vr7 x22.1 :: _ :: _ :: _ :: _ :: _ :: _ :: _ :: _ :: L) w := hp
              refine s_val (wk0 rfl) rfl rfl hE hp (v := (.tuple #[vr7, (.bool x22.2)])) (ex_move rfl hE rfl) ?_
              intro a hE
              refine s_val (wk0 rfl) rfl rfl hE hp (v := vr7) (ex_extract rfl hE rfl rfl) ?_
              intro a hE
              refine s_val (wk0 rfl) rfl rfl hE hp (v := (.bool x22.2)) (ex_extract rfl hE rfl rfl) ?_
              intro a hE
              refine s_val (wk0 rfl) rfl rfl hE hp (v := vr7) (ex_asn rfl hE rfl) ?_
              intro a hE
              refine s_val (wk0 rfl) rfl rfl hE hp (v := (.bool x22.2)) (ex_asn rfl hE rfl) ?_
              intro a hE
              refine s_nil ?_
              have hE := hE.cut (E' := [(1, vp1), (2, (.pointer (some ⟨b1, 0, none⟩))), (4, (.pointer (some ⟨b2, 0, none⟩))), (7, (.pointer (some ⟨b7, 0, none⟩))), (8, (.int .i64 lp2_0)), (12, vr3), (14, vr5), (16, vr7)]) ⟨rfl, rfl, rfl, rfl, rfl, rfl, rfl, rfl, trivial⟩
              refine k_region ?_
              refine s_val (wk0 rfl) rfl rfl hE hp (v := (.pointer (some ⟨b7, 1, none⟩))) (ex_field rfl hE rfl (fldty24_1 _ _)) ?_
              intro a hE
              refine s_val (wk0 rfl) rfl rfl hE hp (v := w8) (ex_load rfl hE rfl (fun w hw => run_ld1 varty22 (Hp.c 6 rfl 1 rfl w hw))) ?_
              intro a hE
              refine s_val (wk0 rfl) rfl rfl hE hp (v := vr3) (ex_move rfl hE rfl) ?_
              intro a hE
              refine s_val (wk0 rfl) rfl rfl hE hp (v := vr5) (ex_move rfl hE rfl) ?_
              intro a hE
              refine s_val (wk0 rfl) rfl rfl hE hp (v := vr7) (ex_move rfl hE rfl) ?_
              intro a hE
              refine s_lit (wk0 rfl) rfl rfl hE hp rfl [(0, vr3), (1, vr5), (2, vr7)] ⟨⟨rfl, rfl⟩, ⟨rfl, rfl⟩, ⟨rfl, rfl⟩, trivial⟩ [vr3, vr5, vr7] 25 (fun w => by have hc0 := OwnSl.cells hp 5 rfl; simp only [Value.cells] at hc0; have hc1 := OwnSl.cells hp 3 rfl; simp only [Value.cells] at hc1; have hc2 := OwnSl.cells hp 1 rfl; simp only [Value.cells] at hc2; simp [Instr.buildSlice, Instr.fill, Value.cells, hc0, hc1, hc2, go_sem]) ?_
              intro a w b14 hE hp
              have hp : Hp Z ρ (Pt b14 (.cells #[vr3, vr5, vr7] 25 (0, 0)) :: _ :: _ :: _ :: _ :: _ :: _ :: _ :: _ :: _ :: _ :: L) w := hp
              obtain ⟨sl2, sl2e⟩ := OwnSl.toSl hp 6 rfl
              obtain ⟨sl3, sl3e⟩ := OwnSl.toSl hp 4 rfl
              obtain ⟨sl4, sl4e⟩ := OwnSl.toSl hp 2 rfl
              have hp := Hp.rowsNil (α := Int) 3 hp
              have hp := Hp.rowsCons sl4e (hp.get 3 rfl)
              have hp := Hp.rowsCons sl3e (hp.get 4 rfl)
              have hp := Hp.rowsCons sl2e (hp.get 5 rfl)
              have hp : Hp Z ρ (RowsA 3 [sl2, sl3, sl4] ([x17.1, x19.1, x22.1] : List (List Int)) :: _ :: _ :: _ :: _ :: _ :: _ :: _ :: _ :: L) w := hp
              obtain ⟨x23, ex23, hl2⟩ := bnd hl2
              refine s_tapps (wk0 rfl) rfl rfl hE hp rfl slty22 rfl rfl 5 rfl rfl rfl (fun j u hj => by have := Hp.cN 1 rfl 0 _ (sub_all rfl) w hp j u (by simpa [flat, Enc.enc, sl2e, sl3e, sl4e] using hj); simpa using this) ex23 ?_
              intro v1 us1 a w hE hp
              have hp : Hp Z ρ (_ :: _ :: _ :: _ :: _ :: TblA 25 3 v1 us1 (x23 : (List (List Int))) :: _ :: _ :: L) w := hp
              refine s_val (wk0 rfl) rfl rfl hE hp (v := (.pointer (some ⟨b7, 1, none⟩))) (ex_field rfl hE rfl (fldty24_1 _ _)) ?_
              intro a hE
              refine s_store1 (wk0 rfl) rfl hE hp rfl rfl rfl 4 rfl varty22.size_ (TblA.cells hp 5 rfl) (TblA.one hp 5 rfl) rfl [(.int .i64 x8), v1] rfl ?_
              intro w hp
              have hp : Hp Z ρ (_ :: _ :: _ :: _ :: Pt b7 (.cells #[(.int .i64 x8), v1] 24 (0, 0)) :: _ :: _ :: _ :: L) w := hp
              refine s_nil ?_
              refine k_region ?_
              refine s_val (wk0 rfl) rfl rfl hE hp (v := (.int .i64 lp2_0)) (ex_move rfl hE rfl) ?_
              intro a hE
              obtain ⟨x24, ex24, hl2⟩ := bnd hl2
              refine s_val (wk0 rfl) rfl rfl hE hp (v := (.int .i64 x24)) (ex_add rfl hE rfl rfl (inK_some ex24)) ?_
              intro a hE
              refine s_val (wk0 rfl) rfl rfl hE hp (v := (.int .i64 x24)) (ex_asn rfl hE rfl) ?_
              intro a hE
              refine s_nil ?_
              exact ⟨_, (Option.some.inj hl2).symm, _, _, hE.cut ⟨rfl, rfl, rfl, rfl, rfl, trivial⟩, (((((((hp.get 3 rfl).drop).get 2 rfl).drop).get 1 rfl).drop).drop)⟩
            · replace hl2 := (ie hc7).symm.trans hl2
              refine k_exit ?_
              refine ⟨_, (Option.some.inj hl2).symm, fun hbb => ?_⟩
              subst hbb
              exact ⟨_, _, hE.cut ⟨rfl, rfl, rfl, trivial⟩, hp⟩
        · rintro a w ⟨w8, us8, hE, hp⟩
          refine k_seq ?_
          refine k_seq ?_
          refine k_region ?_
          refine s_val (wk0 rfl) rfl rfl hE hp (v := (.int .i64 0)) (ex_asn rfl hE rfl) ?_
          intro a hE
          refine s_nil ?_
          obtain ⟨b15, hc8, hm⟩ := bnd hm
          refine k_block (fun a w => ∃ (w8q : Value) (us8q : List Sl), Env 131 [(4, (.pointer (some ⟨b2, 0, none⟩))), (7, (.pointer (some ⟨b7, 0, none⟩)))] a ∧ Hp Z ρ (Pt b7 (.cells #[(.int .i64 x8), w8q] 24 (0, 0)) :: TblA 25 3 w8q us8q (b15 : (List (List Int))) :: Pt b2 (.cells #[(.int .i64 0), (.slice none 0 0)] 24 (0, 0)) :: Pt b1 (.cells #[(.int .i64 p0.inputs), vp0_gates] 38 (0, 0)) :: L) w) ?_ ?_
          · refine k_loop hc8 (fun s a w => ∃ (w8q : Value) (us8q : List Sl), Env 131 [(1, vp1), (4, (.pointer (some ⟨b2, 0, none⟩))), (7, (.pointer (some ⟨b7, 0, none⟩))), (18, (.int .i64 s.1))] a ∧ Hp Z ρ (Pt b7 (.cells #[(.int .i64 x8), w8q] 24 (0, 0)) :: TblA 25 3 w8q us8q (s.2 : (List (List Int))) :: Pt b2 (.cells #[(.int .i64 0), (.slice none 0 0)] 24 (0, 0)) :: Pt b1 (.cells #[(.int .i64 p0.inputs), vp0_gates] 38 (0, 0)) :: L) w) ?_ ?_
            · exact ⟨_, _, hE.cut ⟨rfl, rfl, rfl, rfl, trivial⟩, hp⟩
            · rintro ⟨lp3_0, lp3_1⟩ st a w ⟨w8q, us8q, hE, hp⟩ hl3
              have hE : Env 131 [(1, vp1), (4, (.pointer (some ⟨b2, 0, none⟩))), (7, (.pointer (some ⟨b7, 0, none⟩))), (18, (.int .i64 lp3_0))] a := hE
              have hp : Hp Z ρ (Pt b7 (.cells #[(.int .i64 x8), w8q] 24 (0, 0)) :: TblA 25 3 w8q us8q (lp3_1 : (List (List Int))) :: _ :: _ :: L) w := hp
              replace hl3 : m_assessorref26_Translate_lp3 p1 lp3_0 lp3_1 = some st := hl3
              unfold m_assessorref26_Translate_lp3 at hl3
              refine k_seq ?_
              refine k_seq ?_
              refine k_region ?_
              refine s_val (wk0 rfl) rfl rfl hE hp (v := (.int .i64 lp3_0)) (ex_move rfl hE rfl) ?_
              intro a hE
              refine s_val (wk0 rfl) rfl rfl hE hp (v := vp1) (ex_move rfl hE rfl) ?_
              intro a hE
              refine s_val (wk0 rfl) rfl rfl hE hp (v := (.int .i64 (p1.length : Int))) (ex_len rfl hE rfl (RoSl.len hp1 slty25)) ?_
              intro a hE
              refine s_val (wk0 rfl) rfl rfl hE hp (v := (.bool (decide (lp3_0 < (p1.length : Int))))) (ex_lss rfl hE rfl rfl) ?_
              intro a hE
              refine s_nil ?_
              refine k_if hE rfl (fun hc9 => ?_) (fun hc9 => ?_)
              · replace hl3 := (it hc9).symm.trans hl3
                refine k_skip ?_
                refine k_seq ?_
                refine k_plain ?_
                obtain ⟨x25, ex25, hl3⟩ := bnd hl3
                obtain ⟨x26, ex26, hl3⟩ := bnd hl3
                obtain ⟨x27, ex27, hl3⟩ := bnd hl3
                have hp := hp.drew
                refine k_heldV ([([], At0 Z ρ), ([11], At1 Z ρ (Pt b7 (.cells #[(.int .i64 x8), w8q] 24 (0, 0))))] : Facts) (fun a w => ∃ y8 : Value, ∃ yus8 : List Sl, Env 131 [(1, vp1), (4, (.pointer (some ⟨b2, 0, none⟩))), (7, (.pointer (some ⟨b7, 0, none⟩))), (18, (.int .i64 lp3_0))] a ∧ Hp Z ρ (Pt b7 (.cells #[(.int .i64 x8), y8] 24 (0, 0)) :: TblA 25 3 y8 yus8 (x27 : (List (List Int))) :: Pt b2 (.cells #[(.int .i64 0), (.slice none 0 0)] 24 (0, 0)) :: Pt b1 (.cells #[(.int .i64 p0.inputs), vp0_gates] 38 (0, 0)) :: L) w) (by kernel_rfl) ⟨fun _ => ⟨_, hp⟩, fun _ => ⟨_, (hp.get 0 rfl)⟩, trivial⟩ (fun hS => ?_) ?_
                ·
                  generalize w.drew = w at hS hp ⊢
                  refine v_take0 0 (wk0 rfl) rfl rfl rfl hE (by kernel_rfl) (by kernel_rfl) (by kernel_rfl) rfl (by kernel_rfl) hS (v := (.pointer (some ⟨b7, 1, none⟩))) (fun _ => ex_field rfl hE rfl (fldty24_1 _ _)) ?_
                  intro a hE hS
                  refine v_take1 1 1 (wk0 rfl) rfl rfl rfl hE (by kernel_rfl) (by kernel_rfl) (by kernel_rfl) rfl (by kernel_rfl) hS (v := w8q) (fun _ => ex_load rfl hE rfl (fun w hw => run_ld1 varty22 (Hp.c 0 rfl 1 rfl w hw))) ?_
                  intro a hE hS
                  refine v_take0 2 (wk0 rfl) rfl rfl rfl hE (by kernel_rfl) (by kernel_rfl) (by kernel_rfl) rfl (by kernel_rfl) hS (v := vp1) (fun _ => ex_move rfl hE rfl) ?_
                  intro a hE hS
                  refine v_take0 3 (wk0 rfl) rfl rfl rfl hE (by kernel_rfl) (by kernel_rfl) (by kernel_rfl) rfl (by kernel_rfl) hS (v := (.int .i64 lp3_0)) (fun _ => ex_move rfl hE rfl) ?_
                  intro a hE hS
                  obtain ⟨b19, b19o, b19c, b19r, b19k, b19f⟩ := RoSl.at hp1 slty25 ex25
                  obtain rfl : b19c = Enc.enc x25 := b19k
                  have b19f : AtP ρ b19 b19o [(.int .i64 x25)] := b19f
                  refine v_take0 4 (wk0 rfl) rfl rfl rfl hE (by kernel_rfl) (by kernel_rfl) (by kernel_rfl) rfl (by kernel_rfl) hS (v := (.pointer (some ⟨b19, b19o, none⟩))) (fun _ => ex_index rfl hE rfl rfl b19r) ?_
                  intro a hE hS
                  refine v_take0 5 (wk0 rfl) rfl rfl rfl hE (by kernel_rfl) (by kernel_rfl) (by kernel_rfl) rfl (by kernel_rfl) hS (v := (.int .i64 x25)) (fun _ => ex_load rfl hE rfl (fun w hw => run_ld1 varty3 (b19f.c 0 rfl w hw))) ?_
                  intro a hE hS
                  refine v_all [6] (by kernel_rfl) rfl ?_
                  refine List.forall_mem_cons.2 ⟨?_, fun _ h => absurd h (by simp)⟩
                  ·
                    refine h_op rfl ?_
                    refine s_call (wk0 rfl) rfl rfl hE rfl [(.int .i64 x25)] ⟨rfl, trivial⟩ ent20 (c_assessorref26_Literal hT x25 hp x26 ex26) Ret.ret ?_
                    intro v a w hR hE
                    obtain ⟨rfl, hp⟩ := Ret.of hR
                    have hp : Hp Z ρ (_ :: _ :: _ :: _ :: L) w := hp
                    refine s_nil (and_with ⟨fun _ => ⟨_, hp⟩, fun _ => ⟨_, (hp.get 0 rfl)⟩, trivial⟩ fun hS => ?_)
                    refine v_all [7] (by kernel_rfl) rfl ?_
                    refine List.forall_mem_cons.2 ⟨?_, fun _ h => absurd h (by simp)⟩
                    ·
                      refine h_op rfl ?_
                      refine s_lit (wk0 rfl) rfl rfl hE hp rfl [(0, (.int .i64 x26))] ⟨⟨rfl, rfl⟩, trivial⟩ [(.int .i64 x26)] 3 (fun w => by simp [Instr.buildSlice, Instr.fill, Value.cells, go_sem]) ?_
                      intro a w b20 hE hp
                      have hp : Hp Z ρ (Pt b20 (.cells #[(.int .i64 x26)] 3 (0, 0)) :: _ :: _ :: _ :: _ :: L) w := hp
                      refine s_nil (and_with ⟨fun _ => ⟨_, hp⟩, fun _ => ⟨_, (hp.get 1 rfl)⟩, trivial⟩ fun hS => ?_)
                      refine v_all [8] (by kernel_rfl) rfl ?_
                      refine List.forall_mem_cons.2 ⟨?_, fun _ h => absurd h (by simp)⟩
                      ·
                        refine h_op rfl ?_
                        refine s_lit (wk0 rfl) rfl rfl hE hp rfl [(0, (.slice (some ⟨b20, 0, none⟩) 1 1))] ⟨⟨rfl, rfl⟩, trivial⟩ [(.slice (some ⟨b20, 0, none⟩) 1 1)] 25 (fun w => by simp [Instr.buildSlice, Instr.fill, Value.cells, go_sem]) ?_
                        intro a w b21 hE hp
                        have hp : Hp Z ρ (Pt b21 (.cells #[(.slice (some ⟨b20, 0, none⟩) 1 1)] 25 (0, 0)) :: _ :: _ :: _ :: _ :: _ :: L) w := hp
                        refine s_nil (and_with ⟨fun _ => ⟨_, hp⟩, fun _ => ⟨_, (hp.get 2 rfl)⟩, trivial⟩ fun hS => ?_)
                        refine v_all [9] (by kernel_rfl) rfl ?_
                        refine List.forall_mem_cons.2 ⟨?_, fun _ h => absurd h (by simp)⟩
                        ·
                          refine h_op rfl ?_
                          have hp := (hp.get 1 rfl).imp (own_of_pt (l := (([x26] : List Int) : List Int)) (n := 1) rfl (by decide) rfl)
                          have hp : Hp Z ρ (OwnSl 3 (.slice (some ⟨b20, 0, none⟩) 1 1) ([x26] : List Int) :: _ :: _ :: _ :: _ :: _ :: L) w := hp
                          have hp : Hp Z ρ (_ :: _ :: _ :: _ :: _ :: _ :: L) w := hp
                          obtain ⟨sl6, sl6e⟩ := OwnSl.toSl hp 0 rfl
                          refine s_tapp (wk0 rfl) rfl rfl hE sl6e (hp.get 0 rfl) rfl slty22 rfl rfl 2 rfl rfl (Hp.c 1 rfl 0 rfl w hp) ex27 ?_
                          intro v3 us3 a w hE hp
                          have hp : Hp Z ρ (_ :: _ :: TblA 25 3 v3 us3 (x27 : (List (List Int))) :: _ :: _ :: L) w := hp
                          refine s_nil (and_with ⟨fun _ => ⟨_, hp⟩, fun _ => ⟨_, (hp.get 1 rfl)⟩, trivial⟩ fun hS => ?_)
                          refine v_take0 10 (wk0 rfl) rfl rfl rfl hE (by kernel_rfl) (by kernel_rfl) (by kernel_rfl) rfl (by kernel_rfl) hS (v := (.pointer (some ⟨b7, 1, none⟩))) (fun _ => ex_field rfl hE rfl (fldty24_1 _ _)) ?_
                          intro a hE hS
                          refine v_all [11] (by kernel_rfl) rfl ?_
                          refine List.forall_mem_cons.2 ⟨?_, fun _ h => absurd h (by simp)⟩
                          ·
                            refine h_op rfl ?_
                            refine s_store1 (wk0 rfl) rfl hE hp rfl rfl rfl 1 rfl varty22.size_ (TblA.cells hp 2 rfl) (TblA.one hp 2 rfl) rfl [(.int .i64 x8), v3] rfl ?_
                            intro w hp
                            have hp : Hp Z ρ (_ :: Pt b7 (.cells #[(.int .i64 x8), v3] 24 (0, 0)) :: _ :: _ :: _ :: L) w := hp
                            refine s_nil (and_with ⟨fun _ => ⟨_, hp⟩, dead (by kernel_rfl), trivial⟩ fun hS => ?_)
                            exact v_done (by kernel_rfl) ⟨_, _, hE.cut ⟨rfl, rfl, rfl, rfl, trivial⟩, (hp.drop)⟩
                · rintro a w ⟨y8, yus8, hE, hp⟩
                  refine k_region ?_
                  refine s_val (wk0 rfl) rfl rfl hE hp (v := (.int .i64 lp3_0)) (ex_move rfl hE rfl) ?_
                  intro a hE
                  obtain ⟨x28, ex28, hl3⟩ := bnd hl3
                  refine s_val (wk0 rfl) rfl rfl hE hp (v := (.int .i64 x28)) (ex_add rfl hE rfl rfl (inK_some ex28)) ?_
                  intro a hE
                  refine s_val (wk0 rfl) rfl rfl hE hp (v := (.int .i64 x28)) (ex_asn rfl hE rfl) ?_
                  intro a hE
                  refine s_nil ?_
                  exact ⟨_, (Option.some.inj hl3).symm, _, _, hE.cut ⟨rfl, rfl, rfl, rfl, trivial⟩, hp⟩
              · replace hl3 := (ie hc9).symm.trans hl3
                refine k_exit ?_
                refine ⟨_, (Option.some.inj hl3).symm, fun hbb => ?_⟩
                subst hbb
                exact ⟨_, _, hE.cut ⟨rfl, rfl, trivial⟩, hp⟩
          · rintro a w ⟨w8q, us8q, hE, hp⟩
            refine k_seq ?_
            refine k_region ?_
            refine s_val (wk0 rfl) rfl rfl hE hp (v := (.agg #[(.int .i64 x8), w8q])) (ex_load rfl hE rfl (fun w hw => run_ldN (cs := [(.int .i64 x8), w8q]) varty24 (Hp.cN 0 rfl 0 _ (sub_all rfl) w hw))) ?_
            intro a hE
            refine s_store (wk0 rfl) rfl hE hp rfl rfl rfl 2 rfl varty24.size_ rfl (allOne_mem ⟨rfl, (TblA.one hp 1 rfl), trivial⟩) [(.int .i64 x8), w8q] rfl ?_
            intro w hp
            have hp : Hp Z ρ (Pt b7 (.cells #[(.int .i64 x8), w8q] 24 (0, 0)) :: TblA 25 3 w8q us8q (b15 : (List (List Int))) :: Pt b2 (.cells #[(.int .i64 x8), w8q] 24 (0, 0)) :: _ :: L) w := hp
            refine s_val (wk0 rfl) rfl rfl hE hp (v := (.int .i64 0)) (ex_asn rfl hE rfl) ?_
            intro a hE
            refine s_nil ?_
            refine k_ret ?_
            obtain rfl := Option.some.inj hm
            exact retct hE rfl rfl rfl (run_lvN (cs := [(.int .i64 x8), w8q]) varty24 (Hp.cN 2 rfl 0 _ (sub_all rfl) _ hp)) ⟨_, rfl, _, _, rfl, (((((hp.get 3 rfl).drop).get 2 rfl).drop).drop)⟩
end Go.Proofs.YtelioaepnpnojaaGreatDoor

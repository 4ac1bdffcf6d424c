/-
  The code goes as its model: assessor/assessorlaw43.FingerprintLocal$1, assessor/assessorlaw43.FingerprintLocal. (Printed by wip/sp/gen.py.)
-/
import Derived.Test.YtlnhijgieblmgaaDoorWLM
import Derived.Test.YtlnhijgieblmgaaDoorFct
import Derived.Test.YtlnhijgieblmgaaDoorWS
set_option linter.unusedVariables false
set_option linter.unusedSimpArgs false
namespace Go.Proofs.YtlnhijgieblmgaaDoor
open Go.RowKit

/- assessor/assessorlaw43.FingerprintLocal$1 -/
set_option maxRecDepth 100000 in
set_option maxHeartbeats 4000000 in
theorem c_assessorlaw43_FingerprintLocal_1 {Z : World} {ρ : PH} {L : List Atom} {w : World} (hT : Tabs ρ) (p0 : (List Mark)) (vp0 : Value) (hp0 : RoSl ρ vp0 p0) (bc0 : Nat) (c0 : Int) (hp : Hp Z ρ (Pt bc0 (.cells #[(.int .i64 c0)] 3 (0, 0)) :: L) w) (r : Bool) (hm : m_assessorlaw43_FingerprintLocal_1 p0 c0 = some r) :
    Calls Tryd.prog 29 #[vp0, (.pointer (some ⟨bc0, 0, none⟩))] w (Ret fun v w' => v = (.bool r) ∧ Hp Z ρ (Pt bc0 (.cells #[(.int .i64 c0)] 3 (0, 0)) :: L) w') := by
  refine enter (N := 17) Tryd.func29 rfl rfl [(0, vp0), (1, (.pointer (some ⟨bc0, 0, none⟩)))] rfl (argsIn_mem ⟨rfl, rfl, trivial⟩) fun a hE => ?_
  unfold m_assessorlaw43_FingerprintLocal_1 at hm
  refine k_seq ?_
  refine k_region ?_
  refine s_val (wk0 rfl) rfl rfl hE hp (v := (.bool false)) (ex_asn rfl hE rfl) ?_
  intro a hE
  refine s_nil ?_
  refine k_seq ?_
  refine k_seq ?_
  refine k_region ?_
  refine s_val (wk0 rfl) rfl rfl hE hp (v := vp0) (ex_move rfl hE rfl) ?_
  intro a hE
  refine s_val (wk0 rfl) rfl rfl hE hp (v := (.int .i64 (p0.length : Int))) (ex_len rfl hE rfl (RoSl.len hp0 slty28)) ?_
  intro a hE
  refine s_val (wk0 rfl) rfl rfl hE hp (v := (.int .i64 0)) (ex_move rfl hE rfl) ?_
  intro a hE
  refine s_nil ?_
  obtain ⟨b1, hb1, hm⟩ := bnd hm
  refine k_block (fun a w => ∃ s : Unit, b1 = .brk s ∧ (Env 17 [] a ∧ Hp Z ρ (Pt bc0 (.cells #[(.int .i64 c0)] 3 (0, 0)) :: L) w)) ?_ ?_
  · refine k_loop hb1 (fun s a w => Env 17 [(1, (.pointer (some ⟨bc0, 0, none⟩))), (6, vp0), (7, (.int .i64 (p0.length : Int))), (8, (.int .i64 s))] a ∧ Hp Z ρ (Pt bc0 (.cells #[(.int .i64 c0)] 3 (0, 0)) :: L) w) ?_ ?_
    · exact ⟨hE.cut ⟨rfl, rfl, rfl, rfl, trivial⟩, hp⟩
    · rintro lp1_0 st a w ⟨hE, hp⟩ hl1
      have hE : Env 17 [(1, (.pointer (some ⟨bc0, 0, none⟩))), (6, vp0), (7, (.int .i64 (p0.length : Int))), (8, (.int .i64 lp1_0))] a := hE
      have hp : Hp Z ρ (Pt bc0 (.cells #[(.int .i64 c0)] 3 (0, 0)) :: L) w := hp
      replace hl1 : m_assessorlaw43_FingerprintLocal_1_lp1 p0 c0 lp1_0 = some st := hl1
      unfold m_assessorlaw43_FingerprintLocal_1_lp1 at hl1
      refine k_seq ?_
      refine k_region ?_
      refine s_val (wk0 rfl) rfl rfl hE hp (v := (.bool (decide (lp1_0 < (p0.length : Int))))) (ex_lss rfl hE rfl rfl) ?_
      intro a hE
      refine s_nil ?_
      refine k_seq ?_
      refine k_if hE rfl (fun hb2 => ?_) (fun hb2 => ?_)
      · replace hl1 := (it hb2).symm.trans hl1
        refine k_skip ?_
        refine k_seq ?_
        refine k_plain ?_
        refine k_seq ?_
        refine k_region ?_
        obtain ⟨x1, ex1, hl1⟩ := bnd hl1
        obtain ⟨b2, b2o, b2c, b2r, b2k, b2f⟩ := RoSl.at hp0 slty28 ex1
        obtain rfl : b2c = Enc.enc x1 := b2k
        have b2f : AtP ρ b2 b2o [(.int .i64 x1.hash), (.int .i64 x1.at_)] := b2f
        refine s_val (wk0 rfl) rfl rfl hE hp (v := (.pointer (some ⟨b2, b2o, none⟩))) (ex_index rfl hE rfl rfl b2r) ?_
        intro a hE
        refine s_val (wk0 rfl) rfl rfl hE hp (v := (.agg #[(.int .i64 x1.hash), (.int .i64 x1.at_)])) (ex_load rfl hE rfl (fun w hw => run_ldN (cs := [(.int .i64 x1.hash), (.int .i64 x1.at_)]) varty48 (fun j u hj => cell_of hw.le (b2f j u hj)))) ?_
        intro a hE
        refine s_new (wk0 rfl) rfl rfl hE hp rfl [(.int .i64 0), (.int .i64 0)] (fun w => by simp [Instr.alloc, go_sem] <;> rfl) ?_
        intro a w b3 hE hp
        have hp : Hp Z ρ (Pt b3 (.cells #[(.int .i64 0), (.int .i64 0)] 48 (0, 0)) :: Pt bc0 (.cells #[(.int .i64 c0)] 3 (0, 0)) :: L) w := hp
        refine s_store (wk0 rfl) rfl hE hp rfl rfl rfl 0 rfl varty48.size_ rfl (allOne_mem ⟨rfl, rfl, trivial⟩) [(.int .i64 x1.hash), (.int .i64 x1.at_)] rfl ?_
        intro w hp
        have hp : Hp Z ρ (Pt b3 (.cells #[(.int .i64 x1.hash), (.int .i64 x1.at_)] 48 (0, 0)) :: Pt bc0 (.cells #[(.int .i64 c0)] 3 (0, 0)) :: L) w := hp
        refine s_nil ?_
        refine k_seq ?_
        refine k_region ?_
        refine s_val (wk0 rfl) rfl rfl hE hp (v := (.pointer (some ⟨b3, 1, none⟩))) (ex_field rfl hE rfl (fldty48_1 _ _)) ?_
        intro a hE
        refine s_val (wk0 rfl) rfl rfl hE hp (v := (.int .i64 x1.at_)) (ex_load rfl hE rfl (fun w hw => run_ld1 varty3 (Hp.c 0 rfl 1 rfl w hw))) ?_
        intro a hE
        refine s_val (wk0 rfl) rfl rfl hE hp (v := (.int .i64 c0)) (ex_load rfl hE rfl (fun w hw => run_ld1 varty3 (Hp.c 1 rfl 0 rfl w hw))) ?_
        intro a hE
        refine s_val (wk0 rfl) rfl rfl hE hp (v := (.bool (decide (x1.at_ = c0)))) (ex_eql rfl hE rfl rfl) ?_
        intro a hE
        refine s_nil ?_
        refine k_if hE rfl (fun hb3 => ?_) (fun hb3 => ?_)
        · replace hl1 := (it hb3).symm.trans hl1
          refine k_seq ?_
          refine k_region ?_
          refine s_val (wk0 rfl) rfl rfl hE hp (v := (.bool true)) (ex_asn rfl hE rfl) ?_
          intro a hE
          refine s_nil ?_
          refine k_ret ?_
          refine ⟨_, (Option.some.inj hl1).symm, fun hb => ?_⟩
          subst hb
          obtain rfl := Option.some.inj hm
          exact ret1 hE rfl rfl ⟨_, rfl, rfl, (hp.drop)⟩
        · replace hl1 := (ie hb3).symm.trans hl1
          refine k_skip ?_
          refine k_region ?_
          obtain ⟨x2, ex2, hl1⟩ := bnd hl1
          refine s_val (wk0 rfl) rfl rfl hE hp (v := (.int .i64 x2)) (ex_add rfl hE rfl rfl (inK_some ex2)) ?_
          intro a hE
          refine s_val (wk0 rfl) rfl rfl hE hp (v := (.int .i64 x2)) (ex_move rfl hE rfl) ?_
          intro a hE
          refine s_nil ?_
          have hE := hE.cut (E' := [(1, (.pointer (some ⟨bc0, 0, none⟩))), (6, vp0), (7, (.int .i64 (p0.length : Int))), (8, (.int .i64 x2))]) ⟨rfl, rfl, rfl, rfl, trivial⟩
          exact ⟨_, (Option.some.inj hl1).symm, hE.cut ⟨rfl, rfl, rfl, rfl, trivial⟩, (hp.drop)⟩
      · replace hl1 := (ie hb2).symm.trans hl1
        refine k_exit ?_
        refine ⟨_, (Option.some.inj hl1).symm, fun hbb => ?_⟩
        exact ⟨_, hbb.symm, hE.cut trivial, hp⟩
  · rintro a w ⟨b1s, rfl, hE, hp⟩
    dsimp only at hm
    refine k_seq ?_
    refine k_region ?_
    refine s_val (wk0 rfl) rfl rfl hE hp (v := (.bool false)) (ex_asn rfl hE rfl) ?_
    intro a hE
    refine s_nil ?_
    refine k_ret ?_
    obtain rfl := Option.some.inj hm
    exact ret1 hE rfl rfl ⟨_, rfl, rfl, hp⟩
/- assessor/assessorlaw43.FingerprintLocal -/
set_option maxRecDepth 100000 in
set_option maxHeartbeats 4000000 in
theorem c_assessorlaw43_FingerprintLocal {Z : World} {ρ : PH} {L : List Atom} {w : World} (hT : Tabs ρ) (p0 : (List Int)) (vp0 : Value) (hp0 : RoSl ρ vp0 p0) (p1 : (List Int)) (vp1 : Value) (hp1 : RoSl ρ vp1 p1) (p2 : Int) (p3 : Int) (hp : Hp Z ρ (L) w) (r : Bool) (hm : m_assessorlaw43_FingerprintLocal p0 p1 p2 p3 = some r) :
    Calls Tryd.prog 9 #[vp0, vp1, (.int .i64 p2), (.int .i64 p3)] w (Ret fun v w' => v = (.bool r) ∧ Hp Z ρ (L) w') := by
  refine enter (N := 114) Tryd.func9 rfl rfl [(0, vp0), (1, vp1), (2, (.int .i64 p2)), (3, (.int .i64 p3))] rfl (argsIn_mem ⟨rfl, rfl, rfl, rfl, trivial⟩) fun a hE => ?_
  unfold m_assessorlaw43_FingerprintLocal at hm
  refine k_seq ?_
  refine k_region ?_
  refine s_box (wk0 rfl) rfl rfl hE hp rfl (v := (.int .i64 p3)) rfl ?_
  intro a w b1 hE hp
  have hp : Hp Z ρ (Pt b1 (.cells #[(.int .i64 p3)] 3 (0, 0)) :: L) w := hp
  refine s_val (wk0 rfl) rfl rfl hE hp (v := (.bool false)) (ex_asn rfl hE rfl) ?_
  intro a hE
  refine s_nil ?_
  refine k_seq ?_
  refine k_seq ?_
  refine k_region ?_
  obtain ⟨x1, ex1, hm⟩ := bnd hm
  refine s_call (wk0 rfl) rfl rfl hE rfl [] trivial ent10 (c_assessorlaw43_awake hT hp x1 ex1) Ret.ret ?_
  intro v a w hR hE
  obtain ⟨rfl, hp⟩ := Ret.of hR
  have hp : Hp Z ρ (Pt b1 (.cells #[(.int .i64 p3)] 3 (0, 0)) :: L) w := hp
  refine s_val (wk0 rfl) rfl rfl hE hp (v := (.bool (!x1))) (ex_not rfl hE rfl) ?_
  intro a hE
  refine s_nil ?_
  refine k_if hE rfl (fun hb1 => ?_) (fun hb1 => ?_)
  · replace hm := (it hb1).symm.trans hm
    refine k_seq ?_
    refine k_region ?_
    refine s_val (wk0 rfl) rfl rfl hE hp (v := (.bool false)) (ex_asn rfl hE rfl) ?_
    intro a hE
    refine s_nil ?_
    refine k_ret ?_
    obtain rfl := Option.some.inj hm
    exact ret1 hE rfl rfl ⟨_, rfl, rfl, (hp.drop)⟩
  · replace hm := (ie hb1).symm.trans hm
    refine k_skip ?_
    refine k_seq ?_
    refine k_seq ?_
    refine k_region ?_
    refine s_val (wk0 rfl) rfl rfl hE hp (v := (.int .i64 p2)) (ex_move rfl hE rfl) ?_
    intro a hE
    refine s_val (wk0 rfl) rfl rfl hE hp (v := (.bool (decide (p2 < 1)))) (ex_lss rfl hE rfl rfl) ?_
    intro a hE
    refine s_val (wk0 rfl) rfl rfl hE hp (v := (.bool (decide (p2 < 1)))) (ex_move rfl hE rfl) ?_
    intro a hE
    refine s_cut [_, _, _] (fun a w => Env 114 [(23, (.bool ((decide (p2 < 1)) || (decide (20 < p2))))), (0, vp0), (1, vp1), (2, (.int .i64 p2)), (7, (.pointer (some ⟨b1, 0, none⟩)))] a ∧ Hp Z ρ (Pt b1 (.cells #[(.int .i64 p3)] 3 (0, 0)) :: L) w) ?_ ?_
    · rcases Bool.eq_false_or_eq_true (decide (p2 < 1)) with hb2 | hb2
      ·
        refine s_skip (wk2 hE rfl rfl rfl hb2) rfl rfl hE ?_
        intro a hE
        refine s_skip (wk2 hE rfl rfl rfl hb2) rfl rfl hE ?_
        intro a hE
        refine s_val (wk0 rfl) rfl rfl hE hp (v := (.bool true)) (ex_pick1 rfl hE rfl hb2 rfl) ?_
        intro a hE
        have hE := hE.eqv (v' := (.bool ((decide (p2 < 1)) || (decide (20 < p2))))) (by rw [hb2]; rfl)
        exact s_nil ⟨hE.cut ⟨rfl, rfl, rfl, rfl, rfl, trivial⟩, hp⟩
      ·
        refine s_val (wk1 hE rfl rfl rfl hb2) rfl rfl hE hp (v := (.int .i64 p2)) (ex_move rfl hE rfl) ?_
        intro a hE
        refine s_val (wk1 hE rfl rfl rfl hb2) rfl rfl hE hp (v := (.bool (decide (20 < p2)))) (ex_gtr rfl hE rfl rfl) ?_
        intro a hE
        refine s_val (wk0 rfl) rfl rfl hE hp (v := (.bool (decide (20 < p2)))) (ex_pick0 rfl hE rfl hb2 rfl) ?_
        intro a hE
        have hE := hE.eqv (v' := (.bool ((decide (p2 < 1)) || (decide (20 < p2))))) (by rw [hb2]; rfl)
        exact s_nil ⟨hE.cut ⟨rfl, rfl, rfl, rfl, rfl, trivial⟩, hp⟩
    · rintro a w ⟨hE, hp⟩
      refine s_val (wk0 rfl) rfl rfl hE hp (v := (.bool ((decide (p2 < 1)) || (decide (20 < p2))))) (ex_move rfl hE rfl) ?_
      intro a hE
      obtain ⟨m1, hg1, hm⟩ := bnd hm
      refine s_cut [_, _, _, _, _] (fun a w => Env 114 [(29, (.bool m1)), (0, vp0), (1, vp1), (2, (.int .i64 p2)), (7, (.pointer (some ⟨b1, 0, none⟩)))] a ∧ Hp Z ρ (Pt b1 (.cells #[(.int .i64 p3)] 3 (0, 0)) :: L) w) ?_ ?_
      · rcases Bool.eq_false_or_eq_true ((decide (p2 < 1)) || (decide (20 < p2))) with hb3 | hb3
        ·
          replace hg1 := (it hb3).symm.trans hg1
          refine s_skip (wk2 hE rfl rfl rfl hb3) rfl rfl hE ?_
          intro a hE
          refine s_skip (wk2 hE rfl rfl rfl hb3) rfl rfl hE ?_
          intro a hE
          refine s_skip (wk2 hE rfl rfl rfl hb3) rfl rfl hE ?_
          intro a hE
          refine s_skip (wk2 hE rfl rfl rfl hb3) rfl rfl hE ?_
          intro a hE
          refine s_val (wk0 rfl) rfl rfl hE hp (v := (.bool true)) (ex_pick1 rfl hE rfl hb3 rfl) ?_
          intro a hE
          obtain rfl := Option.some.inj hg1
          exact s_nil ⟨hE.cut ⟨rfl, rfl, rfl, rfl, rfl, trivial⟩, hp⟩
        ·
          replace hg1 := (ie hb3).symm.trans hg1
          refine s_val (wk1 hE rfl rfl rfl hb3) rfl rfl hE hp (v := (.int .i64 p3)) (ex_load rfl hE rfl (fun w hw => run_ld1 varty3 (Hp.c 0 rfl 0 rfl w hw))) ?_
          intro a hE
          refine s_val (wk1 hE rfl rfl rfl hb3) rfl rfl hE hp (v := (.int .i64 p2)) (ex_move rfl hE rfl) ?_
          intro a hE
          obtain ⟨x2, ex2, hg1⟩ := bnd hg1
          refine s_val (wk1 hE rfl rfl rfl hb3) rfl rfl hE hp (v := (.int .i64 x2)) (ex_sub rfl hE rfl rfl (inK_some ex2)) ?_
          intro a hE
          refine s_val (wk1 hE rfl rfl rfl hb3) rfl rfl hE hp (v := (.bool (decide (p3 < x2)))) (ex_lss rfl hE rfl rfl) ?_
          intro a hE
          refine s_val (wk0 rfl) rfl rfl hE hp (v := (.bool (decide (p3 < x2)))) (ex_pick0 rfl hE rfl hb3 rfl) ?_
          intro a hE
          obtain rfl := Option.some.inj hg1
          exact s_nil ⟨hE.cut ⟨rfl, rfl, rfl, rfl, rfl, trivial⟩, hp⟩
      · rintro a w ⟨hE, hp⟩
        refine s_val (wk0 rfl) rfl rfl hE hp (v := (.bool m1)) (ex_move rfl hE rfl) ?_
        intro a hE
        refine s_cut [_, _, _, _] (fun a w => Env 114 [(34, (.bool (m1 || (decide (150 < (p0.length : Int)))))), (0, vp0), (1, vp1), (2, (.int .i64 p2)), (7, (.pointer (some ⟨b1, 0, none⟩)))] a ∧ Hp Z ρ (Pt b1 (.cells #[(.int .i64 p3)] 3 (0, 0)) :: L) w) ?_ ?_
        · rcases Bool.eq_false_or_eq_true m1 with hb4 | hb4
          ·
            refine s_skip (wk2 hE rfl rfl rfl hb4) rfl rfl hE ?_
            intro a hE
            refine s_skip (wk2 hE rfl rfl rfl hb4) rfl rfl hE ?_
            intro a hE
            refine s_skip (wk2 hE rfl rfl rfl hb4) rfl rfl hE ?_
            intro a hE
            refine s_val (wk0 rfl) rfl rfl hE hp (v := (.bool true)) (ex_pick1 rfl hE rfl hb4 rfl) ?_
            intro a hE
            have hE := hE.eqv (v' := (.bool (m1 || (decide (150 < (p0.length : Int)))))) (by rw [hb4]; rfl)
            exact s_nil ⟨hE.cut ⟨rfl, rfl, rfl, rfl, rfl, trivial⟩, hp⟩
          ·
            refine s_val (wk1 hE rfl rfl rfl hb4) rfl rfl hE hp (v := vp0) (ex_move rfl hE rfl) ?_
            intro a hE
            refine s_val (wk1 hE rfl rfl rfl hb4) rfl rfl hE hp (v := (.int .i64 (p0.length : Int))) (ex_len rfl hE rfl (RoSl.len hp0 slty25)) ?_
            intro a hE
            refine s_val (wk1 hE rfl rfl rfl hb4) rfl rfl hE hp (v := (.bool (decide (150 < (p0.length : Int))))) (ex_gtr rfl hE rfl rfl) ?_
            intro a hE
            refine s_val (wk0 rfl) rfl rfl hE hp (v := (.bool (decide (150 < (p0.length : Int))))) (ex_pick0 rfl hE rfl hb4 rfl) ?_
            intro a hE
            have hE := hE.eqv (v' := (.bool (m1 || (decide (150 < (p0.length : Int)))))) (by rw [hb4]; rfl)
            exact s_nil ⟨hE.cut ⟨rfl, rfl, rfl, rfl, rfl, trivial⟩, hp⟩
        · rintro a w ⟨hE, hp⟩
          refine s_val (wk0 rfl) rfl rfl hE hp (v := (.bool (m1 || (decide (150 < (p0.length : Int)))))) (ex_move rfl hE rfl) ?_
          intro a hE
          obtain ⟨m2, hg2, hm⟩ := bnd hm
          refine s_cut [_, _, _, _, _, _, _] (fun a w => Env 114 [(42, (.bool m2)), (0, vp0), (1, vp1), (2, (.int .i64 p2)), (7, (.pointer (some ⟨b1, 0, none⟩)))] a ∧ Hp Z ρ (Pt b1 (.cells #[(.int .i64 p3)] 3 (0, 0)) :: L) w) ?_ ?_
          · rcases Bool.eq_false_or_eq_true (m1 || (decide (150 < (p0.length : Int)))) with hb5 | hb5
            ·
              replace hg2 := (it hb5).symm.trans hg2
              refine s_skip (wk2 hE rfl rfl rfl hb5) rfl rfl hE ?_
              intro a hE
              refine s_skip (wk2 hE rfl rfl rfl hb5) rfl rfl hE ?_
              intro a hE
              refine s_skip (wk2 hE rfl rfl rfl hb5) rfl rfl hE ?_
              intro a hE
              refine s_skip (wk2 hE rfl rfl rfl hb5) rfl rfl hE ?_
              intro a hE
              refine s_skip (wk2 hE rfl rfl rfl hb5) rfl rfl hE ?_
              intro a hE
              refine s_skip (wk2 hE rfl rfl rfl hb5) rfl rfl hE ?_
              intro a hE
              refine s_val (wk0 rfl) rfl rfl hE hp (v := (.bool true)) (ex_pick1 rfl hE rfl hb5 rfl) ?_
              intro a hE
              obtain rfl := Option.some.inj hg2
              exact s_nil ⟨hE.cut ⟨rfl, rfl, rfl, rfl, rfl, trivial⟩, hp⟩
            ·
              replace hg2 := (ie hb5).symm.trans hg2
              refine s_val (wk1 hE rfl rfl rfl hb5) rfl rfl hE hp (v := (.int .i64 p3)) (ex_load rfl hE rfl (fun w hw => run_ld1 varty3 (Hp.c 0 rfl 0 rfl w hw))) ?_
              intro a hE
              refine s_val (wk1 hE rfl rfl rfl hb5) rfl rfl hE hp (v := vp0) (ex_move rfl hE rfl) ?_
              intro a hE
              refine s_val (wk1 hE rfl rfl rfl hb5) rfl rfl hE hp (v := (.int .i64 (p0.length : Int))) (ex_len rfl hE rfl (RoSl.len hp0 slty25)) ?_
              intro a hE
              refine s_val (wk1 hE rfl rfl rfl hb5) rfl rfl hE hp (v := (.int .i64 p2)) (ex_move rfl hE rfl) ?_
              intro a hE
              obtain ⟨x3, ex3, hg2⟩ := bnd hg2
              refine s_val (wk1 hE rfl rfl rfl hb5) rfl rfl hE hp (v := (.int .i64 x3)) (ex_sub rfl hE rfl rfl (inK_some ex3)) ?_
              intro a hE
              refine s_val (wk1 hE rfl rfl rfl hb5) rfl rfl hE hp (v := (.bool (decide (x3 < p3)))) (ex_gtr rfl hE rfl rfl) ?_
              intro a hE
              refine s_val (wk0 rfl) rfl rfl hE hp (v := (.bool (decide (x3 < p3)))) (ex_pick0 rfl hE rfl hb5 rfl) ?_
              intro a hE
              obtain rfl := Option.some.inj hg2
              exact s_nil ⟨hE.cut ⟨rfl, rfl, rfl, rfl, rfl, trivial⟩, hp⟩
          · rintro a w ⟨hE, hp⟩
            refine s_val (wk0 rfl) rfl rfl hE hp (v := (.bool m2)) (ex_move rfl hE rfl) ?_
            intro a hE
            refine s_cut [_, _, _, _] (fun a w => Env 114 [(47, (.bool (m2 || (decide (150 < (p1.length : Int)))))), (0, vp0), (1, vp1), (2, (.int .i64 p2)), (7, (.pointer (some ⟨b1, 0, none⟩)))] a ∧ Hp Z ρ (Pt b1 (.cells #[(.int .i64 p3)] 3 (0, 0)) :: L) w) ?_ ?_
            · rcases Bool.eq_false_or_eq_true m2 with hb6 | hb6
              ·
                refine s_skip (wk2 hE rfl rfl rfl hb6) rfl rfl hE ?_
                intro a hE
                refine s_skip (wk2 hE rfl rfl rfl hb6) rfl rfl hE ?_
                intro a hE
                refine s_skip (wk2 hE rfl rfl rfl hb6) rfl rfl hE ?_
                intro a hE
                refine s_val (wk0 rfl) rfl rfl hE hp (v := (.bool true)) (ex_pick1 rfl hE rfl hb6 rfl) ?_
                intro a hE
                have hE := hE.eqv (v' := (.bool (m2 || (decide (150 < (p1.length : Int)))))) (by rw [hb6]; rfl)
                exact s_nil ⟨hE.cut ⟨rfl, rfl, rfl, rfl, rfl, trivial⟩, hp⟩
              ·
                refine s_val (wk1 hE rfl rfl rfl hb6) rfl rfl hE hp (v := vp1) (ex_move rfl hE rfl) ?_
                intro a hE
                refine s_val (wk1 hE rfl rfl rfl hb6) rfl rfl hE hp (v := (.int .i64 (p1.length : Int))) (ex_len rfl hE rfl (RoSl.len hp1 slty25)) ?_
                intro a hE
                refine s_val (wk1 hE rfl rfl rfl hb6) rfl rfl hE hp (v := (.bool (decide (150 < (p1.length : Int))))) (ex_gtr rfl hE rfl rfl) ?_
                intro a hE
                refine s_val (wk0 rfl) rfl rfl hE hp (v := (.bool (decide (150 < (p1.length : Int))))) (ex_pick0 rfl hE rfl hb6 rfl) ?_
                intro a hE
                have hE := hE.eqv (v' := (.bool (m2 || (decide (150 < (p1.length : Int)))))) (by rw [hb6]; rfl)
                exact s_nil ⟨hE.cut ⟨rfl, rfl, rfl, rfl, rfl, trivial⟩, hp⟩
            · rintro a w ⟨hE, hp⟩
              refine s_nil ?_
              refine k_if hE rfl (fun hb7 => ?_) (fun hb7 => ?_)
              · replace hm := (it hb7).symm.trans hm
                refine k_seq ?_
                refine k_region ?_
                refine s_val (wk0 rfl) rfl rfl hE hp (v := (.bool true)) (ex_asn rfl hE rfl) ?_
                intro a hE
                refine s_nil ?_
                refine k_ret ?_
                obtain rfl := Option.some.inj hm
                exact ret1 hE rfl rfl ⟨_, rfl, rfl, (hp.drop)⟩
              · replace hm := (ie hb7).symm.trans hm
                refine k_skip ?_
                refine k_seq ?_
                refine k_region ?_
                refine s_lit (wk0 rfl) rfl rfl hE hp rfl [] trivial [] 3 (fun w => by simp [Instr.buildSlice, Instr.fill, Value.cells, go_sem]) ?_
                intro a w b2 hE hp
                have hp : Hp Z ρ (Pt b2 (.cells #[] 3 (0, 0)) :: Pt b1 (.cells #[(.int .i64 p3)] 3 (0, 0)) :: L) w := hp
                refine s_val (wk0 rfl) rfl rfl hE hp (v := vp0) (ex_move rfl hE rfl) ?_
                intro a hE
                have hp := (hp.get 0 rfl).imp (own_of_pt (l := (([] : List Int) : List Int)) (n := 0) rfl (by decide) rfl)
                have hp : Hp Z ρ (OwnSl 3 (.slice (some ⟨b2, 0, none⟩) 0 0) ([] : List Int) :: Pt b1 (.cells #[(.int .i64 p3)] 3 (0, 0)) :: L) w := hp
                obtain ⟨x4, ex4, hm⟩ := bnd hm
                refine s_apps (wk0 rfl) rfl rfl hE hp rfl slty25 rfl rfl 0 rfl rfl hp0 ex4 ?_
                intro v1 a w hE hp
                have hp : Hp Z ρ (OwnSl 3 v1 x4 :: Pt b1 (.cells #[(.int .i64 p3)] 3 (0, 0)) :: L) w := hp
                refine s_val (wk0 rfl) rfl rfl hE hp (v := v1) (ex_asn rfl hE rfl) ?_
                intro a hE
                refine s_nil ?_
                refine k_seq ?_
                refine k_seq ?_
                refine k_region ?_
                refine s_val (wk0 rfl) rfl rfl hE hp (v := v1) (ex_move rfl hE rfl) ?_
                intro a hE
                refine s_val (wk0 rfl) rfl rfl hE hp (v := (.int .i64 (x4.length : Int))) (ex_len rfl hE rfl (OwnSl.len hp 0 rfl slty25)) ?_
                intro a hE
                refine s_val (wk0 rfl) rfl rfl hE hp (v := (.int .i64 0)) (ex_move rfl hE rfl) ?_
                intro a hE
                refine s_nil ?_
                obtain ⟨b3, hb8, hm⟩ := bnd hm
                refine k_block (fun a w => ∃ w2 : Value, Env 114 [(0, vp0), (2, (.int .i64 p2)), (7, (.pointer (some ⟨b1, 0, none⟩))), (9, w2)] a ∧ Hp Z ρ (OwnSl 3 w2 b3 :: Pt b1 (.cells #[(.int .i64 p3)] 3 (0, 0)) :: L) w) ?_ ?_
                · refine k_loop hb8 (fun s a w => ∃ w2 : Value, Env 114 [(0, vp0), (1, vp1), (2, (.int .i64 p2)), (7, (.pointer (some ⟨b1, 0, none⟩))), (9, w2), (52, (.int .i64 (x4.length : Int))), (53, (.int .i64 s.1))] a ∧ Hp Z ρ (OwnSl 3 w2 s.2 :: Pt b1 (.cells #[(.int .i64 p3)] 3 (0, 0)) :: L) w) ?_ ?_
                  · exact ⟨_, hE.cut ⟨rfl, rfl, rfl, rfl, rfl, rfl, rfl, trivial⟩, hp⟩
                  · rintro ⟨lp1_0, lp1_1⟩ st a w ⟨w2, hE, hp⟩ hl1
                    have hE : Env 114 [(0, vp0), (1, vp1), (2, (.int .i64 p2)), (7, (.pointer (some ⟨b1, 0, none⟩))), (9, w2), (52, (.int .i64 (x4.length : Int))), (53, (.int .i64 lp1_0))] a := hE
                    have hp : Hp Z ρ (OwnSl 3 w2 lp1_1 :: Pt b1 (.cells #[(.int .i64 p3)] 3 (0, 0)) :: L) w := hp
                    replace hl1 : m_assessorlaw43_FingerprintLocal_lp1 p1 p2 p3 x4 lp1_0 lp1_1 = some st := hl1
                    unfold m_assessorlaw43_FingerprintLocal_lp1 at hl1
                    refine k_seq ?_
                    refine k_region ?_
                    refine s_val (wk0 rfl) rfl rfl hE hp (v := (.bool (decide (lp1_0 < (x4.length : Int))))) (ex_lss rfl hE rfl rfl) ?_
                    intro a hE
                    refine s_nil ?_
                    refine k_seq ?_
                    refine k_if hE rfl (fun hb9 => ?_) (fun hb9 => ?_)
                    · replace hl1 := (it hb9).symm.trans hl1
                      refine k_skip ?_
                      refine k_seq ?_
                      refine k_plain ?_
                      refine k_seq ?_
                      refine k_region ?_
                      refine s_val (wk0 rfl) rfl rfl hE hp (v := (.int .i64 lp1_0)) (ex_move rfl hE rfl) ?_
                      intro a hE
                      refine s_val (wk0 rfl) rfl rfl hE hp (v := (.int .i64 lp1_0)) (ex_asn rfl hE rfl) ?_
                      intro a hE
                      refine s_nil ?_
                      have hE := hE.cut (E' := [(0, vp0), (1, vp1), (2, (.int .i64 p2)), (7, (.pointer (some ⟨b1, 0, none⟩))), (9, w2), (10, (.int .i64 lp1_0)), (52, (.int .i64 (x4.length : Int))), (53, (.int .i64 lp1_0))]) ⟨rfl, rfl, rfl, rfl, rfl, rfl, rfl, rfl, trivial⟩
                      refine k_seq ?_
                      refine k_region ?_
                      refine s_val (wk0 rfl) rfl rfl hE hp (v := (.int .i64 lp1_0)) (ex_move rfl hE rfl) ?_
                      intro a hE
                      refine s_val (wk0 rfl) rfl rfl hE hp (v := (.int .i64 p3)) (ex_load rfl hE rfl (fun w hw => run_ld1 varty3 (Hp.c 1 rfl 0 rfl w hw))) ?_
                      intro a hE
                      refine s_val (wk0 rfl) rfl rfl hE hp (v := (.int .i64 p2)) (ex_move rfl hE rfl) ?_
                      intro a hE
                      obtain ⟨x5, ex5, hl1⟩ := bnd hl1
                      refine s_val (wk0 rfl) rfl rfl hE hp (v := (.int .i64 x5)) (ex_sub rfl hE rfl rfl (inK_some ex5)) ?_
                      intro a hE
                      obtain ⟨x6, ex6, hl1⟩ := bnd hl1
                      refine s_val (wk0 rfl) rfl rfl hE hp (v := (.int .i64 x6)) (ex_add rfl hE rfl rfl (inK_some ex6)) ?_
                      intro a hE
                      refine s_val (wk0 rfl) rfl rfl hE hp (v := (.bool (decide (lp1_0 < x6)))) (ex_lss rfl hE rfl rfl) ?_
                      intro a hE
                      refine s_val (wk0 rfl) rfl rfl hE hp (v := (.bool (decide (lp1_0 < x6)))) (ex_move rfl hE rfl) ?_
                      intro a hE
                      obtain ⟨m3, hg3, hl1⟩ := bnd hl1
                      refine s_cut [_, _, _, _, _, _, _] (fun a w => Env 114 [(69, (.bool m3)), (0, vp0), (1, vp1), (2, (.int .i64 p2)), (7, (.pointer (some ⟨b1, 0, none⟩))), (9, w2), (10, (.int .i64 lp1_0)), (52, (.int .i64 (x4.length : Int))), (53, (.int .i64 lp1_0))] a ∧ Hp Z ρ (OwnSl 3 w2 lp1_1 :: Pt b1 (.cells #[(.int .i64 p3)] 3 (0, 0)) :: L) w) ?_ ?_
                      · rcases Bool.eq_false_or_eq_true (decide (lp1_0 < x6)) with hb10 | hb10
                        ·
                          replace hg3 := (it hb10).symm.trans hg3
                          refine s_skip (wk2 hE rfl rfl rfl hb10) rfl rfl hE ?_
                          intro a hE
                          refine s_skip (wk2 hE rfl rfl rfl hb10) rfl rfl hE ?_
                          intro a hE
                          refine s_skip (wk2 hE rfl rfl rfl hb10) rfl rfl hE ?_
                          intro a hE
                          refine s_skip (wk2 hE rfl rfl rfl hb10) rfl rfl hE ?_
                          intro a hE
                          refine s_skip (wk2 hE rfl rfl rfl hb10) rfl rfl hE ?_
                          intro a hE
                          refine s_skip (wk2 hE rfl rfl rfl hb10) rfl rfl hE ?_
                          intro a hE
                          refine s_val (wk0 rfl) rfl rfl hE hp (v := (.bool true)) (ex_pick1 rfl hE rfl hb10 rfl) ?_
                          intro a hE
                          obtain rfl := Option.some.inj hg3
                          exact s_nil ⟨hE.cut ⟨rfl, rfl, rfl, rfl, rfl, rfl, rfl, rfl, rfl, trivial⟩, hp⟩
                        ·
                          replace hg3 := (ie hb10).symm.trans hg3
                          refine s_val (wk1 hE rfl rfl rfl hb10) rfl rfl hE hp (v := (.int .i64 lp1_0)) (ex_move rfl hE rfl) ?_
                          intro a hE
                          refine s_val (wk1 hE rfl rfl rfl hb10) rfl rfl hE hp (v := (.int .i64 p3)) (ex_load rfl hE rfl (fun w hw => run_ld1 varty3 (Hp.c 1 rfl 0 rfl w hw))) ?_
                          intro a hE
                          refine s_val (wk1 hE rfl rfl rfl hb10) rfl rfl hE hp (v := (.int .i64 p2)) (ex_move rfl hE rfl) ?_
                          intro a hE
                          obtain ⟨x7, ex7, hg3⟩ := bnd hg3
                          refine s_val (wk1 hE rfl rfl rfl hb10) rfl rfl hE hp (v := (.int .i64 x7)) (ex_add rfl hE rfl rfl (inK_some ex7)) ?_
                          intro a hE
                          obtain ⟨x8, ex8, hg3⟩ := bnd hg3
                          refine s_val (wk1 hE rfl rfl rfl hb10) rfl rfl hE hp (v := (.int .i64 x8)) (ex_sub rfl hE rfl rfl (inK_some ex8)) ?_
                          intro a hE
                          refine s_val (wk1 hE rfl rfl rfl hb10) rfl rfl hE hp (v := (.bool (decide (x8 < lp1_0)))) (ex_gtr rfl hE rfl rfl) ?_
                          intro a hE
                          refine s_val (wk0 rfl) rfl rfl hE hp (v := (.bool (decide (x8 < lp1_0)))) (ex_pick0 rfl hE rfl hb10 rfl) ?_
                          intro a hE
                          obtain rfl := Option.some.inj hg3
                          exact s_nil ⟨hE.cut ⟨rfl, rfl, rfl, rfl, rfl, rfl, rfl, rfl, rfl, trivial⟩, hp⟩
                      · rintro a w ⟨hE, hp⟩
                        refine s_val (wk0 rfl) rfl rfl hE hp (v := (.bool m3)) (ex_move rfl hE rfl) ?_
                        intro a hE
                        refine s_cut [_, _, _, _] (fun a w => Env 114 [(74, (.bool (m3 && (decide (0 < (p1.length : Int)))))), (0, vp0), (1, vp1), (2, (.int .i64 p2)), (7, (.pointer (some ⟨b1, 0, none⟩))), (9, w2), (10, (.int .i64 lp1_0)), (52, (.int .i64 (x4.length : Int))), (53, (.int .i64 lp1_0))] a ∧ Hp Z ρ (OwnSl 3 w2 lp1_1 :: Pt b1 (.cells #[(.int .i64 p3)] 3 (0, 0)) :: L) w) ?_ ?_
                        · rcases Bool.eq_false_or_eq_true m3 with hb11 | hb11
                          ·
                            refine s_val (wk1 hE rfl rfl rfl hb11) rfl rfl hE hp (v := vp1) (ex_move rfl hE rfl) ?_
                            intro a hE
                            refine s_val (wk1 hE rfl rfl rfl hb11) rfl rfl hE hp (v := (.int .i64 (p1.length : Int))) (ex_len rfl hE rfl (RoSl.len hp1 slty25)) ?_
                            intro a hE
                            refine s_val (wk1 hE rfl rfl rfl hb11) rfl rfl hE hp (v := (.bool (decide (0 < (p1.length : Int))))) (ex_gtr rfl hE rfl rfl) ?_
                            intro a hE
                            refine s_val (wk0 rfl) rfl rfl hE hp (v := (.bool (decide (0 < (p1.length : Int))))) (ex_pick1 rfl hE rfl hb11 rfl) ?_
                            intro a hE
                            have hE := hE.eqv (v' := (.bool (m3 && (decide (0 < (p1.length : Int)))))) (by rw [hb11]; rfl)
                            exact s_nil ⟨hE.cut ⟨rfl, rfl, rfl, rfl, rfl, rfl, rfl, rfl, rfl, trivial⟩, hp⟩
                          ·
                            refine s_skip (wk2 hE rfl rfl rfl hb11) rfl rfl hE ?_
                            intro a hE
                            refine s_skip (wk2 hE rfl rfl rfl hb11) rfl rfl hE ?_
                            intro a hE
                            refine s_skip (wk2 hE rfl rfl rfl hb11) rfl rfl hE ?_
                            intro a hE
                            refine s_val (wk0 rfl) rfl rfl hE hp (v := (.bool false)) (ex_pick0 rfl hE rfl hb11 rfl) ?_
                            intro a hE
                            have hE := hE.eqv (v' := (.bool (m3 && (decide (0 < (p1.length : Int)))))) (by rw [hb11]; rfl)
                            exact s_nil ⟨hE.cut ⟨rfl, rfl, rfl, rfl, rfl, rfl, rfl, rfl, rfl, trivial⟩, hp⟩
                        · rintro a w ⟨hE, hp⟩
                          refine s_nil ?_
                          refine k_if hE rfl (fun hb12 => ?_) (fun hb12 => ?_)
                          · replace hl1 := (it hb12).symm.trans hl1
                            refine k_region ?_
                            refine s_val (wk0 rfl) rfl rfl hE hp (v := w2) (ex_move rfl hE rfl) ?_
                            intro a hE
                            refine s_val (wk0 rfl) rfl rfl hE hp (v := (.int .i64 lp1_0)) (ex_move rfl hE rfl) ?_
                            intro a hE
                            refine s_val (wk0 rfl) rfl rfl hE hp (v := vp1) (ex_move rfl hE rfl) ?_
                            intro a hE
                            refine s_val (wk0 rfl) rfl rfl hE hp (v := (.int .i64 lp1_0)) (ex_move rfl hE rfl) ?_
                            intro a hE
                            refine s_val (wk0 rfl) rfl rfl hE hp (v := vp1) (ex_move rfl hE rfl) ?_
                            intro a hE
                            refine s_val (wk0 rfl) rfl rfl hE hp (v := (.int .i64 (p1.length : Int))) (ex_len rfl hE rfl (RoSl.len hp1 slty25)) ?_
                            intro a hE
                            obtain ⟨x9, ex9, hl1⟩ := bnd hl1
                            refine s_val (wk0 rfl) rfl rfl hE hp (v := (.int .i64 x9)) (ex_rem rfl hE rfl rfl (remK_some ex9).1 (remK_some ex9).2) ?_
                            intro a hE
                            obtain ⟨x10, ex10, hl1⟩ := bnd hl1
                            obtain ⟨b4, b4o, b4c, b4r, b4k, b4f⟩ := RoSl.at hp1 slty25 ex10
                            obtain rfl : b4c = Enc.enc x10 := b4k
                            have b4f : AtP ρ b4 b4o [(.int .i64 x10)] := b4f
                            refine s_val (wk0 rfl) rfl rfl hE hp (v := (.pointer (some ⟨b4, b4o, none⟩))) (ex_index rfl hE rfl rfl b4r) ?_
                            intro a hE
                            refine s_val (wk0 rfl) rfl rfl hE hp (v := (.int .i64 x10)) (ex_load rfl hE rfl (fun w hw => run_ld1 varty3 (b4f.c 0 rfl w hw))) ?_
                            intro a hE
                            obtain ⟨x11, ex11, hl1⟩ := bnd hl1
                            obtain ⟨b5, b5o, b5r, b5v, b5f⟩ := OwnSl.at hp 0 rfl slty25 ex11
                            have b5f : ∀ (j : Nat) (u : Value), ([(.int .i64 x11)] : List Value)[j]? = some u → ∀ w, Hp Z ρ (OwnSl 3 w2 lp1_1 :: Pt b1 (.cells #[(.int .i64 p3)] 3 (0, 0)) :: L) w → w.cell? ⟨b5, b5o + j, none⟩ = some u := b5f
                            refine s_val (wk0 rfl) rfl rfl hE hp (v := (.pointer (some ⟨b5, b5o, none⟩))) (ex_index rfl hE rfl rfl b5r) ?_
                            intro a hE
                            refine s_stel (wk0 rfl) rfl hE hp rfl rfl rfl 0 rfl ex11 b5v 0 (e' := x10) varty3.size_ rfl rfl rfl ⟨rfl, rfl⟩ ?_
                            intro w hp
                            have hp : Hp Z ρ (OwnSl 3 w2 (lp1_1.set lp1_0.toNat x10) :: Pt b1 (.cells #[(.int .i64 p3)] 3 (0, 0)) :: L) w := hp
                            refine s_nil ?_
                            refine k_region ?_
                            obtain ⟨x12, ex12, hl1⟩ := bnd hl1
                            refine s_val (wk0 rfl) rfl rfl hE hp (v := (.int .i64 x12)) (ex_add rfl hE rfl rfl (inK_some ex12)) ?_
                            intro a hE
                            refine s_val (wk0 rfl) rfl rfl hE hp (v := (.int .i64 x12)) (ex_move rfl hE rfl) ?_
                            intro a hE
                            refine s_nil ?_
                            exact ⟨_, (Option.some.inj hl1).symm, _, hE.cut ⟨rfl, rfl, rfl, rfl, rfl, rfl, rfl, trivial⟩, hp⟩
                          · replace hl1 := (ie hb12).symm.trans hl1
                            refine k_skip ?_
                            refine k_region ?_
                            obtain ⟨x13, ex13, hl1⟩ := bnd hl1
                            refine s_val (wk0 rfl) rfl rfl hE hp (v := (.int .i64 x13)) (ex_add rfl hE rfl rfl (inK_some ex13)) ?_
                            intro a hE
                            refine s_val (wk0 rfl) rfl rfl hE hp (v := (.int .i64 x13)) (ex_move rfl hE rfl) ?_
                            intro a hE
                            refine s_nil ?_
                            exact ⟨_, (Option.some.inj hl1).symm, _, hE.cut ⟨rfl, rfl, rfl, rfl, rfl, rfl, rfl, trivial⟩, hp⟩
                    · replace hl1 := (ie hb9).symm.trans hl1
                      refine k_exit ?_
                      refine ⟨_, (Option.some.inj hl1).symm, fun hbb => ?_⟩
                      subst hbb
                      exact ⟨_, hE.cut ⟨rfl, rfl, rfl, rfl, trivial⟩, hp⟩
                · rintro a w ⟨w2, hE, hp⟩
                  refine k_seq ?_
                  refine k_region ?_
                  refine s_val (wk0 rfl) rfl rfl hE hp (v := vp0) (ex_move rfl hE rfl) ?_
                  intro a hE
                  refine s_val (wk0 rfl) rfl rfl hE hp (v := (.int .i64 p2)) (ex_move rfl hE rfl) ?_
                  intro a hE
                  obtain ⟨x14, ex14, hm⟩ := bnd hm
                  refine s_call (wk0 rfl) rfl rfl hE rfl [vp0, (.int .i64 p2)] ⟨rfl, rfl, trivial⟩ ent24 (c_fingerprint_Winnow hT p0 vp0 hp0 p2 hp x14 ex14) Ret.ret ?_
                  intro v a w hR hE
                  obtain ⟨v2, rfl, hp⟩ := Ret.of hR
                  have hp : Hp Z ρ (OwnSl 48 v2 x14.1 :: OwnSl 3 w2 b3 :: Pt b1 (.cells #[(.int .i64 p3)] 3 (0, 0)) :: L) w := hp
                  refine s_val (wk0 rfl) rfl rfl hE hp (v := (.tuple #[v2, (.int .i64 x14.2)])) (ex_move rfl hE rfl) ?_
                  intro a hE
                  refine s_val (wk0 rfl) rfl rfl hE hp (v := v2) (ex_extract rfl hE rfl rfl) ?_
                  intro a hE
                  refine s_val (wk0 rfl) rfl rfl hE hp (v := (.int .i64 x14.2)) (ex_extract rfl hE rfl rfl) ?_
                  intro a hE
                  refine s_val (wk0 rfl) rfl rfl hE hp (v := v2) (ex_asn rfl hE rfl) ?_
                  intro a hE
                  refine s_val (wk0 rfl) rfl rfl hE hp (v := (.int .i64 x14.2)) (ex_asn rfl hE rfl) ?_
                  intro a hE
                  refine s_nil ?_
                  have hE := hE.cut (E' := [(2, (.int .i64 p2)), (7, (.pointer (some ⟨b1, 0, none⟩))), (9, w2), (11, v2), (12, (.int .i64 x14.2))]) ⟨rfl, rfl, rfl, rfl, rfl, trivial⟩
                  refine k_seq ?_
                  refine k_region ?_
                  refine s_val (wk0 rfl) rfl rfl hE hp (v := w2) (ex_move rfl hE rfl) ?_
                  intro a hE
                  refine s_val (wk0 rfl) rfl rfl hE hp (v := (.int .i64 p2)) (ex_move rfl hE rfl) ?_
                  intro a hE
                  obtain ⟨k1, k1a, k1d, k1h⟩ := (hp.get 1 rfl).lend
                  obtain ⟨x15, ex15, hm⟩ := bnd hm
                  refine s_call (wk0 rfl) rfl rfl hE rfl [w2, (.int .i64 p2)] ⟨rfl, rfl, trivial⟩ ent24 (c_fingerprint_Winnow (Tabs.mono hT (PH.le_un _ _)) b3 w2 (OwnSl.ro k1d k1a) p2 k1h x15 ex15) Ret.ret ?_
                  intro v a w hR hE
                  obtain ⟨v3, rfl, hp⟩ := Ret.of hR
                  have hp := Hp.back k1a k1d hp
                  have hp : Hp Z ρ (OwnSl 3 w2 b3 :: OwnSl 48 v3 x15.1 :: OwnSl 48 v2 x14.1 :: Pt b1 (.cells #[(.int .i64 p3)] 3 (0, 0)) :: L) w := hp
                  have hp : Hp Z ρ (OwnSl 3 w2 b3 :: OwnSl 48 v3 x15.1 :: OwnSl 48 v2 x14.1 :: Pt b1 (.cells #[(.int .i64 p3)] 3 (0, 0)) :: L) w := hp
                  refine s_val (wk0 rfl) rfl rfl hE hp (v := (.tuple #[v3, (.int .i64 x15.2)])) (ex_move rfl hE rfl) ?_
                  intro a hE
                  refine s_val (wk0 rfl) rfl rfl hE hp (v := v3) (ex_extract rfl hE rfl rfl) ?_
                  intro a hE
                  refine s_val (wk0 rfl) rfl rfl hE hp (v := (.int .i64 x15.2)) (ex_extract rfl hE rfl rfl) ?_
                  intro a hE
                  refine s_val (wk0 rfl) rfl rfl hE hp (v := v3) (ex_asn rfl hE rfl) ?_
                  intro a hE
                  refine s_val (wk0 rfl) rfl rfl hE hp (v := (.int .i64 x15.2)) (ex_asn rfl hE rfl) ?_
                  intro a hE
                  refine s_nil ?_
                  refine k_seq ?_
                  refine k_region ?_
                  refine s_val (wk0 rfl) rfl rfl hE hp (v := (.func (.func 29) #[] #[(.pointer (some ⟨b1, 0, none⟩))])) (ex_fn rfl hE [(.pointer (some ⟨b1, 0, none⟩))] (by exact ⟨rfl, trivial⟩)) ?_
                  intro a hE
                  refine s_val (wk0 rfl) rfl rfl hE hp (v := (.func (.func 29) #[] #[(.pointer (some ⟨b1, 0, none⟩))])) (ex_asn rfl hE rfl) ?_
                  intro a hE
                  refine s_nil ?_
                  refine k_seq ?_
                  refine k_region ?_
                  refine s_val (wk0 rfl) rfl rfl hE hp (v := (.int .i64 x14.2)) (ex_move rfl hE rfl) ?_
                  intro a hE
                  refine s_val (wk0 rfl) rfl rfl hE hp (v := (.bool (decide (x14.2 = 0)))) (ex_eql rfl hE rfl rfl) ?_
                  intro a hE
                  refine s_val (wk0 rfl) rfl rfl hE hp (v := (.bool (decide (x14.2 = 0)))) (ex_move rfl hE rfl) ?_
                  intro a hE
                  refine s_cut [_, _, _] (fun a w => Env 114 [(104, (.bool ((decide (x14.2 = 0)) && (decide (x15.2 = 0))))), (11, v2), (13, v3), (15, (.func (.func 29) #[] #[(.pointer (some ⟨b1, 0, none⟩))]))] a ∧ Hp Z ρ (OwnSl 3 w2 b3 :: OwnSl 48 v3 x15.1 :: OwnSl 48 v2 x14.1 :: Pt b1 (.cells #[(.int .i64 p3)] 3 (0, 0)) :: L) w) ?_ ?_
                  · rcases Bool.eq_false_or_eq_true (decide (x14.2 = 0)) with hb13 | hb13
                    ·
                      refine s_val (wk1 hE rfl rfl rfl hb13) rfl rfl hE hp (v := (.int .i64 x15.2)) (ex_move rfl hE rfl) ?_
                      intro a hE
                      refine s_val (wk1 hE rfl rfl rfl hb13) rfl rfl hE hp (v := (.bool (decide (x15.2 = 0)))) (ex_eql rfl hE rfl rfl) ?_
                      intro a hE
                      refine s_val (wk0 rfl) rfl rfl hE hp (v := (.bool (decide (x15.2 = 0)))) (ex_pick1 rfl hE rfl hb13 rfl) ?_
                      intro a hE
                      have hE := hE.eqv (v' := (.bool ((decide (x14.2 = 0)) && (decide (x15.2 = 0))))) (by rw [hb13]; rfl)
                      exact s_nil ⟨hE.cut ⟨rfl, rfl, rfl, rfl, trivial⟩, hp⟩
                    ·
                      refine s_skip (wk2 hE rfl rfl rfl hb13) rfl rfl hE ?_
                      intro a hE
                      refine s_skip (wk2 hE rfl rfl rfl hb13) rfl rfl hE ?_
                      intro a hE
                      refine s_val (wk0 rfl) rfl rfl hE hp (v := (.bool false)) (ex_pick0 rfl hE rfl hb13 rfl) ?_
                      intro a hE
                      have hE := hE.eqv (v' := (.bool ((decide (x14.2 = 0)) && (decide (x15.2 = 0))))) (by rw [hb13]; rfl)
                      exact s_nil ⟨hE.cut ⟨rfl, rfl, rfl, rfl, trivial⟩, hp⟩
                  · rintro a w ⟨hE, hp⟩
                    refine s_val (wk0 rfl) rfl rfl hE hp (v := (.bool ((decide (x14.2 = 0)) && (decide (x15.2 = 0))))) (ex_move rfl hE rfl) ?_
                    intro a hE
                    obtain ⟨m4, hg4, hm⟩ := bnd hm
                    refine s_cut [_, _, _, _, _, _, _, _] (fun a w => Env 114 [(113, (.bool m4))] a ∧ Hp Z ρ (OwnSl 3 w2 b3 :: OwnSl 48 v3 x15.1 :: OwnSl 48 v2 x14.1 :: Pt b1 (.cells #[(.int .i64 p3)] 3 (0, 0)) :: L) w) ?_ ?_
                    · rcases Bool.eq_false_or_eq_true ((decide (x14.2 = 0)) && (decide (x15.2 = 0))) with hb14 | hb14
                      ·
                        replace hg4 := (it hb14).symm.trans hg4
                        refine s_val (wk1 hE rfl rfl rfl hb14) rfl rfl hE hp (v := (.func (.func 29) #[] #[(.pointer (some ⟨b1, 0, none⟩))])) (ex_move rfl hE rfl) ?_
                        intro a hE
                        refine s_val (wk1 hE rfl rfl rfl hb14) rfl rfl hE hp (v := v2) (ex_move rfl hE rfl) ?_
                        intro a hE
                        obtain ⟨k2, k2a, k2d, k2h⟩ := (hp.get 2 rfl).lend
                        obtain ⟨x16, ex16, hg4⟩ := bnd hg4
                        refine s_callv (wk1 hE rfl rfl rfl hb14) rfl rfl hE rfl rfl [v2] ⟨rfl, trivial⟩ ent29 (c_assessorlaw43_FingerprintLocal_1 (Tabs.mono hT (PH.le_un _ _)) x14.1 v2 (OwnSl.ro k2d k2a) b1 p3 (k2h.get 2 rfl) x16 ex16) Ret.ret ?_
                        intro v a w hR hE
                        obtain ⟨rfl, hp⟩ := Ret.of hR
                        have hp := Hp.back k2a k2d hp
                        have hp : Hp Z ρ (OwnSl 48 v2 x14.1 :: Pt b1 (.cells #[(.int .i64 p3)] 3 (0, 0)) :: OwnSl 3 w2 b3 :: OwnSl 48 v3 x15.1 :: L) w := hp
                        have hp : Hp Z ρ (OwnSl 48 v2 x14.1 :: Pt b1 (.cells #[(.int .i64 p3)] 3 (0, 0)) :: OwnSl 3 w2 b3 :: OwnSl 48 v3 x15.1 :: L) w := hp
                        refine s_val (wk1 hE rfl rfl rfl hb14) rfl rfl hE hp (v := (.func (.func 29) #[] #[(.pointer (some ⟨b1, 0, none⟩))])) (ex_move rfl hE rfl) ?_
                        intro a hE
                        refine s_val (wk1 hE rfl rfl rfl hb14) rfl rfl hE hp (v := v3) (ex_move rfl hE rfl) ?_
                        intro a hE
                        obtain ⟨k3, k3a, k3d, k3h⟩ := (hp.get 3 rfl).lend
                        obtain ⟨x17, ex17, hg4⟩ := bnd hg4
                        refine s_callv (wk1 hE rfl rfl rfl hb14) rfl rfl hE rfl rfl [v3] ⟨rfl, trivial⟩ ent29 (c_assessorlaw43_FingerprintLocal_1 (Tabs.mono hT (PH.le_un _ _)) x15.1 v3 (OwnSl.ro k3d k3a) b1 p3 (k3h.get 1 rfl) x17 ex17) Ret.ret ?_
                        intro v a w hR hE
                        obtain ⟨rfl, hp⟩ := Ret.of hR
                        have hp := Hp.back k3a k3d hp
                        have hp : Hp Z ρ (OwnSl 48 v3 x15.1 :: Pt b1 (.cells #[(.int .i64 p3)] 3 (0, 0)) :: OwnSl 48 v2 x14.1 :: OwnSl 3 w2 b3 :: L) w := hp
                        have hp : Hp Z ρ (OwnSl 48 v3 x15.1 :: Pt b1 (.cells #[(.int .i64 p3)] 3 (0, 0)) :: OwnSl 48 v2 x14.1 :: OwnSl 3 w2 b3 :: L) w := hp
                        refine s_val (wk1 hE rfl rfl rfl hb14) rfl rfl hE hp (v := (.bool (x16 == x17))) (ex_beql bty4 rfl hE rfl rfl) ?_
                        intro a hE
                        refine s_val (wk0 rfl) rfl rfl hE hp (v := (.bool (x16 == x17))) (ex_pick1 rfl hE rfl hb14 rfl) ?_
                        intro a hE
                        obtain rfl := Option.some.inj hg4
                        exact s_nil ⟨hE.cut ⟨rfl, trivial⟩, ((((hp.get 1 rfl).get 2 rfl).get 2 rfl).get 3 rfl)⟩
                      ·
                        replace hg4 := (ie hb14).symm.trans hg4
                        refine s_skip (wk2 hE rfl rfl rfl hb14) rfl rfl hE ?_
                        intro a hE
                        refine s_skip (wk2 hE rfl rfl rfl hb14) rfl rfl hE ?_
                        intro a hE
                        refine s_skip (wk2 hE rfl rfl rfl hb14) rfl rfl hE ?_
                        intro a hE
                        refine s_skip (wk2 hE rfl rfl rfl hb14) rfl rfl hE ?_
                        intro a hE
                        refine s_skip (wk2 hE rfl rfl rfl hb14) rfl rfl hE ?_
                        intro a hE
                        refine s_skip (wk2 hE rfl rfl rfl hb14) rfl rfl hE ?_
                        intro a hE
                        refine s_skip (wk2 hE rfl rfl rfl hb14) rfl rfl hE ?_
                        intro a hE
                        refine s_val (wk0 rfl) rfl rfl hE hp (v := (.bool false)) (ex_pick0 rfl hE rfl hb14 rfl) ?_
                        intro a hE
                        obtain rfl := Option.some.inj hg4
                        exact s_nil ⟨hE.cut ⟨rfl, trivial⟩, hp⟩
                    · rintro a w ⟨hE, hp⟩
                      refine s_val (wk0 rfl) rfl rfl hE hp (v := (.bool m4)) (ex_asn rfl hE rfl) ?_
                      intro a hE
                      refine s_nil ?_
                      refine k_ret ?_
                      obtain rfl := Option.some.inj hm
                      exact ret1 hE rfl rfl ⟨_, rfl, rfl, (((((((hp.get 3 rfl).drop).get 2 rfl).drop).get 1 rfl).drop).drop)⟩
end Go.Proofs.YtlnhijgieblmgaaDoor

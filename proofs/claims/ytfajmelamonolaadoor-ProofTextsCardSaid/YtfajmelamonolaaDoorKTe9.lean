/- The code goes as its model: assessor/assessorref26.Decimal, assessor/assessorref26.integer, assessor/assessorref26.Line, assessor/assessorref26.ReadLine. (Print -/
import Derived.Test.YtfajmelamonolaaDoorKTe4
import Derived.Test.YtfajmelamonolaaDoorKTe5
import Derived.Test.YtfajmelamonolaaDoorKTe8
set_option linter.unusedVariables false
set_option linter.unusedSimpArgs false
namespace Go.Proofs.YtfajmelamonolaaDoor
open Go.RowKit
set_option maxRecDepth 100000 in
set_option maxHeartbeats 4000000 in
theorem c_assessorref26_Decimal_body (self : Int → Option ByteArray) (hself : ∀ {Z : World} {ρ : PH} {L : List Atom} {w : World} (hT : Tabs ρ) (p0 : Int) (hp : Hp Z ρ (L) w) (r : ByteArray) (hm : self p0 = some r), Calls Tryd.prog 67 #[(.int .i64 p0)] w (Ret fun v w' => v = (.string r) ∧ Hp Z ρ (L) w')) {Z : World} {ρ : PH} {L : List Atom} {w : World} (hT : Tabs ρ) (p0 : Int) (hp : Hp Z ρ (L) w) (r : ByteArray) (hm : m_assessorref26_Decimal_body self p0 = some r) :
    Calls Tryd.prog 67 #[(.int .i64 p0)] w (Ret fun v w' => v = (.string r) ∧ Hp Z ρ (L) w') := by
  refine enter (N := 35) Tryd.func67 rfl rfl [(0, (.int .i64 p0))] rfl (argsIn_mem ⟨rfl, trivial⟩) fun a hE => ?_
  unfold m_assessorref26_Decimal_body at hm
  refine k_seq ?_
  refine k_region ?_
  refine s_val (wk0 rfl) rfl rfl hE hp (v := (.string (ByteArray.mk #[]))) (ex_asn rfl hE rfl) ?_
  intro a hE
  refine s_nil ?_
  refine k_seq ?_
  refine k_region ?_
  refine s_val (wk0 rfl) rfl rfl hE hp (v := (.int .i64 p0)) (ex_move rfl hE rfl) ?_
  intro a hE
  obtain ⟨x1, ex1, hm⟩ := bnd hm
  refine s_val (wk0 rfl) rfl rfl hE hp (v := (.int .i64 x1)) (ex_rem rfl hE rfl rfl (remK_some ex1).1 (remK_some ex1).2) ?_
  intro a hE
  refine s_val (wk0 rfl) rfl rfl hE hp (v := (.int .i64 x1)) (ex_asn rfl hE rfl) ?_
  intro a hE
  refine s_nil ?_
  refine k_seq ?_
  refine k_seq ?_
  refine k_region ?_
  refine s_val (wk0 rfl) rfl rfl hE hp (v := (.int .i64 p0)) (ex_move rfl hE rfl) ?_
  intro a hE
  refine s_val (wk0 rfl) rfl rfl hE hp (v := (.bool (decide (p0 < 0)))) (ex_lss rfl hE rfl rfl) ?_
  intro a hE
  refine s_nil ?_
  obtain ⟨j1, hj1, hm⟩ := bnd hm
  refine k_cut (fun a w => Env 35 [(0, (.int .i64 p0)), (3, (.int .i64 j1))] a ∧ Hp Z ρ (L) w) ?_ ?_
  ·
    refine k_if hE rfl (fun hc1 => ?_) (fun hc1 => ?_)
    · replace hj1 := (it hc1).symm.trans hj1
      refine k_region ?_
      refine s_val (wk0 rfl) rfl rfl hE hp (v := (.int .i64 x1)) (ex_move rfl hE rfl) ?_
      intro a hE
      obtain ⟨x2, ex2, hj1⟩ := bnd hj1
      refine s_val (wk0 rfl) rfl rfl hE hp (v := (.int .i64 x2)) (ex_neg rfl hE rfl (inK_some ex2)) ?_
      intro a hE
      refine s_val (wk0 rfl) rfl rfl hE hp (v := (.int .i64 x2)) (ex_asn rfl hE rfl) ?_
      intro a hE
      refine s_nil ?_
      obtain rfl := Option.some.inj hj1
      exact ⟨hE.cut ⟨rfl, rfl, trivial⟩, hp⟩
    · replace hj1 := (ie hc1).symm.trans hj1
      refine k_skip ?_
      obtain rfl := Option.some.inj hj1
      exact ⟨hE.cut ⟨rfl, rfl, trivial⟩, hp⟩
  · rintro a w ⟨hE, hp⟩
    refine k_seq ?_
    refine k_region ?_
    refine s_val (wk0 rfl) rfl rfl hE hp (v := (.int .i64 j1)) (ex_move rfl hE rfl) ?_
    intro a hE
    refine s_val (wk0 rfl) rfl rfl hE hp (v := (.int .i64 j1)) (ex_move rfl hE rfl) ?_
    intro a hE
    obtain ⟨x3, ex3, hm⟩ := bnd hm
    refine s_val (wk0 rfl) rfl rfl hE hp (v := (.int .i64 x3)) (ex_add rfl hE rfl rfl (inK_some ex3)) ?_
    intro a hE
    obtain ⟨x4, ex4, hm⟩ := bnd hm
    refine s_val (wk0 rfl) rfl rfl hE hp (v := (.string x4)) (ex_sl rfl hE rfl (some (.i64, j1)) (some (.i64, x3)) (by exact rfl) (by exact rfl) (run_ssub sty9 (some (.i64, j1)) (some (.i64, x3)) rfl rfl ex4)) ?_
    intro a hE
    refine s_val (wk0 rfl) rfl rfl hE hp (v := (.string x4)) (ex_asn rfl hE rfl) ?_
    intro a hE
    refine s_nil ?_
    refine k_seq ?_
    refine k_seq ?_
    refine k_region ?_
    refine s_val (wk0 rfl) rfl rfl hE hp (v := (.int .i64 p0)) (ex_move rfl hE rfl) ?_
    intro a hE
    refine s_val (wk0 rfl) rfl rfl hE hp (v := (.bool (decide (p0 < 0)))) (ex_lss rfl hE rfl rfl) ?_
    intro a hE
    refine s_val (wk0 rfl) rfl rfl hE hp (v := (.bool (decide (p0 < 0)))) (ex_move rfl hE rfl) ?_
    intro a hE
    refine s_cut [_, _, _] (fun a w => Env 35 [(20, (.bool ((decide (p0 < 0)) && (decide ((-10) < p0))))), (0, (.int .i64 p0)), (4, (.string x4))] a ∧ Hp Z ρ (L) w) ?_ ?_
    · rcases Bool.eq_false_or_eq_true (decide (p0 < 0)) with hc2 | hc2
      ·
        refine s_val (wk1 hE rfl rfl rfl hc2) rfl rfl hE hp (v := (.int .i64 p0)) (ex_move rfl hE rfl) ?_
        intro a hE
        refine s_val (wk1 hE rfl rfl rfl hc2) rfl rfl hE hp (v := (.bool (decide ((-10) < p0)))) (ex_gtr rfl hE rfl rfl) ?_
        intro a hE
        refine s_val (wk0 rfl) rfl rfl hE hp (v := (.bool (decide ((-10) < p0)))) (ex_pick1 rfl hE rfl hc2 rfl) ?_
        intro a hE
        have hE := hE.eqv (v' := (.bool ((decide (p0 < 0)) && (decide ((-10) < p0))))) (by rw [hc2]; rfl)
        exact s_nil ⟨hE.cut ⟨rfl, rfl, rfl, trivial⟩, hp⟩
      ·
        refine s_skip (wk2 hE rfl rfl rfl hc2) rfl rfl hE ?_
        intro a hE
        refine s_skip (wk2 hE rfl rfl rfl hc2) rfl rfl hE ?_
        intro a hE
        refine s_val (wk0 rfl) rfl rfl hE hp (v := (.bool false)) (ex_pick0 rfl hE rfl hc2 rfl) ?_
        intro a hE
        have hE := hE.eqv (v' := (.bool ((decide (p0 < 0)) && (decide ((-10) < p0))))) (by rw [hc2]; rfl)
        exact s_nil ⟨hE.cut ⟨rfl, rfl, rfl, trivial⟩, hp⟩
    · rintro a w ⟨hE, hp⟩
      refine s_nil ?_
      refine k_if hE rfl (fun hc3 => ?_) (fun hc3 => ?_)
      · replace hm := (it hc3).symm.trans hm
        refine k_seq ?_
        refine k_region ?_
        refine s_val (wk0 rfl) rfl rfl hE hp (v := (.string x4)) (ex_move rfl hE rfl) ?_
        intro a hE
        obtain ⟨x5, ex5, hm⟩ := bnd hm
        refine s_val (wk0 rfl) rfl rfl hE hp (v := (.string x5)) (ex_cat rfl hE rfl rfl ex5) ?_
        intro a hE
        refine s_val (wk0 rfl) rfl rfl hE hp (v := (.string x5)) (ex_asn rfl hE rfl) ?_
        intro a hE
        refine s_nil ?_
        refine k_ret ?_
        obtain rfl := Option.some.inj hm
        exact ret1 hE rfl rfl ⟨_, rfl, rfl, hp⟩
      · replace hm := (ie hc3).symm.trans hm
        refine k_skip ?_
        refine k_seq ?_
        refine k_seq ?_
        refine k_region ?_
        refine s_val (wk0 rfl) rfl rfl hE hp (v := (.int .i64 p0)) (ex_move rfl hE rfl) ?_
        intro a hE
        refine s_val (wk0 rfl) rfl rfl hE hp (v := (.bool (decide (0 ≤ p0)))) (ex_geq rfl hE rfl rfl) ?_
        intro a hE
        refine s_val (wk0 rfl) rfl rfl hE hp (v := (.bool (decide (0 ≤ p0)))) (ex_move rfl hE rfl) ?_
        intro a hE
        refine s_cut [_, _, _] (fun a w => Env 35 [(28, (.bool ((decide (0 ≤ p0)) && (decide (p0 < 10))))), (0, (.int .i64 p0)), (4, (.string x4))] a ∧ Hp Z ρ (L) w) ?_ ?_
        · rcases Bool.eq_false_or_eq_true (decide (0 ≤ p0)) with hc4 | hc4
          ·
            refine s_val (wk1 hE rfl rfl rfl hc4) rfl rfl hE hp (v := (.int .i64 p0)) (ex_move rfl hE rfl) ?_
            intro a hE
            refine s_val (wk1 hE rfl rfl rfl hc4) rfl rfl hE hp (v := (.bool (decide (p0 < 10)))) (ex_lss rfl hE rfl rfl) ?_
            intro a hE
            refine s_val (wk0 rfl) rfl rfl hE hp (v := (.bool (decide (p0 < 10)))) (ex_pick1 rfl hE rfl hc4 rfl) ?_
            intro a hE
            have hE := hE.eqv (v' := (.bool ((decide (0 ≤ p0)) && (decide (p0 < 10))))) (by rw [hc4]; rfl)
            exact s_nil ⟨hE.cut ⟨rfl, rfl, rfl, trivial⟩, hp⟩
          ·
            refine s_skip (wk2 hE rfl rfl rfl hc4) rfl rfl hE ?_
            intro a hE
            refine s_skip (wk2 hE rfl rfl rfl hc4) rfl rfl hE ?_
            intro a hE
            refine s_val (wk0 rfl) rfl rfl hE hp (v := (.bool false)) (ex_pick0 rfl hE rfl hc4 rfl) ?_
            intro a hE
            have hE := hE.eqv (v' := (.bool ((decide (0 ≤ p0)) && (decide (p0 < 10))))) (by rw [hc4]; rfl)
            exact s_nil ⟨hE.cut ⟨rfl, rfl, rfl, trivial⟩, hp⟩
        · rintro a w ⟨hE, hp⟩
          refine s_nil ?_
          refine k_if hE rfl (fun hc5 => ?_) (fun hc5 => ?_)
          · replace hm := (it hc5).symm.trans hm
            refine k_seq ?_
            refine k_region ?_
            refine s_val (wk0 rfl) rfl rfl hE hp (v := (.string x4)) (ex_move rfl hE rfl) ?_
            intro a hE
            refine s_val (wk0 rfl) rfl rfl hE hp (v := (.string x4)) (ex_asn rfl hE rfl) ?_
            intro a hE
            refine s_nil ?_
            refine k_ret ?_
            obtain rfl := Option.some.inj hm
            exact ret1 hE rfl rfl ⟨_, rfl, rfl, hp⟩
          · replace hm := (ie hc5).symm.trans hm
            refine k_skip ?_
            refine k_seq ?_
            refine k_region ?_
            refine s_val (wk0 rfl) rfl rfl hE hp (v := (.int .i64 p0)) (ex_move rfl hE rfl) ?_
            intro a hE
            obtain ⟨x6, ex6, hm⟩ := bnd hm
            refine s_val (wk0 rfl) rfl rfl hE hp (v := (.int .i64 x6)) (ex_quo rfl hE rfl rfl (quoK_some ex6).1 (quoK_some ex6).2) ?_
            intro a hE
            obtain ⟨x7, ex7, hm⟩ := bnd hm
            refine s_call (wk0 rfl) rfl rfl hE rfl [(.int .i64 x6)] ⟨rfl, trivial⟩ ent67 (hself hT x6 hp x7 ex7) Ret.ret ?_
            intro v a w hR hE
            obtain ⟨rfl, hp⟩ := Ret.of hR
            have hp : Hp Z ρ (L) w := hp
            refine s_val (wk0 rfl) rfl rfl hE hp (v := (.string x4)) (ex_move rfl hE rfl) ?_
            intro a hE
            obtain ⟨x8, ex8, hm⟩ := bnd hm
            refine s_val (wk0 rfl) rfl rfl hE hp (v := (.string x8)) (ex_cat rfl hE rfl rfl ex8) ?_
            intro a hE
            refine s_val (wk0 rfl) rfl rfl hE hp (v := (.string x8)) (ex_asn rfl hE rfl) ?_
            intro a hE
            refine s_nil ?_
            refine k_ret ?_
            obtain rfl := Option.some.inj hm
            exact ret1 hE rfl rfl ⟨_, rfl, rfl, hp⟩
theorem c_assessorref26_Decimal_r : ∀ (n : Nat), ∀ {Z : World} {ρ : PH} {L : List Atom} {w : World} (hT : Tabs ρ) (p0 : Int) (hp : Hp Z ρ (L) w) (r : ByteArray) (hm : m_assessorref26_Decimal_r n p0 = some r), Calls Tryd.prog 67 #[(.int .i64 p0)] w (Ret fun v w' => v = (.string r) ∧ Hp Z ρ (L) w') := by
  intro n
  induction n with
  | zero => intro Z ρ L w hT p0 hp r hm; cases hm
  | succ n ih => intro Z ρ L w hT p0 hp r hm; exact c_assessorref26_Decimal_body (m_assessorref26_Decimal_r n) ih hT p0 hp r hm
theorem c_assessorref26_Decimal {Z : World} {ρ : PH} {L : List Atom} {w : World} (hT : Tabs ρ) (p0 : Int) (hp : Hp Z ρ (L) w) (r : ByteArray) (hm : m_assessorref26_Decimal p0 = some r) :
    Calls Tryd.prog 67 #[(.int .i64 p0)] w (Ret fun v w' => v = (.string r) ∧ Hp Z ρ (L) w') := c_assessorref26_Decimal_r _ hT p0 hp r hm
set_option maxRecDepth 100000 in
set_option maxHeartbeats 4000000 in
theorem c_assessorref26_integer {Z : World} {ρ : PH} {L : List Atom} {w : World} (hT : Tabs ρ) (p0 : ByteArray) (hp : Hp Z ρ (L) w) (r : (Int × Int)) (hm : m_assessorref26_integer p0 = some r) :
    Calls Tryd.prog 64 #[(.string p0)] w (Ret fun v w' => v = .tuple #[(.int .i64 r.1), (.int .i64 r.2)] ∧ Hp Z ρ (L) w') := by
  refine enter (N := 67) Tryd.func64 rfl rfl [(0, (.string p0))] rfl (argsIn_mem ⟨rfl, trivial⟩) fun a hE => ?_
  unfold m_assessorref26_integer at hm
  refine k_seq ?_
  refine k_region ?_
  refine s_val (wk0 rfl) rfl rfl hE hp (v := (.int .i64 0)) (ex_asn rfl hE rfl) ?_
  intro a hE
  refine s_val (wk0 rfl) rfl rfl hE hp (v := (.int .i64 0)) (ex_asn rfl hE rfl) ?_
  intro a hE
  refine s_nil ?_
  refine k_seq ?_
  refine k_region ?_
  refine s_val (wk0 rfl) rfl rfl hE hp (v := (.int .i64 0)) (ex_asn rfl hE rfl) ?_
  intro a hE
  refine s_val (wk0 rfl) rfl rfl hE hp (v := (.int .i64 0)) (ex_asn rfl hE rfl) ?_
  intro a hE
  refine s_nil ?_
  refine k_seq ?_
  refine k_seq ?_
  refine k_region ?_
  refine s_val (wk0 rfl) rfl rfl hE hp (v := (.int .i64 0)) (ex_move rfl hE rfl) ?_
  intro a hE
  refine s_val (wk0 rfl) rfl rfl hE hp (v := (.string p0)) (ex_move rfl hE rfl) ?_
  intro a hE
  refine s_val (wk0 rfl) rfl rfl hE hp (v := (.int .i64 (p0.size : Int))) (ex_slen sty9 rfl hE rfl) ?_
  intro a hE
  refine s_val (wk0 rfl) rfl rfl hE hp (v := (.bool (decide (0 < (p0.size : Int))))) (ex_lss rfl hE rfl rfl) ?_
  intro a hE
  refine s_val (wk0 rfl) rfl rfl hE hp (v := (.bool (decide (0 < (p0.size : Int))))) (ex_move rfl hE rfl) ?_
  intro a hE
  obtain ⟨m1, hg1, hm⟩ := bnd hm
  refine s_cut [_, _, _, _, _] (fun a w => Env 67 [(16, (.bool m1)), (0, (.string p0)), (4, (.int .i64 0)), (5, (.int .i64 0))] a ∧ Hp Z ρ (L) w) ?_ ?_
  · rcases Bool.eq_false_or_eq_true (decide (0 < (p0.size : Int))) with hc1 | hc1
    ·
      replace hg1 := (it hc1).symm.trans hg1
      refine s_val (wk1 hE rfl rfl rfl hc1) rfl rfl hE hp (v := (.string p0)) (ex_move rfl hE rfl) ?_
      intro a hE
      refine s_val (wk1 hE rfl rfl rfl hc1) rfl rfl hE hp (v := (.int .i64 0)) (ex_move rfl hE rfl) ?_
      intro a hE
      obtain ⟨x1, ex1, hg1⟩ := bnd hg1
      refine s_val (wk1 hE rfl rfl rfl hc1) rfl rfl hE hp (v := (.int .u8 x1)) (ex_six sty9 rfl hE rfl rfl ex1) ?_
      intro a hE
      refine s_val (wk1 hE rfl rfl rfl hc1) rfl rfl hE hp (v := (.bool (decide (x1 = 45)))) (ex_eql rfl hE rfl rfl) ?_
      intro a hE
      refine s_val (wk0 rfl) rfl rfl hE hp (v := (.bool (decide (x1 = 45)))) (ex_pick1 rfl hE rfl hc1 rfl) ?_
      intro a hE
      obtain rfl := Option.some.inj hg1
      exact s_nil ⟨hE.cut ⟨rfl, rfl, rfl, rfl, trivial⟩, hp⟩
    ·
      replace hg1 := (ie hc1).symm.trans hg1
      refine s_skip (wk2 hE rfl rfl rfl hc1) rfl rfl hE ?_
      intro a hE
      refine s_skip (wk2 hE rfl rfl rfl hc1) rfl rfl hE ?_
      intro a hE
      refine s_skip (wk2 hE rfl rfl rfl hc1) rfl rfl hE ?_
      intro a hE
      refine s_skip (wk2 hE rfl rfl rfl hc1) rfl rfl hE ?_
      intro a hE
      refine s_val (wk0 rfl) rfl rfl hE hp (v := (.bool false)) (ex_pick0 rfl hE rfl hc1 rfl) ?_
      intro a hE
      obtain rfl := Option.some.inj hg1
      exact s_nil ⟨hE.cut ⟨rfl, rfl, rfl, rfl, trivial⟩, hp⟩
  · rintro a w ⟨hE, hp⟩
    refine s_nil ?_
    obtain ⟨j1, hj1, hm⟩ := bnd hm
    refine k_cut (fun a w => Env 67 [(0, (.string p0)), (4, (.int .i64 0)), (5, (.int .i64 j1))] a ∧ Hp Z ρ (L) w) ?_ ?_
    ·
      refine k_if hE rfl (fun hc2 => ?_) (fun hc2 => ?_)
      · replace hj1 := (it hc2).symm.trans hj1
        refine k_region ?_
        refine s_val (wk0 rfl) rfl rfl hE hp (v := (.int .i64 1)) (ex_asn rfl hE rfl) ?_
        intro a hE
        refine s_nil ?_
        obtain rfl := Option.some.inj hj1
        exact ⟨hE.cut ⟨rfl, rfl, rfl, trivial⟩, hp⟩
      · replace hj1 := (ie hc2).symm.trans hj1
        refine k_skip ?_
        obtain rfl := Option.some.inj hj1
        exact ⟨hE.cut ⟨rfl, rfl, rfl, trivial⟩, hp⟩
    · rintro a w ⟨hE, hp⟩
      refine k_seq ?_
      refine k_region ?_
      refine s_val (wk0 rfl) rfl rfl hE hp (v := (.int .i64 j1)) (ex_move rfl hE rfl) ?_
      intro a hE
      refine s_val (wk0 rfl) rfl rfl hE hp (v := (.int .i64 j1)) (ex_asn rfl hE rfl) ?_
      intro a hE
      refine s_nil ?_
      refine k_seq ?_
      obtain ⟨b1, hc3, hm⟩ := bnd hm
      refine k_block (fun a w => Env 67 [(0, (.string p0)), (4, (.int .i64 b1.1)), (5, (.int .i64 b1.2)), (6, (.int .i64 j1))] a ∧ Hp Z ρ (L) w) ?_ ?_
      · refine k_loop hc3 (fun s a w => Env 67 [(0, (.string p0)), (4, (.int .i64 s.1)), (5, (.int .i64 s.2)), (6, (.int .i64 j1))] a ∧ Hp Z ρ (L) w) ?_ ?_
        · exact ⟨hE.cut ⟨rfl, rfl, rfl, rfl, trivial⟩, hp⟩
        · rintro ⟨lp1_0, lp1_1⟩ st a w ⟨hE, hp⟩ hl1
          have hE : Env 67 [(0, (.string p0)), (4, (.int .i64 lp1_0)), (5, (.int .i64 lp1_1)), (6, (.int .i64 j1))] a := hE
          have hp : Hp Z ρ (L) w := hp
          replace hl1 : m_assessorref26_integer_lp1 p0 j1 lp1_0 lp1_1 = some st := hl1
          unfold m_assessorref26_integer_lp1 at hl1
          refine k_seq ?_
          refine k_seq ?_
          refine k_region ?_
          refine s_val (wk0 rfl) rfl rfl hE hp (v := (.int .i64 lp1_1)) (ex_move rfl hE rfl) ?_
          intro a hE
          refine s_val (wk0 rfl) rfl rfl hE hp (v := (.string p0)) (ex_move rfl hE rfl) ?_
          intro a hE
          refine s_val (wk0 rfl) rfl rfl hE hp (v := (.int .i64 (p0.size : Int))) (ex_slen sty9 rfl hE rfl) ?_
          intro a hE
          refine s_val (wk0 rfl) rfl rfl hE hp (v := (.bool (decide (lp1_1 < (p0.size : Int))))) (ex_lss rfl hE rfl rfl) ?_
          intro a hE
          refine s_val (wk0 rfl) rfl rfl hE hp (v := (.bool (decide (lp1_1 < (p0.size : Int))))) (ex_move rfl hE rfl) ?_
          intro a hE
          obtain ⟨m2, hg2, hl1⟩ := bnd hl1
          refine s_cut [_, _, _, _, _] (fun a w => Env 67 [(27, (.bool m2)), (0, (.string p0)), (4, (.int .i64 lp1_0)), (5, (.int .i64 lp1_1)), (6, (.int .i64 j1))] a ∧ Hp Z ρ (L) w) ?_ ?_
          · rcases Bool.eq_false_or_eq_true (decide (lp1_1 < (p0.size : Int))) with hc4 | hc4
            ·
              replace hg2 := (it hc4).symm.trans hg2
              refine s_val (wk1 hE rfl rfl rfl hc4) rfl rfl hE hp (v := (.int .i64 lp1_1)) (ex_move rfl hE rfl) ?_
              intro a hE
              refine s_val (wk1 hE rfl rfl rfl hc4) rfl rfl hE hp (v := (.int .i64 j1)) (ex_move rfl hE rfl) ?_
              intro a hE
              obtain ⟨x2, ex2, hg2⟩ := bnd hg2
              refine s_val (wk1 hE rfl rfl rfl hc4) rfl rfl hE hp (v := (.int .i64 x2)) (ex_add rfl hE rfl rfl (inK_some ex2)) ?_
              intro a hE
              refine s_val (wk1 hE rfl rfl rfl hc4) rfl rfl hE hp (v := (.bool (decide (lp1_1 < x2)))) (ex_lss rfl hE rfl rfl) ?_
              intro a hE
              refine s_val (wk0 rfl) rfl rfl hE hp (v := (.bool (decide (lp1_1 < x2)))) (ex_pick1 rfl hE rfl hc4 rfl) ?_
              intro a hE
              obtain rfl := Option.some.inj hg2
              exact s_nil ⟨hE.cut ⟨rfl, rfl, rfl, rfl, rfl, trivial⟩, hp⟩
            ·
              replace hg2 := (ie hc4).symm.trans hg2
              refine s_skip (wk2 hE rfl rfl rfl hc4) rfl rfl hE ?_
              intro a hE
              refine s_skip (wk2 hE rfl rfl rfl hc4) rfl rfl hE ?_
              intro a hE
              refine s_skip (wk2 hE rfl rfl rfl hc4) rfl rfl hE ?_
              intro a hE
              refine s_skip (wk2 hE rfl rfl rfl hc4) rfl rfl hE ?_
              intro a hE
              refine s_val (wk0 rfl) rfl rfl hE hp (v := (.bool false)) (ex_pick0 rfl hE rfl hc4 rfl) ?_
              intro a hE
              obtain rfl := Option.some.inj hg2
              exact s_nil ⟨hE.cut ⟨rfl, rfl, rfl, rfl, rfl, trivial⟩, hp⟩
          · rintro a w ⟨hE, hp⟩
            refine s_val (wk0 rfl) rfl rfl hE hp (v := (.bool m2)) (ex_move rfl hE rfl) ?_
            intro a hE
            obtain ⟨m3, hg3, hl1⟩ := bnd hl1
            refine s_cut [_, _, _, _, _] (fun a w => Env 67 [(33, (.bool m3)), (0, (.string p0)), (4, (.int .i64 lp1_0)), (5, (.int .i64 lp1_1)), (6, (.int .i64 j1))] a ∧ Hp Z ρ (L) w) ?_ ?_
            · rcases Bool.eq_false_or_eq_true m2 with hc5 | hc5
              ·
                replace hg3 := (it hc5).symm.trans hg3
                refine s_val (wk1 hE rfl rfl rfl hc5) rfl rfl hE hp (v := (.string p0)) (ex_move rfl hE rfl) ?_
                intro a hE
                refine s_val (wk1 hE rfl rfl rfl hc5) rfl rfl hE hp (v := (.int .i64 lp1_1)) (ex_move rfl hE rfl) ?_
                intro a hE
                obtain ⟨x3, ex3, hg3⟩ := bnd hg3
                refine s_val (wk1 hE rfl rfl rfl hc5) rfl rfl hE hp (v := (.int .u8 x3)) (ex_six sty9 rfl hE rfl rfl ex3) ?_
                intro a hE
                refine s_val (wk1 hE rfl rfl rfl hc5) rfl rfl hE hp (v := (.bool (decide (48 ≤ x3)))) (ex_geq rfl hE rfl rfl) ?_
                intro a hE
                refine s_val (wk0 rfl) rfl rfl hE hp (v := (.bool (decide (48 ≤ x3)))) (ex_pick1 rfl hE rfl hc5 rfl) ?_
                intro a hE
                obtain rfl := Option.some.inj hg3
                exact s_nil ⟨hE.cut ⟨rfl, rfl, rfl, rfl, rfl, trivial⟩, hp⟩
              ·
                replace hg3 := (ie hc5).symm.trans hg3
                refine s_skip (wk2 hE rfl rfl rfl hc5) rfl rfl hE ?_
                intro a hE
                refine s_skip (wk2 hE rfl rfl rfl hc5) rfl rfl hE ?_
                intro a hE
                refine s_skip (wk2 hE rfl rfl rfl hc5) rfl rfl hE ?_
                intro a hE
                refine s_skip (wk2 hE rfl rfl rfl hc5) rfl rfl hE ?_
                intro a hE
                refine s_val (wk0 rfl) rfl rfl hE hp (v := (.bool false)) (ex_pick0 rfl hE rfl hc5 rfl) ?_
                intro a hE
                obtain rfl := Option.some.inj hg3
                exact s_nil ⟨hE.cut ⟨rfl, rfl, rfl, rfl, rfl, trivial⟩, hp⟩
            · rintro a w ⟨hE, hp⟩
              refine s_val (wk0 rfl) rfl rfl hE hp (v := (.bool m3)) (ex_move rfl hE rfl) ?_
              intro a hE
              obtain ⟨m4, hg4, hl1⟩ := bnd hl1
              refine s_cut [_, _, _, _, _] (fun a w => Env 67 [(39, (.bool m4)), (0, (.string p0)), (4, (.int .i64 lp1_0)), (5, (.int .i64 lp1_1)), (6, (.int .i64 j1))] a ∧ Hp Z ρ (L) w) ?_ ?_
              · rcases Bool.eq_false_or_eq_true m3 with hc6 | hc6
                ·
                  replace hg4 := (it hc6).symm.trans hg4
                  refine s_val (wk1 hE rfl rfl rfl hc6) rfl rfl hE hp (v := (.string p0)) (ex_move rfl hE rfl) ?_
                  intro a hE
                  refine s_val (wk1 hE rfl rfl rfl hc6) rfl rfl hE hp (v := (.int .i64 lp1_1)) (ex_move rfl hE rfl) ?_
                  intro a hE
                  obtain ⟨x4, ex4, hg4⟩ := bnd hg4
                  refine s_val (wk1 hE rfl rfl rfl hc6) rfl rfl hE hp (v := (.int .u8 x4)) (ex_six sty9 rfl hE rfl rfl ex4) ?_
                  intro a hE
                  refine s_val (wk1 hE rfl rfl rfl hc6) rfl rfl hE hp (v := (.bool (decide (x4 ≤ 57)))) (ex_leq rfl hE rfl rfl) ?_
                  intro a hE
                  refine s_val (wk0 rfl) rfl rfl hE hp (v := (.bool (decide (x4 ≤ 57)))) (ex_pick1 rfl hE rfl hc6 rfl) ?_
                  intro a hE
                  obtain rfl := Option.some.inj hg4
                  exact s_nil ⟨hE.cut ⟨rfl, rfl, rfl, rfl, rfl, trivial⟩, hp⟩
                ·
                  replace hg4 := (ie hc6).symm.trans hg4
                  refine s_skip (wk2 hE rfl rfl rfl hc6) rfl rfl hE ?_
                  intro a hE
                  refine s_skip (wk2 hE rfl rfl rfl hc6) rfl rfl hE ?_
                  intro a hE
                  refine s_skip (wk2 hE rfl rfl rfl hc6) rfl rfl hE ?_
                  intro a hE
                  refine s_skip (wk2 hE rfl rfl rfl hc6) rfl rfl hE ?_
                  intro a hE
                  refine s_val (wk0 rfl) rfl rfl hE hp (v := (.bool false)) (ex_pick0 rfl hE rfl hc6 rfl) ?_
                  intro a hE
                  obtain rfl := Option.some.inj hg4
                  exact s_nil ⟨hE.cut ⟨rfl, rfl, rfl, rfl, rfl, trivial⟩, hp⟩
              · rintro a w ⟨hE, hp⟩
                refine s_nil ?_
                refine k_if hE rfl (fun hc7 => ?_) (fun hc7 => ?_)
                · replace hl1 := (it hc7).symm.trans hl1
                  refine k_skip ?_
                  refine k_plain ?_
                  refine k_seq ?_
                  refine k_region ?_
                  refine s_val (wk0 rfl) rfl rfl hE hp (v := (.int .i64 lp1_0)) (ex_move rfl hE rfl) ?_
                  intro a hE
                  obtain ⟨x5, ex5, hl1⟩ := bnd hl1
                  refine s_val (wk0 rfl) rfl rfl hE hp (v := (.int .i64 x5)) (ex_mul rfl hE rfl rfl (inK_some ex5)) ?_
                  intro a hE
                  refine s_val (wk0 rfl) rfl rfl hE hp (v := (.string p0)) (ex_move rfl hE rfl) ?_
                  intro a hE
                  refine s_val (wk0 rfl) rfl rfl hE hp (v := (.int .i64 lp1_1)) (ex_move rfl hE rfl) ?_
                  intro a hE
                  obtain ⟨x6, ex6, hl1⟩ := bnd hl1
                  refine s_val (wk0 rfl) rfl rfl hE hp (v := (.int .u8 x6)) (ex_six sty9 rfl hE rfl rfl ex6) ?_
                  intro a hE
                  refine s_val (wk0 rfl) rfl rfl hE hp (v := (.int .u8 (IntKind.wrap .u8 (x6 - 48)))) (ex_sub rfl hE rfl rfl rfl) ?_
                  intro a hE
                  obtain ⟨x7, ex7, hl1⟩ := bnd hl1
                  refine s_val (wk0 rfl) rfl rfl hE hp (v := (.int .i64 x7)) (ex_conv rfl hE rfl (fun w _ => by rw [← inK_some ex7]; simp [convert, Conv.intToInt, go_sem])) ?_
                  intro a hE
                  obtain ⟨x8, ex8, hl1⟩ := bnd hl1
                  refine s_val (wk0 rfl) rfl rfl hE hp (v := (.int .i64 x8)) (ex_add rfl hE rfl rfl (inK_some ex8)) ?_
                  intro a hE
                  refine s_val (wk0 rfl) rfl rfl hE hp (v := (.int .i64 x8)) (ex_asn rfl hE rfl) ?_
                  intro a hE
                  refine s_nil ?_
                  refine k_region ?_
                  refine s_val (wk0 rfl) rfl rfl hE hp (v := (.int .i64 lp1_1)) (ex_move rfl hE rfl) ?_
                  intro a hE
                  obtain ⟨x9, ex9, hl1⟩ := bnd hl1
                  refine s_val (wk0 rfl) rfl rfl hE hp (v := (.int .i64 x9)) (ex_add rfl hE rfl rfl (inK_some ex9)) ?_
                  intro a hE
                  refine s_val (wk0 rfl) rfl rfl hE hp (v := (.int .i64 x9)) (ex_asn rfl hE rfl) ?_
                  intro a hE
                  refine s_nil ?_
                  exact ⟨_, (Option.some.inj hl1).symm, hE.cut ⟨rfl, rfl, rfl, rfl, trivial⟩, hp⟩
                · replace hl1 := (ie hc7).symm.trans hl1
                  refine k_exit ?_
                  refine ⟨_, (Option.some.inj hl1).symm, fun hbb => ?_⟩
                  subst hbb
                  exact ⟨hE.cut ⟨rfl, rfl, rfl, rfl, trivial⟩, hp⟩
      · rintro a w ⟨hE, hp⟩
        refine k_seq ?_
        refine k_seq ?_
        refine k_region ?_
        refine s_val (wk0 rfl) rfl rfl hE hp (v := (.int .i64 j1)) (ex_move rfl hE rfl) ?_
        intro a hE
        refine s_val (wk0 rfl) rfl rfl hE hp (v := (.bool (decide (j1 = 1)))) (ex_eql rfl hE rfl rfl) ?_
        intro a hE
        refine s_nil ?_
        obtain ⟨j2, hj2, hm⟩ := bnd hm
        refine k_cut (fun a w => Env 67 [(0, (.string p0)), (4, (.int .i64 j2)), (5, (.int .i64 b1.2)), (6, (.int .i64 j1))] a ∧ Hp Z ρ (L) w) ?_ ?_
        ·
          refine k_if hE rfl (fun hc8 => ?_) (fun hc8 => ?_)
          · replace hj2 := (it hc8).symm.trans hj2
            refine k_region ?_
            refine s_val (wk0 rfl) rfl rfl hE hp (v := (.int .i64 b1.1)) (ex_move rfl hE rfl) ?_
            intro a hE
            obtain ⟨x10, ex10, hj2⟩ := bnd hj2
            refine s_val (wk0 rfl) rfl rfl hE hp (v := (.int .i64 x10)) (ex_neg rfl hE rfl (inK_some ex10)) ?_
            intro a hE
            refine s_val (wk0 rfl) rfl rfl hE hp (v := (.int .i64 x10)) (ex_asn rfl hE rfl) ?_
            intro a hE
            refine s_nil ?_
            have hE := hE.cut (E' := [(0, (.string p0)), (4, (.int .i64 x10)), (5, (.int .i64 b1.2)), (6, (.int .i64 j1))]) ⟨rfl, rfl, rfl, rfl, trivial⟩
            obtain rfl := Option.some.inj hj2
            exact ⟨hE.cut ⟨rfl, rfl, rfl, rfl, trivial⟩, hp⟩
          · replace hj2 := (ie hc8).symm.trans hj2
            refine k_skip ?_
            obtain rfl := Option.some.inj hj2
            exact ⟨hE.cut ⟨rfl, rfl, rfl, rfl, trivial⟩, hp⟩
        · rintro a w ⟨hE, hp⟩
          refine k_seq ?_
          refine k_seq ?_
          refine k_quiet (by kernel_rfl) (by kernel_rfl) hp ?_
          refine q_val (wk0 rfl) rfl rfl hE (v := (.int .i64 b1.2)) (ex_move rfl hE rfl) ?_
          intro a hE
          refine q_val (wk0 rfl) rfl rfl hE (v := (.int .i64 j1)) (ex_move rfl hE rfl) ?_
          intro a hE
          refine q_val (wk0 rfl) rfl rfl hE (v := (.bool (decide (b1.2 = j1)))) (ex_eql rfl hE rfl rfl) ?_
          intro a hE
          refine q_val (wk0 rfl) rfl rfl hE (v := (.bool (decide (b1.2 = j1)))) (ex_move rfl hE rfl) ?_
          intro a hE
          obtain ⟨m5, hg5, hm⟩ := bnd hm
          refine q_cut [_, _, _, _, _, _, _] (fun a => Env 67 [(64, (.bool m5)), (4, (.int .i64 j2)), (5, (.int .i64 b1.2))] a) ?_ ?_
          · rcases Bool.eq_false_or_eq_true (decide (b1.2 = j1)) with hc9 | hc9
            ·
              replace hg5 := (it hc9).symm.trans hg5
              refine q_skip (wk2 hE rfl rfl rfl hc9) rfl rfl hE ?_
              intro a hE
              refine q_skip (wk2 hE rfl rfl rfl hc9) rfl rfl hE ?_
              intro a hE
              refine q_skip (wk2 hE rfl rfl rfl hc9) rfl rfl hE ?_
              intro a hE
              refine q_skip (wk2 hE rfl rfl rfl hc9) rfl rfl hE ?_
              intro a hE
              refine q_skip (wk2 hE rfl rfl rfl hc9) rfl rfl hE ?_
              intro a hE
              refine q_skip (wk2 hE rfl rfl rfl hc9) rfl rfl hE ?_
              intro a hE
              refine q_val (wk0 rfl) rfl rfl hE (v := (.bool true)) (ex_pick1 rfl hE rfl hc9 rfl) ?_
              intro a hE
              obtain rfl := Option.some.inj hg5
              exact q_nil (hE.cut ⟨rfl, rfl, rfl, trivial⟩)
            ·
              replace hg5 := (ie hc9).symm.trans hg5
              refine q_val (wk1 hE rfl rfl rfl hc9) rfl rfl hE (v := (.int .i64 j2)) (ex_move rfl hE rfl) ?_
              intro a hE
              obtain ⟨x11, ex11, hg5⟩ := bnd hg5
              refine q_call (wk1 hE rfl rfl rfl hc9) rfl rfl hE rfl [(.int .i64 j2)] ⟨rfl, trivial⟩ ent67 (v := (.string x11)) (fun w hw => Calls.mono (c_assessorref26_Decimal hT j2 hw x11 ex11) fun e w' ⟨v, he, hv, hh⟩ => ⟨by rw [he, hv], hh⟩) ?_
              intro a hE
              refine q_val (wk1 hE rfl rfl rfl hc9) rfl rfl hE (v := (.string p0)) (ex_move rfl hE rfl) ?_
              intro a hE
              refine q_val (wk1 hE rfl rfl rfl hc9) rfl rfl hE (v := (.int .i64 b1.2)) (ex_move rfl hE rfl) ?_
              intro a hE
              obtain ⟨x12, ex12, hg5⟩ := bnd hg5
              refine q_val (wk1 hE rfl rfl rfl hc9) rfl rfl hE (v := (.string x12)) (ex_sl rfl hE rfl none (some (.i64, b1.2)) (by exact trivial) (by exact rfl) (run_ssub sty9 none (some (.i64, b1.2)) rfl rfl ex12)) ?_
              intro a hE
              refine q_val (wk1 hE rfl rfl rfl hc9) rfl rfl hE (v := (.bool (!decide (x11 = x12)))) (ex_sneq rfl hE rfl rfl) ?_
              intro a hE
              refine q_val (wk0 rfl) rfl rfl hE (v := (.bool (!decide (x11 = x12)))) (ex_pick0 rfl hE rfl hc9 rfl) ?_
              intro a hE
              obtain rfl := Option.some.inj hg5
              exact q_nil (hE.cut ⟨rfl, rfl, rfl, trivial⟩)
          · intro a hE
            refine q_nil fun w hp => ?_
            have hp : Hp Z ρ (L) w := hp
            refine k_if hE rfl (fun hc10 => ?_) (fun hc10 => ?_)
            · replace hm := (it hc10).symm.trans hm
              refine k_seq ?_
              refine k_region ?_
              refine s_val (wk0 rfl) rfl rfl hE hp (v := (.int .i64 0)) (ex_asn rfl hE rfl) ?_
              intro a hE
              refine s_val (wk0 rfl) rfl rfl hE hp (v := (.int .i64 0)) (ex_asn rfl hE rfl) ?_
              intro a hE
              refine s_nil ?_
              refine k_ret ?_
              obtain rfl := Option.some.inj hm
              exact ret2 hE rfl rfl rfl ⟨_, rfl, rfl, hp⟩
            · replace hm := (ie hc10).symm.trans hm
              refine k_skip ?_
              refine k_seq ?_
              refine k_region ?_
              refine s_val (wk0 rfl) rfl rfl hE hp (v := (.int .i64 j2)) (ex_move rfl hE rfl) ?_
              intro a hE
              refine s_val (wk0 rfl) rfl rfl hE hp (v := (.int .i64 b1.2)) (ex_move rfl hE rfl) ?_
              intro a hE
              refine s_val (wk0 rfl) rfl rfl hE hp (v := (.int .i64 j2)) (ex_asn rfl hE rfl) ?_
              intro a hE
              refine s_val (wk0 rfl) rfl rfl hE hp (v := (.int .i64 b1.2)) (ex_asn rfl hE rfl) ?_
              intro a hE
              refine s_nil ?_
              refine k_ret ?_
              obtain rfl := Option.some.inj hm
              exact ret2 hE rfl rfl rfl ⟨_, rfl, rfl, hp⟩
set_option maxRecDepth 100000 in
set_option maxHeartbeats 4000000 in
theorem c_assessorref26_Line {Z : World} {ρ : PH} {L : List Atom} {w : World} (hT : Tabs ρ) (p0 : (List Int)) (vp0 : Value) (hp0 : RoSl ρ vp0 p0) (hp : Hp Z ρ (L) w) (r : ByteArray) (hm : m_assessorref26_Line p0 = some r) :
    Calls Tryd.prog 50 #[vp0] w (Ret fun v w' => v = (.string r) ∧ Hp Z ρ (L) w') := by
  refine enter (N := 21) Tryd.func50 rfl rfl [(0, vp0)] rfl (argsIn_mem ⟨rfl, trivial⟩) fun a hE => ?_
  unfold m_assessorref26_Line at hm
  refine k_seq ?_
  refine k_region ?_
  refine s_val (wk0 rfl) rfl rfl hE hp (v := (.string (ByteArray.mk #[]))) (ex_asn rfl hE rfl) ?_
  intro a hE
  refine s_nil ?_
  refine k_seq ?_
  refine k_region ?_
  refine s_val (wk0 rfl) rfl rfl hE hp (v := (.string (ByteArray.mk #[]))) (ex_asn rfl hE rfl) ?_
  intro a hE
  refine s_nil ?_
  refine k_seq ?_
  refine k_seq ?_
  refine k_region ?_
  refine s_val (wk0 rfl) rfl rfl hE hp (v := (.int .i64 0)) (ex_asn rfl hE rfl) ?_
  intro a hE
  refine s_nil ?_
  obtain ⟨b1, hc1, hm⟩ := bnd hm
  refine k_block (fun a w => Env 21 [(3, (.string b1))] a ∧ Hp Z ρ (L) w) ?_ ?_
  · refine k_loop hc1 (fun s a w => Env 21 [(0, vp0), (3, (.string s.1)), (4, (.int .i64 s.2))] a ∧ Hp Z ρ (L) w) ?_ ?_
    · exact ⟨hE.cut ⟨rfl, rfl, rfl, trivial⟩, hp⟩
    · rintro ⟨lp1_0, lp1_1⟩ st a w ⟨hE, hp⟩ hl1
      have hE : Env 21 [(0, vp0), (3, (.string lp1_0)), (4, (.int .i64 lp1_1))] a := hE
      have hp : Hp Z ρ (L) w := hp
      replace hl1 : m_assessorref26_Line_lp1 p0 lp1_0 lp1_1 = some st := hl1
      unfold m_assessorref26_Line_lp1 at hl1
      refine k_seq ?_
      refine k_seq ?_
      refine k_region ?_
      refine s_val (wk0 rfl) rfl rfl hE hp (v := (.int .i64 lp1_1)) (ex_move rfl hE rfl) ?_
      intro a hE
      refine s_val (wk0 rfl) rfl rfl hE hp (v := vp0) (ex_move rfl hE rfl) ?_
      intro a hE
      refine s_val (wk0 rfl) rfl rfl hE hp (v := (.int .i64 (p0.length : Int))) (ex_len rfl hE rfl (RoSl.len hp0 slty25)) ?_
      intro a hE
      refine s_val (wk0 rfl) rfl rfl hE hp (v := (.bool (decide (lp1_1 < (p0.length : Int))))) (ex_lss rfl hE rfl rfl) ?_
      intro a hE
      refine s_nil ?_
      refine k_if hE rfl (fun hc2 => ?_) (fun hc2 => ?_)
      · replace hl1 := (it hc2).symm.trans hl1
        refine k_skip ?_
        refine k_seq ?_
        refine k_plain ?_
        refine k_region ?_
        refine s_val (wk0 rfl) rfl rfl hE hp (v := (.string lp1_0)) (ex_move rfl hE rfl) ?_
        intro a hE
        refine s_val (wk0 rfl) rfl rfl hE hp (v := vp0) (ex_move rfl hE rfl) ?_
        intro a hE
        refine s_val (wk0 rfl) rfl rfl hE hp (v := (.int .i64 lp1_1)) (ex_move rfl hE rfl) ?_
        intro a hE
        obtain ⟨x1, ex1, hl1⟩ := bnd hl1
        obtain ⟨b2, b2o, b2c, b2r, b2k, b2f⟩ := RoSl.at hp0 slty25 ex1
        obtain rfl : b2c = Enc.enc x1 := b2k
        have b2f : AtP ρ b2 b2o [(.int .i64 x1)] := b2f
        refine s_val (wk0 rfl) rfl rfl hE hp (v := (.pointer (some ⟨b2, b2o, none⟩))) (ex_index rfl hE rfl rfl b2r) ?_
        intro a hE
        refine s_val (wk0 rfl) rfl rfl hE hp (v := (.int .i64 x1)) (ex_load rfl hE rfl (fun w hw => run_ld1 varty3 (b2f.c 0 rfl w hw))) ?_
        intro a hE
        obtain ⟨x2, ex2, hl1⟩ := bnd hl1
        refine s_call (wk0 rfl) rfl rfl hE rfl [(.int .i64 x1)] ⟨rfl, trivial⟩ ent67 (c_assessorref26_Decimal hT x1 hp x2 ex2) Ret.ret ?_
        intro v a w hR hE
        obtain ⟨rfl, hp⟩ := Ret.of hR
        have hp : Hp Z ρ (L) w := hp
        obtain ⟨x3, ex3, hl1⟩ := bnd hl1
        refine s_val (wk0 rfl) rfl rfl hE hp (v := (.string x3)) (ex_cat rfl hE rfl rfl ex3) ?_
        intro a hE
        obtain ⟨x4, ex4, hl1⟩ := bnd hl1
        refine s_val (wk0 rfl) rfl rfl hE hp (v := (.string x4)) (ex_cat rfl hE rfl rfl ex4) ?_
        intro a hE
        refine s_val (wk0 rfl) rfl rfl hE hp (v := (.string x4)) (ex_asn rfl hE rfl) ?_
        intro a hE
        refine s_nil ?_
        have hE := hE.cut (E' := [(0, vp0), (3, (.string x4)), (4, (.int .i64 lp1_1))]) ⟨rfl, rfl, rfl, trivial⟩
        refine k_region ?_
        refine s_val (wk0 rfl) rfl rfl hE hp (v := (.int .i64 lp1_1)) (ex_move rfl hE rfl) ?_
        intro a hE
        obtain ⟨x5, ex5, hl1⟩ := bnd hl1
        refine s_val (wk0 rfl) rfl rfl hE hp (v := (.int .i64 x5)) (ex_add rfl hE rfl rfl (inK_some ex5)) ?_
        intro a hE
        refine s_val (wk0 rfl) rfl rfl hE hp (v := (.int .i64 x5)) (ex_asn rfl hE rfl) ?_
        intro a hE
        refine s_nil ?_
        exact ⟨_, (Option.some.inj hl1).symm, hE.cut ⟨rfl, rfl, rfl, trivial⟩, hp⟩
      · replace hl1 := (ie hc2).symm.trans hl1
        refine k_exit ?_
        refine ⟨_, (Option.some.inj hl1).symm, fun hbb => ?_⟩
        subst hbb
        exact ⟨hE.cut ⟨rfl, trivial⟩, hp⟩
  · rintro a w ⟨hE, hp⟩
    refine k_seq ?_
    refine k_region ?_
    refine s_val (wk0 rfl) rfl rfl hE hp (v := (.string b1)) (ex_move rfl hE rfl) ?_
    intro a hE
    obtain ⟨x6, ex6, hm⟩ := bnd hm
    refine s_val (wk0 rfl) rfl rfl hE hp (v := (.string x6)) (ex_cat rfl hE rfl rfl ex6) ?_
    intro a hE
    refine s_val (wk0 rfl) rfl rfl hE hp (v := (.string x6)) (ex_asn rfl hE rfl) ?_
    intro a hE
    refine s_nil ?_
    refine k_ret ?_
    obtain rfl := Option.some.inj hm
    exact ret1 hE rfl rfl ⟨_, rfl, rfl, hp⟩
set_option maxRecDepth 100000 in
set_option maxHeartbeats 4000000 in
theorem c_assessorref26_ReadLine {Z : World} {ρ : PH} {L : List Atom} {w : World} (hT : Tabs ρ) (p0 : ByteArray) (hp : Hp Z ρ (L) w) (r : ((List Int) × Int)) (hm : m_assessorref26_ReadLine p0 = some r) :
    Calls Tryd.prog 46 #[(.string p0)] w (Ret fun v w' => ∃ (vr1 : Value), v = .tuple #[vr1, (.int .i64 r.2)] ∧ Hp Z ρ (OwnSl 3 vr1 r.1 :: L) w') := by
  refine enter (N := 56) Tryd.func46 rfl rfl [(0, (.string p0))] rfl (argsIn_mem ⟨rfl, trivial⟩) fun a hE => ?_
  unfold m_assessorref26_ReadLine at hm
  refine k_seq ?_
  refine k_region ?_
  refine s_val (wk0 rfl) rfl rfl hE hp (v := (.slice none 0 0)) (ex_asn rfl hE rfl) ?_
  intro a hE
  refine s_val (wk0 rfl) rfl rfl hE hp (v := (.int .i64 0)) (ex_asn rfl hE rfl) ?_
  intro a hE
  refine s_nil ?_
  refine k_seq ?_
  refine k_region ?_
  refine s_lit (wk0 rfl) rfl rfl hE hp rfl [] trivial [] 3 (fun w => by simp [Instr.buildSlice, Instr.fill, Value.cells, go_sem]) ?_
  intro a w b1 hE hp
  have hp : Hp Z ρ (Pt b1 (.cells #[] 3 (0, 0)) :: L) w := hp
  refine s_val (wk0 rfl) rfl rfl hE hp (v := (.slice (some ⟨b1, 0, none⟩) 0 0)) (ex_asn rfl hE rfl) ?_
  intro a hE
  refine s_nil ?_
  refine k_seq ?_
  refine k_seq ?_
  refine k_region ?_
  refine s_val (wk0 rfl) rfl rfl hE hp (v := (.int .i64 0)) (ex_asn rfl hE rfl) ?_
  intro a hE
  refine s_nil ?_
  have hp := (hp.get 0 rfl).imp (own_of_pt (l := (([] : List Int) : List Int)) (n := 0) rfl (by decide) rfl)
  have hp : Hp Z ρ (OwnSl 3 (.slice (some ⟨b1, 0, none⟩) 0 0) ([] : List Int) :: L) w := hp
  obtain ⟨b2, hc1, hm⟩ := bnd hm
  refine k_block (fun a w => ∃ s : (List Int), b2 = .brk s ∧ (∃ (w2 : Value), Env 56 [] a ∧ Hp Z ρ (OwnSl 3 w2 s :: L) w)) ?_ ?_
  · refine k_loop hc1 (fun s a w => ∃ (w2 : Value), Env 56 [(0, (.string p0)), (4, w2), (5, (.int .i64 s.1))] a ∧ Hp Z ρ (OwnSl 3 w2 s.2 :: L) w) ?_ ?_
    · exact ⟨_, hE.cut ⟨rfl, rfl, rfl, trivial⟩, hp⟩
    · rintro ⟨lp1_0, lp1_1⟩ st a w ⟨w2, hE, hp⟩ hl1
      have hE : Env 56 [(0, (.string p0)), (4, w2), (5, (.int .i64 lp1_0))] a := hE
      have hp : Hp Z ρ (OwnSl 3 w2 lp1_1 :: L) w := hp
      replace hl1 : m_assessorref26_ReadLine_lp1 p0 lp1_0 lp1_1 = some st := hl1
      unfold m_assessorref26_ReadLine_lp1 at hl1
      refine k_seq ?_
      refine k_seq ?_
      refine k_region ?_
      refine s_val (wk0 rfl) rfl rfl hE hp (v := (.int .i64 lp1_0)) (ex_move rfl hE rfl) ?_
      intro a hE
      refine s_val (wk0 rfl) rfl rfl hE hp (v := (.string p0)) (ex_move rfl hE rfl) ?_
      intro a hE
      refine s_val (wk0 rfl) rfl rfl hE hp (v := (.int .i64 (p0.size : Int))) (ex_slen sty9 rfl hE rfl) ?_
      intro a hE
      refine s_val (wk0 rfl) rfl rfl hE hp (v := (.bool (decide (lp1_0 < (p0.size : Int))))) (ex_lss rfl hE rfl rfl) ?_
      intro a hE
      refine s_nil ?_
      refine k_if hE rfl (fun hc2 => ?_) (fun hc2 => ?_)
      · replace hl1 := (it hc2).symm.trans hl1
        refine k_skip ?_
        refine k_plain ?_
        refine k_seq ?_
        refine k_region ?_
        refine s_val (wk0 rfl) rfl rfl hE hp (v := (.string p0)) (ex_move rfl hE rfl) ?_
        intro a hE
        refine s_val (wk0 rfl) rfl rfl hE hp (v := (.int .i64 lp1_0)) (ex_move rfl hE rfl) ?_
        intro a hE
        obtain ⟨x1, ex1, hl1⟩ := bnd hl1
        refine s_val (wk0 rfl) rfl rfl hE hp (v := (.string x1)) (ex_sl rfl hE rfl (some (.i64, lp1_0)) none (by exact rfl) (by exact trivial) (run_ssub sty9 (some (.i64, lp1_0)) none rfl rfl ex1)) ?_
        intro a hE
        obtain ⟨x2, ex2, hl1⟩ := bnd hl1
        refine s_call (wk0 rfl) rfl rfl hE rfl [(.string x1)] ⟨rfl, trivial⟩ ent64 (c_assessorref26_integer hT x1 hp x2 ex2) Ret.ret ?_
        intro v a w hR hE
        obtain ⟨rfl, hp⟩ := Ret.of hR
        have hp : Hp Z ρ (_ :: L) w := hp
        refine s_val (wk0 rfl) rfl rfl hE hp (v := (.tuple #[(.int .i64 x2.1), (.int .i64 x2.2)])) (ex_move rfl hE rfl) ?_
        intro a hE
        refine s_val (wk0 rfl) rfl rfl hE hp (v := (.int .i64 x2.1)) (ex_extract rfl hE rfl rfl) ?_
        intro a hE
        refine s_val (wk0 rfl) rfl rfl hE hp (v := (.int .i64 x2.2)) (ex_extract rfl hE rfl rfl) ?_
        intro a hE
        refine s_val (wk0 rfl) rfl rfl hE hp (v := (.int .i64 x2.1)) (ex_asn rfl hE rfl) ?_
        intro a hE
        refine s_val (wk0 rfl) rfl rfl hE hp (v := (.int .i64 x2.2)) (ex_asn rfl hE rfl) ?_
        intro a hE
        refine s_nil ?_
        have hE := hE.cut (E' := [(0, (.string p0)), (4, w2), (5, (.int .i64 lp1_0)), (6, (.int .i64 x2.1)), (7, (.int .i64 x2.2))]) ⟨rfl, rfl, rfl, rfl, rfl, trivial⟩
        refine k_seq ?_
        refine k_seq ?_
        refine k_region ?_
        refine s_val (wk0 rfl) rfl rfl hE hp (v := (.int .i64 x2.2)) (ex_move rfl hE rfl) ?_
        intro a hE
        refine s_val (wk0 rfl) rfl rfl hE hp (v := (.bool (decide (x2.2 = 0)))) (ex_eql rfl hE rfl rfl) ?_
        intro a hE
        refine s_nil ?_
        refine k_if hE rfl (fun hc3 => ?_) (fun hc3 => ?_)
        · replace hl1 := (it hc3).symm.trans hl1
          refine k_seq ?_
          refine k_region ?_
          refine s_val (wk0 rfl) rfl rfl hE hp (v := (.slice none 0 0)) (ex_asn rfl hE rfl) ?_
          intro a hE
          refine s_val (wk0 rfl) rfl rfl hE hp (v := (.int .i64 0)) (ex_asn rfl hE rfl) ?_
          intro a hE
          refine s_nil ?_
          refine k_ret ?_
          refine ⟨_, (Option.some.inj hl1).symm, fun hb => ?_⟩
          subst hb
          have hp := hp.emp (OwnSl.nil (α := Int) 3)
          have hp : Hp Z ρ (OwnSl 3 (.slice none 0 0) ([] : List Int) :: _ :: L) w := hp
          obtain rfl := Option.some.inj hm
          exact ret2 hE rfl rfl rfl ⟨_, rfl, _, rfl, ((hp.get 1 rfl).drop)⟩
        · replace hl1 := (ie hc3).symm.trans hl1
          refine k_skip ?_
          refine k_seq ?_
          refine k_region ?_
          refine s_val (wk0 rfl) rfl rfl hE hp (v := (.int .i64 lp1_0)) (ex_move rfl hE rfl) ?_
          intro a hE
          refine s_val (wk0 rfl) rfl rfl hE hp (v := (.int .i64 x2.2)) (ex_move rfl hE rfl) ?_
          intro a hE
          obtain ⟨x3, ex3, hl1⟩ := bnd hl1
          refine s_val (wk0 rfl) rfl rfl hE hp (v := (.int .i64 x3)) (ex_add rfl hE rfl rfl (inK_some ex3)) ?_
          intro a hE
          refine s_val (wk0 rfl) rfl rfl hE hp (v := (.int .i64 x3)) (ex_asn rfl hE rfl) ?_
          intro a hE
          refine s_nil ?_
          refine k_seq ?_
          refine k_seq ?_
          refine k_region ?_
          refine s_val (wk0 rfl) rfl rfl hE hp (v := (.int .i64 x2.1)) (ex_move rfl hE rfl) ?_
          intro a hE
          refine s_val (wk0 rfl) rfl rfl hE hp (v := (.bool (decide (x2.1 = 0)))) (ex_eql rfl hE rfl rfl) ?_
          intro a hE
          refine s_nil ?_
          refine k_if hE rfl (fun hc4 => ?_) (fun hc4 => ?_)
          · replace hl1 := (it hc4).symm.trans hl1
            refine k_seq ?_
            refine k_seq ?_
            refine k_region ?_
            refine s_val (wk0 rfl) rfl rfl hE hp (v := (.int .i64 x3)) (ex_move rfl hE rfl) ?_
            intro a hE
            refine s_val (wk0 rfl) rfl rfl hE hp (v := (.string p0)) (ex_move rfl hE rfl) ?_
            intro a hE
            refine s_val (wk0 rfl) rfl rfl hE hp (v := (.int .i64 (p0.size : Int))) (ex_slen sty9 rfl hE rfl) ?_
            intro a hE
            refine s_val (wk0 rfl) rfl rfl hE hp (v := (.bool (decide (x3 < (p0.size : Int))))) (ex_lss rfl hE rfl rfl) ?_
            intro a hE
            refine s_val (wk0 rfl) rfl rfl hE hp (v := (.bool (decide (x3 < (p0.size : Int))))) (ex_move rfl hE rfl) ?_
            intro a hE
            obtain ⟨m1, hg1, hl1⟩ := bnd hl1
            refine s_cut [_, _, _, _, _] (fun a w => Env 56 [(36, (.bool m1)), (4, w2), (5, (.int .i64 x3))] a ∧ Hp Z ρ (OwnSl 3 w2 lp1_1 :: L) w) ?_ ?_
            · rcases Bool.eq_false_or_eq_true (decide (x3 < (p0.size : Int))) with hc5 | hc5
              ·
                replace hg1 := (it hc5).symm.trans hg1
                refine s_val (wk1 hE rfl rfl rfl hc5) rfl rfl hE hp (v := (.string p0)) (ex_move rfl hE rfl) ?_
                intro a hE
                refine s_val (wk1 hE rfl rfl rfl hc5) rfl rfl hE hp (v := (.int .i64 x3)) (ex_move rfl hE rfl) ?_
                intro a hE
                obtain ⟨x4, ex4, hg1⟩ := bnd hg1
                refine s_val (wk1 hE rfl rfl rfl hc5) rfl rfl hE hp (v := (.int .u8 x4)) (ex_six sty9 rfl hE rfl rfl ex4) ?_
                intro a hE
                refine s_val (wk1 hE rfl rfl rfl hc5) rfl rfl hE hp (v := (.bool (decide (x4 = 10)))) (ex_eql rfl hE rfl rfl) ?_
                intro a hE
                refine s_val (wk0 rfl) rfl rfl hE hp (v := (.bool (decide (x4 = 10)))) (ex_pick1 rfl hE rfl hc5 rfl) ?_
                intro a hE
                obtain rfl := Option.some.inj hg1
                exact s_nil ⟨hE.cut ⟨rfl, rfl, rfl, trivial⟩, hp⟩
              ·
                replace hg1 := (ie hc5).symm.trans hg1
                refine s_skip (wk2 hE rfl rfl rfl hc5) rfl rfl hE ?_
                intro a hE
                refine s_skip (wk2 hE rfl rfl rfl hc5) rfl rfl hE ?_
                intro a hE
                refine s_skip (wk2 hE rfl rfl rfl hc5) rfl rfl hE ?_
                intro a hE
                refine s_skip (wk2 hE rfl rfl rfl hc5) rfl rfl hE ?_
                intro a hE
                refine s_val (wk0 rfl) rfl rfl hE hp (v := (.bool false)) (ex_pick0 rfl hE rfl hc5 rfl) ?_
                intro a hE
                obtain rfl := Option.some.inj hg1
                exact s_nil ⟨hE.cut ⟨rfl, rfl, rfl, trivial⟩, hp⟩
            · rintro a w ⟨hE, hp⟩
              refine s_nil ?_
              refine k_if hE rfl (fun hc6 => ?_) (fun hc6 => ?_)
              · replace hl1 := (it hc6).symm.trans hl1
                refine k_seq ?_
                refine k_region ?_
                refine s_val (wk0 rfl) rfl rfl hE hp (v := w2) (ex_move rfl hE rfl) ?_
                intro a hE
                refine s_val (wk0 rfl) rfl rfl hE hp (v := (.int .i64 x3)) (ex_move rfl hE rfl) ?_
                intro a hE
                obtain ⟨x5, ex5, hl1⟩ := bnd hl1
                refine s_val (wk0 rfl) rfl rfl hE hp (v := (.int .i64 x5)) (ex_add rfl hE rfl rfl (inK_some ex5)) ?_
                intro a hE
                refine s_val (wk0 rfl) rfl rfl hE hp (v := w2) (ex_asn rfl hE rfl) ?_
                intro a hE
                refine s_val (wk0 rfl) rfl rfl hE hp (v := (.int .i64 x5)) (ex_asn rfl hE rfl) ?_
                intro a hE
                refine s_nil ?_
                refine k_ret ?_
                refine ⟨_, (Option.some.inj hl1).symm, fun hb => ?_⟩
                subst hb
                obtain rfl := Option.some.inj hm
                exact ret2 hE rfl rfl rfl ⟨_, rfl, _, rfl, hp⟩
              · replace hl1 := (ie hc6).symm.trans hl1
                refine k_skip ?_
                refine k_seq ?_
                refine k_region ?_
                refine s_val (wk0 rfl) rfl rfl hE hp (v := (.slice none 0 0)) (ex_asn rfl hE rfl) ?_
                intro a hE
                refine s_val (wk0 rfl) rfl rfl hE hp (v := (.int .i64 0)) (ex_asn rfl hE rfl) ?_
                intro a hE
                refine s_nil ?_
                refine k_ret ?_
                refine ⟨_, (Option.some.inj hl1).symm, fun hb => ?_⟩
                subst hb
                have hp := hp.emp (OwnSl.nil (α := Int) 3)
                have hp : Hp Z ρ (OwnSl 3 (.slice none 0 0) ([] : List Int) :: _ :: L) w := hp
                obtain rfl := Option.some.inj hm
                exact ret2 hE rfl rfl rfl ⟨_, rfl, _, rfl, ((hp.get 1 rfl).drop)⟩
          · replace hl1 := (ie hc4).symm.trans hl1
            refine k_skip ?_
            refine k_seq ?_
            refine k_seq ?_
            refine k_region ?_
            refine s_val (wk0 rfl) rfl rfl hE hp (v := (.int .i64 x3)) (ex_move rfl hE rfl) ?_
            intro a hE
            refine s_val (wk0 rfl) rfl rfl hE hp (v := (.string p0)) (ex_move rfl hE rfl) ?_
            intro a hE
            refine s_val (wk0 rfl) rfl rfl hE hp (v := (.int .i64 (p0.size : Int))) (ex_slen sty9 rfl hE rfl) ?_
            intro a hE
            refine s_val (wk0 rfl) rfl rfl hE hp (v := (.bool (decide ((p0.size : Int) ≤ x3)))) (ex_geq rfl hE rfl rfl) ?_
            intro a hE
            refine s_val (wk0 rfl) rfl rfl hE hp (v := (.bool (decide ((p0.size : Int) ≤ x3)))) (ex_move rfl hE rfl) ?_
            intro a hE
            obtain ⟨m2, hg2, hl1⟩ := bnd hl1
            refine s_cut [_, _, _, _, _] (fun a w => Env 56 [(49, (.bool m2)), (0, (.string p0)), (4, w2), (5, (.int .i64 x3)), (6, (.int .i64 x2.1))] a ∧ Hp Z ρ (OwnSl 3 w2 lp1_1 :: L) w) ?_ ?_
            · rcases Bool.eq_false_or_eq_true (decide ((p0.size : Int) ≤ x3)) with hc7 | hc7
              ·
                replace hg2 := (it hc7).symm.trans hg2
                refine s_skip (wk2 hE rfl rfl rfl hc7) rfl rfl hE ?_
                intro a hE
                refine s_skip (wk2 hE rfl rfl rfl hc7) rfl rfl hE ?_
                intro a hE
                refine s_skip (wk2 hE rfl rfl rfl hc7) rfl rfl hE ?_
                intro a hE
                refine s_skip (wk2 hE rfl rfl rfl hc7) rfl rfl hE ?_
                intro a hE
                refine s_val (wk0 rfl) rfl rfl hE hp (v := (.bool true)) (ex_pick1 rfl hE rfl hc7 rfl) ?_
                intro a hE
                obtain rfl := Option.some.inj hg2
                exact s_nil ⟨hE.cut ⟨rfl, rfl, rfl, rfl, rfl, trivial⟩, hp⟩
              ·
                replace hg2 := (ie hc7).symm.trans hg2
                refine s_val (wk1 hE rfl rfl rfl hc7) rfl rfl hE hp (v := (.string p0)) (ex_move rfl hE rfl) ?_
                intro a hE
                refine s_val (wk1 hE rfl rfl rfl hc7) rfl rfl hE hp (v := (.int .i64 x3)) (ex_move rfl hE rfl) ?_
                intro a hE
                obtain ⟨x6, ex6, hg2⟩ := bnd hg2
                refine s_val (wk1 hE rfl rfl rfl hc7) rfl rfl hE hp (v := (.int .u8 x6)) (ex_six sty9 rfl hE rfl rfl ex6) ?_
                intro a hE
                refine s_val (wk1 hE rfl rfl rfl hc7) rfl rfl hE hp (v := (.bool (!decide (x6 = 32)))) (ex_neq rfl hE rfl rfl) ?_
                intro a hE
                refine s_val (wk0 rfl) rfl rfl hE hp (v := (.bool (!decide (x6 = 32)))) (ex_pick0 rfl hE rfl hc7 rfl) ?_
                intro a hE
                obtain rfl := Option.some.inj hg2
                exact s_nil ⟨hE.cut ⟨rfl, rfl, rfl, rfl, rfl, trivial⟩, hp⟩
            · rintro a w ⟨hE, hp⟩
              refine s_nil ?_
              refine k_if hE rfl (fun hc8 => ?_) (fun hc8 => ?_)
              · replace hl1 := (it hc8).symm.trans hl1
                refine k_seq ?_
                refine k_region ?_
                refine s_val (wk0 rfl) rfl rfl hE hp (v := (.slice none 0 0)) (ex_asn rfl hE rfl) ?_
                intro a hE
                refine s_val (wk0 rfl) rfl rfl hE hp (v := (.int .i64 0)) (ex_asn rfl hE rfl) ?_
                intro a hE
                refine s_nil ?_
                refine k_ret ?_
                refine ⟨_, (Option.some.inj hl1).symm, fun hb => ?_⟩
                subst hb
                have hp := hp.emp (OwnSl.nil (α := Int) 3)
                have hp : Hp Z ρ (OwnSl 3 (.slice none 0 0) ([] : List Int) :: _ :: L) w := hp
                obtain rfl := Option.some.inj hm
                exact ret2 hE rfl rfl rfl ⟨_, rfl, _, rfl, ((hp.get 1 rfl).drop)⟩
              · replace hl1 := (ie hc8).symm.trans hl1
                refine k_skip ?_
                refine k_region ?_
                refine s_val (wk0 rfl) rfl rfl hE hp (v := (.int .i64 x3)) (ex_move rfl hE rfl) ?_
                intro a hE
                obtain ⟨x7, ex7, hl1⟩ := bnd hl1
                refine s_val (wk0 rfl) rfl rfl hE hp (v := (.int .i64 x7)) (ex_add rfl hE rfl rfl (inK_some ex7)) ?_
                intro a hE
                refine s_val (wk0 rfl) rfl rfl hE hp (v := w2) (ex_move rfl hE rfl) ?_
                intro a hE
                refine s_val (wk0 rfl) rfl rfl hE hp (v := (.int .i64 x2.1)) (ex_move rfl hE rfl) ?_
                intro a hE
                refine s_lit (wk0 rfl) rfl rfl hE hp rfl [(0, (.int .i64 x2.1))] ⟨⟨rfl, rfl⟩, trivial⟩ [(.int .i64 x2.1)] 3 (fun w => by simp [Instr.buildSlice, Instr.fill, Value.cells, go_sem]) ?_
                intro a w b3 hE hp
                have hp : Hp Z ρ (Pt b3 (.cells #[(.int .i64 x2.1)] 3 (0, 0)) :: _ :: L) w := hp
                obtain ⟨x8, ex8, hl1⟩ := bnd hl1
                refine s_app (wk0 rfl) rfl rfl hE hp rfl slty25 rfl rfl 1 rfl rfl (l2 := [x2.1]) rfl (fun j u hj => by have := Hp.cN 0 rfl 0 _ (sub_all rfl) w hp j u hj; simpa using this) ex8 ?_
                intro v1 a w hE hp
                have hp : Hp Z ρ (_ :: OwnSl 3 v1 x8 :: L) w := hp
                refine s_val (wk0 rfl) rfl rfl hE hp (v := (.int .i64 x7)) (ex_asn rfl hE rfl) ?_
                intro a hE
                refine s_val (wk0 rfl) rfl rfl hE hp (v := v1) (ex_asn rfl hE rfl) ?_
                intro a hE
                refine s_nil ?_
                exact ⟨_, (Option.some.inj hl1).symm, _, hE.cut ⟨rfl, rfl, rfl, trivial⟩, (hp.drop)⟩
      · replace hl1 := (ie hc2).symm.trans hl1
        refine k_exit ?_
        refine ⟨_, (Option.some.inj hl1).symm, fun hbb => ?_⟩
        exact ⟨_, hbb.symm, _, hE.cut trivial, hp⟩
  · rintro a w ⟨b2s, rfl, w2, hE, hp⟩
    dsimp only at hm
    refine k_seq ?_
    refine k_region ?_
    refine s_val (wk0 rfl) rfl rfl hE hp (v := (.slice none 0 0)) (ex_asn rfl hE rfl) ?_
    intro a hE
    refine s_val (wk0 rfl) rfl rfl hE hp (v := (.int .i64 0)) (ex_asn rfl hE rfl) ?_
    intro a hE
    refine s_nil ?_
    refine k_ret ?_
    have hp := hp.emp (OwnSl.nil (α := Int) 3)
    have hp : Hp Z ρ (OwnSl 3 (.slice none 0 0) ([] : List Int) :: OwnSl 3 w2 b2s :: L) w := hp
    obtain rfl := Option.some.inj hm
    exact ret2 hE rfl rfl rfl ⟨_, rfl, _, rfl, ((hp.get 1 rfl).drop)⟩
end Go.Proofs.YtfajmelamonolaaDoor

/- The code goes as its model: assessor/assessorref27.Follows, assessor/assessorref27.IsProof, assessor/assessorref27.With, assessor/assessorref27.Check, assessor/ -/
set_option linter.unusedVariables false
set_option linter.unusedSimpArgs false
namespace Go.Proofs.YtfajmelamonolaaDoor
open Go.RowKit
set_option maxRecDepth 100000 in
set_option maxHeartbeats 4000000 in
theorem c_assessorref27_IsProof {Z : World} {ρ : PH} {L : List Atom} {w : World} (hT : Tabs ρ) (p0 : (List (List Int))) (vp0 : Value) (hp0 : RoSl ρ vp0 p0) (hp : Hp Z ρ (L) w) (r : Bool) (hm : m_assessorref27_IsProof p0 = some r) :
    Calls Tryd.prog 37 #[vp0] w (Ret fun v w' => v = (.bool r) ∧ Hp Z ρ (L) w') := by
  refine enter (N := 26) Tryd.func37 rfl rfl [(0, vp0)] rfl (argsIn_mem ⟨rfl, trivial⟩) fun a hE => ?_
  unfold m_assessorref27_IsProof at hm
  refine k_seq ?_
  refine k_region ?_
  refine s_val (wk0 rfl) rfl rfl hE hp (v := (.bool false)) (ex_asn rfl hE rfl) ?_
  intro a hE
  refine s_nil ?_
  refine k_seq ?_
  refine k_region ?_
  refine s_val (wk0 rfl) rfl rfl hE hp (v := (.int .i64 0)) (ex_asn rfl hE rfl) ?_
  intro a hE
  refine s_nil ?_
  refine k_seq ?_
  refine k_seq ?_
  refine k_region ?_
  refine s_val (wk0 rfl) rfl rfl hE hp (v := (.int .i64 0)) (ex_asn rfl hE rfl) ?_
  intro a hE
  refine s_nil ?_
  obtain ⟨b1, hc1, hm⟩ := bnd hm
  refine k_block (fun a w => ∃ s : Int, b1 = .brk s ∧ (Env 26 [(3, (.int .i64 s))] a ∧ Hp Z ρ (L) w)) ?_ ?_
  · refine k_loop hc1 (fun s a w => Env 26 [(0, vp0), (3, (.int .i64 s.1)), (4, (.int .i64 s.2))] a ∧ Hp Z ρ (L) w) ?_ ?_
    · exact ⟨hE.cut ⟨rfl, rfl, rfl, trivial⟩, hp⟩
    · rintro ⟨lp1_0, lp1_1⟩ st a w ⟨hE, hp⟩ hl1
      have hE : Env 26 [(0, vp0), (3, (.int .i64 lp1_0)), (4, (.int .i64 lp1_1))] a := hE
      have hp : Hp Z ρ (L) w := hp
      replace hl1 : m_assessorref27_IsProof_lp1 p0 lp1_0 lp1_1 = some st := hl1
      unfold m_assessorref27_IsProof_lp1 at hl1
      refine k_seq ?_
      refine k_seq ?_
      refine k_region ?_
      refine s_val (wk0 rfl) rfl rfl hE hp (v := (.int .i64 lp1_1)) (ex_move rfl hE rfl) ?_
      intro a hE
      refine s_val (wk0 rfl) rfl rfl hE hp (v := vp0) (ex_move rfl hE rfl) ?_
      intro a hE
      refine s_val (wk0 rfl) rfl rfl hE hp (v := (.int .i64 (p0.length : Int))) (ex_len rfl hE rfl (RoSl.len hp0 slty22)) ?_
      intro a hE
      refine s_val (wk0 rfl) rfl rfl hE hp (v := (.bool (decide (lp1_1 < (p0.length : Int))))) (ex_lss rfl hE rfl rfl) ?_
      intro a hE
      refine s_nil ?_
      refine k_if hE rfl (fun hc2 => ?_) (fun hc2 => ?_)
      · replace hl1 := (it hc2).symm.trans hl1
        refine k_skip ?_
        refine k_seq ?_
        refine k_plain ?_
        refine k_seq ?_
        refine k_seq ?_
        refine k_region ?_
        refine s_val (wk0 rfl) rfl rfl hE hp (v := vp0) (ex_move rfl hE rfl) ?_
        intro a hE
        refine s_val (wk0 rfl) rfl rfl hE hp (v := (.int .i64 lp1_1)) (ex_move rfl hE rfl) ?_
        intro a hE
        obtain ⟨x1, ex1, hl1⟩ := bnd hl1
        obtain ⟨b2, b2o, b2c, b2r, b2k, b2f⟩ := RoSl.at hp0 slty22 ex1
        obtain ⟨vb2, rfl, hb2⟩ := b2k
        have b2f : AtP ρ b2 b2o [vb2] := b2f
        refine s_val (wk0 rfl) rfl rfl hE hp (v := (.pointer (some ⟨b2, b2o, none⟩))) (ex_index rfl hE rfl rfl b2r) ?_
        intro a hE
        refine s_val (wk0 rfl) rfl rfl hE hp (v := vb2) (ex_load rfl hE rfl (fun w hw => run_ld1 varty25 (b2f.c 0 rfl w hw))) ?_
        intro a hE
        obtain ⟨x2, ex2, hl1⟩ := bnd hl1
        refine s_call (wk0 rfl) rfl rfl hE rfl [vb2, (.int .i64 65536)] ⟨rfl, rfl, trivial⟩ ent12 (c_assessorref26_IsClause hT x1 vb2 hb2 65536 hp x2 ex2) Ret.ret ?_
        intro v a w hR hE
        obtain ⟨rfl, hp⟩ := Ret.of hR
        have hp : Hp Z ρ (L) w := hp
        refine s_val (wk0 rfl) rfl rfl hE hp (v := (.bool (!x2))) (ex_not rfl hE rfl) ?_
        intro a hE
        refine s_nil ?_
        refine k_if hE rfl (fun hc3 => ?_) (fun hc3 => ?_)
        · replace hl1 := (it hc3).symm.trans hl1
          refine k_seq ?_
          refine k_region ?_
          refine s_val (wk0 rfl) rfl rfl hE hp (v := (.bool false)) (ex_asn rfl hE rfl) ?_
          intro a hE
          refine s_nil ?_
          refine k_ret ?_
          refine ⟨_, (Option.some.inj hl1).symm, fun hb => ?_⟩
          subst hb
          obtain rfl := Option.some.inj hm
          exact ret1 hE rfl rfl ⟨_, rfl, rfl, hp⟩
        · replace hl1 := (ie hc3).symm.trans hl1
          refine k_skip ?_
          refine k_region ?_
          refine s_val (wk0 rfl) rfl rfl hE hp (v := (.int .i64 lp1_0)) (ex_move rfl hE rfl) ?_
          intro a hE
          refine s_val (wk0 rfl) rfl rfl hE hp (v := vp0) (ex_move rfl hE rfl) ?_
          intro a hE
          refine s_val (wk0 rfl) rfl rfl hE hp (v := (.int .i64 lp1_1)) (ex_move rfl hE rfl) ?_
          intro a hE
          obtain ⟨x3, ex3, hl1⟩ := bnd hl1
          obtain ⟨b3, b3o, b3c, b3r, b3k, b3f⟩ := RoSl.at hp0 slty22 ex3
          obtain ⟨vb3, rfl, hb3⟩ := b3k
          have b3f : AtP ρ b3 b3o [vb3] := b3f
          refine s_val (wk0 rfl) rfl rfl hE hp (v := (.pointer (some ⟨b3, b3o, none⟩))) (ex_index rfl hE rfl rfl b3r) ?_
          intro a hE
          refine s_val (wk0 rfl) rfl rfl hE hp (v := vb3) (ex_load rfl hE rfl (fun w hw => run_ld1 varty25 (b3f.c 0 rfl w hw))) ?_
          intro a hE
          refine s_val (wk0 rfl) rfl rfl hE hp (v := (.int .i64 (x3.length : Int))) (ex_len rfl hE rfl (RoSl.len hb3 slty25)) ?_
          intro a hE
          obtain ⟨x4, ex4, hl1⟩ := bnd hl1
          refine s_val (wk0 rfl) rfl rfl hE hp (v := (.int .i64 x4)) (ex_add rfl hE rfl rfl (inK_some ex4)) ?_
          intro a hE
          refine s_val (wk0 rfl) rfl rfl hE hp (v := (.int .i64 x4)) (ex_asn rfl hE rfl) ?_
          intro a hE
          refine s_nil ?_
          refine k_region ?_
          refine s_val (wk0 rfl) rfl rfl hE hp (v := (.int .i64 lp1_1)) (ex_move rfl hE rfl) ?_
          intro a hE
          obtain ⟨x5, ex5, hl1⟩ := bnd hl1
          refine s_val (wk0 rfl) rfl rfl hE hp (v := (.int .i64 x5)) (ex_add rfl hE rfl rfl (inK_some ex5)) ?_
          intro a hE
          refine s_val (wk0 rfl) rfl rfl hE hp (v := (.int .i64 x5)) (ex_asn rfl hE rfl) ?_
          intro a hE
          refine s_nil ?_
          have hE := hE.cut (E' := [(0, vp0), (3, (.int .i64 x4)), (4, (.int .i64 x5))]) ⟨rfl, rfl, rfl, trivial⟩
          exact ⟨_, (Option.some.inj hl1).symm, hE.cut ⟨rfl, rfl, rfl, trivial⟩, hp⟩
      · replace hl1 := (ie hc2).symm.trans hl1
        refine k_exit ?_
        refine ⟨_, (Option.some.inj hl1).symm, fun hbb => ?_⟩
        exact ⟨_, hbb.symm, hE.cut ⟨rfl, trivial⟩, hp⟩
  · rintro a w ⟨b1s, rfl, hE, hp⟩
    dsimp only at hm
    refine k_seq ?_
    refine k_region ?_
    refine s_val (wk0 rfl) rfl rfl hE hp (v := (.int .i64 b1s)) (ex_move rfl hE rfl) ?_
    intro a hE
    refine s_val (wk0 rfl) rfl rfl hE hp (v := (.bool (decide (b1s ≤ 1048576)))) (ex_leq rfl hE rfl rfl) ?_
    intro a hE
    refine s_val (wk0 rfl) rfl rfl hE hp (v := (.bool (decide (b1s ≤ 1048576)))) (ex_asn rfl hE rfl) ?_
    intro a hE
    refine s_nil ?_
    refine k_ret ?_
    obtain rfl := Option.some.inj hm
    exact ret1 hE rfl rfl ⟨_, rfl, rfl, hp⟩
set_option maxRecDepth 100000 in
set_option maxHeartbeats 4000000 in
theorem c_assessorref27_Format {Z : World} {ρ : PH} {L : List Atom} {w : World} (hT : Tabs ρ) (p0 : (List (List Int))) (vp0 : Value) (hp0 : RoSl ρ vp0 p0) (hp : Hp Z ρ (L) w) (r : ByteArray) (hm : m_assessorref27_Format p0 = some r) :
    Calls Tryd.prog 26 #[vp0] w (Ret fun v w' => v = (.string r) ∧ Hp Z ρ (L) w') := by
  refine enter (N := 23) Tryd.func26 rfl rfl [(0, vp0)] rfl (argsIn_mem ⟨rfl, trivial⟩) fun a hE => ?_
  unfold m_assessorref27_Format at hm
  refine k_seq ?_
  refine k_region ?_
  refine s_val (wk0 rfl) rfl rfl hE hp (v := (.string (ByteArray.mk #[]))) (ex_asn rfl hE rfl) ?_
  intro a hE
  refine s_nil ?_
  refine k_seq ?_
  refine k_region ?_
  refine s_val (wk0 rfl) rfl rfl hE hp (v := (.string (ByteArray.mk #[]))) (ex_asn rfl hE rfl) ?_
  intro a hE
  refine s_nil ?_
  refine k_seq ?_
  refine k_seq ?_
  refine k_region ?_
  refine s_val (wk0 rfl) rfl rfl hE hp (v := vp0) (ex_move rfl hE rfl) ?_
  intro a hE
  obtain ⟨x1, ex1, hm⟩ := bnd hm
  refine s_call (wk0 rfl) rfl rfl hE rfl [vp0] ⟨rfl, trivial⟩ ent37 (c_assessorref27_IsProof hT p0 vp0 hp0 hp x1 ex1) Ret.ret ?_
  intro v a w hR hE
  obtain ⟨rfl, hp⟩ := Ret.of hR
  have hp : Hp Z ρ (L) w := hp
  refine s_val (wk0 rfl) rfl rfl hE hp (v := (.bool (!x1))) (ex_not rfl hE rfl) ?_
  intro a hE
  refine s_nil ?_
  refine k_if hE rfl (fun hc1 => ?_) (fun hc1 => ?_)
  · replace hm := (it hc1).symm.trans hm
    refine k_seq ?_
    refine k_region ?_
    refine s_val (wk0 rfl) rfl rfl hE hp (v := (.string (ByteArray.mk #[]))) (ex_move rfl hE rfl) ?_
    intro a hE
    refine s_val (wk0 rfl) rfl rfl hE hp (v := (.string (ByteArray.mk #[]))) (ex_asn rfl hE rfl) ?_
    intro a hE
    refine s_nil ?_
    refine k_ret ?_
    obtain rfl := Option.some.inj hm
    exact ret1 hE rfl rfl ⟨_, rfl, rfl, hp⟩
  · replace hm := (ie hc1).symm.trans hm
    refine k_skip ?_
    refine k_seq ?_
    refine k_seq ?_
    refine k_region ?_
    refine s_val (wk0 rfl) rfl rfl hE hp (v := (.int .i64 0)) (ex_asn rfl hE rfl) ?_
    intro a hE
    refine s_nil ?_
    obtain ⟨b1, hc2, hm⟩ := bnd hm
    refine k_block (fun a w => Env 23 [(3, (.string b1))] a ∧ Hp Z ρ (L) w) ?_ ?_
    · refine k_loop hc2 (fun s a w => Env 23 [(0, vp0), (3, (.string s.1)), (4, (.int .i64 s.2))] a ∧ Hp Z ρ (L) w) ?_ ?_
      · exact ⟨hE.cut ⟨rfl, rfl, rfl, trivial⟩, hp⟩
      · rintro ⟨lp1_0, lp1_1⟩ st a w ⟨hE, hp⟩ hl1
        have hE : Env 23 [(0, vp0), (3, (.string lp1_0)), (4, (.int .i64 lp1_1))] a := hE
        have hp : Hp Z ρ (L) w := hp
        replace hl1 : m_assessorref27_Format_lp1 p0 lp1_0 lp1_1 = some st := hl1
        unfold m_assessorref27_Format_lp1 at hl1
        refine k_seq ?_
        refine k_seq ?_
        refine k_region ?_
        refine s_val (wk0 rfl) rfl rfl hE hp (v := (.int .i64 lp1_1)) (ex_move rfl hE rfl) ?_
        intro a hE
        refine s_val (wk0 rfl) rfl rfl hE hp (v := vp0) (ex_move rfl hE rfl) ?_
        intro a hE
        refine s_val (wk0 rfl) rfl rfl hE hp (v := (.int .i64 (p0.length : Int))) (ex_len rfl hE rfl (RoSl.len hp0 slty22)) ?_
        intro a hE
        refine s_val (wk0 rfl) rfl rfl hE hp (v := (.bool (decide (lp1_1 < (p0.length : Int))))) (ex_lss rfl hE rfl rfl) ?_
        intro a hE
        refine s_nil ?_
        have hE := hE.cut (E' := [(0, vp0), (3, (.string lp1_0)), (4, (.int .i64 lp1_1)), (12, (.bool (decide (lp1_1 < (p0.length : Int)))))]) ⟨rfl, rfl, rfl, rfl, trivial⟩
        refine k_if hE rfl (fun hc3 => ?_) (fun hc3 => ?_)
        · replace hl1 := (it hc3).symm.trans hl1
          refine k_skip ?_
          refine k_seq ?_
          refine k_plain ?_
          refine k_region ?_
          refine s_val (wk0 rfl) rfl rfl hE hp (v := (.string lp1_0)) (ex_move rfl hE rfl) ?_
          intro a hE
          refine s_val (wk0 rfl) rfl rfl hE hp (v := vp0) (ex_move rfl hE rfl) ?_
          intro a hE
          refine s_val (wk0 rfl) rfl rfl hE hp (v := (.int .i64 lp1_1)) (ex_move rfl hE rfl) ?_
          intro a hE
          obtain ⟨x2, ex2, hl1⟩ := bnd hl1
          obtain ⟨b2, b2o, b2c, b2r, b2k, b2f⟩ := RoSl.at hp0 slty22 ex2
          obtain ⟨vb2, rfl, hb2⟩ := b2k
          have b2f : AtP ρ b2 b2o [vb2] := b2f
          refine s_val (wk0 rfl) rfl rfl hE hp (v := (.pointer (some ⟨b2, b2o, none⟩))) (ex_index rfl hE rfl rfl b2r) ?_
          intro a hE
          refine s_val (wk0 rfl) rfl rfl hE hp (v := vb2) (ex_load rfl hE rfl (fun w hw => run_ld1 varty25 (b2f.c 0 rfl w hw))) ?_
          intro a hE
          obtain ⟨x3, ex3, hl1⟩ := bnd hl1
          refine s_call (wk0 rfl) rfl rfl hE rfl [vb2] ⟨rfl, trivial⟩ ent50 (c_assessorref26_Line hT x2 vb2 hb2 hp x3 ex3) Ret.ret ?_
          intro v a w hR hE
          obtain ⟨rfl, hp⟩ := Ret.of hR
          have hp : Hp Z ρ (L) w := hp
          obtain ⟨x4, ex4, hl1⟩ := bnd hl1
          refine s_val (wk0 rfl) rfl rfl hE hp (v := (.string x4)) (ex_cat rfl hE rfl rfl ex4) ?_
          intro a hE
          refine s_val (wk0 rfl) rfl rfl hE hp (v := (.string x4)) (ex_asn rfl hE rfl) ?_
          intro a hE
          refine s_nil ?_
          refine k_region ?_
          refine s_val (wk0 rfl) rfl rfl hE hp (v := (.int .i64 lp1_1)) (ex_move rfl hE rfl) ?_
          intro a hE
          obtain ⟨x5, ex5, hl1⟩ := bnd hl1
          refine s_val (wk0 rfl) rfl rfl hE hp (v := (.int .i64 x5)) (ex_add rfl hE rfl rfl (inK_some ex5)) ?_
          intro a hE
          refine s_val (wk0 rfl) rfl rfl hE hp (v := (.int .i64 x5)) (ex_asn rfl hE rfl) ?_
          intro a hE
          refine s_nil ?_
          exact ⟨_, (Option.some.inj hl1).symm, hE.cut ⟨rfl, rfl, rfl, trivial⟩, hp⟩
        · replace hl1 := (ie hc3).symm.trans hl1
          refine k_exit ?_
          refine ⟨_, (Option.some.inj hl1).symm, fun hbb => ?_⟩
          subst hbb
          exact ⟨hE.cut ⟨rfl, trivial⟩, hp⟩
    · rintro a w ⟨hE, hp⟩
      refine k_seq ?_
      refine k_region ?_
      refine s_val (wk0 rfl) rfl rfl hE hp (v := (.string b1)) (ex_move rfl hE rfl) ?_
      intro a hE
      refine s_val (wk0 rfl) rfl rfl hE hp (v := (.string b1)) (ex_asn rfl hE rfl) ?_
      intro a hE
      refine s_nil ?_
      refine k_ret ?_
      obtain rfl := Option.some.inj hm
      exact ret1 hE rfl rfl ⟨_, rfl, rfl, hp⟩
set_option maxRecDepth 100000 in
set_option maxHeartbeats 4000000 in
theorem c_assessorref27_Parse {Z : World} {ρ : PH} {L : List Atom} {w : World} (hT : Tabs ρ) (p0 : ByteArray) (hp : Hp Z ρ (L) w) (r : ((List (List Int)) × Int)) (hm : m_assessorref27_Parse p0 = some r) :
    Calls Tryd.prog 24 #[(.string p0)] w (Ret fun v w' => ∃ (vr1 : Value) (usr1 : List Sl), v = .tuple #[vr1, (.int .i64 r.2)] ∧ Hp Z ρ (TblA 25 3 vr1 usr1 (r.1 : (List (List Int))) :: L) w') := by
  refine enter (N := 28) Tryd.func24 rfl rfl [(0, (.string p0))] rfl (argsIn_mem ⟨rfl, trivial⟩) fun a hE => ?_
  unfold m_assessorref27_Parse at hm
  refine k_seq ?_
  refine k_region ?_
  refine s_val (wk0 rfl) rfl rfl hE hp (v := (.slice none 0 0)) (ex_asn rfl hE rfl) ?_
  intro a hE
  refine s_val (wk0 rfl) rfl rfl hE hp (v := (.int .i64 0)) (ex_asn rfl hE rfl) ?_
  intro a hE
  refine s_nil ?_
  refine k_seq ?_
  refine k_region ?_
  refine s_lit (wk0 rfl) rfl rfl hE hp rfl [] trivial [] 25 (fun w => by simp [Instr.buildSlice, Instr.fill, Value.cells, go_sem]) ?_
  intro a w b1 hE hp
  have hp : Hp Z ρ (Pt b1 (.cells #[] 25 (0, 0)) :: L) w := hp
  refine s_val (wk0 rfl) rfl rfl hE hp (v := (.slice (some ⟨b1, 0, none⟩) 0 0)) (ex_asn rfl hE rfl) ?_
  intro a hE
  refine s_nil ?_
  refine k_seq ?_
  have hp := hp.emp (TblA.none (α := Int) 25 3 (some ⟨b1, 0, none⟩))
  have hp : Hp Z ρ (TblA 25 3 (.slice (some ⟨b1, 0, none⟩) 0 0) ([]) ([] : (List (List Int))) :: _ :: L) w := hp
  obtain ⟨b2, hc1, hm⟩ := bnd hm
  refine k_block (fun a w => ∃ s : (List (List Int)), b2 = .brk s ∧ (∃ (w6 : Value) (us6 : List Sl), Env 28 [(4, w6)] a ∧ Hp Z ρ (TblA 25 3 w6 us6 (s : (List (List Int))) :: Pt b1 (.cells #[] 25 (0, 0)) :: L) w)) ?_ ?_
  · refine k_loop hc1 (fun s a w => ∃ (w6 : Value) (us6 : List Sl), Env 28 [(0, (.string s.1)), (4, w6)] a ∧ Hp Z ρ (TblA 25 3 w6 us6 (s.2 : (List (List Int))) :: Pt b1 (.cells #[] 25 (0, 0)) :: L) w) ?_ ?_
    · exact ⟨_, _, hE.cut ⟨rfl, rfl, trivial⟩, hp⟩
    · rintro ⟨lp1_0, lp1_1⟩ st a w ⟨w6, us6, hE, hp⟩ hl1
      have hE : Env 28 [(0, (.string lp1_0)), (4, w6)] a := hE
      have hp : Hp Z ρ (TblA 25 3 w6 us6 (lp1_1 : (List (List Int))) :: _ :: L) w := hp
      replace hl1 : m_assessorref27_Parse_lp1  lp1_0 lp1_1 = some st := hl1
      unfold m_assessorref27_Parse_lp1 at hl1
      refine k_seq ?_
      refine k_seq ?_
      refine k_region ?_
      refine s_val (wk0 rfl) rfl rfl hE hp (v := (.string lp1_0)) (ex_move rfl hE rfl) ?_
      intro a hE
      refine s_val (wk0 rfl) rfl rfl hE hp (v := (.bool (!decide (lp1_0 = (ByteArray.mk #[]))))) (ex_sneq rfl hE rfl rfl) ?_
      intro a hE
      refine s_nil ?_
      refine k_if hE rfl (fun hc2 => ?_) (fun hc2 => ?_)
      · replace hl1 := (it hc2).symm.trans hl1
        refine k_skip ?_
        refine k_plain ?_
        refine k_seq ?_
        refine k_region ?_
        refine s_val (wk0 rfl) rfl rfl hE hp (v := (.string lp1_0)) (ex_move rfl hE rfl) ?_
        intro a hE
        obtain ⟨x1, ex1, hl1⟩ := bnd hl1
        refine s_call (wk0 rfl) rfl rfl hE rfl [(.string lp1_0)] ⟨rfl, trivial⟩ ent46 (c_assessorref26_ReadLine hT lp1_0 hp x1 ex1) Ret.ret ?_
        intro v a w hR hE
        obtain ⟨vr1, rfl, hp⟩ := Ret.of hR
        have hp : Hp Z ρ (OwnSl 3 vr1 x1.1 :: _ :: _ :: L) w := hp
        refine s_val (wk0 rfl) rfl rfl hE hp (v := (.tuple #[vr1, (.int .i64 x1.2)])) (ex_move rfl hE rfl) ?_
        intro a hE
        refine s_val (wk0 rfl) rfl rfl hE hp (v := vr1) (ex_extract rfl hE rfl rfl) ?_
        intro a hE
        refine s_val (wk0 rfl) rfl rfl hE hp (v := (.int .i64 x1.2)) (ex_extract rfl hE rfl rfl) ?_
        intro a hE
        refine s_val (wk0 rfl) rfl rfl hE hp (v := vr1) (ex_asn rfl hE rfl) ?_
        intro a hE
        refine s_val (wk0 rfl) rfl rfl hE hp (v := (.int .i64 x1.2)) (ex_asn rfl hE rfl) ?_
        intro a hE
        refine s_nil ?_
        refine k_seq ?_
        refine k_seq ?_
        refine k_region ?_
        refine s_val (wk0 rfl) rfl rfl hE hp (v := (.int .i64 x1.2)) (ex_move rfl hE rfl) ?_
        intro a hE
        refine s_val (wk0 rfl) rfl rfl hE hp (v := (.bool (decide (x1.2 = 0)))) (ex_eql rfl hE rfl rfl) ?_
        intro a hE
        refine s_nil ?_
        refine k_if hE rfl (fun hc3 => ?_) (fun hc3 => ?_)
        · replace hl1 := (it hc3).symm.trans hl1
          refine k_seq ?_
          refine k_region ?_
          refine s_val (wk0 rfl) rfl rfl hE hp (v := (.slice none 0 0)) (ex_asn rfl hE rfl) ?_
          intro a hE
          refine s_val (wk0 rfl) rfl rfl hE hp (v := (.int .i64 3)) (ex_asn rfl hE rfl) ?_
          intro a hE
          refine s_nil ?_
          refine k_ret ?_
          refine ⟨_, (Option.some.inj hl1).symm, fun hb => ?_⟩
          subst hb
          have hp := hp.emp (TblA.none (α := Int) 25 3 none)
          have hp : Hp Z ρ (TblA 25 3 (.slice none 0 0) ([]) ([] : (List (List Int))) :: _ :: _ :: _ :: L) w := hp
          obtain rfl := Option.some.inj hm
          exact ret2 hE rfl rfl rfl ⟨_, rfl, _, _, rfl, ((((((hp.get 3 rfl).drop).get 2 rfl).drop).get 1 rfl).drop)⟩
        · replace hl1 := (ie hc3).symm.trans hl1
          refine k_skip ?_
          obtain ⟨x2, ex2, hl1⟩ := bnd hl1
          obtain ⟨x3, ex3, hl1⟩ := bnd hl1
          have hp := hp.drew
          refine k_heldV ([([], At0 Z ρ)] : Facts) (fun a w => ∃ y6 : Value, ∃ yus6 : List Sl, Env 28 [(0, (.string x3)), (4, y6)] a ∧ Hp Z ρ (TblA 25 3 y6 yus6 (x2 : (List (List Int))) :: Pt b1 (.cells #[] 25 (0, 0)) :: L) w) (by kernel_rfl) ⟨fun _ => ⟨_, hp⟩, trivial⟩ (fun hS => ?_) ?_
          ·
            generalize w.drew = w at hS hp ⊢
            refine v_take0 0 (wk0 rfl) rfl rfl rfl hE (by kernel_rfl) (by kernel_rfl) (by kernel_rfl) rfl (by kernel_rfl) hS (v := w6) (fun _ => ex_move rfl hE rfl) ?_
            intro a hE hS
            refine v_take0 1 (wk0 rfl) rfl rfl rfl hE (by kernel_rfl) (by kernel_rfl) (by kernel_rfl) rfl (by kernel_rfl) hS (v := vr1) (fun _ => ex_move rfl hE rfl) ?_
            intro a hE hS
            refine v_take0 4 (wk0 rfl) rfl rfl rfl hE (by kernel_rfl) (by kernel_rfl) (by kernel_rfl) rfl (by kernel_rfl) hS (v := (.string lp1_0)) (fun _ => ex_move rfl hE rfl) ?_
            intro a hE hS
            refine v_take0 5 (wk0 rfl) rfl rfl rfl hE (by kernel_rfl) (by kernel_rfl) (by kernel_rfl) rfl (by kernel_rfl) hS (v := (.int .i64 x1.2)) (fun _ => ex_move rfl hE rfl) ?_
            intro a hE hS
            refine v_take0 6 (wk0 rfl) rfl rfl rfl hE (by kernel_rfl) (by kernel_rfl) (by kernel_rfl) rfl (by kernel_rfl) hS (v := (.string x3)) (fun _ => ex_sl rfl hE rfl (some (.i64, x1.2)) none (by exact rfl) (by exact trivial) (run_ssub sty9 (some (.i64, x1.2)) none rfl rfl ex3)) ?_
            intro a hE hS
            refine v_all [2] (by kernel_rfl) rfl ?_
            refine List.forall_mem_cons.2 ⟨?_, fun _ h => absurd h (by simp)⟩
            ·
              refine h_op rfl ?_
              refine s_lit (wk0 rfl) rfl rfl hE hp rfl [(0, vr1)] ⟨⟨rfl, rfl⟩, trivial⟩ [vr1] 25 (fun w => by have hc0 := OwnSl.cells hp 0 rfl; simp only [Value.cells] at hc0; simp [Instr.buildSlice, Instr.fill, Value.cells, hc0, go_sem]) ?_
              intro a w b4 hE hp
              have hp : Hp Z ρ (Pt b4 (.cells #[vr1] 25 (0, 0)) :: _ :: _ :: _ :: L) w := hp
              refine s_nil (and_with ⟨fun _ => ⟨_, hp⟩, trivial⟩ fun hS => ?_)
              refine v_all [3] (by kernel_rfl) rfl ?_
              refine List.forall_mem_cons.2 ⟨?_, fun _ h => absurd h (by simp)⟩
              ·
                refine h_op rfl ?_
                obtain ⟨sl2, sl2e⟩ := OwnSl.toSl hp 1 rfl
                refine s_tapp (wk0 rfl) rfl rfl hE sl2e (hp.get 1 rfl) rfl slty22 rfl rfl 1 rfl rfl (Hp.c 0 rfl 0 rfl w hp) ex2 ?_
                intro v2 us2 a w hE hp
                have hp : Hp Z ρ (_ :: TblA 25 3 v2 us2 (x2 : (List (List Int))) :: _ :: L) w := hp
                refine s_nil (and_with ⟨fun _ => ⟨_, hp⟩, trivial⟩ fun hS => ?_)
                refine v_take0 7 (wk0 rfl) rfl rfl rfl hE (by kernel_rfl) (by kernel_rfl) (by kernel_rfl) rfl (by kernel_rfl) hS (v := v2) (fun _ => ex_asn rfl hE rfl) ?_
                intro a hE hS
                refine v_take0 8 (wk0 rfl) rfl rfl rfl hE (by kernel_rfl) (by kernel_rfl) (by kernel_rfl) rfl (by kernel_rfl) hS (v := (.string x3)) (fun _ => ex_asn rfl hE rfl) ?_
                intro a hE hS
                exact v_done (by kernel_rfl) ⟨_, _, hE.cut ⟨rfl, rfl, trivial⟩, (hp.drop)⟩
          · rintro a w ⟨y6, yus6, hE, hp⟩
            exact ⟨_, (Option.some.inj hl1).symm, _, _, hE.cut ⟨rfl, rfl, trivial⟩, hp⟩
      · replace hl1 := (ie hc2).symm.trans hl1
        refine k_exit ?_
        refine ⟨_, (Option.some.inj hl1).symm, fun hbb => ?_⟩
        exact ⟨_, hbb.symm, _, _, hE.cut ⟨rfl, trivial⟩, hp⟩
  · rintro a w ⟨b2s, rfl, w6, us6, hE, hp⟩
    dsimp only at hm
    refine k_seq ?_
    refine k_seq ?_
    refine k_region ?_
    refine s_val (wk0 rfl) rfl rfl hE hp (v := w6) (ex_move rfl hE rfl) ?_
    intro a hE
    obtain ⟨k1, k1a, k1d, k1h⟩ := (hp.get 0 rfl).lend
    obtain ⟨x4, ex4, hm⟩ := bnd hm
    refine s_call (wk0 rfl) rfl rfl hE rfl [w6] ⟨rfl, trivial⟩ ent37 (c_assessorref27_IsProof (Tabs.mono hT (PH.le_un _ k1)) b2s w6 (TblA.ro k1d k1a) k1h x4 ex4) Ret.ret ?_
    intro v a w hR hE
    obtain ⟨rfl, hp⟩ := Ret.of hR
    have hp := Hp.back k1a k1d hp
    have hp : Hp Z ρ (TblA 25 3 w6 us6 (b2s : (List (List Int))) :: _ :: L) w := hp
    refine s_val (wk0 rfl) rfl rfl hE hp (v := (.bool (!x4))) (ex_not rfl hE rfl) ?_
    intro a hE
    refine s_nil ?_
    refine k_if hE rfl (fun hc4 => ?_) (fun hc4 => ?_)
    · replace hm := (it hc4).symm.trans hm
      refine k_seq ?_
      refine k_region ?_
      refine s_val (wk0 rfl) rfl rfl hE hp (v := (.slice none 0 0)) (ex_asn rfl hE rfl) ?_
      intro a hE
      refine s_val (wk0 rfl) rfl rfl hE hp (v := (.int .i64 3)) (ex_asn rfl hE rfl) ?_
      intro a hE
      refine s_nil ?_
      refine k_ret ?_
      have hp := hp.emp (TblA.none (α := Int) 25 3 none)
      have hp : Hp Z ρ (TblA 25 3 (.slice none 0 0) ([]) ([] : (List (List Int))) :: _ :: _ :: L) w := hp
      obtain rfl := Option.some.inj hm
      exact ret2 hE rfl rfl rfl ⟨_, rfl, _, _, rfl, ((((hp.get 2 rfl).drop).get 1 rfl).drop)⟩
    · replace hm := (ie hc4).symm.trans hm
      refine k_skip ?_
      refine k_seq ?_
      refine k_region ?_
      refine s_val (wk0 rfl) rfl rfl hE hp (v := w6) (ex_move rfl hE rfl) ?_
      intro a hE
      refine s_val (wk0 rfl) rfl rfl hE hp (v := w6) (ex_asn rfl hE rfl) ?_
      intro a hE
      refine s_val (wk0 rfl) rfl rfl hE hp (v := (.int .i64 0)) (ex_asn rfl hE rfl) ?_
      intro a hE
      refine s_nil ?_
      refine k_ret ?_
      obtain rfl := Option.some.inj hm
      exact ret2 hE rfl rfl rfl ⟨_, rfl, _, _, rfl, ((hp.get 1 rfl).drop)⟩
end Go.Proofs.YtfajmelamonolaaDoor

/- The code goes as its model: assessor/assessorref26.Decimal, assessor/assessorref26.integer, assessor/assessorref26.Line, assessor/assessorref26.ReadLine, assess -/
import Derived.Test.YtelioaepnpnojaaGreatDoorKTe4
import Derived.Test.YtelioaepnpnojaaGreatDoorKTe6
import Derived.Test.YtelioaepnpnojaaGreatDoorKTe7
import Derived.Test.YtelioaepnpnojaaGreatDoorKTe10
set_option linter.unusedVariables false
set_option linter.unusedSimpArgs false
namespace Go.Proofs.YtelioaepnpnojaaGreatDoor
open Go.RowKit
set_option maxRecDepth 100000 in
set_option maxHeartbeats 4000000 in
theorem c_assessorref26_Decimal_body (self : Int → Option ByteArray) (hself : ∀ {Z : World} {ρ : PH} {L : List Atom} {w : World} (hT : Tabs ρ) (p0 : Int) (hp : Hp Z ρ (L) w) (r : ByteArray) (hm : self p0 = some r), Calls Tryz.prog 69 #[(.int .i64 p0)] w (Ret fun v w' => v = (.string r) ∧ Hp Z ρ (L) w')) {Z : World} {ρ : PH} {L : List Atom} {w : World} (hT : Tabs ρ) (p0 : Int) (hp : Hp Z ρ (L) w) (r : ByteArray) (hm : m_assessorref26_Decimal_body self p0 = some r) :
    Calls Tryz.prog 69 #[(.int .i64 p0)] w (Ret fun v w' => v = (.string r) ∧ Hp Z ρ (L) w') := by
  refine enter (N := 35) Tryz.func69 rfl rfl [(0, (.int .i64 p0))] rfl (argsIn_mem ⟨rfl, trivial⟩) fun a hE => ?_
  unfold m_assessorref26_Decimal_body at hm
  refine k_seq ?_
  refine k_region ?_
  refine s_val (wk0 rfl) rfl rfl hE hp (v := (.string (ByteArray.mk #[]))) (ex_asn rfl hE rfl) ?_
  intro a hE
  refine s_nil ?_
  refine k_seq ?_
  refine k_region ?_
  refine s_val (wk0 rfl) rfl rfl hE hp (v := (.int .i64 p0)) (ex_move rfl hE rfl) ?_
  intro a hE
  obtain ⟨x1, ex1, hm⟩ := bnd hm
  refine s_val (wk0 rfl) rfl rfl hE hp (v := (.int .i64 x1)) (ex_rem rfl hE rfl rfl (remK_some ex1).1 (remK_some ex1).2) ?_
  intro a hE
  refine s_val (wk0 rfl) rfl rfl hE hp (v := (.int .i64 x1)) (ex_asn rfl hE rfl) ?_
  intro a hE
  refine s_nil ?_
  refine k_seq ?_
  refine k_seq ?_
  refine k_region ?_
  refine s_val (wk0 rfl) rfl rfl hE hp (v := (.int .i64 p0)) (ex_move rfl hE rfl) ?_
  intro a hE
  refine s_val (wk0 rfl) rfl rfl hE hp (v := (.bool (decide (p0 < 0)))) (ex_lss rfl hE rfl rfl) ?_
  intro a hE
  refine s_nil ?_
  obtain ⟨j1, hj1, hm⟩ := bnd hm
  refine k_cut (fun a w => Env 35 [(0, (.int .i64 p0)), (3, (.int .i64 j1))] a ∧ Hp Z ρ (L) w) ?_ ?_
  ·
    refine k_if hE rfl (fun hc1 => ?_) (fun hc1 => ?_)
    · replace hj1 := (it hc1).symm.trans hj1
      refine k_region ?_
      refine s_val (wk0 rfl) rfl rfl hE hp (v := (.int .i64 x1)) (ex_move rfl hE rfl) ?_
      intro a hE
      obtain ⟨x2, ex2, hj1⟩ := bnd hj1
      refine s_val (wk0 rfl) rfl rfl hE hp (v := (.int .i64 x2)) (ex_neg rfl hE rfl (inK_some ex2)) ?_
      intro a hE
      refine s_val (wk0 rfl) rfl rfl hE hp (v := (.int .i64 x2)) (ex_asn rfl hE rfl) ?_
      intro a hE
      refine s_nil ?_
      obtain rfl := Option.some.inj hj1
      exact ⟨hE.cut ⟨rfl, rfl, trivial⟩, hp⟩
    · replace hj1 := (ie hc1).symm.trans hj1
      refine k_skip ?_
      obtain rfl := Option.some.inj hj1
      exact ⟨hE.cut ⟨rfl, rfl, trivial⟩, hp⟩
  · rintro a w ⟨hE, hp⟩
    refine k_seq ?_
    refine k_region ?_
    refine s_val (wk0 rfl) rfl rfl hE hp (v := (.int .i64 j1)) (ex_move rfl hE rfl) ?_
    intro a hE
    refine s_val (wk0 rfl) rfl rfl hE hp (v := (.int .i64 j1)) (ex_move rfl hE rfl) ?_
    intro a hE
    obtain ⟨x3, ex3, hm⟩ := bnd hm
    refine s_val (wk0 rfl) rfl rfl hE hp (v := (.int .i64 x3)) (ex_add rfl hE rfl rfl (inK_some ex3)) ?_
    intro a hE
    obtain ⟨x4, ex4, hm⟩ := bnd hm
    refine s_val (wk0 rfl) rfl rfl hE hp (v := (.string x4)) (ex_sl rfl hE rfl (some (.i64, j1)) (some (.i64, x3)) (by exact rfl) (by exact rfl) (run_ssub sty9 (some (.i64, j1)) (some (.i64, x3)) rfl rfl ex4)) ?_
    intro a hE
    refine s_val (wk0 rfl) rfl rfl hE hp (v := (.string x4)) (ex_asn rfl hE rfl) ?_
    intro a hE
    refine s_nil ?_
    refine k_seq ?_
    refine k_seq ?_
    refine k_region ?_
    refine s_val (wk0 rfl) rfl rfl hE hp (v := (.int .i64 p0)) (ex_move rfl hE rfl) ?_
    intro a hE
    refine s_val (wk0 rfl) rfl rfl hE hp (v := (.bool (decide (p0 < 0)))) (ex_lss rfl hE rfl rfl) ?_
    intro a hE
    refine s_val (wk0 rfl) rfl rfl hE hp (v := (.bool (decide (p0 < 0)))) (ex_move rfl hE rfl) ?_
    intro a hE
    refine s_cut [_, _, _] (fun a w => Env 35 [(20, (.bool ((decide (p0 < 0)) && (decide ((-10) < p0))))), (0, (.int .i64 p0)), (4, (.string x4))] a ∧ Hp Z ρ (L) w) ?_ ?_
    · rcases Bool.eq_false_or_eq_true (decide (p0 < 0)) with hc2 | hc2
      ·
        refine s_val (wk1 hE rfl rfl rfl hc2) rfl rfl hE hp (v := (.int .i64 p0)) (ex_move rfl hE rfl) ?_
        intro a hE
        refine s_val (wk1 hE rfl rfl rfl hc2) rfl rfl hE hp (v := (.bool (decide ((-10) < p0)))) (ex_gtr rfl hE rfl rfl) ?_
        intro a hE
        refine s_val (wk0 rfl) rfl rfl hE hp (v := (.bool (decide ((-10) < p0)))) (ex_pick1 rfl hE rfl hc2 rfl) ?_
        intro a hE
        have hE := hE.eqv (v' := (.bool ((decide (p0 < 0)) && (decide ((-10) < p0))))) (by rw [hc2]; rfl)
        exact s_nil ⟨hE.cut ⟨rfl, rfl, rfl, trivial⟩, hp⟩
      ·
        refine s_skip (wk2 hE rfl rfl rfl hc2) rfl rfl hE ?_
        intro a hE
        refine s_skip (wk2 hE rfl rfl rfl hc2) rfl rfl hE ?_
        intro a hE
        refine s_val (wk0 rfl) rfl rfl hE hp (v := (.bool false)) (ex_pick0 rfl hE rfl hc2 rfl) ?_
        intro a hE
        have hE := hE.eqv (v' := (.bool ((decide (p0 < 0)) && (decide ((-10) < p0))))) (by rw [hc2]; rfl)
        exact s_nil ⟨hE.cut ⟨rfl, rfl, rfl, trivial⟩, hp⟩
    · rintro a w ⟨hE, hp⟩
      refine s_nil ?_
      refine k_if hE rfl (fun hc3 => ?_) (fun hc3 => ?_)
      · replace hm := (it hc3).symm.trans hm
        refine k_seq ?_
        refine k_region ?_
        refine s_val (wk0 rfl) rfl rfl hE hp (v := (.string x4)) (ex_move rfl hE rfl) ?_
        intro a hE
        obtain ⟨x5, ex5, hm⟩ := bnd hm
        refine s_val (wk0 rfl) rfl rfl hE hp (v := (.string x5)) (ex_cat rfl hE rfl rfl ex5) ?_
        intro a hE
        refine s_val (wk0 rfl) rfl rfl hE hp (v := (.string x5)) (ex_asn rfl hE rfl) ?_
        intro a hE
        refine s_nil ?_
        refine k_ret ?_
        obtain rfl := Option.some.inj hm
        exact ret1 hE rfl rfl ⟨_, rfl, rfl, hp⟩
      · replace hm := (ie hc3).symm.trans hm
        refine k_skip ?_
        refine k_seq ?_
        refine k_seq ?_
        refine k_region ?_
        refine s_val (wk0 rfl) rfl rfl hE hp (v := (.int .i64 p0)) (ex_move rfl hE rfl) ?_
        intro a hE
        refine s_val (wk0 rfl) rfl rfl hE hp (v := (.bool (decide (0 ≤ p0)))) (ex_geq rfl hE rfl rfl) ?_
        intro a hE
        refine s_val (wk0 rfl) rfl rfl hE hp (v := (.bool (decide (0 ≤ p0)))) (ex_move rfl hE rfl) ?_
        intro a hE
        refine s_cut [_, _, _] (fun a w => Env 35 [(28, (.bool ((decide (0 ≤ p0)) && (decide (p0 < 10))))), (0, (.int .i64 p0)), (4, (.string x4))] a ∧ Hp Z ρ (L) w) ?_ ?_
        · rcases Bool.eq_false_or_eq_true (decide (0 ≤ p0)) with hc4 | hc4
          ·
            refine s_val (wk1 hE rfl rfl rfl hc4) rfl rfl hE hp (v := (.int .i64 p0)) (ex_move rfl hE rfl) ?_
            intro a hE
            refine s_val (wk1 hE rfl rfl rfl hc4) rfl rfl hE hp (v := (.bool (decide (p0 < 10)))) (ex_lss rfl hE rfl rfl) ?_
            intro a hE
            refine s_val (wk0 rfl) rfl rfl hE hp (v := (.bool (decide (p0 < 10)))) (ex_pick1 rfl hE rfl hc4 rfl) ?_
            intro a hE
            have hE := hE.eqv (v' := (.bool ((decide (0 ≤ p0)) && (decide (p0 < 10))))) (by rw [hc4]; rfl)
            exact s_nil ⟨hE.cut ⟨rfl, rfl, rfl, trivial⟩, hp⟩
          ·
            refine s_skip (wk2 hE rfl rfl rfl hc4) rfl rfl hE ?_
            intro a hE
            refine s_skip (wk2 hE rfl rfl rfl hc4) rfl rfl hE ?_
            intro a hE
            refine s_val (wk0 rfl) rfl rfl hE hp (v := (.bool false)) (ex_pick0 rfl hE rfl hc4 rfl) ?_
            intro a hE
            have hE := hE.eqv (v' := (.bool ((decide (0 ≤ p0)) && (decide (p0 < 10))))) (by rw [hc4]; rfl)
            exact s_nil ⟨hE.cut ⟨rfl, rfl, rfl, trivial⟩, hp⟩
        · rintro a w ⟨hE, hp⟩
          refine s_nil ?_
          refine k_if hE rfl (fun hc5 => ?_) (fun hc5 => ?_)
          · replace hm := (it hc5).symm.trans hm
            refine k_seq ?_
            refine k_region ?_
            refine s_val (wk0 rfl) rfl rfl hE hp (v := (.string x4)) (ex_move rfl hE rfl) ?_
            intro a hE
            refine s_val (wk0 rfl) rfl rfl hE hp (v := (.string x4)) (ex_asn rfl hE rfl) ?_
            intro a hE
            refine s_nil ?_
            refine k_ret ?_
            obtain rfl := Option.some.inj hm
            exact ret1 hE rfl rfl ⟨_, rfl, rfl, hp⟩
          · replace hm := (ie hc5).symm.trans hm
            refine k_skip ?_
            refine k_seq ?_
            refine k_region ?_
            refine s_val (wk0 rfl) rfl rfl hE hp (v := (.int .i64 p0)) (ex_move rfl hE rfl) ?_
            intro a hE
            obtain ⟨x6, ex6, hm⟩ := bnd hm
            refine s_val (wk0 rfl) rfl rfl hE hp (v := (.int .i64 x6)) (ex_quo rfl hE rfl rfl (quoK_some ex6).1 (quoK_some ex6).2) ?_
            intro a hE
            obtain ⟨x7, ex7, hm⟩ := bnd hm
            refine s_call (wk0 rfl) rfl rfl hE rfl [(.int .i64 x6)] ⟨rfl, trivial⟩ ent69 (hself hT x6 hp x7 ex7) Ret.ret ?_
            intro v a w hR hE
            obtain ⟨rfl, hp⟩ := Ret.of hR
            have hp : Hp Z ρ (L) w := hp
            refine s_val (wk0 rfl) rfl rfl hE hp (v := (.string x4)) (ex_move rfl hE rfl) ?_
            intro a hE
            obtain ⟨x8, ex8, hm⟩ := bnd hm
            refine s_val (wk0 rfl) rfl rfl hE hp (v := (.string x8)) (ex_cat rfl hE rfl rfl ex8) ?_
            intro a hE
            refine s_val (wk0 rfl) rfl rfl hE hp (v := (.string x8)) (ex_asn rfl hE rfl) ?_
            intro a hE
            refine s_nil ?_
            refine k_ret ?_
            obtain rfl := Option.some.inj hm
            exact ret1 hE rfl rfl ⟨_, rfl, rfl, hp⟩
theorem c_assessorref26_Decimal_r : ∀ (n : Nat), ∀ {Z : World} {ρ : PH} {L : List Atom} {w : World} (hT : Tabs ρ) (p0 : Int) (hp : Hp Z ρ (L) w) (r : ByteArray) (hm : m_assessorref26_Decimal_r n p0 = some r), Calls Tryz.prog 69 #[(.int .i64 p0)] w (Ret fun v w' => v = (.string r) ∧ Hp Z ρ (L) w') := by
  intro n
  induction n with
  | zero => intro Z ρ L w hT p0 hp r hm; cases hm
  | succ n ih => intro Z ρ L w hT p0 hp r hm; exact c_assessorref26_Decimal_body (m_assessorref26_Decimal_r n) ih hT p0 hp r hm
theorem c_assessorref26_Decimal {Z : World} {ρ : PH} {L : List Atom} {w : World} (hT : Tabs ρ) (p0 : Int) (hp : Hp Z ρ (L) w) (r : ByteArray) (hm : m_assessorref26_Decimal p0 = some r) :
    Calls Tryz.prog 69 #[(.int .i64 p0)] w (Ret fun v w' => v = (.string r) ∧ Hp Z ρ (L) w') := c_assessorref26_Decimal_r _ hT p0 hp r hm
set_option maxRecDepth 100000 in
set_option maxHeartbeats 4000000 in
theorem c_assessorref26_integer {Z : World} {ρ : PH} {L : List Atom} {w : World} (hT : Tabs ρ) (p0 : ByteArray) (hp : Hp Z ρ (L) w) (r : (Int × Int)) (hm : m_assessorref26_integer p0 = some r) :
    Calls Tryz.prog 64 #[(.string p0)] w (Ret fun v w' => v = .tuple #[(.int .i64 r.1), (.int .i64 r.2)] ∧ Hp Z ρ (L) w') := by
  refine enter (N := 67) Tryz.func64 rfl rfl [(0, (.string p0))] rfl (argsIn_mem ⟨rfl, trivial⟩) fun a hE => ?_
  unfold m_assessorref26_integer at hm
  refine k_seq ?_
  refine k_region ?_
  refine s_val (wk0 rfl) rfl rfl hE hp (v := (.int .i64 0)) (ex_asn rfl hE rfl) ?_
  intro a hE
  refine s_val (wk0 rfl) rfl rfl hE hp (v := (.int .i64 0)) (ex_asn rfl hE rfl) ?_
  intro a hE
  refine s_nil ?_
  refine k_seq ?_
  refine k_region ?_
  refine s_val (wk0 rfl) rfl rfl hE hp (v := (.int .i64 0)) (ex_asn rfl hE rfl) ?_
  intro a hE
  refine s_val (wk0 rfl) rfl rfl hE hp (v := (.int .i64 0)) (ex_asn rfl hE rfl) ?_
  intro a hE
  refine s_nil ?_
  refine k_seq ?_
  refine k_seq ?_
  refine k_region ?_
  refine s_val (wk0 rfl) rfl rfl hE hp (v := (.int .i64 0)) (ex_move rfl hE rfl) ?_
  intro a hE
  refine s_val (wk0 rfl) rfl rfl hE hp (v := (.string p0)) (ex_move rfl hE rfl) ?_
  intro a hE
  refine s_val (wk0 rfl) rfl rfl hE hp (v := (.int .i64 (p0.size : Int))) (ex_slen sty9 rfl hE rfl) ?_
  intro a hE
  refine s_val (wk0 rfl) rfl rfl hE hp (v := (.bool (decide (0 < (p0.size : Int))))) (ex_lss rfl hE rfl rfl) ?_
  intro a hE
  refine s_val (wk0 rfl) rfl rfl hE hp (v := (.bool (decide (0 < (p0.size : Int))))) (ex_move rfl hE rfl) ?_
  intro a hE
  obtain ⟨m1, hg1, hm⟩ := bnd hm
  refine s_cut [_, _, _, _, _] (fun a w => Env 67 [(16, (.bool m1)), (0, (.string p0)), (4, (.int .i64 0)), (5, (.int .i64 0))] a ∧ Hp Z ρ (L) w) ?_ ?_
  · rcases Bool.eq_false_or_eq_true (decide (0 < (p0.size : Int))) with hc1 | hc1
    ·
      replace hg1 := (it hc1).symm.trans hg1
      refine s_val (wk1 hE rfl rfl rfl hc1) rfl rfl hE hp (v := (.string p0)) (ex_move rfl hE rfl) ?_
      intro a hE
      refine s_val (wk1 hE rfl rfl rfl hc1) rfl rfl hE hp (v := (.int .i64 0)) (ex_move rfl hE rfl) ?_
      intro a hE
      obtain ⟨x1, ex1, hg1⟩ := bnd hg1
      refine s_val (wk1 hE rfl rfl rfl hc1) rfl rfl hE hp (v := (.int .u8 x1)) (ex_six sty9 rfl hE rfl rfl ex1) ?_
      intro a hE
      refine s_val (wk1 hE rfl rfl rfl hc1) rfl rfl hE hp (v := (.bool (decide (x1 = 45)))) (ex_eql rfl hE rfl rfl) ?_
      intro a hE
      refine s_val (wk0 rfl) rfl rfl hE hp (v := (.bool (decide (x1 = 45)))) (ex_pick1 rfl hE rfl hc1 rfl) ?_
      intro a hE
      obtain rfl := Option.some.inj hg1
      exact s_nil ⟨hE.cut ⟨rfl, rfl, rfl, rfl, trivial⟩, hp⟩
    ·
      replace hg1 := (ie hc1).symm.trans hg1
      refine s_skip (wk2 hE rfl rfl rfl hc1) rfl rfl hE ?_
      intro a hE
      refine s_skip (wk2 hE rfl rfl rfl hc1) rfl rfl hE ?_
      intro a hE
      refine s_skip (wk2 hE rfl rfl rfl hc1) rfl rfl hE ?_
      intro a hE
      refine s_skip (wk2 hE rfl rfl rfl hc1) rfl rfl hE ?_
      intro a hE
      refine s_val (wk0 rfl) rfl rfl hE hp (v := (.bool false)) (ex_pick0 rfl hE rfl hc1 rfl) ?_
      intro a hE
      obtain rfl := Option.some.inj hg1
      exact s_nil ⟨hE.cut ⟨rfl, rfl, rfl, rfl, trivial⟩, hp⟩
  · rintro a w ⟨hE, hp⟩
    refine s_nil ?_
    obtain ⟨j1, hj1, hm⟩ := bnd hm
    refine k_cut (fun a w => Env 67 [(0, (.string p0)), (4, (.int .i64 0)), (5, (.int .i64 j1))] a ∧ Hp Z ρ (L) w) ?_ ?_
    ·
      refine k_if hE rfl (fun hc2 => ?_) (fun hc2 => ?_)
      · replace hj1 := (it hc2).symm.trans hj1
        refine k_region ?_
        refine s_val (wk0 rfl) rfl rfl hE hp (v := (.int .i64 1)) (ex_asn rfl hE rfl) ?_
        intro a hE
        refine s_nil ?_
        obtain rfl := Option.some.inj hj1
        exact ⟨hE.cut ⟨rfl, rfl, rfl, trivial⟩, hp⟩
      · replace hj1 := (ie hc2).symm.trans hj1
        refine k_skip ?_
        obtain rfl := Option.some.inj hj1
        exact ⟨hE.cut ⟨rfl, rfl, rfl, trivial⟩, hp⟩
    · rintro a w ⟨hE, hp⟩
      refine k_seq ?_
      refine k_region ?_
      refine s_val (wk0 rfl) rfl rfl hE hp (v := (.int .i64 j1)) (ex_move rfl hE rfl) ?_
      intro a hE
      refine s_val (wk0 rfl) rfl rfl hE hp (v := (.int .i64 j1)) (ex_asn rfl hE rfl) ?_
      intro a hE
      refine s_nil ?_
      refine k_seq ?_
      obtain ⟨b1, hc3, hm⟩ := bnd hm
      refine k_block (fun a w => Env 67 [(0, (.string p0)), (4, (.int .i64 b1.1)), (5, (.int .i64 b1.2)), (6, (.int .i64 j1))] a ∧ Hp Z ρ (L) w) ?_ ?_
      · refine k_loop hc3 (fun s a w => Env 67 [(0, (.string p0)), (4, (.int .i64 s.1)), (5, (.int .i64 s.2)), (6, (.int .i64 j1))] a ∧ Hp Z ρ (L) w) ?_ ?_
        · exact ⟨hE.cut ⟨rfl, rfl, rfl, rfl, trivial⟩, hp⟩
        · rintro ⟨lp1_0, lp1_1⟩ st a w ⟨hE, hp⟩ hl1
          have hE : Env 67 [(0, (.string p0)), (4, (.int .i64 lp1_0)), (5, (.int .i64 lp1_1)), (6, (.int .i64 j1))] a := hE
          have hp : Hp Z ρ (L) w := hp
          replace hl1 : m_assessorref26_integer_lp1 p0 j1 lp1_0 lp1_1 = some st := hl1
          unfold m_assessorref26_integer_lp1 at hl1
          refine k_seq ?_
          refine k_seq ?_
          refine k_region ?_
          refine s_val (wk0 rfl) rfl rfl hE hp (v := (.int .i64 lp1_1)) (ex_move rfl hE rfl) ?_
          intro a hE
          refine s_val (wk0 rfl) rfl rfl hE hp (v := (.string p0)) (ex_move rfl hE rfl) ?_
          intro a hE
          refine s_val (wk0 rfl) rfl rfl hE hp (v := (.int .i64 (p0.size : Int))) (ex_slen sty9 rfl hE rfl) ?_
          intro a hE
          refine s_val (wk0 rfl) rfl rfl hE hp (v := (.bool (decide (lp1_1 < (p0.size : Int))))) (ex_lss rfl hE rfl rfl) ?_
          intro a hE
          refine s_val (wk0 rfl) rfl rfl hE hp (v := (.bool (decide (lp1_1 < (p0.size : Int))))) (ex_move rfl hE rfl) ?_
          intro a hE
          obtain ⟨m2, hg2, hl1⟩ := bnd hl1
          refine s_cut [_, _, _, _, _] (fun a w => Env 67 [(27, (.bool m2)), (0, (.string p0)), (4, (.int .i64 lp1_0)), (5, (.int .i64 lp1_1)), (6, (.int .i64 j1))] a ∧ Hp Z ρ (L) w) ?_ ?_
          · rcases Bool.eq_false_or_eq_true (decide (lp1_1 < (p0.size : Int))) with hc4 | hc4
            ·
              replace hg2 := (it hc4).symm.trans hg2
              refine s_val (wk1 hE rfl rfl rfl hc4) rfl rfl hE hp (v := (.int .i64 lp1_1)) (ex_move rfl hE rfl) ?_
              intro a hE
              refine s_val (wk1 hE rfl rfl rfl hc4) rfl rfl hE hp (v := (.int .i64 j1)) (ex_move rfl hE rfl) ?_
              intro a hE
              obtain ⟨x2, ex2, hg2⟩ := bnd hg2
              refine s_val (wk1 hE rfl rfl rfl hc4) rfl rfl hE hp (v := (.int .i64 x2)) (ex_add rfl hE rfl rfl (inK_some ex2)) ?_
              intro a hE
              refine s_val (wk1 hE rfl rfl rfl hc4) rfl rfl hE hp (v := (.bool (decide (lp1_1 < x2)))) (ex_lss rfl hE rfl rfl) ?_
              intro a hE
              refine s_val (wk0 rfl) rfl rfl hE hp (v := (.bool (decide (lp1_1 < x2)))) (ex_pick1 rfl hE rfl hc4 rfl) ?_
              intro a hE
              obtain rfl := Option.some.inj hg2
              exact s_nil ⟨hE.cut ⟨rfl, rfl, rfl, rfl, rfl, trivial⟩, hp⟩
            ·
              replace hg2 := (ie hc4).symm.trans hg2
              refine s_skip (wk2 hE rfl rfl rfl hc4) rfl rfl hE ?_
              intro a hE
              refine s_skip (wk2 hE rfl rfl rfl hc4) rfl rfl hE ?_
              intro a hE
              refine s_skip (wk2 hE rfl rfl rfl hc4) rfl rfl hE ?_
              intro a hE
              refine s_skip (wk2 hE rfl rfl rfl hc4) rfl rfl hE ?_
              intro a hE
              refine s_val (wk0 rfl) rfl rfl hE hp (v := (.bool false)) (ex_pick0 rfl hE rfl hc4 rfl) ?_
              intro a hE
              obtain rfl := Option.some.inj hg2
              exact s_nil ⟨hE.cut ⟨rfl, rfl, rfl, rfl, rfl, trivial⟩, hp⟩
          · rintro a w ⟨hE, hp⟩
            refine s_val (wk0 rfl) rfl rfl hE hp (v := (.bool m2)) (ex_move rfl hE rfl) ?_
            intro a hE
            obtain ⟨m3, hg3, hl1⟩ := bnd hl1
            refine s_cut [_, _, _, _, _] (fun a w => Env 67 [(33, (.bool m3)), (0, (.string p0)), (4, (.int .i64 lp1_0)), (5, (.int .i64 lp1_1)), (6, (.int .i64 j1))] a ∧ Hp Z ρ (L) w) ?_ ?_
            · rcases Bool.eq_false_or_eq_true m2 with hc5 | hc5
              ·
                replace hg3 := (it hc5).symm.trans hg3
                refine s_val (wk1 hE rfl rfl rfl hc5) rfl rfl hE hp (v := (.string p0)) (ex_move rfl hE rfl) ?_
                intro a hE
                refine s_val (wk1 hE rfl rfl rfl hc5) rfl rfl hE hp (v := (.int .i64 lp1_1)) (ex_move rfl hE rfl) ?_
                intro a hE
                obtain ⟨x3, ex3, hg3⟩ := bnd hg3
                refine s_val (wk1 hE rfl rfl rfl hc5) rfl rfl hE hp (v := (.int .u8 x3)) (ex_six sty9 rfl hE rfl rfl ex3) ?_
                intro a hE
                refine s_val (wk1 hE rfl rfl rfl hc5) rfl rfl hE hp (v := (.bool (decide (48 ≤ x3)))) (ex_geq rfl hE rfl rfl) ?_
                intro a hE
                refine s_val (wk0 rfl) rfl rfl hE hp (v := (.bool (decide (48 ≤ x3)))) (ex_pick1 rfl hE rfl hc5 rfl) ?_
                intro a hE
                obtain rfl := Option.some.inj hg3
                exact s_nil ⟨hE.cut ⟨rfl, rfl, rfl, rfl, rfl, trivial⟩, hp⟩
              ·
                replace hg3 := (ie hc5).symm.trans hg3
                refine s_skip (wk2 hE rfl rfl rfl hc5) rfl rfl hE ?_
                intro a hE
                refine s_skip (wk2 hE rfl rfl rfl hc5) rfl rfl hE ?_
                intro a hE
                refine s_skip (wk2 hE rfl rfl rfl hc5) rfl rfl hE ?_
                intro a hE
                refine s_skip (wk2 hE rfl rfl rfl hc5) rfl rfl hE ?_
                intro a hE
                refine s_val (wk0 rfl) rfl rfl hE hp (v := (.bool false)) (ex_pick0 rfl hE rfl hc5 rfl) ?_
                intro a hE
                obtain rfl := Option.some.inj hg3
                exact s_nil ⟨hE.cut ⟨rfl, rfl, rfl, rfl, rfl, trivial⟩, hp⟩
            · rintro a w ⟨hE, hp⟩
              refine s_val (wk0 rfl) rfl rfl hE hp (v := (.bool m3)) (ex_move rfl hE rfl) ?_
              intro a hE
              obtain ⟨m4, hg4, hl1⟩ := bnd hl1
              refine s_cut [_, _, _, _, _] (fun a w => Env 67 [(39, (.bool m4)), (0, (.string p0)), (4, (.int .i64 lp1_0)), (5, (.int .i64 lp1_1)), (6, (.int .i64 j1))] a ∧ Hp Z ρ (L) w) ?_ ?_
              · rcases Bool.eq_false_or_eq_true m3 with hc6 | hc6
                ·
                  replace hg4 := (it hc6).symm.trans hg4
                  refine s_val (wk1 hE rfl rfl rfl hc6) rfl rfl hE hp (v := (.string p0)) (ex_move rfl hE rfl) ?_
                  intro a hE
                  refine s_val (wk1 hE rfl rfl rfl hc6) rfl rfl hE hp (v := (.int .i64 lp1_1)) (ex_move rfl hE rfl) ?_
                  intro a hE
                  obtain ⟨x4, ex4, hg4⟩ := bnd hg4
                  refine s_val (wk1 hE rfl rfl rfl hc6) rfl rfl hE hp (v := (.int .u8 x4)) (ex_six sty9 rfl hE rfl rfl ex4) ?_
                  intro a hE
                  refine s_val (wk1 hE rfl rfl rfl hc6) rfl rfl hE hp (v := (.bool (decide (x4 ≤ 57)))) (ex_leq rfl hE rfl rfl) ?_
                  intro a hE
                  refine s_val (wk0 rfl) rfl rfl hE hp (v := (.bool (decide (x4 ≤ 57)))) (ex_pick1 rfl hE rfl hc6 rfl) ?_
                  intro a hE
                  obtain rfl := Option.some.inj hg4
                  exact s_nil ⟨hE.cut ⟨rfl, rfl, rfl, rfl, rfl, trivial⟩, hp⟩
                ·
                  replace hg4 := (ie hc6).symm.trans hg4
                  refine s_skip (wk2 hE rfl rfl rfl hc6) rfl rfl hE ?_
                  intro a hE
                  refine s_skip (wk2 hE rfl rfl rfl hc6) rfl rfl hE ?_
                  intro a hE
                  refine s_skip (wk2 hE rfl rfl rfl hc6) rfl rfl hE ?_
                  intro a hE
                  refine s_skip (wk2 hE rfl rfl rfl hc6) rfl rfl hE ?_
                  intro a hE
                  refine s_val (wk0 rfl) rfl rfl hE hp (v := (.bool false)) (ex_pick0 rfl hE rfl hc6 rfl) ?_
                  intro a hE
                  obtain rfl := Option.some.inj hg4
                  exact s_nil ⟨hE.cut ⟨rfl, rfl, rfl, rfl, rfl, trivial⟩, hp⟩
              · rintro a w ⟨hE, hp⟩
                refine s_nil ?_
                refine k_if hE rfl (fun hc7 => ?_) (fun hc7 => ?_)
                · replace hl1 := (it hc7).symm.trans hl1
                  refine k_skip ?_
                  refine k_plain ?_
                  refine k_seq ?_
                  refine k_region ?_
                  refine s_val (wk0 rfl) rfl rfl hE hp (v := (.int .i64 lp1_0)) (ex_move rfl hE rfl) ?_
                  intro a hE
                  obtain ⟨x5, ex5, hl1⟩ := bnd hl1
                  refine s_val (wk0 rfl) rfl rfl hE hp (v := (.int .i64 x5)) (ex_mul rfl hE rfl rfl (inK_some ex5)) ?_
                  intro a hE
                  refine s_val (wk0 rfl) rfl rfl hE hp (v := (.string p0)) (ex_move rfl hE rfl) ?_
                  intro a hE
                  refine s_val (wk0 rfl) rfl rfl hE hp (v := (.int .i64 lp1_1)) (ex_move rfl hE rfl) ?_
                  intro a hE
                  obtain ⟨x6, ex6, hl1⟩ := bnd hl1
                  refine s_val (wk0 rfl) rfl rfl hE hp (v := (.int .u8 x6)) (ex_six sty9 rfl hE rfl rfl ex6) ?_
                  intro a hE
                  refine s_val (wk0 rfl) rfl rfl hE hp (v := (.int .u8 (IntKind.wrap .u8 (x6 - 48)))) (ex_sub rfl hE rfl rfl rfl) ?_
                  intro a hE
                  obtain ⟨x7, ex7, hl1⟩ := bnd hl1
                  refine s_val (wk0 rfl) rfl rfl hE hp (v := (.int .i64 x7)) (ex_conv rfl hE rfl (fun w _ => by rw [← inK_some ex7]; simp [convert, Conv.intToInt, go_sem])) ?_
                  intro a hE
                  obtain ⟨x8, ex8, hl1⟩ := bnd hl1
                  refine s_val (wk0 rfl) rfl rfl hE hp (v := (.int .i64 x8)) (ex_add rfl hE rfl rfl (inK_some ex8)) ?_
                  intro a hE
                  refine s_val (wk0 rfl) rfl rfl hE hp (v := (.int .i64 x8)) (ex_asn rfl hE rfl) ?_
                  intro a hE
                  refine s_nil ?_
                  refine k_region ?_
                  refine s_val (wk0 rfl) rfl rfl hE hp (v := (.int .i64 lp1_1)) (ex_move rfl hE rfl) ?_
                  intro a hE
                  obtain ⟨x9, ex9, hl1⟩ := bnd hl1
                  refine s_val (wk0 rfl) rfl rfl hE hp (v := (.int .i64 x9)) (ex_add rfl hE rfl rfl (inK_some ex9)) ?_
                  intro a hE
                  refine s_val (wk0 rfl) rfl rfl hE hp (v := (.int .i64 x9)) (ex_asn rfl hE rfl) ?_
                  intro a hE
                  refine s_nil ?_
                  exact ⟨_, (Option.some.inj hl1).symm, hE.cut ⟨rfl, rfl, rfl, rfl, trivial⟩, hp⟩
                · replace hl1 := (ie hc7).symm.trans hl1
                  refine k_exit ?_
                  refine ⟨_, (Option.some.inj hl1).symm, fun hbb => ?_⟩
                  subst hbb
                  exact ⟨hE.cut ⟨rfl, rfl, rfl, rfl, trivial⟩, hp⟩
      · rintro a w ⟨hE, hp⟩
        refine k_seq ?_
        refine k_seq ?_
        refine k_region ?_
        refine s_val (wk0 rfl) rfl rfl hE hp (v := (.int .i64 j1)) (ex_move rfl hE rfl) ?_
        intro a hE
        refine s_val (wk0 rfl) rfl rfl hE hp (v := (.bool (decide (j1 = 1)))) (ex_eql rfl hE rfl rfl) ?_
        intro a hE
        refine s_nil ?_
        obtain ⟨j2, hj2, hm⟩ := bnd hm
        refine k_cut (fun a w => Env 67 [(0, (.string p0)), (4, (.int .i64 j2)), (5, (.int .i64 b1.2)), (6, (.int .i64 j1))] a ∧ Hp Z ρ (L) w) ?_ ?_
        ·
          refine k_if hE rfl (fun hc8 => ?_) (fun hc8 => ?_)
          · replace hj2 := (it hc8).symm.trans hj2
            refine k_region ?_
            refine s_val (wk0 rfl) rfl rfl hE hp (v := (.int .i64 b1.1)) (ex_move rfl hE rfl) ?_
            intro a hE
            obtain ⟨x10, ex10, hj2⟩ := bnd hj2
            refine s_val (wk0 rfl) rfl rfl hE hp (v := (.int .i64 x10)) (ex_neg rfl hE rfl (inK_some ex10)) ?_
            intro a hE
            refine s_val (wk0 rfl) rfl rfl hE hp (v := (.int .i64 x10)) (ex_asn rfl hE rfl) ?_
            intro a hE
            refine s_nil ?_
            have hE := hE.cut (E' := [(0, (.string p0)), (4, (.int .i64 x10)), (5, (.int .i64 b1.2)), (6, (.int .i64 j1))]) ⟨rfl, rfl, rfl, rfl, trivial⟩
            obtain rfl := Option.some.inj hj2
            exact ⟨hE.cut ⟨rfl, rfl, rfl, rfl, trivial⟩, hp⟩
          · replace hj2 := (ie hc8).symm.trans hj2
            refine k_skip ?_
            obtain rfl := Option.some.inj hj2
            exact ⟨hE.cut ⟨rfl, rfl, rfl, rfl, trivial⟩, hp⟩
        · rintro a w ⟨hE, hp⟩
          refine k_seq ?_
          refine k_seq ?_
          refine k_quiet (by kernel_rfl) (by kernel_rfl) hp ?_
          refine q_val (wk0 rfl) rfl rfl hE (v := (.int .i64 b1.2)) (ex_move rfl hE rfl) ?_
          intro a hE
          refine q_val (wk0 rfl) rfl rfl hE (v := (.int .i64 j1)) (ex_move rfl hE rfl) ?_
          intro a hE
          refine q_val (wk0 rfl) rfl rfl hE (v := (.bool (decide (b1.2 = j1)))) (ex_eql rfl hE rfl rfl) ?_
          intro a hE
          refine q_val (wk0 rfl) rfl rfl hE (v := (.bool (decide (b1.2 = j1)))) (ex_move rfl hE rfl) ?_
          intro a hE
          obtain ⟨m5, hg5, hm⟩ := bnd hm
          refine q_cut [_, _, _, _, _, _, _] (fun a => Env 67 [(64, (.bool m5)), (4, (.int .i64 j2)), (5, (.int .i64 b1.2))] a) ?_ ?_
          · rcases Bool.eq_false_or_eq_true (decide (b1.2 = j1)) with hc9 | hc9
            ·
              replace hg5 := (it hc9).symm.trans hg5
              refine q_skip (wk2 hE rfl rfl rfl hc9) rfl rfl hE ?_
              intro a hE
              refine q_skip (wk2 hE rfl rfl rfl hc9) rfl rfl hE ?_
              intro a hE
              refine q_skip (wk2 hE rfl rfl rfl hc9) rfl rfl hE ?_
              intro a hE
              refine q_skip (wk2 hE rfl rfl rfl hc9) rfl rfl hE ?_
              intro a hE
              refine q_skip (wk2 hE rfl rfl rfl hc9) rfl rfl hE ?_
              intro a hE
              refine q_skip (wk2 hE rfl rfl rfl hc9) rfl rfl hE ?_
              intro a hE
              refine q_val (wk0 rfl) rfl rfl hE (v := (.bool true)) (ex_pick1 rfl hE rfl hc9 rfl) ?_
              intro a hE
              obtain rfl := Option.some.inj hg5
              exact q_nil (hE.cut ⟨rfl, rfl, rfl, trivial⟩)
            ·
              replace hg5 := (ie hc9).symm.trans hg5
              refine q_val (wk1 hE rfl rfl rfl hc9) rfl rfl hE (v := (.int .i64 j2)) (ex_move rfl hE rfl) ?_
              intro a hE
              obtain ⟨x11, ex11, hg5⟩ := bnd hg5
              refine q_call (wk1 hE rfl rfl rfl hc9) rfl rfl hE rfl [(.int .i64 j2)] ⟨rfl, trivial⟩ ent69 (v := (.string x11)) (fun w hw => Calls.mono (c_assessorref26_Decimal hT j2 hw x11 ex11) fun e w' ⟨v, he, hv, hh⟩ => ⟨by rw [he, hv], hh⟩) ?_
              intro a hE
              refine q_val (wk1 hE rfl rfl rfl hc9) rfl rfl hE (v := (.string p0)) (ex_move rfl hE rfl) ?_
              intro a hE
              refine q_val (wk1 hE rfl rfl rfl hc9) rfl rfl hE (v := (.int .i64 b1.2)) (ex_move rfl hE rfl) ?_
              intro a hE
              obtain ⟨x12, ex12, hg5⟩ := bnd hg5
              refine q_val (wk1 hE rfl rfl rfl hc9) rfl rfl hE (v := (.string x12)) (ex_sl rfl hE rfl none (some (.i64, b1.2)) (by exact trivial) (by exact rfl) (run_ssub sty9 none (some (.i64, b1.2)) rfl rfl ex12)) ?_
              intro a hE
              refine q_val (wk1 hE rfl rfl rfl hc9) rfl rfl hE (v := (.bool (!decide (x11 = x12)))) (ex_sneq rfl hE rfl rfl) ?_
              intro a hE
              refine q_val (wk0 rfl) rfl rfl hE (v := (.bool (!decide (x11 = x12)))) (ex_pick0 rfl hE rfl hc9 rfl) ?_
              intro a hE
              obtain rfl := Option.some.inj hg5
              exact q_nil (hE.cut ⟨rfl, rfl, rfl, trivial⟩)
          · intro a hE
            refine q_nil fun w hp => ?_
            have hp : Hp Z ρ (L) w := hp
            refine k_if hE rfl (fun hc10 => ?_) (fun hc10 => ?_)
            · replace hm := (it hc10).symm.trans hm
              refine k_seq ?_
              refine k_region ?_
              refine s_val (wk0 rfl) rfl rfl hE hp (v := (.int .i64 0)) (ex_asn rfl hE rfl) ?_
              intro a hE
              refine s_val (wk0 rfl) rfl rfl hE hp (v := (.int .i64 0)) (ex_asn rfl hE rfl) ?_
              intro a hE
              refine s_nil ?_
              refine k_ret ?_
              obtain rfl := Option.some.inj hm
              exact ret2 hE rfl rfl rfl ⟨_, rfl, rfl, hp⟩
            · replace hm := (ie hc10).symm.trans hm
              refine k_skip ?_
              refine k_seq ?_
              refine k_region ?_
              refine s_val (wk0 rfl) rfl rfl hE hp (v := (.int .i64 j2)) (ex_move rfl hE rfl) ?_
              intro a hE
              refine s_val (wk0 rfl) rfl rfl hE hp (v := (.int .i64 b1.2)) (ex_move rfl hE rfl) ?_
              intro a hE
              refine s_val (wk0 rfl) rfl rfl hE hp (v := (.int .i64 j2)) (ex_asn rfl hE rfl) ?_
              intro a hE
              refine s_val (wk0 rfl) rfl rfl hE hp (v := (.int .i64 b1.2)) (ex_asn rfl hE rfl) ?_
              intro a hE
              refine s_nil ?_
              refine k_ret ?_
              obtain rfl := Option.some.inj hm
              exact ret2 hE rfl rfl rfl ⟨_, rfl, rfl, hp⟩
set_option maxRecDepth 100000 in
set_option maxHeartbeats 4000000 in
theorem c_assessorref26_Line {Z : World} {ρ : PH} {L : List Atom} {w : World} (hT : Tabs ρ) (p0 : (List Int)) (vp0 : Value) (hp0 : RoSl ρ vp0 p0) (hp : Hp Z ρ (L) w) (r : ByteArray) (hm : m_assessorref26_Line p0 = some r) :
    Calls Tryz.prog 70 #[vp0] w (Ret fun v w' => v = (.string r) ∧ Hp Z ρ (L) w') := by
  refine enter (N := 21) Tryz.func70 rfl rfl [(0, vp0)] rfl (argsIn_mem ⟨rfl, trivial⟩) fun a hE => ?_
  unfold m_assessorref26_Line at hm
  refine k_seq ?_
  refine k_region ?_
  refine s_val (wk0 rfl) rfl rfl hE hp (v := (.string (ByteArray.mk #[]))) (ex_asn rfl hE rfl) ?_
  intro a hE
  refine s_nil ?_
  refine k_seq ?_
  refine k_region ?_
  refine s_val (wk0 rfl) rfl rfl hE hp (v := (.string (ByteArray.mk #[]))) (ex_asn rfl hE rfl) ?_
  intro a hE
  refine s_nil ?_
  refine k_seq ?_
  refine k_seq ?_
  refine k_region ?_
  refine s_val (wk0 rfl) rfl rfl hE hp (v := (.int .i64 0)) (ex_asn rfl hE rfl) ?_
  intro a hE
  refine s_nil ?_
  obtain ⟨b1, hc1, hm⟩ := bnd hm
  refine k_block (fun a w => Env 21 [(3, (.string b1))] a ∧ Hp Z ρ (L) w) ?_ ?_
  · refine k_loop hc1 (fun s a w => Env 21 [(0, vp0), (3, (.string s.1)), (4, (.int .i64 s.2))] a ∧ Hp Z ρ (L) w) ?_ ?_
    · exact ⟨hE.cut ⟨rfl, rfl, rfl, trivial⟩, hp⟩
    · rintro ⟨lp1_0, lp1_1⟩ st a w ⟨hE, hp⟩ hl1
      have hE : Env 21 [(0, vp0), (3, (.string lp1_0)), (4, (.int .i64 lp1_1))] a := hE
      have hp : Hp Z ρ (L) w := hp
      replace hl1 : m_assessorref26_Line_lp1 p0 lp1_0 lp1_1 = some st := hl1
      unfold m_assessorref26_Line_lp1 at hl1
      refine k_seq ?_
      refine k_seq ?_
      refine k_region ?_
      refine s_val (wk0 rfl) rfl rfl hE hp (v := (.int .i64 lp1_1)) (ex_move rfl hE rfl) ?_
      intro a hE
      refine s_val (wk0 rfl) rfl rfl hE hp (v := vp0) (ex_move rfl hE rfl) ?_
      intro a hE
      refine s_val (wk0 rfl) rfl rfl hE hp (v := (.int .i64 (p0.length : Int))) (ex_len rfl hE rfl (RoSl.len hp0 slty25)) ?_
      intro a hE
      refine s_val (wk0 rfl) rfl rfl hE hp (v := (.bool (decide (lp1_1 < (p0.length : Int))))) (ex_lss rfl hE rfl rfl) ?_
      intro a hE
      refine s_nil ?_
      refine k_if hE rfl (fun hc2 => ?_) (fun hc2 => ?_)
      · replace hl1 := (it hc2).symm.trans hl1
        refine k_skip ?_
        refine k_seq ?_
        refine k_plain ?_
        refine k_region ?_
        refine s_val (wk0 rfl) rfl rfl hE hp (v := (.string lp1_0)) (ex_move rfl hE rfl) ?_
        intro a hE
        refine s_val (wk0 rfl) rfl rfl hE hp (v := vp0) (ex_move rfl hE rfl) ?_
        intro a hE
        refine s_val (wk0 rfl) rfl rfl hE hp (v := (.int .i64 lp1_1)) (ex_move rfl hE rfl) ?_
        intro a hE
        obtain ⟨x1, ex1, hl1⟩ := bnd hl1
        obtain ⟨b2, b2o, b2c, b2r, b2k, b2f⟩ := RoSl.at hp0 slty25 ex1
        obtain rfl : b2c = Enc.enc x1 := b2k
        have b2f : AtP ρ b2 b2o [(.int .i64 x1)] := b2f
        refine s_val (wk0 rfl) rfl rfl hE hp (v := (.pointer (some ⟨b2, b2o, none⟩))) (ex_index rfl hE rfl rfl b2r) ?_
        intro a hE
        refine s_val (wk0 rfl) rfl rfl hE hp (v := (.int .i64 x1)) (ex_load rfl hE rfl (fun w hw => run_ld1 varty3 (b2f.c 0 rfl w hw))) ?_
        intro a hE
        obtain ⟨x2, ex2, hl1⟩ := bnd hl1
        refine s_call (wk0 rfl) rfl rfl hE rfl [(.int .i64 x1)] ⟨rfl, trivial⟩ ent69 (c_assessorref26_Decimal hT x1 hp x2 ex2) Ret.ret ?_
        intro v a w hR hE
        obtain ⟨rfl, hp⟩ := Ret.of hR
        have hp : Hp Z ρ (L) w := hp
        obtain ⟨x3, ex3, hl1⟩ := bnd hl1
        refine s_val (wk0 rfl) rfl rfl hE hp (v := (.string x3)) (ex_cat rfl hE rfl rfl ex3) ?_
        intro a hE
        obtain ⟨x4, ex4, hl1⟩ := bnd hl1
        refine s_val (wk0 rfl) rfl rfl hE hp (v := (.string x4)) (ex_cat rfl hE rfl rfl ex4) ?_
        intro a hE
        refine s_val (wk0 rfl) rfl rfl hE hp (v := (.string x4)) (ex_asn rfl hE rfl) ?_
        intro a hE
        refine s_nil ?_
        have hE := hE.cut (E' := [(0, vp0), (3, (.string x4)), (4, (.int .i64 lp1_1))]) ⟨rfl, rfl, rfl, trivial⟩
        refine k_region ?_
        refine s_val (wk0 rfl) rfl rfl hE hp (v := (.int .i64 lp1_1)) (ex_move rfl hE rfl) ?_
        intro a hE
        obtain ⟨x5, ex5, hl1⟩ := bnd hl1
        refine s_val (wk0 rfl) rfl rfl hE hp (v := (.int .i64 x5)) (ex_add rfl hE rfl rfl (inK_some ex5)) ?_
        intro a hE
        refine s_val (wk0 rfl) rfl rfl hE hp (v := (.int .i64 x5)) (ex_asn rfl hE rfl) ?_
        intro a hE
        refine s_nil ?_
        exact ⟨_, (Option.some.inj hl1).symm, hE.cut ⟨rfl, rfl, rfl, trivial⟩, hp⟩
      · replace hl1 := (ie hc2).symm.trans hl1
        refine k_exit ?_
        refine ⟨_, (Option.some.inj hl1).symm, fun hbb => ?_⟩
        subst hbb
        exact ⟨hE.cut ⟨rfl, trivial⟩, hp⟩
  · rintro a w ⟨hE, hp⟩
    refine k_seq ?_
    refine k_region ?_
    refine s_val (wk0 rfl) rfl rfl hE hp (v := (.string b1)) (ex_move rfl hE rfl) ?_
    intro a hE
    obtain ⟨x6, ex6, hm⟩ := bnd hm
    refine s_val (wk0 rfl) rfl rfl hE hp (v := (.string x6)) (ex_cat rfl hE rfl rfl ex6) ?_
    intro a hE
    refine s_val (wk0 rfl) rfl rfl hE hp (v := (.string x6)) (ex_asn rfl hE rfl) ?_
    intro a hE
    refine s_nil ?_
    refine k_ret ?_
    obtain rfl := Option.some.inj hm
    exact ret1 hE rfl rfl ⟨_, rfl, rfl, hp⟩
set_option maxRecDepth 100000 in
set_option maxHeartbeats 4000000 in
theorem c_assessorref26_ReadLine {Z : World} {ρ : PH} {L : List Atom} {w : World} (hT : Tabs ρ) (p0 : ByteArray) (hp : Hp Z ρ (L) w) (r : ((List Int) × Int)) (hm : m_assessorref26_ReadLine p0 = some r) :
    Calls Tryz.prog 65 #[(.string p0)] w (Ret fun v w' => ∃ (vr1 : Value), v = .tuple #[vr1, (.int .i64 r.2)] ∧ Hp Z ρ (OwnSl 3 vr1 r.1 :: L) w') := by
  refine enter (N := 56) Tryz.func65 rfl rfl [(0, (.string p0))] rfl (argsIn_mem ⟨rfl, trivial⟩) fun a hE => ?_
  unfold m_assessorref26_ReadLine at hm
  refine k_seq ?_
  refine k_region ?_
  refine s_val (wk0 rfl) rfl rfl hE hp (v := (.slice none 0 0)) (ex_asn rfl hE rfl) ?_
  intro a hE
  refine s_val (wk0 rfl) rfl rfl hE hp (v := (.int .i64 0)) (ex_asn rfl hE rfl) ?_
  intro a hE
  refine s_nil ?_
  refine k_seq ?_
  refine k_region ?_
  refine s_lit (wk0 rfl) rfl rfl hE hp rfl [] trivial [] 3 (fun w => by simp [Instr.buildSlice, Instr.fill, Value.cells, go_sem]) ?_
  intro a w b1 hE hp
  have hp : Hp Z ρ (Pt b1 (.cells #[] 3 (0, 0)) :: L) w := hp
  refine s_val (wk0 rfl) rfl rfl hE hp (v := (.slice (some ⟨b1, 0, none⟩) 0 0)) (ex_asn rfl hE rfl) ?_
  intro a hE
  refine s_nil ?_
  refine k_seq ?_
  refine k_seq ?_
  refine k_region ?_
  refine s_val (wk0 rfl) rfl rfl hE hp (v := (.int .i64 0)) (ex_asn rfl hE rfl) ?_
  intro a hE
  refine s_nil ?_
  have hp := (hp.get 0 rfl).imp (own_of_pt (l := (([] : List Int) : List Int)) (n := 0) rfl (by decide) rfl)
  have hp : Hp Z ρ (OwnSl 3 (.slice (some ⟨b1, 0, none⟩) 0 0) ([] : List Int) :: L) w := hp
  obtain ⟨b2, hc1, hm⟩ := bnd hm
  refine k_block (fun a w => ∃ s : (List Int), b2 = .brk s ∧ (∃ (w2 : Value), Env 56 [] a ∧ Hp Z ρ (OwnSl 3 w2 s :: L) w)) ?_ ?_
  · refine k_loop hc1 (fun s a w => ∃ (w2 : Value), Env 56 [(0, (.string p0)), (4, w2), (5, (.int .i64 s.1))] a ∧ Hp Z ρ (OwnSl 3 w2 s.2 :: L) w) ?_ ?_
    · exact ⟨_, hE.cut ⟨rfl, rfl, rfl, trivial⟩, hp⟩
    · rintro ⟨lp1_0, lp1_1⟩ st a w ⟨w2, hE, hp⟩ hl1
      have hE : Env 56 [(0, (.string p0)), (4, w2), (5, (.int .i64 lp1_0))] a := hE
      have hp : Hp Z ρ (OwnSl 3 w2 lp1_1 :: L) w := hp
      replace hl1 : m_assessorref26_ReadLine_lp1 p0 lp1_0 lp1_1 = some st := hl1
      unfold m_assessorref26_ReadLine_lp1 at hl1
      refine k_seq ?_
      refine k_seq ?_
      refine k_region ?_
      refine s_val (wk0 rfl) rfl rfl hE hp (v := (.int .i64 lp1_0)) (ex_move rfl hE rfl) ?_
      intro a hE
      refine s_val (wk0 rfl) rfl rfl hE hp (v := (.string p0)) (ex_move rfl hE rfl) ?_
      intro a hE
      refine s_val (wk0 rfl) rfl rfl hE hp (v := (.int .i64 (p0.size : Int))) (ex_slen sty9 rfl hE rfl) ?_
      intro a hE
      refine s_val (wk0 rfl) rfl rfl hE hp (v := (.bool (decide (lp1_0 < (p0.size : Int))))) (ex_lss rfl hE rfl rfl) ?_
      intro a hE
      refine s_nil ?_
      refine k_if hE rfl (fun hc2 => ?_) (fun hc2 => ?_)
      · replace hl1 := (it hc2).symm.trans hl1
        refine k_skip ?_
        refine k_plain ?_
        refine k_seq ?_
        refine k_region ?_
        refine s_val (wk0 rfl) rfl rfl hE hp (v := (.string p0)) (ex_move rfl hE rfl) ?_
        intro a hE
        refine s_val (wk0 rfl) rfl rfl hE hp (v := (.int .i64 lp1_0)) (ex_move rfl hE rfl) ?_
        intro a hE
        obtain ⟨x1, ex1, hl1⟩ := bnd hl1
        refine s_val (wk0 rfl) rfl rfl hE hp (v := (.string x1)) (ex_sl rfl hE rfl (some (.i64, lp1_0)) none (by exact rfl) (by exact trivial) (run_ssub sty9 (some (.i64, lp1_0)) none rfl rfl ex1)) ?_
        intro a hE
        obtain ⟨x2, ex2, hl1⟩ := bnd hl1
        refine s_call (wk0 rfl) rfl rfl hE rfl [(.string x1)] ⟨rfl, trivial⟩ ent64 (c_assessorref26_integer hT x1 hp x2 ex2) Ret.ret ?_
        intro v a w hR hE
        obtain ⟨rfl, hp⟩ := Ret.of hR
        have hp : Hp Z ρ (_ :: L) w := hp
        refine s_val (wk0 rfl) rfl rfl hE hp (v := (.tuple #[(.int .i64 x2.1), (.int .i64 x2.2)])) (ex_move rfl hE rfl) ?_
        intro a hE
        refine s_val (wk0 rfl) rfl rfl hE hp (v := (.int .i64 x2.1)) (ex_extract rfl hE rfl rfl) ?_
        intro a hE
        refine s_val (wk0 rfl) rfl rfl hE hp (v := (.int .i64 x2.2)) (ex_extract rfl hE rfl rfl) ?_
        intro a hE
        refine s_val (wk0 rfl) rfl rfl hE hp (v := (.int .i64 x2.1)) (ex_asn rfl hE rfl) ?_
        intro a hE
        refine s_val (wk0 rfl) rfl rfl hE hp (v := (.int .i64 x2.2)) (ex_asn rfl hE rfl) ?_
        intro a hE
        refine s_nil ?_
        have hE := hE.cut (E' := [(0, (.string p0)), (4, w2), (5, (.int .i64 lp1_0)), (6, (.int .i64 x2.1)), (7, (.int .i64 x2.2))]) ⟨rfl, rfl, rfl, rfl, rfl, trivial⟩
        refine k_seq ?_
        refine k_seq ?_
        refine k_region ?_
        refine s_val (wk0 rfl) rfl rfl hE hp (v := (.int .i64 x2.2)) (ex_move rfl hE rfl) ?_
        intro a hE
        refine s_val (wk0 rfl) rfl rfl hE hp (v := (.bool (decide (x2.2 = 0)))) (ex_eql rfl hE rfl rfl) ?_
        intro a hE
        refine s_nil ?_
        refine k_if hE rfl (fun hc3 => ?_) (fun hc3 => ?_)
        · replace hl1 := (it hc3).symm.trans hl1
          refine k_seq ?_
          refine k_region ?_
          refine s_val (wk0 rfl) rfl rfl hE hp (v := (.slice none 0 0)) (ex_asn rfl hE rfl) ?_
          intro a hE
          refine s_val (wk0 rfl) rfl rfl hE hp (v := (.int .i64 0)) (ex_asn rfl hE rfl) ?_
          intro a hE
          refine s_nil ?_
          refine k_ret ?_
          refine ⟨_, (Option.some.inj hl1).symm, fun hb => ?_⟩
          subst hb
          have hp := hp.emp (OwnSl.nil (α := Int) 3)
          have hp : Hp Z ρ (OwnSl 3 (.slice none 0 0) ([] : List Int) :: _ :: L) w := hp
          obtain rfl := Option.some.inj hm
          exact ret2 hE rfl rfl rfl ⟨_, rfl, _, rfl, ((hp.get 1 rfl).drop)⟩
        · replace hl1 := (ie hc3).symm.trans hl1
          refine k_skip ?_
          refine k_seq ?_
          refine k_region ?_
          refine s_val (wk0 rfl) rfl rfl hE hp (v := (.int .i64 lp1_0)) (ex_move rfl hE rfl) ?_
          intro a hE
          refine s_val (wk0 rfl) rfl rfl hE hp (v := (.int .i64 x2.2)) (ex_move rfl hE rfl) ?_
          intro a hE
          obtain ⟨x3, ex3, hl1⟩ := bnd hl1
          refine s_val (wk0 rfl) rfl rfl hE hp (v := (.int .i64 x3)) (ex_add rfl hE rfl rfl (inK_some ex3)) ?_
          intro a hE
          refine s_val (wk0 rfl) rfl rfl hE hp (v := (.int .i64 x3)) (ex_asn rfl hE rfl) ?_
          intro a hE
          refine s_nil ?_
          refine k_seq ?_
          refine k_seq ?_
          refine k_region ?_
          refine s_val (wk0 rfl) rfl rfl hE hp (v := (.int .i64 x2.1)) (ex_move rfl hE rfl) ?_
          intro a hE
          refine s_val (wk0 rfl) rfl rfl hE hp (v := (.bool (decide (x2.1 = 0)))) (ex_eql rfl hE rfl rfl) ?_
          intro a hE
          refine s_nil ?_
          refine k_if hE rfl (fun hc4 => ?_) (fun hc4 => ?_)
          · replace hl1 := (it hc4).symm.trans hl1
            refine k_seq ?_
            refine k_seq ?_
            refine k_region ?_
            refine s_val (wk0 rfl) rfl rfl hE hp (v := (.int .i64 x3)) (ex_move rfl hE rfl) ?_
            intro a hE
            refine s_val (wk0 rfl) rfl rfl hE hp (v := (.string p0)) (ex_move rfl hE rfl) ?_
            intro a hE
            refine s_val (wk0 rfl) rfl rfl hE hp (v := (.int .i64 (p0.size : Int))) (ex_slen sty9 rfl hE rfl) ?_
            intro a hE
            refine s_val (wk0 rfl) rfl rfl hE hp (v := (.bool (decide (x3 < (p0.size : Int))))) (ex_lss rfl hE rfl rfl) ?_
            intro a hE
            refine s_val (wk0 rfl) rfl rfl hE hp (v := (.bool (decide (x3 < (p0.size : Int))))) (ex_move rfl hE rfl) ?_
            intro a hE
            obtain ⟨m1, hg1, hl1⟩ := bnd hl1
            refine s_cut [_, _, _, _, _] (fun a w => Env 56 [(36, (.bool m1)), (4, w2), (5, (.int .i64 x3))] a ∧ Hp Z ρ (OwnSl 3 w2 lp1_1 :: L) w) ?_ ?_
            · rcases Bool.eq_false_or_eq_true (decide (x3 < (p0.size : Int))) with hc5 | hc5
              ·
                replace hg1 := (it hc5).symm.trans hg1
                refine s_val (wk1 hE rfl rfl rfl hc5) rfl rfl hE hp (v := (.string p0)) (ex_move rfl hE rfl) ?_
                intro a hE
                refine s_val (wk1 hE rfl rfl rfl hc5) rfl rfl hE hp (v := (.int .i64 x3)) (ex_move rfl hE rfl) ?_
                intro a hE
                obtain ⟨x4, ex4, hg1⟩ := bnd hg1
                refine s_val (wk1 hE rfl rfl rfl hc5) rfl rfl hE hp (v := (.int .u8 x4)) (ex_six sty9 rfl hE rfl rfl ex4) ?_
                intro a hE
                refine s_val (wk1 hE rfl rfl rfl hc5) rfl rfl hE hp (v := (.bool (decide (x4 = 10)))) (ex_eql rfl hE rfl rfl) ?_
                intro a hE
                refine s_val (wk0 rfl) rfl rfl hE hp (v := (.bool (decide (x4 = 10)))) (ex_pick1 rfl hE rfl hc5 rfl) ?_
                intro a hE
                obtain rfl := Option.some.inj hg1
                exact s_nil ⟨hE.cut ⟨rfl, rfl, rfl, trivial⟩, hp⟩
              ·
                replace hg1 := (ie hc5).symm.trans hg1
                refine s_skip (wk2 hE rfl rfl rfl hc5) rfl rfl hE ?_
                intro a hE
                refine s_skip (wk2 hE rfl rfl rfl hc5) rfl rfl hE ?_
                intro a hE
                refine s_skip (wk2 hE rfl rfl rfl hc5) rfl rfl hE ?_
                intro a hE
                refine s_skip (wk2 hE rfl rfl rfl hc5) rfl rfl hE ?_
                intro a hE
                refine s_val (wk0 rfl) rfl rfl hE hp (v := (.bool false)) (ex_pick0 rfl hE rfl hc5 rfl) ?_
                intro a hE
                obtain rfl := Option.some.inj hg1
                exact s_nil ⟨hE.cut ⟨rfl, rfl, rfl, trivial⟩, hp⟩
            · rintro a w ⟨hE, hp⟩
              refine s_nil ?_
              refine k_if hE rfl (fun hc6 => ?_) (fun hc6 => ?_)
              · replace hl1 := (it hc6).symm.trans hl1
                refine k_seq ?_
                refine k_region ?_
                refine s_val (wk0 rfl) rfl rfl hE hp (v := w2) (ex_move rfl hE rfl) ?_
                intro a hE
                refine s_val (wk0 rfl) rfl rfl hE hp (v := (.int .i64 x3)) (ex_move rfl hE rfl) ?_
                intro a hE
                obtain ⟨x5, ex5, hl1⟩ := bnd hl1
                refine s_val (wk0 rfl) rfl rfl hE hp (v := (.int .i64 x5)) (ex_add rfl hE rfl rfl (inK_some ex5)) ?_
                intro a hE
                refine s_val (wk0 rfl) rfl rfl hE hp (v := w2) (ex_asn rfl hE rfl) ?_
                intro a hE
                refine s_val (wk0 rfl) rfl rfl hE hp (v := (.int .i64 x5)) (ex_asn rfl hE rfl) ?_
                intro a hE
                refine s_nil ?_
                refine k_ret ?_
                refine ⟨_, (Option.some.inj hl1).symm, fun hb => ?_⟩
                subst hb
                obtain rfl := Option.some.inj hm
                exact ret2 hE rfl rfl rfl ⟨_, rfl, _, rfl, hp⟩
              · replace hl1 := (ie hc6).symm.trans hl1
                refine k_skip ?_
                refine k_seq ?_
                refine k_region ?_
                refine s_val (wk0 rfl) rfl rfl hE hp (v := (.slice none 0 0)) (ex_asn rfl hE rfl) ?_
                intro a hE
                refine s_val (wk0 rfl) rfl rfl hE hp (v := (.int .i64 0)) (ex_asn rfl hE rfl) ?_
                intro a hE
                refine s_nil ?_
                refine k_ret ?_
                refine ⟨_, (Option.some.inj hl1).symm, fun hb => ?_⟩
                subst hb
                have hp := hp.emp (OwnSl.nil (α := Int) 3)
                have hp : Hp Z ρ (OwnSl 3 (.slice none 0 0) ([] : List Int) :: _ :: L) w := hp
                obtain rfl := Option.some.inj hm
                exact ret2 hE rfl rfl rfl ⟨_, rfl, _, rfl, ((hp.get 1 rfl).drop)⟩
          · replace hl1 := (ie hc4).symm.trans hl1
            refine k_skip ?_
            refine k_seq ?_
            refine k_seq ?_
            refine k_region ?_
            refine s_val (wk0 rfl) rfl rfl hE hp (v := (.int .i64 x3)) (ex_move rfl hE rfl) ?_
            intro a hE
            refine s_val (wk0 rfl) rfl rfl hE hp (v := (.string p0)) (ex_move rfl hE rfl) ?_
            intro a hE
            refine s_val (wk0 rfl) rfl rfl hE hp (v := (.int .i64 (p0.size : Int))) (ex_slen sty9 rfl hE rfl) ?_
            intro a hE
            refine s_val (wk0 rfl) rfl rfl hE hp (v := (.bool (decide ((p0.size : Int) ≤ x3)))) (ex_geq rfl hE rfl rfl) ?_
            intro a hE
            refine s_val (wk0 rfl) rfl rfl hE hp (v := (.bool (decide ((p0.size : Int) ≤ x3)))) (ex_move rfl hE rfl) ?_
            intro a hE
            obtain ⟨m2, hg2, hl1⟩ := bnd hl1
            refine s_cut [_, _, _, _, _] (fun a w => Env 56 [(49, (.bool m2)), (0, (.string p0)), (4, w2), (5, (.int .i64 x3)), (6, (.int .i64 x2.1))] a ∧ Hp Z ρ (OwnSl 3 w2 lp1_1 :: L) w) ?_ ?_
            · rcases Bool.eq_false_or_eq_true (decide ((p0.size : Int) ≤ x3)) with hc7 | hc7
              ·
                replace hg2 := (it hc7).symm.trans hg2
                refine s_skip (wk2 hE rfl rfl rfl hc7) rfl rfl hE ?_
                intro a hE
                refine s_skip (wk2 hE rfl rfl rfl hc7) rfl rfl hE ?_
                intro a hE
                refine s_skip (wk2 hE rfl rfl rfl hc7) rfl rfl hE ?_
                intro a hE
                refine s_skip (wk2 hE rfl rfl rfl hc7) rfl rfl hE ?_
                intro a hE
                refine s_val (wk0 rfl) rfl rfl hE hp (v := (.bool true)) (ex_pick1 rfl hE rfl hc7 rfl) ?_
                intro a hE
                obtain rfl := Option.some.inj hg2
                exact s_nil ⟨hE.cut ⟨rfl, rfl, rfl, rfl, rfl, trivial⟩, hp⟩
              ·
                replace hg2 := (ie hc7).symm.trans hg2
                refine s_val (wk1 hE rfl rfl rfl hc7) rfl rfl hE hp (v := (.string p0)) (ex_move rfl hE rfl) ?_
                intro a hE
                refine s_val (wk1 hE rfl rfl rfl hc7) rfl rfl hE hp (v := (.int .i64 x3)) (ex_move rfl hE rfl) ?_
                intro a hE
                obtain ⟨x6, ex6, hg2⟩ := bnd hg2
                refine s_val (wk1 hE rfl rfl rfl hc7) rfl rfl hE hp (v := (.int .u8 x6)) (ex_six sty9 rfl hE rfl rfl ex6) ?_
                intro a hE
                refine s_val (wk1 hE rfl rfl rfl hc7) rfl rfl hE hp (v := (.bool (!decide (x6 = 32)))) (ex_neq rfl hE rfl rfl) ?_
                intro a hE
                refine s_val (wk0 rfl) rfl rfl hE hp (v := (.bool (!decide (x6 = 32)))) (ex_pick0 rfl hE rfl hc7 rfl) ?_
                intro a hE
                obtain rfl := Option.some.inj hg2
                exact s_nil ⟨hE.cut ⟨rfl, rfl, rfl, rfl, rfl, trivial⟩, hp⟩
            · rintro a w ⟨hE, hp⟩
              refine s_nil ?_
              refine k_if hE rfl (fun hc8 => ?_) (fun hc8 => ?_)
              · replace hl1 := (it hc8).symm.trans hl1
                refine k_seq ?_
                refine k_region ?_
                refine s_val (wk0 rfl) rfl rfl hE hp (v := (.slice none 0 0)) (ex_asn rfl hE rfl) ?_
                intro a hE
                refine s_val (wk0 rfl) rfl rfl hE hp (v := (.int .i64 0)) (ex_asn rfl hE rfl) ?_
                intro a hE
                refine s_nil ?_
                refine k_ret ?_
                refine ⟨_, (Option.some.inj hl1).symm, fun hb => ?_⟩
                subst hb
                have hp := hp.emp (OwnSl.nil (α := Int) 3)
                have hp : Hp Z ρ (OwnSl 3 (.slice none 0 0) ([] : List Int) :: _ :: L) w := hp
                obtain rfl := Option.some.inj hm
                exact ret2 hE rfl rfl rfl ⟨_, rfl, _, rfl, ((hp.get 1 rfl).drop)⟩
              · replace hl1 := (ie hc8).symm.trans hl1
                refine k_skip ?_
                refine k_region ?_
                refine s_val (wk0 rfl) rfl rfl hE hp (v := (.int .i64 x3)) (ex_move rfl hE rfl) ?_
                intro a hE
                obtain ⟨x7, ex7, hl1⟩ := bnd hl1
                refine s_val (wk0 rfl) rfl rfl hE hp (v := (.int .i64 x7)) (ex_add rfl hE rfl rfl (inK_some ex7)) ?_
                intro a hE
                refine s_val (wk0 rfl) rfl rfl hE hp (v := w2) (ex_move rfl hE rfl) ?_
                intro a hE
                refine s_val (wk0 rfl) rfl rfl hE hp (v := (.int .i64 x2.1)) (ex_move rfl hE rfl) ?_
                intro a hE
                refine s_lit (wk0 rfl) rfl rfl hE hp rfl [(0, (.int .i64 x2.1))] ⟨⟨rfl, rfl⟩, trivial⟩ [(.int .i64 x2.1)] 3 (fun w => by simp [Instr.buildSlice, Instr.fill, Value.cells, go_sem]) ?_
                intro a w b3 hE hp
                have hp : Hp Z ρ (Pt b3 (.cells #[(.int .i64 x2.1)] 3 (0, 0)) :: _ :: L) w := hp
                obtain ⟨x8, ex8, hl1⟩ := bnd hl1
                refine s_app (wk0 rfl) rfl rfl hE hp rfl slty25 rfl rfl 1 rfl rfl (l2 := [x2.1]) rfl (fun j u hj => by have := Hp.cN 0 rfl 0 _ (sub_all rfl) w hp j u hj; simpa using this) ex8 ?_
                intro v1 a w hE hp
                have hp : Hp Z ρ (_ :: OwnSl 3 v1 x8 :: L) w := hp
                refine s_val (wk0 rfl) rfl rfl hE hp (v := (.int .i64 x7)) (ex_asn rfl hE rfl) ?_
                intro a hE
                refine s_val (wk0 rfl) rfl rfl hE hp (v := v1) (ex_asn rfl hE rfl) ?_
                intro a hE
                refine s_nil ?_
                exact ⟨_, (Option.some.inj hl1).symm, _, hE.cut ⟨rfl, rfl, rfl, trivial⟩, (hp.drop)⟩
      · replace hl1 := (ie hc2).symm.trans hl1
        refine k_exit ?_
        refine ⟨_, (Option.some.inj hl1).symm, fun hbb => ?_⟩
        exact ⟨_, hbb.symm, _, hE.cut trivial, hp⟩
  · rintro a w ⟨b2s, rfl, w2, hE, hp⟩
    dsimp only at hm
    refine k_seq ?_
    refine k_region ?_
    refine s_val (wk0 rfl) rfl rfl hE hp (v := (.slice none 0 0)) (ex_asn rfl hE rfl) ?_
    intro a hE
    refine s_val (wk0 rfl) rfl rfl hE hp (v := (.int .i64 0)) (ex_asn rfl hE rfl) ?_
    intro a hE
    refine s_nil ?_
    refine k_ret ?_
    have hp := hp.emp (OwnSl.nil (α := Int) 3)
    have hp : Hp Z ρ (OwnSl 3 (.slice none 0 0) ([] : List Int) :: OwnSl 3 w2 b2s :: L) w := hp
    obtain rfl := Option.some.inj hm
    exact ret2 hE rfl rfl rfl ⟨_, rfl, _, rfl, ((hp.get 1 rfl).drop)⟩
set_option maxRecDepth 100000 in
set_option maxHeartbeats 4000000 in
theorem c_assessorref26_Format {Z : World} {ρ : PH} {L : List Atom} {w : World} (hT : Tabs ρ) (p0 : Formula) (vp0_clauses : Value) (hp0_clauses : RoSl ρ vp0_clauses p0.clauses) (hp : Hp Z ρ (L) w) (r : ByteArray) (hm : m_assessorref26_Format p0 = some r) :
    Calls Tryz.prog 29 #[(.agg #[(.int .i64 p0.vars), vp0_clauses])] w (Ret fun v w' => v = (.string r) ∧ Hp Z ρ (L) w') := by
  refine enter (N := 35) Tryz.func29 rfl rfl [(0, (.agg #[(.int .i64 p0.vars), vp0_clauses]))] rfl (argsIn_mem ⟨rfl, trivial⟩) fun a hE => ?_
  unfold m_assessorref26_Format at hm
  refine k_seq ?_
  refine k_region ?_
  refine s_box (wk0 rfl) rfl rfl hE hp rfl (v := (.agg #[(.int .i64 p0.vars), vp0_clauses])) rfl ?_
  intro a w b1 hE hp
  have hp : Hp Z ρ (Pt b1 (.cells #[(.int .i64 p0.vars), vp0_clauses] 24 (0, 0)) :: L) w := hp
  refine s_val (wk0 rfl) rfl rfl hE hp (v := (.string (ByteArray.mk #[]))) (ex_asn rfl hE rfl) ?_
  intro a hE
  refine s_nil ?_
  refine k_seq ?_
  refine k_seq ?_
  refine k_region ?_
  refine s_val (wk0 rfl) rfl rfl hE hp (v := (.agg #[(.int .i64 p0.vars), vp0_clauses])) (ex_load rfl hE rfl (fun w hw => run_ldN (cs := [(.int .i64 p0.vars), vp0_clauses]) varty24 (Hp.cN 0 rfl 0 _ (sub_all rfl) w hw))) ?_
  intro a hE
  obtain ⟨x1, ex1, hm⟩ := bnd hm
  refine s_call (wk0 rfl) rfl rfl hE rfl [(.agg #[(.int .i64 p0.vars), vp0_clauses])] ⟨rfl, trivial⟩ ent16 (c_assessorref26_Valid hT p0 vp0_clauses hp0_clauses hp x1 ex1) Ret.ret ?_
  intro v a w hR hE
  obtain ⟨rfl, hp⟩ := Ret.of hR
  have hp : Hp Z ρ (_ :: L) w := hp
  refine s_val (wk0 rfl) rfl rfl hE hp (v := (.bool (!x1))) (ex_not rfl hE rfl) ?_
  intro a hE
  refine s_nil ?_
  refine k_if hE rfl (fun hc1 => ?_) (fun hc1 => ?_)
  · replace hm := (it hc1).symm.trans hm
    refine k_seq ?_
    refine k_region ?_
    refine s_val (wk0 rfl) rfl rfl hE hp (v := (.string (ByteArray.mk #[]))) (ex_asn rfl hE rfl) ?_
    intro a hE
    refine s_nil ?_
    refine k_ret ?_
    obtain rfl := Option.some.inj hm
    exact ret1 hE rfl rfl ⟨_, rfl, rfl, (hp.drop)⟩
  · replace hm := (ie hc1).symm.trans hm
    refine k_skip ?_
    refine k_seq ?_
    refine k_quiet (by kernel_rfl) (by kernel_rfl) hp ?_
    refine q_val (wk0 rfl) rfl rfl hE (v := (.pointer (some ⟨b1, 0, none⟩))) (ex_field rfl hE rfl (fldty24_0 _ _)) ?_
    intro a hE
    refine q_val (wk0 rfl) rfl rfl hE (v := (.int .i64 p0.vars)) (ex_load rfl hE rfl (fun w hw => run_ld1 varty3 (Hp.c 0 rfl 0 rfl w hw))) ?_
    intro a hE
    obtain ⟨x2, ex2, hm⟩ := bnd hm
    refine q_call (wk0 rfl) rfl rfl hE rfl [(.int .i64 p0.vars)] ⟨rfl, trivial⟩ ent69 (v := (.string x2)) (fun w hw => Calls.mono (c_assessorref26_Decimal hT p0.vars hw x2 ex2) fun e w' ⟨v, he, hv, hh⟩ => ⟨by rw [he, hv], hh⟩) ?_
    intro a hE
    obtain ⟨x3, ex3, hm⟩ := bnd hm
    refine q_val (wk0 rfl) rfl rfl hE (v := (.string x3)) (ex_cat rfl hE rfl rfl ex3) ?_
    intro a hE
    obtain ⟨x4, ex4, hm⟩ := bnd hm
    refine q_val (wk0 rfl) rfl rfl hE (v := (.string x4)) (ex_cat rfl hE rfl rfl ex4) ?_
    intro a hE
    refine q_val (wk0 rfl) rfl rfl hE (v := (.pointer (some ⟨b1, 1, none⟩))) (ex_field rfl hE rfl (fldty24_1 _ _)) ?_
    intro a hE
    refine q_val (wk0 rfl) rfl rfl hE (v := vp0_clauses) (ex_load rfl hE rfl (fun w hw => run_ld1 varty22 (Hp.c 0 rfl 1 rfl w hw))) ?_
    intro a hE
    refine q_val (wk0 rfl) rfl rfl hE (v := (.int .i64 (p0.clauses.length : Int))) (ex_len rfl hE rfl (RoSl.len hp0_clauses slty22)) ?_
    intro a hE
    obtain ⟨x5, ex5, hm⟩ := bnd hm
    refine q_call (wk0 rfl) rfl rfl hE rfl [(.int .i64 (p0.clauses.length : Int))] ⟨rfl, trivial⟩ ent69 (v := (.string x5)) (fun w hw => Calls.mono (c_assessorref26_Decimal hT (p0.clauses.length : Int) hw x5 ex5) fun e w' ⟨v, he, hv, hh⟩ => ⟨by rw [he, hv], hh⟩) ?_
    intro a hE
    obtain ⟨x6, ex6, hm⟩ := bnd hm
    refine q_val (wk0 rfl) rfl rfl hE (v := (.string x6)) (ex_cat rfl hE rfl rfl ex6) ?_
    intro a hE
    obtain ⟨x7, ex7, hm⟩ := bnd hm
    refine q_val (wk0 rfl) rfl rfl hE (v := (.string x7)) (ex_cat rfl hE rfl rfl ex7) ?_
    intro a hE
    refine q_val (wk0 rfl) rfl rfl hE (v := (.string x7)) (ex_asn rfl hE rfl) ?_
    intro a hE
    refine q_nil fun w hp => ?_
    have hp : Hp Z ρ (_ :: L) w := hp
    refine k_seq ?_
    refine k_seq ?_
    refine k_region ?_
    refine s_val (wk0 rfl) rfl rfl hE hp (v := (.int .i64 0)) (ex_asn rfl hE rfl) ?_
    intro a hE
    refine s_nil ?_
    obtain ⟨b2, hc2, hm⟩ := bnd hm
    refine k_block (fun a w => Env 35 [(3, (.string b2))] a ∧ Hp Z ρ (Pt b1 (.cells #[(.int .i64 p0.vars), vp0_clauses] 24 (0, 0)) :: L) w) ?_ ?_
    · refine k_loop hc2 (fun s a w => Env 35 [(1, (.pointer (some ⟨b1, 0, none⟩))), (3, (.string s.1)), (4, (.int .i64 s.2))] a ∧ Hp Z ρ (Pt b1 (.cells #[(.int .i64 p0.vars), vp0_clauses] 24 (0, 0)) :: L) w) ?_ ?_
      · exact ⟨hE.cut ⟨rfl, rfl, rfl, trivial⟩, hp⟩
      · rintro ⟨lp1_0, lp1_1⟩ st a w ⟨hE, hp⟩ hl1
        have hE : Env 35 [(1, (.pointer (some ⟨b1, 0, none⟩))), (3, (.string lp1_0)), (4, (.int .i64 lp1_1))] a := hE
        have hp : Hp Z ρ (_ :: L) w := hp
        replace hl1 : m_assessorref26_Format_lp1 p0 lp1_0 lp1_1 = some st := hl1
        unfold m_assessorref26_Format_lp1 at hl1
        refine k_seq ?_
        refine k_seq ?_
        refine k_region ?_
        refine s_val (wk0 rfl) rfl rfl hE hp (v := (.int .i64 lp1_1)) (ex_move rfl hE rfl) ?_
        intro a hE
        refine s_val (wk0 rfl) rfl rfl hE hp (v := (.pointer (some ⟨b1, 1, none⟩))) (ex_field rfl hE rfl (fldty24_1 _ _)) ?_
        intro a hE
        refine s_val (wk0 rfl) rfl rfl hE hp (v := vp0_clauses) (ex_load rfl hE rfl (fun w hw => run_ld1 varty22 (Hp.c 0 rfl 1 rfl w hw))) ?_
        intro a hE
        refine s_val (wk0 rfl) rfl rfl hE hp (v := (.int .i64 (p0.clauses.length : Int))) (ex_len rfl hE rfl (RoSl.len hp0_clauses slty22)) ?_
        intro a hE
        refine s_val (wk0 rfl) rfl rfl hE hp (v := (.bool (decide (lp1_1 < (p0.clauses.length : Int))))) (ex_lss rfl hE rfl rfl) ?_
        intro a hE
        refine s_nil ?_
        refine k_if hE rfl (fun hc3 => ?_) (fun hc3 => ?_)
        · replace hl1 := (it hc3).symm.trans hl1
          refine k_skip ?_
          refine k_seq ?_
          refine k_plain ?_
          refine k_region ?_
          refine s_val (wk0 rfl) rfl rfl hE hp (v := (.string lp1_0)) (ex_move rfl hE rfl) ?_
          intro a hE
          refine s_val (wk0 rfl) rfl rfl hE hp (v := (.pointer (some ⟨b1, 1, none⟩))) (ex_field rfl hE rfl (fldty24_1 _ _)) ?_
          intro a hE
          refine s_val (wk0 rfl) rfl rfl hE hp (v := vp0_clauses) (ex_load rfl hE rfl (fun w hw => run_ld1 varty22 (Hp.c 0 rfl 1 rfl w hw))) ?_
          intro a hE
          refine s_val (wk0 rfl) rfl rfl hE hp (v := (.int .i64 lp1_1)) (ex_move rfl hE rfl) ?_
          intro a hE
          obtain ⟨x8, ex8, hl1⟩ := bnd hl1
          obtain ⟨b3, b3o, b3c, b3r, b3k, b3f⟩ := RoSl.at hp0_clauses slty22 ex8
          obtain ⟨vb3, rfl, hb3⟩ := b3k
          have b3f : AtP ρ b3 b3o [vb3] := b3f
          refine s_val (wk0 rfl) rfl rfl hE hp (v := (.pointer (some ⟨b3, b3o, none⟩))) (ex_index rfl hE rfl rfl b3r) ?_
          intro a hE
          refine s_val (wk0 rfl) rfl rfl hE hp (v := vb3) (ex_load rfl hE rfl (fun w hw => run_ld1 varty25 (b3f.c 0 rfl w hw))) ?_
          intro a hE
          obtain ⟨x9, ex9, hl1⟩ := bnd hl1
          refine s_call (wk0 rfl) rfl rfl hE rfl [vb3] ⟨rfl, trivial⟩ ent70 (c_assessorref26_Line hT x8 vb3 hb3 hp x9 ex9) Ret.ret ?_
          intro v a w hR hE
          obtain ⟨rfl, hp⟩ := Ret.of hR
          have hp : Hp Z ρ (_ :: L) w := hp
          obtain ⟨x10, ex10, hl1⟩ := bnd hl1
          refine s_val (wk0 rfl) rfl rfl hE hp (v := (.string x10)) (ex_cat rfl hE rfl rfl ex10) ?_
          intro a hE
          refine s_val (wk0 rfl) rfl rfl hE hp (v := (.string x10)) (ex_asn rfl hE rfl) ?_
          intro a hE
          refine s_nil ?_
          refine k_region ?_
          refine s_val (wk0 rfl) rfl rfl hE hp (v := (.int .i64 lp1_1)) (ex_move rfl hE rfl) ?_
          intro a hE
          obtain ⟨x11, ex11, hl1⟩ := bnd hl1
          refine s_val (wk0 rfl) rfl rfl hE hp (v := (.int .i64 x11)) (ex_add rfl hE rfl rfl (inK_some ex11)) ?_
          intro a hE
          refine s_val (wk0 rfl) rfl rfl hE hp (v := (.int .i64 x11)) (ex_asn rfl hE rfl) ?_
          intro a hE
          refine s_nil ?_
          exact ⟨_, (Option.some.inj hl1).symm, hE.cut ⟨rfl, rfl, rfl, trivial⟩, hp⟩
        · replace hl1 := (ie hc3).symm.trans hl1
          refine k_exit ?_
          refine ⟨_, (Option.some.inj hl1).symm, fun hbb => ?_⟩
          subst hbb
          exact ⟨hE.cut ⟨rfl, trivial⟩, hp⟩
    · rintro a w ⟨hE, hp⟩
      refine k_seq ?_
      refine k_region ?_
      refine s_val (wk0 rfl) rfl rfl hE hp (v := (.string b2)) (ex_move rfl hE rfl) ?_
      intro a hE
      refine s_val (wk0 rfl) rfl rfl hE hp (v := (.string b2)) (ex_asn rfl hE rfl) ?_
      intro a hE
      refine s_nil ?_
      have hE := hE.cut (E' := [(2, (.string b2))]) ⟨rfl, trivial⟩
      refine k_ret ?_
      obtain rfl := Option.some.inj hm
      exact ret1 hE rfl rfl ⟨_, rfl, rfl, (hp.drop)⟩
set_option maxRecDepth 100000 in
set_option maxHeartbeats 4000000 in
theorem c_assessorref26_Parse {Z : World} {ρ : PH} {L : List Atom} {w : World} (hT : Tabs ρ) (p0 : ByteArray) (hp : Hp Z ρ (L) w) (r : (Formula × Int)) (hm : m_assessorref26_Parse p0 = some r) :
    Calls Tryz.prog 27 #[(.string p0)] w (Ret fun v w' => ∃ (vr1_clauses : Value) (usr1_clauses : List Sl), v = .tuple #[(.agg #[(.int .i64 r.1.vars), vr1_clauses]), (.int .i64 r.2)] ∧ Hp Z ρ (TblA 25 3 vr1_clauses usr1_clauses (r.1.clauses : (List (List Int))) :: L) w') := by
  refine enter (N := 102) Tryz.func27 rfl rfl [(0, (.string p0))] rfl (argsIn_mem ⟨rfl, trivial⟩) fun a hE => ?_
  unfold m_assessorref26_Parse at hm
  refine k_seq ?_
  refine k_region ?_
  refine s_new (wk0 rfl) rfl rfl hE hp rfl [(.int .i64 0), (.slice none 0 0)] (fun w => by simp [Instr.alloc, go_sem] <;> rfl) ?_
  intro a w b1 hE hp
  have hp : Hp Z ρ (Pt b1 (.cells #[(.int .i64 0), (.slice none 0 0)] 24 (0, 0)) :: L) w := hp
  refine s_val (wk0 rfl) rfl rfl hE hp (v := (.int .i64 0)) (ex_asn rfl hE rfl) ?_
  intro a hE
  refine s_nil ?_
  refine k_seq ?_
  refine k_seq ?_
  refine k_region ?_
  refine s_val (wk0 rfl) rfl rfl hE hp (v := (.string p0)) (ex_move rfl hE rfl) ?_
  intro a hE
  refine s_val (wk0 rfl) rfl rfl hE hp (v := (.int .i64 (p0.size : Int))) (ex_slen sty9 rfl hE rfl) ?_
  intro a hE
  refine s_val (wk0 rfl) rfl rfl hE hp (v := (.bool (decide ((p0.size : Int) < 6)))) (ex_lss rfl hE rfl rfl) ?_
  intro a hE
  refine s_val (wk0 rfl) rfl rfl hE hp (v := (.bool (decide ((p0.size : Int) < 6)))) (ex_move rfl hE rfl) ?_
  intro a hE
  obtain ⟨m1, hg1, hm⟩ := bnd hm
  refine s_cut [_, _, _, _] (fun a w => Env 102 [(18, (.bool m1)), (0, (.string p0)), (2, (.pointer (some ⟨b1, 0, none⟩)))] a ∧ Hp Z ρ (Pt b1 (.cells #[(.int .i64 0), (.slice none 0 0)] 24 (0, 0)) :: L) w) ?_ ?_
  · rcases Bool.eq_false_or_eq_true (decide ((p0.size : Int) < 6)) with hc1 | hc1
    ·
      replace hg1 := (it hc1).symm.trans hg1
      refine s_skip (wk2 hE rfl rfl rfl hc1) rfl rfl hE ?_
      intro a hE
      refine s_skip (wk2 hE rfl rfl rfl hc1) rfl rfl hE ?_
      intro a hE
      refine s_skip (wk2 hE rfl rfl rfl hc1) rfl rfl hE ?_
      intro a hE
      refine s_val (wk0 rfl) rfl rfl hE hp (v := (.bool true)) (ex_pick1 rfl hE rfl hc1 rfl) ?_
      intro a hE
      obtain rfl := Option.some.inj hg1
      exact s_nil ⟨hE.cut ⟨rfl, rfl, rfl, trivial⟩, hp⟩
    ·
      replace hg1 := (ie hc1).symm.trans hg1
      refine s_val (wk1 hE rfl rfl rfl hc1) rfl rfl hE hp (v := (.string p0)) (ex_move rfl hE rfl) ?_
      intro a hE
      obtain ⟨x1, ex1, hg1⟩ := bnd hg1
      refine s_val (wk1 hE rfl rfl rfl hc1) rfl rfl hE hp (v := (.string x1)) (ex_sl rfl hE rfl none (some (.i64, 6)) (by exact trivial) (by exact rfl) (run_ssub sty9 none (some (.i64, 6)) rfl rfl ex1)) ?_
      intro a hE
      refine s_val (wk1 hE rfl rfl rfl hc1) rfl rfl hE hp (v := (.bool (!decide (x1 = (ByteArray.mk #[112, 32, 99, 110, 102, 32]))))) (ex_sneq rfl hE rfl rfl) ?_
      intro a hE
      refine s_val (wk0 rfl) rfl rfl hE hp (v := (.bool (!decide (x1 = (ByteArray.mk #[112, 32, 99, 110, 102, 32]))))) (ex_pick0 rfl hE rfl hc1 rfl) ?_
      intro a hE
      obtain rfl := Option.some.inj hg1
      exact s_nil ⟨hE.cut ⟨rfl, rfl, rfl, trivial⟩, hp⟩
  · rintro a w ⟨hE, hp⟩
    refine s_nil ?_
    refine k_if hE rfl (fun hc2 => ?_) (fun hc2 => ?_)
    · replace hm := (it hc2).symm.trans hm
      refine k_seq ?_
      refine k_region ?_
      refine s_val (wk0 rfl) rfl rfl hE hp (v := (.agg #[(.int .i64 0), (.slice none 0 0)])) (ex_bld rfl hE [] (by exact trivial) (fun w => by simp [Instr.build, Instr.fill, Value.cells, go_sem])) ?_
      intro a hE
      refine s_store (wk0 rfl) rfl hE hp rfl rfl rfl 0 rfl varty24.size_ rfl (allOne_mem ⟨rfl, rfl, trivial⟩) [(.int .i64 0), (.slice none 0 0)] rfl ?_
      intro w hp
      have hp : Hp Z ρ (_ :: L) w := hp
      refine s_val (wk0 rfl) rfl rfl hE hp (v := (.int .i64 3)) (ex_asn rfl hE rfl) ?_
      intro a hE
      refine s_nil ?_
      refine k_ret ?_
      have hp := hp.emp (TblA.none (α := Int) 25 3 none)
      have hp : Hp Z ρ (TblA 25 3 (.slice none 0 0) ([]) ([] : (List (List Int))) :: _ :: L) w := hp
      have hp : Hp Z ρ (_ :: _ :: L) w := hp
      obtain rfl := Option.some.inj hm
      exact retct hE rfl rfl rfl (run_lvN (cs := [(.int .i64 0), (.slice none 0 0)]) varty24 (Hp.cN 1 rfl 0 _ (sub_all rfl) _ hp)) ⟨_, rfl, _, _, rfl, ((hp.get 1 rfl).drop)⟩
    · replace hm := (ie hc2).symm.trans hm
      refine k_skip ?_
      refine k_seq ?_
      refine k_region ?_
      refine s_val (wk0 rfl) rfl rfl hE hp (v := (.string p0)) (ex_move rfl hE rfl) ?_
      intro a hE
      obtain ⟨x2, ex2, hm⟩ := bnd hm
      refine s_val (wk0 rfl) rfl rfl hE hp (v := (.string x2)) (ex_sl rfl hE rfl (some (.i64, 6)) none (by exact rfl) (by exact trivial) (run_ssub sty9 (some (.i64, 6)) none rfl rfl ex2)) ?_
      intro a hE
      obtain ⟨x3, ex3, hm⟩ := bnd hm
      refine s_call (wk0 rfl) rfl rfl hE rfl [(.string x2)] ⟨rfl, trivial⟩ ent64 (c_assessorref26_integer hT x2 hp x3 ex3) Ret.ret ?_
      intro v a w hR hE
      obtain ⟨rfl, hp⟩ := Ret.of hR
      have hp : Hp Z ρ (_ :: L) w := hp
      refine s_val (wk0 rfl) rfl rfl hE hp (v := (.tuple #[(.int .i64 x3.1), (.int .i64 x3.2)])) (ex_move rfl hE rfl) ?_
      intro a hE
      refine s_val (wk0 rfl) rfl rfl hE hp (v := (.int .i64 x3.1)) (ex_extract rfl hE rfl rfl) ?_
      intro a hE
      refine s_val (wk0 rfl) rfl rfl hE hp (v := (.int .i64 x3.2)) (ex_extract rfl hE rfl rfl) ?_
      intro a hE
      refine s_val (wk0 rfl) rfl rfl hE hp (v := (.int .i64 x3.1)) (ex_asn rfl hE rfl) ?_
      intro a hE
      refine s_val (wk0 rfl) rfl rfl hE hp (v := (.int .i64 x3.2)) (ex_asn rfl hE rfl) ?_
      intro a hE
      refine s_nil ?_
      refine k_seq ?_
      refine k_region ?_
      refine s_val (wk0 rfl) rfl rfl hE hp (v := (.string p0)) (ex_move rfl hE rfl) ?_
      intro a hE
      refine s_val (wk0 rfl) rfl rfl hE hp (v := (.int .i64 x3.2)) (ex_move rfl hE rfl) ?_
      intro a hE
      obtain ⟨x4, ex4, hm⟩ := bnd hm
      refine s_val (wk0 rfl) rfl rfl hE hp (v := (.int .i64 x4)) (ex_add rfl hE rfl rfl (inK_some ex4)) ?_
      intro a hE
      obtain ⟨x5, ex5, hm⟩ := bnd hm
      refine s_val (wk0 rfl) rfl rfl hE hp (v := (.string x5)) (ex_sl rfl hE rfl (some (.i64, x4)) none (by exact rfl) (by exact trivial) (run_ssub sty9 (some (.i64, x4)) none rfl rfl ex5)) ?_
      intro a hE
      refine s_val (wk0 rfl) rfl rfl hE hp (v := (.string x5)) (ex_asn rfl hE rfl) ?_
      intro a hE
      refine s_nil ?_
      refine k_seq ?_
      refine k_seq ?_
      refine k_region ?_
      refine s_val (wk0 rfl) rfl rfl hE hp (v := (.int .i64 x3.2)) (ex_move rfl hE rfl) ?_
      intro a hE
      refine s_val (wk0 rfl) rfl rfl hE hp (v := (.bool (decide (x3.2 = 0)))) (ex_eql rfl hE rfl rfl) ?_
      intro a hE
      refine s_val (wk0 rfl) rfl rfl hE hp (v := (.bool (decide (x3.2 = 0)))) (ex_move rfl hE rfl) ?_
      intro a hE
      refine s_cut [_, _, _] (fun a w => Env 102 [(35, (.bool ((decide (x3.2 = 0)) || (decide (x5 = (ByteArray.mk #[])))))), (2, (.pointer (some ⟨b1, 0, none⟩))), (4, (.int .i64 x3.1)), (6, (.string x5))] a ∧ Hp Z ρ (Pt b1 (.cells #[(.int .i64 0), (.slice none 0 0)] 24 (0, 0)) :: L) w) ?_ ?_
      · rcases Bool.eq_false_or_eq_true (decide (x3.2 = 0)) with hc3 | hc3
        ·
          refine s_skip (wk2 hE rfl rfl rfl hc3) rfl rfl hE ?_
          intro a hE
          refine s_skip (wk2 hE rfl rfl rfl hc3) rfl rfl hE ?_
          intro a hE
          refine s_val (wk0 rfl) rfl rfl hE hp (v := (.bool true)) (ex_pick1 rfl hE rfl hc3 rfl) ?_
          intro a hE
          have hE := hE.eqv (v' := (.bool ((decide (x3.2 = 0)) || (decide (x5 = (ByteArray.mk #[])))))) (by rw [hc3]; rfl)
          exact s_nil ⟨hE.cut ⟨rfl, rfl, rfl, rfl, trivial⟩, hp⟩
        ·
          refine s_val (wk1 hE rfl rfl rfl hc3) rfl rfl hE hp (v := (.string x5)) (ex_move rfl hE rfl) ?_
          intro a hE
          refine s_val (wk1 hE rfl rfl rfl hc3) rfl rfl hE hp (v := (.bool (decide (x5 = (ByteArray.mk #[]))))) (ex_seql rfl hE rfl rfl) ?_
          intro a hE
          refine s_val (wk0 rfl) rfl rfl hE hp (v := (.bool (decide (x5 = (ByteArray.mk #[]))))) (ex_pick0 rfl hE rfl hc3 rfl) ?_
          intro a hE
          have hE := hE.eqv (v' := (.bool ((decide (x3.2 = 0)) || (decide (x5 = (ByteArray.mk #[])))))) (by rw [hc3]; rfl)
          exact s_nil ⟨hE.cut ⟨rfl, rfl, rfl, rfl, trivial⟩, hp⟩
      · rintro a w ⟨hE, hp⟩
        refine s_val (wk0 rfl) rfl rfl hE hp (v := (.bool ((decide (x3.2 = 0)) || (decide (x5 = (ByteArray.mk #[])))))) (ex_move rfl hE rfl) ?_
        intro a hE
        obtain ⟨m2, hg2, hm⟩ := bnd hm
        refine s_cut [_, _, _, _] (fun a w => Env 102 [(40, (.bool m2)), (2, (.pointer (some ⟨b1, 0, none⟩))), (4, (.int .i64 x3.1)), (6, (.string x5))] a ∧ Hp Z ρ (Pt b1 (.cells #[(.int .i64 0), (.slice none 0 0)] 24 (0, 0)) :: L) w) ?_ ?_
        · rcases Bool.eq_false_or_eq_true ((decide (x3.2 = 0)) || (decide (x5 = (ByteArray.mk #[])))) with hc4 | hc4
          ·
            replace hg2 := (it hc4).symm.trans hg2
            refine s_skip (wk2 hE rfl rfl rfl hc4) rfl rfl hE ?_
            intro a hE
            refine s_skip (wk2 hE rfl rfl rfl hc4) rfl rfl hE ?_
            intro a hE
            refine s_skip (wk2 hE rfl rfl rfl hc4) rfl rfl hE ?_
            intro a hE
            refine s_val (wk0 rfl) rfl rfl hE hp (v := (.bool true)) (ex_pick1 rfl hE rfl hc4 rfl) ?_
            intro a hE
            obtain rfl := Option.some.inj hg2
            exact s_nil ⟨hE.cut ⟨rfl, rfl, rfl, rfl, trivial⟩, hp⟩
          ·
            replace hg2 := (ie hc4).symm.trans hg2
            refine s_val (wk1 hE rfl rfl rfl hc4) rfl rfl hE hp (v := (.string x5)) (ex_move rfl hE rfl) ?_
            intro a hE
            obtain ⟨x6, ex6, hg2⟩ := bnd hg2
            refine s_val (wk1 hE rfl rfl rfl hc4) rfl rfl hE hp (v := (.int .u8 x6)) (ex_six sty9 rfl hE rfl rfl ex6) ?_
            intro a hE
            refine s_val (wk1 hE rfl rfl rfl hc4) rfl rfl hE hp (v := (.bool (!decide (x6 = 32)))) (ex_neq rfl hE rfl rfl) ?_
            intro a hE
            refine s_val (wk0 rfl) rfl rfl hE hp (v := (.bool (!decide (x6 = 32)))) (ex_pick0 rfl hE rfl hc4 rfl) ?_
            intro a hE
            obtain rfl := Option.some.inj hg2
            exact s_nil ⟨hE.cut ⟨rfl, rfl, rfl, rfl, trivial⟩, hp⟩
        · rintro a w ⟨hE, hp⟩
          refine s_nil ?_
          refine k_if hE rfl (fun hc5 => ?_) (fun hc5 => ?_)
          · replace hm := (it hc5).symm.trans hm
            refine k_seq ?_
            refine k_region ?_
            refine s_val (wk0 rfl) rfl rfl hE hp (v := (.agg #[(.int .i64 0), (.slice none 0 0)])) (ex_bld rfl hE [] (by exact trivial) (fun w => by simp [Instr.build, Instr.fill, Value.cells, go_sem])) ?_
            intro a hE
            refine s_store (wk0 rfl) rfl hE hp rfl rfl rfl 0 rfl varty24.size_ rfl (allOne_mem ⟨rfl, rfl, trivial⟩) [(.int .i64 0), (.slice none 0 0)] rfl ?_
            intro w hp
            have hp : Hp Z ρ (_ :: L) w := hp
            refine s_val (wk0 rfl) rfl rfl hE hp (v := (.int .i64 3)) (ex_asn rfl hE rfl) ?_
            intro a hE
            refine s_nil ?_
            refine k_ret ?_
            have hp := hp.emp (TblA.none (α := Int) 25 3 none)
            have hp : Hp Z ρ (TblA 25 3 (.slice none 0 0) ([]) ([] : (List (List Int))) :: _ :: L) w := hp
            have hp : Hp Z ρ (_ :: _ :: L) w := hp
            obtain rfl := Option.some.inj hm
            exact retct hE rfl rfl rfl (run_lvN (cs := [(.int .i64 0), (.slice none 0 0)]) varty24 (Hp.cN 1 rfl 0 _ (sub_all rfl) _ hp)) ⟨_, rfl, _, _, rfl, ((hp.get 1 rfl).drop)⟩
          · replace hm := (ie hc5).symm.trans hm
            refine k_skip ?_
            refine k_seq ?_
            refine k_region ?_
            refine s_val (wk0 rfl) rfl rfl hE hp (v := (.string x5)) (ex_move rfl hE rfl) ?_
            intro a hE
            obtain ⟨x7, ex7, hm⟩ := bnd hm
            refine s_val (wk0 rfl) rfl rfl hE hp (v := (.string x7)) (ex_sl rfl hE rfl (some (.i64, 1)) none (by exact rfl) (by exact trivial) (run_ssub sty9 (some (.i64, 1)) none rfl rfl ex7)) ?_
            intro a hE
            obtain ⟨x8, ex8, hm⟩ := bnd hm
            refine s_call (wk0 rfl) rfl rfl hE rfl [(.string x7)] ⟨rfl, trivial⟩ ent64 (c_assessorref26_integer hT x7 hp x8 ex8) Ret.ret ?_
            intro v a w hR hE
            obtain ⟨rfl, hp⟩ := Ret.of hR
            have hp : Hp Z ρ (_ :: L) w := hp
            refine s_val (wk0 rfl) rfl rfl hE hp (v := (.tuple #[(.int .i64 x8.1), (.int .i64 x8.2)])) (ex_move rfl hE rfl) ?_
            intro a hE
            refine s_val (wk0 rfl) rfl rfl hE hp (v := (.int .i64 x8.1)) (ex_extract rfl hE rfl rfl) ?_
            intro a hE
            refine s_val (wk0 rfl) rfl rfl hE hp (v := (.int .i64 x8.2)) (ex_extract rfl hE rfl rfl) ?_
            intro a hE
            refine s_val (wk0 rfl) rfl rfl hE hp (v := (.int .i64 x8.1)) (ex_asn rfl hE rfl) ?_
            intro a hE
            refine s_val (wk0 rfl) rfl rfl hE hp (v := (.int .i64 x8.2)) (ex_asn rfl hE rfl) ?_
            intro a hE
            refine s_nil ?_
            refine k_seq ?_
            refine k_seq ?_
            refine k_region ?_
            refine s_val (wk0 rfl) rfl rfl hE hp (v := (.int .i64 x8.2)) (ex_move rfl hE rfl) ?_
            intro a hE
            refine s_val (wk0 rfl) rfl rfl hE hp (v := (.bool (decide (x8.2 = 0)))) (ex_eql rfl hE rfl rfl) ?_
            intro a hE
            refine s_val (wk0 rfl) rfl rfl hE hp (v := (.bool (decide (x8.2 = 0)))) (ex_move rfl hE rfl) ?_
            intro a hE
            obtain ⟨m3, hg3, hm⟩ := bnd hm
            refine s_cut [_, _, _, _, _, _] (fun a w => Env 102 [(56, (.bool m3)), (2, (.pointer (some ⟨b1, 0, none⟩))), (4, (.int .i64 x3.1)), (5, (.int .i64 x8.2)), (6, (.string x5)), (7, (.int .i64 x8.1))] a ∧ Hp Z ρ (Pt b1 (.cells #[(.int .i64 0), (.slice none 0 0)] 24 (0, 0)) :: L) w) ?_ ?_
            · rcases Bool.eq_false_or_eq_true (decide (x8.2 = 0)) with hc6 | hc6
              ·
                replace hg3 := (it hc6).symm.trans hg3
                refine s_skip (wk2 hE rfl rfl rfl hc6) rfl rfl hE ?_
                intro a hE
                refine s_skip (wk2 hE rfl rfl rfl hc6) rfl rfl hE ?_
                intro a hE
                refine s_skip (wk2 hE rfl rfl rfl hc6) rfl rfl hE ?_
                intro a hE
                refine s_skip (wk2 hE rfl rfl rfl hc6) rfl rfl hE ?_
                intro a hE
                refine s_skip (wk2 hE rfl rfl rfl hc6) rfl rfl hE ?_
                intro a hE
                refine s_val (wk0 rfl) rfl rfl hE hp (v := (.bool true)) (ex_pick1 rfl hE rfl hc6 rfl) ?_
                intro a hE
                obtain rfl := Option.some.inj hg3
                exact s_nil ⟨hE.cut ⟨rfl, rfl, rfl, rfl, rfl, rfl, trivial⟩, hp⟩
              ·
                replace hg3 := (ie hc6).symm.trans hg3
                refine s_val (wk1 hE rfl rfl rfl hc6) rfl rfl hE hp (v := (.string x5)) (ex_move rfl hE rfl) ?_
                intro a hE
                refine s_val (wk1 hE rfl rfl rfl hc6) rfl rfl hE hp (v := (.int .i64 (x5.size : Int))) (ex_slen sty9 rfl hE rfl) ?_
                intro a hE
                refine s_val (wk1 hE rfl rfl rfl hc6) rfl rfl hE hp (v := (.int .i64 x8.2)) (ex_move rfl hE rfl) ?_
                intro a hE
                obtain ⟨x9, ex9, hg3⟩ := bnd hg3
                refine s_val (wk1 hE rfl rfl rfl hc6) rfl rfl hE hp (v := (.int .i64 x9)) (ex_add rfl hE rfl rfl (inK_some ex9)) ?_
                intro a hE
                refine s_val (wk1 hE rfl rfl rfl hc6) rfl rfl hE hp (v := (.bool (decide ((x5.size : Int) ≤ x9)))) (ex_leq rfl hE rfl rfl) ?_
                intro a hE
                refine s_val (wk0 rfl) rfl rfl hE hp (v := (.bool (decide ((x5.size : Int) ≤ x9)))) (ex_pick0 rfl hE rfl hc6 rfl) ?_
                intro a hE
                obtain rfl := Option.some.inj hg3
                exact s_nil ⟨hE.cut ⟨rfl, rfl, rfl, rfl, rfl, rfl, trivial⟩, hp⟩
            · rintro a w ⟨hE, hp⟩
              refine s_val (wk0 rfl) rfl rfl hE hp (v := (.bool m3)) (ex_move rfl hE rfl) ?_
              intro a hE
              obtain ⟨m4, hg4, hm⟩ := bnd hm
              refine s_cut [_, _, _, _, _, _] (fun a w => Env 102 [(63, (.bool m4)), (2, (.pointer (some ⟨b1, 0, none⟩))), (4, (.int .i64 x3.1)), (5, (.int .i64 x8.2)), (6, (.string x5)), (7, (.int .i64 x8.1))] a ∧ Hp Z ρ (Pt b1 (.cells #[(.int .i64 0), (.slice none 0 0)] 24 (0, 0)) :: L) w) ?_ ?_
              · rcases Bool.eq_false_or_eq_true m3 with hc7 | hc7
                ·
                  replace hg4 := (it hc7).symm.trans hg4
                  refine s_skip (wk2 hE rfl rfl rfl hc7) rfl rfl hE ?_
                  intro a hE
                  refine s_skip (wk2 hE rfl rfl rfl hc7) rfl rfl hE ?_
                  intro a hE
                  refine s_skip (wk2 hE rfl rfl rfl hc7) rfl rfl hE ?_
                  intro a hE
                  refine s_skip (wk2 hE rfl rfl rfl hc7) rfl rfl hE ?_
                  intro a hE
                  refine s_skip (wk2 hE rfl rfl rfl hc7) rfl rfl hE ?_
                  intro a hE
                  refine s_val (wk0 rfl) rfl rfl hE hp (v := (.bool true)) (ex_pick1 rfl hE rfl hc7 rfl) ?_
                  intro a hE
                  obtain rfl := Option.some.inj hg4
                  exact s_nil ⟨hE.cut ⟨rfl, rfl, rfl, rfl, rfl, rfl, trivial⟩, hp⟩
                ·
                  replace hg4 := (ie hc7).symm.trans hg4
                  refine s_val (wk1 hE rfl rfl rfl hc7) rfl rfl hE hp (v := (.string x5)) (ex_move rfl hE rfl) ?_
                  intro a hE
                  refine s_val (wk1 hE rfl rfl rfl hc7) rfl rfl hE hp (v := (.int .i64 x8.2)) (ex_move rfl hE rfl) ?_
                  intro a hE
                  obtain ⟨x10, ex10, hg4⟩ := bnd hg4
                  refine s_val (wk1 hE rfl rfl rfl hc7) rfl rfl hE hp (v := (.int .i64 x10)) (ex_add rfl hE rfl rfl (inK_some ex10)) ?_
                  intro a hE
                  obtain ⟨x11, ex11, hg4⟩ := bnd hg4
                  refine s_val (wk1 hE rfl rfl rfl hc7) rfl rfl hE hp (v := (.int .u8 x11)) (ex_six sty9 rfl hE rfl rfl ex11) ?_
                  intro a hE
                  refine s_val (wk1 hE rfl rfl rfl hc7) rfl rfl hE hp (v := (.bool (!decide (x11 = 10)))) (ex_neq rfl hE rfl rfl) ?_
                  intro a hE
                  refine s_val (wk0 rfl) rfl rfl hE hp (v := (.bool (!decide (x11 = 10)))) (ex_pick0 rfl hE rfl hc7 rfl) ?_
                  intro a hE
                  obtain rfl := Option.some.inj hg4
                  exact s_nil ⟨hE.cut ⟨rfl, rfl, rfl, rfl, rfl, rfl, trivial⟩, hp⟩
              · rintro a w ⟨hE, hp⟩
                refine s_nil ?_
                refine k_if hE rfl (fun hc8 => ?_) (fun hc8 => ?_)
                · replace hm := (it hc8).symm.trans hm
                  refine k_seq ?_
                  refine k_region ?_
                  refine s_val (wk0 rfl) rfl rfl hE hp (v := (.agg #[(.int .i64 0), (.slice none 0 0)])) (ex_bld rfl hE [] (by exact trivial) (fun w => by simp [Instr.build, Instr.fill, Value.cells, go_sem])) ?_
                  intro a hE
                  refine s_store (wk0 rfl) rfl hE hp rfl rfl rfl 0 rfl varty24.size_ rfl (allOne_mem ⟨rfl, rfl, trivial⟩) [(.int .i64 0), (.slice none 0 0)] rfl ?_
                  intro w hp
                  have hp : Hp Z ρ (_ :: L) w := hp
                  refine s_val (wk0 rfl) rfl rfl hE hp (v := (.int .i64 3)) (ex_asn rfl hE rfl) ?_
                  intro a hE
                  refine s_nil ?_
                  refine k_ret ?_
                  have hp := hp.emp (TblA.none (α := Int) 25 3 none)
                  have hp : Hp Z ρ (TblA 25 3 (.slice none 0 0) ([]) ([] : (List (List Int))) :: _ :: L) w := hp
                  have hp : Hp Z ρ (_ :: _ :: L) w := hp
                  obtain rfl := Option.some.inj hm
                  exact retct hE rfl rfl rfl (run_lvN (cs := [(.int .i64 0), (.slice none 0 0)]) varty24 (Hp.cN 1 rfl 0 _ (sub_all rfl) _ hp)) ⟨_, rfl, _, _, rfl, ((hp.get 1 rfl).drop)⟩
                · replace hm := (ie hc8).symm.trans hm
                  refine k_skip ?_
                  refine k_seq ?_
                  refine k_region ?_
                  refine s_val (wk0 rfl) rfl rfl hE hp (v := (.int .i64 x3.1)) (ex_move rfl hE rfl) ?_
                  intro a hE
                  refine s_val (wk0 rfl) rfl rfl hE hp (v := (.agg #[(.int .i64 x3.1), (.slice none 0 0)])) (ex_bld rfl hE [(0, (.int .i64 x3.1))] (by exact ⟨⟨rfl, rfl⟩, trivial⟩) (fun w => by simp [Instr.build, Instr.fill, Value.cells, go_sem])) ?_
                  intro a hE
                  refine s_new (wk0 rfl) rfl rfl hE hp rfl [(.int .i64 0), (.slice none 0 0)] (fun w => by simp [Instr.alloc, go_sem] <;> rfl) ?_
                  intro a w b2 hE hp
                  have hp : Hp Z ρ (Pt b2 (.cells #[(.int .i64 0), (.slice none 0 0)] 24 (0, 0)) :: _ :: L) w := hp
                  refine s_store (wk0 rfl) rfl hE hp rfl rfl rfl 0 rfl varty24.size_ rfl (allOne_mem ⟨rfl, rfl, trivial⟩) [(.int .i64 x3.1), (.slice none 0 0)] rfl ?_
                  intro w hp
                  have hp : Hp Z ρ (Pt b2 (.cells #[(.int .i64 x3.1), (.slice none 0 0)] 24 (0, 0)) :: _ :: L) w := hp
                  refine s_nil ?_
                  refine k_seq ?_
                  refine k_seq ?_
                  refine k_region ?_
                  refine s_val (wk0 rfl) rfl rfl hE hp (v := (.string x5)) (ex_move rfl hE rfl) ?_
                  intro a hE
                  refine s_val (wk0 rfl) rfl rfl hE hp (v := (.int .i64 x8.2)) (ex_move rfl hE rfl) ?_
                  intro a hE
                  obtain ⟨x12, ex12, hm⟩ := bnd hm
                  refine s_val (wk0 rfl) rfl rfl hE hp (v := (.int .i64 x12)) (ex_add rfl hE rfl rfl (inK_some ex12)) ?_
                  intro a hE
                  obtain ⟨x13, ex13, hm⟩ := bnd hm
                  refine s_val (wk0 rfl) rfl rfl hE hp (v := (.string x13)) (ex_sl rfl hE rfl (some (.i64, x12)) none (by exact rfl) (by exact trivial) (run_ssub sty9 (some (.i64, x12)) none rfl rfl ex13)) ?_
                  intro a hE
                  refine s_val (wk0 rfl) rfl rfl hE hp (v := (.string x13)) (ex_asn rfl hE rfl) ?_
                  intro a hE
                  refine s_nil ?_
                  have hp := hp.emp (TblA.none (α := Int) 25 3 none)
                  have hp : Hp Z ρ (TblA 25 3 (.slice none 0 0) ([]) ([] : (List (List Int))) :: _ :: _ :: L) w := hp
                  have hp : Hp Z ρ (_ :: _ :: _ :: L) w := hp
                  obtain ⟨b3, hc9, hm⟩ := bnd hm
                  refine k_block (fun a w => ∃ s : (List (List Int)), b3 = .brk s ∧ (∃ (w10 : Value) (us10 : List Sl), Env 102 [(2, (.pointer (some ⟨b1, 0, none⟩))), (7, (.int .i64 x8.1)), (8, (.pointer (some ⟨b2, 0, none⟩)))] a ∧ Hp Z ρ (TblA 25 3 w10 us10 (s : (List (List Int))) :: Pt b2 (.cells #[(.int .i64 x3.1), w10] 24 (0, 0)) :: Pt b1 (.cells #[(.int .i64 0), (.slice none 0 0)] 24 (0, 0)) :: L) w)) ?_ ?_
                  · refine k_loop hc9 (fun s a w => ∃ (w10 : Value) (us10 : List Sl), Env 102 [(2, (.pointer (some ⟨b1, 0, none⟩))), (6, (.string s.1)), (7, (.int .i64 x8.1)), (8, (.pointer (some ⟨b2, 0, none⟩)))] a ∧ Hp Z ρ (TblA 25 3 w10 us10 (s.2 : (List (List Int))) :: Pt b2 (.cells #[(.int .i64 x3.1), w10] 24 (0, 0)) :: Pt b1 (.cells #[(.int .i64 0), (.slice none 0 0)] 24 (0, 0)) :: L) w) ?_ ?_
                    · exact ⟨_, _, hE.cut ⟨rfl, rfl, rfl, rfl, trivial⟩, hp⟩
                    · rintro ⟨lp1_0, lp1_1⟩ st a w ⟨w10, us10, hE, hp⟩ hl1
                      have hE : Env 102 [(2, (.pointer (some ⟨b1, 0, none⟩))), (6, (.string lp1_0)), (7, (.int .i64 x8.1)), (8, (.pointer (some ⟨b2, 0, none⟩)))] a := hE
                      have hp : Hp Z ρ (TblA 25 3 w10 us10 (lp1_1 : (List (List Int))) :: Pt b2 (.cells #[(.int .i64 x3.1), w10] 24 (0, 0)) :: _ :: L) w := hp
                      replace hl1 : m_assessorref26_Parse_lp1  lp1_0 lp1_1 = some st := hl1
                      unfold m_assessorref26_Parse_lp1 at hl1
                      refine k_seq ?_
                      refine k_seq ?_
                      refine k_region ?_
                      refine s_val (wk0 rfl) rfl rfl hE hp (v := (.string lp1_0)) (ex_move rfl hE rfl) ?_
                      intro a hE
                      refine s_val (wk0 rfl) rfl rfl hE hp (v := (.bool (!decide (lp1_0 = (ByteArray.mk #[]))))) (ex_sneq rfl hE rfl rfl) ?_
                      intro a hE
                      refine s_nil ?_
                      refine k_if hE rfl (fun hc10 => ?_) (fun hc10 => ?_)
                      · replace hl1 := (it hc10).symm.trans hl1
                        refine k_skip ?_
                        refine k_plain ?_
                        refine k_seq ?_
                        refine k_region ?_
                        refine s_val (wk0 rfl) rfl rfl hE hp (v := (.string lp1_0)) (ex_move rfl hE rfl) ?_
                        intro a hE
                        obtain ⟨x14, ex14, hl1⟩ := bnd hl1
                        refine s_call (wk0 rfl) rfl rfl hE rfl [(.string lp1_0)] ⟨rfl, trivial⟩ ent65 (c_assessorref26_ReadLine hT lp1_0 hp x14 ex14) Ret.ret ?_
                        intro v a w hR hE
                        obtain ⟨vr5, rfl, hp⟩ := Ret.of hR
                        have hp : Hp Z ρ (OwnSl 3 vr5 x14.1 :: _ :: _ :: _ :: L) w := hp
                        refine s_val (wk0 rfl) rfl rfl hE hp (v := (.tuple #[vr5, (.int .i64 x14.2)])) (ex_move rfl hE rfl) ?_
                        intro a hE
                        refine s_val (wk0 rfl) rfl rfl hE hp (v := vr5) (ex_extract rfl hE rfl rfl) ?_
                        intro a hE
                        refine s_val (wk0 rfl) rfl rfl hE hp (v := (.int .i64 x14.2)) (ex_extract rfl hE rfl rfl) ?_
                        intro a hE
                        refine s_val (wk0 rfl) rfl rfl hE hp (v := vr5) (ex_asn rfl hE rfl) ?_
                        intro a hE
                        refine s_val (wk0 rfl) rfl rfl hE hp (v := (.int .i64 x14.2)) (ex_asn rfl hE rfl) ?_
                        intro a hE
                        refine s_nil ?_
                        have hE := hE.cut (E' := [(2, (.pointer (some ⟨b1, 0, none⟩))), (6, (.string lp1_0)), (7, (.int .i64 x8.1)), (8, (.pointer (some ⟨b2, 0, none⟩))), (9, vr5), (10, (.int .i64 x14.2))]) ⟨rfl, rfl, rfl, rfl, rfl, rfl, trivial⟩
                        refine k_seq ?_
                        refine k_seq ?_
                        refine k_region ?_
                        refine s_val (wk0 rfl) rfl rfl hE hp (v := (.int .i64 x14.2)) (ex_move rfl hE rfl) ?_
                        intro a hE
                        refine s_val (wk0 rfl) rfl rfl hE hp (v := (.bool (decide (x14.2 = 0)))) (ex_eql rfl hE rfl rfl) ?_
                        intro a hE
                        refine s_nil ?_
                        refine k_if hE rfl (fun hc11 => ?_) (fun hc11 => ?_)
                        · replace hl1 := (it hc11).symm.trans hl1
                          refine k_seq ?_
                          refine k_region ?_
                          refine s_val (wk0 rfl) rfl rfl hE hp (v := (.agg #[(.int .i64 0), (.slice none 0 0)])) (ex_bld rfl hE [] (by exact trivial) (fun w => by simp [Instr.build, Instr.fill, Value.cells, go_sem])) ?_
                          intro a hE
                          refine s_store (wk0 rfl) rfl hE hp rfl rfl rfl 3 rfl varty24.size_ rfl (allOne_mem ⟨rfl, rfl, trivial⟩) [(.int .i64 0), (.slice none 0 0)] rfl ?_
                          intro w hp
                          have hp : Hp Z ρ (_ :: _ :: _ :: _ :: L) w := hp
                          refine s_val (wk0 rfl) rfl rfl hE hp (v := (.int .i64 3)) (ex_asn rfl hE rfl) ?_
                          intro a hE
                          refine s_nil ?_
                          refine k_ret ?_
                          refine ⟨_, (Option.some.inj hl1).symm, fun hb => ?_⟩
                          subst hb
                          have hp := hp.emp (TblA.none (α := Int) 25 3 none)
                          have hp : Hp Z ρ (TblA 25 3 (.slice none 0 0) ([]) ([] : (List (List Int))) :: _ :: _ :: _ :: _ :: L) w := hp
                          have hp : Hp Z ρ (_ :: _ :: _ :: _ :: _ :: L) w := hp
                          obtain rfl := Option.some.inj hm
                          exact retct hE rfl rfl rfl (run_lvN (cs := [(.int .i64 0), (.slice none 0 0)]) varty24 (Hp.cN 4 rfl 0 _ (sub_all rfl) _ hp)) ⟨_, rfl, _, _, rfl, ((((((((hp.get 4 rfl).drop).get 3 rfl).drop).get 2 rfl).drop).get 1 rfl).drop)⟩
                        · replace hl1 := (ie hc11).symm.trans hl1
                          refine k_skip ?_
                          refine k_seq ?_
                          refine k_region ?_
                          refine s_val (wk0 rfl) rfl rfl hE hp (v := (.pointer (some ⟨b2, 1, none⟩))) (ex_field rfl hE rfl (fldty24_1 _ _)) ?_
                          intro a hE
                          refine s_val (wk0 rfl) rfl rfl hE hp (v := w10) (ex_load rfl hE rfl (fun w hw => run_ld1 varty22 (Hp.c 2 rfl 1 rfl w hw))) ?_
                          intro a hE
                          refine s_val (wk0 rfl) rfl rfl hE hp (v := vr5) (ex_move rfl hE rfl) ?_
                          intro a hE
                          refine s_lit (wk0 rfl) rfl rfl hE hp rfl [(0, vr5)] ⟨⟨rfl, rfl⟩, trivial⟩ [vr5] 25 (fun w => by have hc0 := OwnSl.cells hp 0 rfl; simp only [Value.cells] at hc0; simp [Instr.buildSlice, Instr.fill, Value.cells, hc0, go_sem]) ?_
                          intro a w b4 hE hp
                          have hp : Hp Z ρ (Pt b4 (.cells #[vr5] 25 (0, 0)) :: _ :: _ :: _ :: _ :: L) w := hp
                          obtain ⟨x15, ex15, hl1⟩ := bnd hl1
                          obtain ⟨sl1, sl1e⟩ := OwnSl.toSl hp 1 rfl
                          refine s_tapp (wk0 rfl) rfl rfl hE sl1e (hp.get 1 rfl) rfl slty22 rfl rfl 1 rfl rfl (Hp.c 0 rfl 0 rfl w hp) ex15 ?_
                          intro v1 us1 a w hE hp
                          have hp : Hp Z ρ (_ :: TblA 25 3 v1 us1 (x15 : (List (List Int))) :: _ :: _ :: L) w := hp
                          refine s_val (wk0 rfl) rfl rfl hE hp (v := (.pointer (some ⟨b2, 1, none⟩))) (ex_field rfl hE rfl (fldty24_1 _ _)) ?_
                          intro a hE
                          refine s_store1 (wk0 rfl) rfl hE hp rfl rfl rfl 2 rfl varty22.size_ (TblA.cells hp 1 rfl) (TblA.one hp 1 rfl) rfl [(.int .i64 x3.1), v1] rfl ?_
                          intro w hp
                          have hp : Hp Z ρ (_ :: _ :: Pt b2 (.cells #[(.int .i64 x3.1), v1] 24 (0, 0)) :: _ :: L) w := hp
                          refine s_nil ?_
                          refine k_region ?_
                          refine s_val (wk0 rfl) rfl rfl hE hp (v := (.string lp1_0)) (ex_move rfl hE rfl) ?_
                          intro a hE
                          refine s_val (wk0 rfl) rfl rfl hE hp (v := (.int .i64 x14.2)) (ex_move rfl hE rfl) ?_
                          intro a hE
                          obtain ⟨x16, ex16, hl1⟩ := bnd hl1
                          refine s_val (wk0 rfl) rfl rfl hE hp (v := (.string x16)) (ex_sl rfl hE rfl (some (.i64, x14.2)) none (by exact rfl) (by exact trivial) (run_ssub sty9 (some (.i64, x14.2)) none rfl rfl ex16)) ?_
                          intro a hE
                          refine s_val (wk0 rfl) rfl rfl hE hp (v := (.string x16)) (ex_asn rfl hE rfl) ?_
                          intro a hE
                          refine s_nil ?_
                          exact ⟨_, (Option.some.inj hl1).symm, _, _, hE.cut ⟨rfl, rfl, rfl, rfl, trivial⟩, (hp.drop)⟩
                      · replace hl1 := (ie hc10).symm.trans hl1
                        refine k_exit ?_
                        refine ⟨_, (Option.some.inj hl1).symm, fun hbb => ?_⟩
                        exact ⟨_, hbb.symm, _, _, hE.cut ⟨rfl, rfl, rfl, trivial⟩, hp⟩
                  · rintro a w ⟨b3s, rfl, w10, us10, hE, hp⟩
                    dsimp only at hm
                    refine k_seq ?_
                    refine k_seq ?_
                    refine k_region ?_
                    refine s_val (wk0 rfl) rfl rfl hE hp (v := (.pointer (some ⟨b2, 1, none⟩))) (ex_field rfl hE rfl (fldty24_1 _ _)) ?_
                    intro a hE
                    refine s_val (wk0 rfl) rfl rfl hE hp (v := w10) (ex_load rfl hE rfl (fun w hw => run_ld1 varty22 (Hp.c 1 rfl 1 rfl w hw))) ?_
                    intro a hE
                    refine s_val (wk0 rfl) rfl rfl hE hp (v := (.int .i64 (b3s.length : Int))) (ex_len rfl hE rfl (TblA.len hp 0 rfl slty22)) ?_
                    intro a hE
                    refine s_val (wk0 rfl) rfl rfl hE hp (v := (.int .i64 x8.1)) (ex_move rfl hE rfl) ?_
                    intro a hE
                    refine s_val (wk0 rfl) rfl rfl hE hp (v := (.bool (!decide ((b3s.length : Int) = x8.1)))) (ex_neq rfl hE rfl rfl) ?_
                    intro a hE
                    refine s_val (wk0 rfl) rfl rfl hE hp (v := (.bool (!decide ((b3s.length : Int) = x8.1)))) (ex_move rfl hE rfl) ?_
                    intro a hE
                    obtain ⟨m5, hg5, hm⟩ := bnd hm
                    refine s_cut [_, _, _, _] (fun a w => Env 102 [(99, (.bool m5)), (2, (.pointer (some ⟨b1, 0, none⟩))), (8, (.pointer (some ⟨b2, 0, none⟩)))] a ∧ Hp Z ρ (TblA 25 3 w10 us10 (b3s : (List (List Int))) :: Pt b2 (.cells #[(.int .i64 x3.1), w10] 24 (0, 0)) :: Pt b1 (.cells #[(.int .i64 0), (.slice none 0 0)] 24 (0, 0)) :: L) w) ?_ ?_
                    · rcases Bool.eq_false_or_eq_true (!decide ((b3s.length : Int) = x8.1)) with hc12 | hc12
                      ·
                        replace hg5 := (it hc12).symm.trans hg5
                        refine s_skip (wk2 hE rfl rfl rfl hc12) rfl rfl hE ?_
                        intro a hE
                        refine s_skip (wk2 hE rfl rfl rfl hc12) rfl rfl hE ?_
                        intro a hE
                        refine s_skip (wk2 hE rfl rfl rfl hc12) rfl rfl hE ?_
                        intro a hE
                        refine s_val (wk0 rfl) rfl rfl hE hp (v := (.bool true)) (ex_pick1 rfl hE rfl hc12 rfl) ?_
                        intro a hE
                        obtain rfl := Option.some.inj hg5
                        exact s_nil ⟨hE.cut ⟨rfl, rfl, rfl, trivial⟩, hp⟩
                      ·
                        replace hg5 := (ie hc12).symm.trans hg5
                        refine s_val (wk1 hE rfl rfl rfl hc12) rfl rfl hE hp (v := (.agg #[(.int .i64 x3.1), w10])) (ex_load rfl hE rfl (fun w hw => run_ldN (cs := [(.int .i64 x3.1), w10]) varty24 (Hp.cN 1 rfl 0 _ (sub_all rfl) w hw))) ?_
                        intro a hE
                        obtain ⟨k1, k1a, k1d, k1h⟩ := (hp.get 0 rfl).lend
                        obtain ⟨x17, ex17, hg5⟩ := bnd hg5
                        refine s_call (wk1 hE rfl rfl rfl hc12) rfl rfl hE rfl [(.agg #[(.int .i64 x3.1), w10])] ⟨rfl, trivial⟩ ent16 (c_assessorref26_Valid (Tabs.mono hT (PH.le_un _ k1)) (Formula.mk x3.1 b3s) w10 (TblA.ro k1d k1a) k1h x17 ex17) Ret.ret ?_
                        intro v a w hR hE
                        obtain ⟨rfl, hp⟩ := Ret.of hR
                        have hp := Hp.back k1a k1d hp
                        have hp : Hp Z ρ (TblA 25 3 w10 us10 (b3s : (List (List Int))) :: Pt b2 (.cells #[(.int .i64 x3.1), w10] 24 (0, 0)) :: _ :: L) w := hp
                        refine s_val (wk1 hE rfl rfl rfl hc12) rfl rfl hE hp (v := (.bool (!x17))) (ex_not rfl hE rfl) ?_
                        intro a hE
                        refine s_val (wk0 rfl) rfl rfl hE hp (v := (.bool (!x17))) (ex_pick0 rfl hE rfl hc12 rfl) ?_
                        intro a hE
                        obtain rfl := Option.some.inj hg5
                        exact s_nil ⟨hE.cut ⟨rfl, rfl, rfl, trivial⟩, hp⟩
                    · rintro a w ⟨hE, hp⟩
                      refine s_nil ?_
                      refine k_if hE rfl (fun hc13 => ?_) (fun hc13 => ?_)
                      · replace hm := (it hc13).symm.trans hm
                        refine k_seq ?_
                        refine k_region ?_
                        refine s_val (wk0 rfl) rfl rfl hE hp (v := (.agg #[(.int .i64 0), (.slice none 0 0)])) (ex_bld rfl hE [] (by exact trivial) (fun w => by simp [Instr.build, Instr.fill, Value.cells, go_sem])) ?_
                        intro a hE
                        refine s_store (wk0 rfl) rfl hE hp rfl rfl rfl 2 rfl varty24.size_ rfl (allOne_mem ⟨rfl, rfl, trivial⟩) [(.int .i64 0), (.slice none 0 0)] rfl ?_
                        intro w hp
                        have hp : Hp Z ρ (TblA 25 3 w10 us10 (b3s : (List (List Int))) :: Pt b2 (.cells #[(.int .i64 x3.1), w10] 24 (0, 0)) :: _ :: L) w := hp
                        refine s_val (wk0 rfl) rfl rfl hE hp (v := (.int .i64 3)) (ex_asn rfl hE rfl) ?_
                        intro a hE
                        refine s_nil ?_
                        refine k_ret ?_
                        have hp := hp.emp (TblA.none (α := Int) 25 3 none)
                        have hp : Hp Z ρ (TblA 25 3 (.slice none 0 0) ([]) ([] : (List (List Int))) :: _ :: _ :: _ :: L) w := hp
                        have hp : Hp Z ρ (_ :: _ :: _ :: _ :: L) w := hp
                        obtain rfl := Option.some.inj hm
                        exact retct hE rfl rfl rfl (run_lvN (cs := [(.int .i64 0), (.slice none 0 0)]) varty24 (Hp.cN 3 rfl 0 _ (sub_all rfl) _ hp)) ⟨_, rfl, _, _, rfl, ((((((hp.get 3 rfl).drop).get 2 rfl).drop).get 1 rfl).drop)⟩
                      · replace hm := (ie hc13).symm.trans hm
                        refine k_skip ?_
                        refine k_seq ?_
                        refine k_region ?_
                        refine s_val (wk0 rfl) rfl rfl hE hp (v := (.agg #[(.int .i64 x3.1), w10])) (ex_load rfl hE rfl (fun w hw => run_ldN (cs := [(.int .i64 x3.1), w10]) varty24 (Hp.cN 1 rfl 0 _ (sub_all rfl) w hw))) ?_
                        intro a hE
                        refine s_store (wk0 rfl) rfl hE hp rfl rfl rfl 2 rfl varty24.size_ rfl (allOne_mem ⟨rfl, (TblA.one hp 0 rfl), trivial⟩) [(.int .i64 x3.1), w10] rfl ?_
                        intro w hp
                        have hp : Hp Z ρ (TblA 25 3 w10 us10 (b3s : (List (List Int))) :: Pt b2 (.cells #[(.int .i64 x3.1), w10] 24 (0, 0)) :: Pt b1 (.cells #[(.int .i64 x3.1), w10] 24 (0, 0)) :: L) w := hp
                        refine s_val (wk0 rfl) rfl rfl hE hp (v := (.int .i64 0)) (ex_asn rfl hE rfl) ?_
                        intro a hE
                        refine s_nil ?_
                        refine k_ret ?_
                        obtain rfl := Option.some.inj hm
                        exact retct hE rfl rfl rfl (run_lvN (cs := [(.int .i64 x3.1), w10]) varty24 (Hp.cN 2 rfl 0 _ (sub_all rfl) _ hp)) ⟨_, rfl, _, _, rfl, ((((hp.get 2 rfl).drop).get 1 rfl).drop)⟩
set_option maxRecDepth 100000 in
set_option maxHeartbeats 4000000 in
theorem c_cnf_Format {Z : World} {ρ : PH} {L : List Atom} {w : World} (hT : Tabs ρ) (p0 : Formula) (vp0_clauses : Value) (hp0_clauses : RoSl ρ vp0_clauses p0.clauses) (hp : Hp Z ρ (L) w) (r : ByteArray) (hm : m_cnf_Format p0 = some r) :
    Calls Tryz.prog 28 #[(.agg #[(.int .i64 p0.vars), vp0_clauses])] w (Ret fun v w' => v = (.string r) ∧ Hp Z ρ (L) w') := by
  refine enter (N := 44) Tryz.func28 rfl rfl [(0, (.agg #[(.int .i64 p0.vars), vp0_clauses]))] rfl (argsIn_mem ⟨rfl, trivial⟩) fun a hE => ?_
  unfold m_cnf_Format at hm
  refine k_seq ?_
  refine k_region ?_
  refine s_box (wk0 rfl) rfl rfl hE hp rfl (v := (.agg #[(.int .i64 p0.vars), vp0_clauses])) rfl ?_
  intro a w b1 hE hp
  have hp : Hp Z ρ (Pt b1 (.cells #[(.int .i64 p0.vars), vp0_clauses] 24 (0, 0)) :: L) w := hp
  refine s_val (wk0 rfl) rfl rfl hE hp (v := (.string (ByteArray.mk #[]))) (ex_asn rfl hE rfl) ?_
  intro a hE
  refine s_nil ?_
  refine k_seq ?_
  refine k_seq ?_
  refine k_region ?_
  refine s_val (wk0 rfl) rfl rfl hE hp (v := (.agg #[(.int .i64 p0.vars), vp0_clauses])) (ex_load rfl hE rfl (fun w hw => run_ldN (cs := [(.int .i64 p0.vars), vp0_clauses]) varty24 (Hp.cN 0 rfl 0 _ (sub_all rfl) w hw))) ?_
  intro a hE
  obtain ⟨x1, ex1, hm⟩ := bnd hm
  refine s_call (wk0 rfl) rfl rfl hE rfl [(.agg #[(.int .i64 p0.vars), vp0_clauses])] ⟨rfl, trivial⟩ ent15 (c_cnf_Valid hT p0 vp0_clauses hp0_clauses hp x1 ex1) Ret.ret ?_
  intro v a w hR hE
  obtain ⟨rfl, hp⟩ := Ret.of hR
  have hp : Hp Z ρ (_ :: L) w := hp
  refine s_val (wk0 rfl) rfl rfl hE hp (v := (.bool (!x1))) (ex_not rfl hE rfl) ?_
  intro a hE
  refine s_nil ?_
  refine k_if hE rfl (fun hc1 => ?_) (fun hc1 => ?_)
  · replace hm := (it hc1).symm.trans hm
    refine k_seq ?_
    refine k_region ?_
    refine s_val (wk0 rfl) rfl rfl hE hp (v := (.string (ByteArray.mk #[]))) (ex_asn rfl hE rfl) ?_
    intro a hE
    refine s_nil ?_
    refine k_ret ?_
    obtain rfl := Option.some.inj hm
    exact ret1 hE rfl rfl ⟨_, rfl, rfl, (hp.drop)⟩
  · replace hm := (ie hc1).symm.trans hm
    refine k_skip ?_
    refine k_seq ?_
    refine k_region ?_
    refine s_new (wk0 rfl) rfl rfl hE hp rfl [.pointer none, .slice none 0 0] (fun w => by simp [Instr.alloc, go_sem] <;> rfl) ?_
    intro a w b2 hE hp
    have hp := hp.imp (bldS_new b2)
    have hp : Hp Z ρ (BldS b2 ByteArray.empty :: _ :: L) w := hp
    refine s_nil ?_
    refine k_seq ?_
    obtain ⟨x2, ex2, hm⟩ := bnd hm
    obtain ⟨x3, ex3, hm⟩ := bnd hm
    obtain ⟨x4, ex4, hm⟩ := bnd hm
    obtain ⟨x5, ex5, hm⟩ := bnd hm
    obtain ⟨x6, ex6, hm⟩ := bnd hm
    obtain ⟨x7, ex7, hm⟩ := bnd hm
    obtain ⟨x8, ex8, hm⟩ := bnd hm
    have hp := hp.drew
    refine k_heldV ([([], At0 Z ρ), ([], At1 Z ρ (Pt b1 (.cells #[(.int .i64 p0.vars), vp0_clauses] 24 (0, 0))))] : Facts) (fun a w => Env 44 [(1, (.pointer (some ⟨b1, 0, none⟩))), (3, (.pointer (some ⟨b2, 0, none⟩)))] a ∧ Hp Z ρ (BldS b2 x8 :: Pt b1 (.cells #[(.int .i64 p0.vars), vp0_clauses] 24 (0, 0)) :: L) w) (by kernel_rfl) ⟨fun _ => ⟨_, hp⟩, fun _ => ⟨_, (hp.get 1 rfl)⟩, trivial⟩ (fun hS => ?_) ?_
    ·
      generalize w.drew = w at hS hp ⊢
      refine v_take0 0 (wk0 rfl) rfl rfl rfl hE (by kernel_rfl) (by kernel_rfl) (by kernel_rfl) rfl (by kernel_rfl) hS (v := (.pointer (some ⟨b1, 0, none⟩))) (fun _ => ex_field rfl hE rfl (fldty24_0 _ _)) ?_
      intro a hE hS
      refine v_take1 1 1 (wk0 rfl) rfl rfl rfl hE (by kernel_rfl) (by kernel_rfl) (by kernel_rfl) rfl (by kernel_rfl) hS (v := (.int .i64 p0.vars)) (fun _ => ex_load rfl hE rfl (fun w hw => run_ld1 varty3 (Hp.c 0 rfl 0 rfl w hw))) ?_
      intro a hE hS
      refine v_take0 5 (wk0 rfl) rfl rfl rfl hE (by kernel_rfl) (by kernel_rfl) (by kernel_rfl) rfl (by kernel_rfl) hS (v := (.pointer (some ⟨b1, 1, none⟩))) (fun _ => ex_field rfl hE rfl (fldty24_1 _ _)) ?_
      intro a hE hS
      refine v_take1 6 1 (wk0 rfl) rfl rfl rfl hE (by kernel_rfl) (by kernel_rfl) (by kernel_rfl) rfl (by kernel_rfl) hS (v := vp0_clauses) (fun _ => ex_load rfl hE rfl (fun w hw => run_ld1 varty22 (Hp.c 0 rfl 1 rfl w hw))) ?_
      intro a hE hS
      refine v_take0 7 (wk0 rfl) rfl rfl rfl hE (by kernel_rfl) (by kernel_rfl) (by kernel_rfl) rfl (by kernel_rfl) hS (v := (.int .i64 (p0.clauses.length : Int))) (fun _ => ex_len rfl hE rfl (RoSl.len hp0_clauses slty22)) ?_
      intro a hE hS
      refine v_all [2] (by kernel_rfl) rfl ?_
      refine List.forall_mem_cons.2 ⟨?_, fun _ h => absurd h (by simp)⟩
      ·
        refine h_op rfl ?_
        refine s_call (wk0 rfl) rfl rfl hE rfl [(.int .i64 p0.vars)] ⟨rfl, trivial⟩ ent67 (c_itoa hT p0.vars hp x2 ex2) Ret.ret ?_
        intro v a w hR hE
        obtain ⟨rfl, hp⟩ := Ret.of hR
        have hp : Hp Z ρ (_ :: _ :: L) w := hp
        refine s_nil (and_with ⟨fun _ => ⟨_, hp⟩, fun _ => ⟨_, (hp.get 1 rfl)⟩, trivial⟩ fun hS => ?_)
        refine v_take0 3 (wk0 rfl) rfl rfl rfl hE (by kernel_rfl) (by kernel_rfl) (by kernel_rfl) rfl (by kernel_rfl) hS (v := (.string x3)) (fun _ => ex_cat rfl hE rfl rfl ex3) ?_
        intro a hE hS
        refine v_take0 4 (wk0 rfl) rfl rfl rfl hE (by kernel_rfl) (by kernel_rfl) (by kernel_rfl) rfl (by kernel_rfl) hS (v := (.string x4)) (fun _ => ex_cat rfl hE rfl rfl ex4) ?_
        intro a hE hS
        refine v_all [8] (by kernel_rfl) rfl ?_
        refine List.forall_mem_cons.2 ⟨?_, fun _ h => absurd h (by simp)⟩
        ·
          refine h_op rfl ?_
          refine s_call (wk0 rfl) rfl rfl hE rfl [(.int .i64 (p0.clauses.length : Int))] ⟨rfl, trivial⟩ ent67 (c_itoa hT (p0.clauses.length : Int) hp x5 ex5) Ret.ret ?_
          intro v a w hR hE
          obtain ⟨rfl, hp⟩ := Ret.of hR
          have hp : Hp Z ρ (_ :: _ :: L) w := hp
          refine s_nil (and_with ⟨fun _ => ⟨_, hp⟩, fun _ => ⟨_, (hp.get 1 rfl)⟩, trivial⟩ fun hS => ?_)
          refine v_take0 9 (wk0 rfl) rfl rfl rfl hE (by kernel_rfl) (by kernel_rfl) (by kernel_rfl) rfl (by kernel_rfl) hS (v := (.string x6)) (fun _ => ex_cat rfl hE rfl rfl ex6) ?_
          intro a hE hS
          refine v_take0 10 (wk0 rfl) rfl rfl rfl hE (by kernel_rfl) (by kernel_rfl) (by kernel_rfl) rfl (by kernel_rfl) hS (v := (.string x7)) (fun _ => ex_cat rfl hE rfl rfl ex7) ?_
          intro a hE hS
          refine v_all [11] (by kernel_rfl) rfl ?_
          refine List.forall_mem_cons.2 ⟨?_, fun _ h => absurd h (by simp)⟩
          ·
            refine h_op rfl ?_
            refine s_call (wk0 rfl) rfl rfl hE rfl [(.pointer (some ⟨b2, 0, none⟩)), (.string x7)] ⟨rfl, rfl, trivial⟩ ent66 (c_WStr b2 ByteArray.empty x7 hp x8 ex8) Ret.ret ?_
            intro v a w hR hE
            obtain ⟨rfl, hp⟩ := Ret.of hR
            have hp : Hp Z ρ (BldS b2 x8 :: _ :: L) w := hp
            refine s_nil (and_with ⟨fun _ => ⟨_, hp⟩, fun _ => ⟨_, (hp.get 1 rfl)⟩, trivial⟩ fun hS => ?_)
            exact v_done (by kernel_rfl) ⟨hE.cut ⟨rfl, rfl, trivial⟩, hp⟩
    · rintro a w ⟨hE, hp⟩
      refine k_seq ?_
      refine k_seq ?_
      refine k_region ?_
      refine s_val (wk0 rfl) rfl rfl hE hp (v := (.pointer (some ⟨b1, 1, none⟩))) (ex_field rfl hE rfl (fldty24_1 _ _)) ?_
      intro a hE
      refine s_val (wk0 rfl) rfl rfl hE hp (v := vp0_clauses) (ex_load rfl hE rfl (fun w hw => run_ld1 varty22 (Hp.c 1 rfl 1 rfl w hw))) ?_
      intro a hE
      refine s_val (wk0 rfl) rfl rfl hE hp (v := (.int .i64 (p0.clauses.length : Int))) (ex_len rfl hE rfl (RoSl.len hp0_clauses slty22)) ?_
      intro a hE
      refine s_val (wk0 rfl) rfl rfl hE hp (v := (.int .i64 0)) (ex_move rfl hE rfl) ?_
      intro a hE
      refine s_nil ?_
      obtain ⟨b3, hc2, hm⟩ := bnd hm
      refine k_block (fun a w => Env 44 [(3, (.pointer (some ⟨b2, 0, none⟩)))] a ∧ Hp Z ρ (BldS b2 b3 :: Pt b1 (.cells #[(.int .i64 p0.vars), vp0_clauses] 24 (0, 0)) :: L) w) ?_ ?_
      · refine k_loop hc2 (fun s a w => Env 44 [(3, (.pointer (some ⟨b2, 0, none⟩))), (24, vp0_clauses), (25, (.int .i64 (p0.clauses.length : Int))), (26, (.int .i64 s.1))] a ∧ Hp Z ρ (BldS b2 s.2 :: Pt b1 (.cells #[(.int .i64 p0.vars), vp0_clauses] 24 (0, 0)) :: L) w) ?_ ?_
        · exact ⟨hE.cut ⟨rfl, rfl, rfl, rfl, trivial⟩, hp⟩
        · rintro ⟨lp1_0, lp1_1⟩ st a w ⟨hE, hp⟩ hl1
          have hE : Env 44 [(3, (.pointer (some ⟨b2, 0, none⟩))), (24, vp0_clauses), (25, (.int .i64 (p0.clauses.length : Int))), (26, (.int .i64 lp1_0))] a := hE
          have hp : Hp Z ρ (BldS b2 lp1_1 :: _ :: L) w := hp
          replace hl1 : m_cnf_Format_lp1 p0 lp1_0 lp1_1 = some st := hl1
          unfold m_cnf_Format_lp1 at hl1
          refine k_seq ?_
          refine k_region ?_
          refine s_val (wk0 rfl) rfl rfl hE hp (v := (.bool (decide (lp1_0 < (p0.clauses.length : Int))))) (ex_lss rfl hE rfl rfl) ?_
          intro a hE
          refine s_nil ?_
          refine k_seq ?_
          refine k_if hE rfl (fun hc3 => ?_) (fun hc3 => ?_)
          · replace hl1 := (it hc3).symm.trans hl1
            refine k_skip ?_
            refine k_seq ?_
            refine k_plain ?_
            refine k_seq ?_
            refine k_region ?_
            obtain ⟨x9, ex9, hl1⟩ := bnd hl1
            obtain ⟨b4, b4o, b4c, b4r, b4k, b4f⟩ := RoSl.at hp0_clauses slty22 ex9
            obtain ⟨vb4, rfl, hb4⟩ := b4k
            have b4f : AtP ρ b4 b4o [vb4] := b4f
            refine s_val (wk0 rfl) rfl rfl hE hp (v := (.pointer (some ⟨b4, b4o, none⟩))) (ex_index rfl hE rfl rfl b4r) ?_
            intro a hE
            refine s_val (wk0 rfl) rfl rfl hE hp (v := vb4) (ex_load rfl hE rfl (fun w hw => run_ld1 varty25 (b4f.c 0 rfl w hw))) ?_
            intro a hE
            refine s_val (wk0 rfl) rfl rfl hE hp (v := vb4) (ex_asn rfl hE rfl) ?_
            intro a hE
            refine s_nil ?_
            refine k_seq ?_
            refine k_seq ?_
            refine k_region ?_
            refine s_val (wk0 rfl) rfl rfl hE hp (v := vb4) (ex_move rfl hE rfl) ?_
            intro a hE
            refine s_val (wk0 rfl) rfl rfl hE hp (v := (.int .i64 (x9.length : Int))) (ex_len rfl hE rfl (RoSl.len hb4 slty25)) ?_
            intro a hE
            refine s_val (wk0 rfl) rfl rfl hE hp (v := (.int .i64 0)) (ex_move rfl hE rfl) ?_
            intro a hE
            refine s_nil ?_
            obtain ⟨b5, hc4, hl1⟩ := bnd hl1
            refine k_block (fun a w => Env 44 [(3, (.pointer (some ⟨b2, 0, none⟩))), (24, vp0_clauses), (25, (.int .i64 (p0.clauses.length : Int))), (26, (.int .i64 lp1_0))] a ∧ Hp Z ρ (BldS b2 b5 :: Pt b1 (.cells #[(.int .i64 p0.vars), vp0_clauses] 24 (0, 0)) :: L) w) ?_ ?_
            · refine k_loop hc4 (fun s a w => Env 44 [(3, (.pointer (some ⟨b2, 0, none⟩))), (24, vp0_clauses), (25, (.int .i64 (p0.clauses.length : Int))), (26, (.int .i64 lp1_0)), (30, vb4), (31, (.int .i64 (x9.length : Int))), (32, (.int .i64 s.1))] a ∧ Hp Z ρ (BldS b2 s.2 :: Pt b1 (.cells #[(.int .i64 p0.vars), vp0_clauses] 24 (0, 0)) :: L) w) ?_ ?_
              · exact ⟨hE.cut ⟨rfl, rfl, rfl, rfl, rfl, rfl, rfl, trivial⟩, hp⟩
              · rintro ⟨lp2_0, lp2_1⟩ st a w ⟨hE, hp⟩ hl2
                have hE : Env 44 [(3, (.pointer (some ⟨b2, 0, none⟩))), (24, vp0_clauses), (25, (.int .i64 (p0.clauses.length : Int))), (26, (.int .i64 lp1_0)), (30, vb4), (31, (.int .i64 (x9.length : Int))), (32, (.int .i64 lp2_0))] a := hE
                have hp : Hp Z ρ (BldS b2 lp2_1 :: _ :: L) w := hp
                replace hl2 : m_cnf_Format_lp2 x9 lp2_0 lp2_1 = some st := hl2
                unfold m_cnf_Format_lp2 at hl2
                refine k_seq ?_
                refine k_region ?_
                refine s_val (wk0 rfl) rfl rfl hE hp (v := (.bool (decide (lp2_0 < (x9.length : Int))))) (ex_lss rfl hE rfl rfl) ?_
                intro a hE
                refine s_nil ?_
                refine k_seq ?_
                refine k_if hE rfl (fun hc5 => ?_) (fun hc5 => ?_)
                · replace hl2 := (it hc5).symm.trans hl2
                  refine k_skip ?_
                  refine k_seq ?_
                  refine k_plain ?_
                  refine k_seq ?_
                  refine k_region ?_
                  obtain ⟨x10, ex10, hl2⟩ := bnd hl2
                  obtain ⟨b6, b6o, b6c, b6r, b6k, b6f⟩ := RoSl.at hb4 slty25 ex10
                  obtain rfl : b6c = Enc.enc x10 := b6k
                  have b6f : AtP ρ b6 b6o [(.int .i64 x10)] := b6f
                  refine s_val (wk0 rfl) rfl rfl hE hp (v := (.pointer (some ⟨b6, b6o, none⟩))) (ex_index rfl hE rfl rfl b6r) ?_
                  intro a hE
                  refine s_val (wk0 rfl) rfl rfl hE hp (v := (.int .i64 x10)) (ex_load rfl hE rfl (fun w hw => run_ld1 varty3 (b6f.c 0 rfl w hw))) ?_
                  intro a hE
                  refine s_val (wk0 rfl) rfl rfl hE hp (v := (.int .i64 x10)) (ex_asn rfl hE rfl) ?_
                  intro a hE
                  refine s_nil ?_
                  refine k_region ?_
                  refine s_val (wk0 rfl) rfl rfl hE hp (v := (.int .i64 x10)) (ex_move rfl hE rfl) ?_
                  intro a hE
                  obtain ⟨x11, ex11, hl2⟩ := bnd hl2
                  refine s_call (wk0 rfl) rfl rfl hE rfl [(.int .i64 x10)] ⟨rfl, trivial⟩ ent67 (c_itoa hT x10 hp x11 ex11) Ret.ret ?_
                  intro v a w hR hE
                  obtain ⟨rfl, hp⟩ := Ret.of hR
                  have hp : Hp Z ρ (_ :: _ :: L) w := hp
                  obtain ⟨x12, ex12, hl2⟩ := bnd hl2
                  refine s_val (wk0 rfl) rfl rfl hE hp (v := (.string x12)) (ex_cat rfl hE rfl rfl ex12) ?_
                  intro a hE
                  obtain ⟨x13, ex13, hl2⟩ := bnd hl2
                  refine s_call (wk0 rfl) rfl rfl hE rfl [(.pointer (some ⟨b2, 0, none⟩)), (.string x12)] ⟨rfl, rfl, trivial⟩ ent66 (c_WStr b2 lp2_1 x12 hp x13 ex13) Ret.ret ?_
                  intro v a w hR hE
                  obtain ⟨rfl, hp⟩ := Ret.of hR
                  have hp : Hp Z ρ (BldS b2 x13 :: _ :: L) w := hp
                  refine s_nil ?_
                  have hE := hE.cut (E' := [(3, (.pointer (some ⟨b2, 0, none⟩))), (24, vp0_clauses), (25, (.int .i64 (p0.clauses.length : Int))), (26, (.int .i64 lp1_0)), (30, vb4), (31, (.int .i64 (x9.length : Int))), (32, (.int .i64 lp2_0))]) ⟨rfl, rfl, rfl, rfl, rfl, rfl, rfl, trivial⟩
                  refine k_region ?_
                  obtain ⟨x14, ex14, hl2⟩ := bnd hl2
                  refine s_val (wk0 rfl) rfl rfl hE hp (v := (.int .i64 x14)) (ex_add rfl hE rfl rfl (inK_some ex14)) ?_
                  intro a hE
                  refine s_val (wk0 rfl) rfl rfl hE hp (v := (.int .i64 x14)) (ex_move rfl hE rfl) ?_
                  intro a hE
                  refine s_nil ?_
                  exact ⟨_, (Option.some.inj hl2).symm, hE.cut ⟨rfl, rfl, rfl, rfl, rfl, rfl, rfl, trivial⟩, hp⟩
                · replace hl2 := (ie hc5).symm.trans hl2
                  refine k_exit ?_
                  refine ⟨_, (Option.some.inj hl2).symm, fun hbb => ?_⟩
                  subst hbb
                  exact ⟨hE.cut ⟨rfl, rfl, rfl, rfl, trivial⟩, hp⟩
            · rintro a w ⟨hE, hp⟩
              refine k_region ?_
              obtain ⟨x15, ex15, hl1⟩ := bnd hl1
              refine s_call (wk0 rfl) rfl rfl hE rfl [(.pointer (some ⟨b2, 0, none⟩)), (.string (ByteArray.mk #[48, 10]))] ⟨rfl, rfl, trivial⟩ ent66 (c_WStr b2 b5 (ByteArray.mk #[48, 10]) hp x15 ex15) Ret.ret ?_
              intro v a w hR hE
              obtain ⟨rfl, hp⟩ := Ret.of hR
              have hp : Hp Z ρ (BldS b2 x15 :: _ :: L) w := hp
              refine s_nil ?_
              refine k_region ?_
              obtain ⟨x16, ex16, hl1⟩ := bnd hl1
              refine s_val (wk0 rfl) rfl rfl hE hp (v := (.int .i64 x16)) (ex_add rfl hE rfl rfl (inK_some ex16)) ?_
              intro a hE
              refine s_val (wk0 rfl) rfl rfl hE hp (v := (.int .i64 x16)) (ex_move rfl hE rfl) ?_
              intro a hE
              refine s_nil ?_
              exact ⟨_, (Option.some.inj hl1).symm, hE.cut ⟨rfl, rfl, rfl, rfl, trivial⟩, hp⟩
          · replace hl1 := (ie hc3).symm.trans hl1
            refine k_exit ?_
            refine ⟨_, (Option.some.inj hl1).symm, fun hbb => ?_⟩
            subst hbb
            exact ⟨hE.cut ⟨rfl, trivial⟩, hp⟩
      · rintro a w ⟨hE, hp⟩
        refine k_seq ?_
        refine k_region ?_
        obtain ⟨x17, ex17, hm⟩ := bnd hm
        refine s_call (wk0 rfl) rfl rfl hE rfl [(.pointer (some ⟨b2, 0, none⟩))] ⟨rfl, trivial⟩ ent68 (c_BStr b2 b3 hp x17 ex17) Ret.ret ?_
        intro v a w hR hE
        obtain ⟨rfl, hp⟩ := Ret.of hR
        have hp : Hp Z ρ (_ :: L) w := hp
        refine s_val (wk0 rfl) rfl rfl hE hp (v := (.string x17)) (ex_asn rfl hE rfl) ?_
        intro a hE
        refine s_nil ?_
        refine k_ret ?_
        obtain rfl := Option.some.inj hm
        exact ret1 hE rfl rfl ⟨_, rfl, rfl, (hp.drop)⟩
set_option maxRecDepth 100000 in
set_option maxHeartbeats 4000000 in
theorem c_cnf_lines_1_yield {Z : World} {ρ : PH} {L : List Atom} {w : World} (hT : Tabs ρ) {σ ε : Type} (yf : ByteArray → σ → Option (Step σ ε)) (yl : Nat) (Y : Step σ ε → Atom) (hY : YieldOk Tryz.prog Z ρ yl (fun x : ByteArray => [(.string x)]) yf Y) (ys : Step σ ε) (bc0 : Nat) (c0 : ByteArray) (hp : Hp Z ρ (Pt bc0 (.cells #[(.string c0)] 9 (0, 0)) :: Y ys :: L) w) (r : (ByteArray × (Step σ ε))) (hm : m_cnf_lines_1_yield yf ys c0 = some r) :
    Calls Tryz.prog 82 #[(.func (.yield yl) #[] #[]), (.pointer (some ⟨bc0, 0, none⟩))] w (Ret fun v w' => v = .tuple #[] ∧ Hp Z ρ (Pt bc0 (.cells #[(.string r.1)] 9 (0, 0)) :: Y r.2 :: L) w') := by
  refine enter (N := 19) Tryz.func82 rfl rfl [(0, (.func (.yield yl) #[] #[])), (1, (.pointer (some ⟨bc0, 0, none⟩)))] rfl (argsIn_mem ⟨rfl, rfl, trivial⟩) fun a hE => ?_
  unfold m_cnf_lines_1_yield at hm
  obtain ⟨b1, hc1, hm⟩ := bnd hm
  refine k_block (fun a w => ∃ s : (ByteArray × (Step σ ε)), b1 = .brk s ∧ (Env 19 [] a ∧ Hp Z ρ (Pt bc0 (.cells #[(.string s.1)] 9 (0, 0)) :: Y s.2 :: L) w)) ?_ ?_
  · refine k_loop hc1 (fun s a w => Env 19 [(0, (.func (.yield yl) #[] #[])), (1, (.pointer (some ⟨bc0, 0, none⟩)))] a ∧ Hp Z ρ (Pt bc0 (.cells #[(.string s.1)] 9 (0, 0)) :: Y s.2 :: L) w) ?_ ?_
    · exact ⟨hE.cut ⟨rfl, rfl, trivial⟩, hp⟩
    · rintro ⟨lp1_0, lp1_1⟩ st a w ⟨hE, hp⟩ hl1
      have hE : Env 19 [(0, (.func (.yield yl) #[] #[])), (1, (.pointer (some ⟨bc0, 0, none⟩)))] a := hE
      have hp : Hp Z ρ (Pt bc0 (.cells #[(.string lp1_0)] 9 (0, 0)) :: Y lp1_1 :: L) w := hp
      replace hl1 : m_cnf_lines_1_yield_lp1 yf lp1_0 lp1_1 = some st := hl1
      unfold m_cnf_lines_1_yield_lp1 at hl1
      refine k_seq ?_
      refine k_seq ?_
      refine k_region ?_
      refine s_val (wk0 rfl) rfl rfl hE hp (v := (.string lp1_0)) (ex_load rfl hE rfl (fun w hw => run_ld1 varty9 (Hp.c 0 rfl 0 rfl w hw))) ?_
      intro a hE
      refine s_val (wk0 rfl) rfl rfl hE hp (v := (.bool (!decide (lp1_0 = (ByteArray.mk #[]))))) (ex_sneq rfl hE rfl rfl) ?_
      intro a hE
      refine s_nil ?_
      refine k_if hE rfl (fun hc2 => ?_) (fun hc2 => ?_)
      · replace hl1 := (it hc2).symm.trans hl1
        refine k_skip ?_
        refine k_plain ?_
        refine k_seq ?_
        refine k_region ?_
        refine s_val (wk0 rfl) rfl rfl hE hp (v := (.string lp1_0)) (ex_load rfl hE rfl (fun w hw => run_ld1 varty9 (Hp.c 0 rfl 0 rfl w hw))) ?_
        intro a hE
        obtain ⟨x1, ex1, hl1⟩ := bnd hl1
        refine s_call (wk0 rfl) rfl rfl hE rfl [(.string lp1_0), (.string (ByteArray.mk #[10]))] ⟨rfl, rfl, trivial⟩ ent83 (c_cut hT lp1_0 (ByteArray.mk #[10]) hp x1 ex1) Ret.ret ?_
        intro v a w hR hE
        obtain ⟨rfl, hp⟩ := Ret.of hR
        have hp : Hp Z ρ (_ :: _ :: L) w := hp
        refine s_val (wk0 rfl) rfl rfl hE hp (v := (.tuple #[(.string x1.1), (.string x1.2.1), (.bool x1.2.2)])) (ex_move rfl hE rfl) ?_
        intro a hE
        refine s_val (wk0 rfl) rfl rfl hE hp (v := (.string x1.1)) (ex_extract rfl hE rfl rfl) ?_
        intro a hE
        refine s_val (wk0 rfl) rfl rfl hE hp (v := (.string x1.2.1)) (ex_extract rfl hE rfl rfl) ?_
        intro a hE
        refine s_val (wk0 rfl) rfl rfl hE hp (v := (.bool x1.2.2)) (ex_extract rfl hE rfl rfl) ?_
        intro a hE
        refine s_val (wk0 rfl) rfl rfl hE hp (v := (.string x1.1)) (ex_asn rfl hE rfl) ?_
        intro a hE
        refine s_val (wk0 rfl) rfl rfl hE hp (v := (.string x1.2.1)) (ex_asn rfl hE rfl) ?_
        intro a hE
        refine s_val (wk0 rfl) rfl rfl hE hp (v := (.bool x1.2.2)) (ex_asn rfl hE rfl) ?_
        intro a hE
        refine s_nil ?_
        have hE := hE.cut (E' := [(0, (.func (.yield yl) #[] #[])), (1, (.pointer (some ⟨bc0, 0, none⟩))), (3, (.string x1.1)), (4, (.string x1.2.1))]) ⟨rfl, rfl, rfl, rfl, trivial⟩
        refine k_seq ?_
        refine k_seq ?_
        refine k_regionY ?_
        refine y_val (wk0 rfl) rfl rfl hE hp (v := (.func (.yield yl) #[] #[])) (ex_move rfl hE rfl) ?_
        intro a hE
        refine y_val (wk0 rfl) rfl rfl hE hp (v := (.string x1.1)) (ex_move rfl hE rfl) ?_
        intro a hE
        obtain ⟨x2, ex2, hl1⟩ := bnd hl1
        refine y_yield (wk0 rfl) rfl rfl hE rfl rfl [(.string x1.1)] ⟨rfl, trivial⟩ (YieldOk.at hY ex2 (hp.get 1 rfl)) ?_
        rintro _ a w ⟨rfl, hp⟩ hE
        have hp : Hp Z ρ (Y x2 :: _ :: L) w := hp
        refine y_val (wk0 rfl) rfl rfl hE hp (v := (.bool (!x2.more))) (ex_not rfl hE rfl) ?_
        intro a hE
        refine y_nil ?_
        refine k_if hE rfl (fun hc3 => ?_) (fun hc3 => ?_)
        · replace hl1 := (it hc3).symm.trans hl1
          refine k_ret ?_
          refine ⟨_, (Option.some.inj hl1).symm, fun hb => ?_⟩
          subst hb
          obtain rfl := Option.some.inj hm
          exact ret0 hE rfl ⟨_, rfl, rfl, ((hp.get 0 rfl).get 1 rfl)⟩
        · replace hl1 := (ie hc3).symm.trans hl1
          refine k_skip ?_
          refine k_region ?_
          refine s_val (wk0 rfl) rfl rfl hE hp (v := (.string x1.2.1)) (ex_move rfl hE rfl) ?_
          intro a hE
          refine s_store (wk0 rfl) rfl hE hp rfl rfl rfl 1 rfl varty9.size_ rfl (allOne_mem ⟨rfl, trivial⟩) [(.string x1.2.1)] rfl ?_
          intro w hp
          have hp : Hp Z ρ (_ :: Pt bc0 (.cells #[(.string x1.2.1)] 9 (0, 0)) :: L) w := hp
          refine s_nil ?_
          exact ⟨_, (Option.some.inj hl1).symm, hE.cut ⟨rfl, rfl, trivial⟩, ((hp.get 0 rfl).get 1 rfl)⟩
      · replace hl1 := (ie hc2).symm.trans hl1
        refine k_exit ?_
        refine ⟨_, (Option.some.inj hl1).symm, fun hbb => ?_⟩
        exact ⟨_, hbb.symm, hE.cut trivial, hp⟩
  · rintro a w ⟨b1s, rfl, hE, hp⟩
    dsimp only at hm
    obtain rfl := Option.some.inj hm
    exact ret0n hE rfl ⟨_, rfl, rfl, hp⟩
set_option maxRecDepth 100000 in
set_option maxHeartbeats 4000000 in
theorem c_cnf_lines {Z : World} {ρ : PH} {L : List Atom} {w : World} (hT : Tabs ρ) (p0 : ByteArray) (hp : Hp Z ρ (L) w) (r : ByteArray) (hm : m_cnf_lines p0 = some r) :
    Calls Tryz.prog 61 #[(.string p0)] w (Ret fun v w' => ∃ (b1 : Nat), v = (.func (.func 82) #[] #[.pointer (some ⟨b1, 0, none⟩)]) ∧ Hp Z ρ (Pt b1 (.cells #[(.string r)] 9 (0, 0)) :: L) w') := by
  refine enter (N := 4) Tryz.func61 rfl rfl [(0, (.string p0))] rfl (argsIn_mem ⟨rfl, trivial⟩) fun a hE => ?_
  unfold m_cnf_lines at hm
  refine k_seq ?_
  refine k_region ?_
  refine s_box (wk0 rfl) rfl rfl hE hp rfl (v := (.string p0)) rfl ?_
  intro a w b1 hE hp
  have hp : Hp Z ρ (Pt b1 (.cells #[(.string p0)] 9 (0, 0)) :: L) w := hp
  refine s_val (wk0 rfl) rfl rfl hE hp (v := .nilFunc) (ex_asn rfl hE rfl) ?_
  intro a hE
  refine s_nil ?_
  refine k_seq ?_
  refine k_region ?_
  refine s_val (wk0 rfl) rfl rfl hE hp (v := (.func (.func 82) #[] #[(.pointer (some ⟨b1, 0, none⟩))])) (ex_fn rfl hE [(.pointer (some ⟨b1, 0, none⟩))] (by exact ⟨rfl, trivial⟩)) ?_
  intro a hE
  refine s_val (wk0 rfl) rfl rfl hE hp (v := (.func (.func 82) #[] #[(.pointer (some ⟨b1, 0, none⟩))])) (ex_asn rfl hE rfl) ?_
  intro a hE
  refine s_nil ?_
  refine k_ret ?_
  obtain rfl := Option.some.inj hm
  exact ret1 hE rfl rfl ⟨_, rfl, _, rfl, hp⟩
set_option maxRecDepth 100000 in
set_option maxHeartbeats 4000000 in
theorem c_cnf_Parse {Z : World} {ρ : PH} {L : List Atom} {w : World} (hT : Tabs ρ) (p0 : ByteArray) (hp : Hp Z ρ (L) w) (r : (Formula × Int)) (hm : m_cnf_Parse p0 = some r) :
    Calls Tryz.prog 26 #[(.string p0)] w (Ret fun v w' => ∃ (vr1_clauses : Value) (usr1_clauses : List Sl), v = .tuple #[(.agg #[(.int .i64 r.1.vars), vr1_clauses]), (.int .i64 r.2)] ∧ Hp Z ρ (TblA 25 3 vr1_clauses usr1_clauses (r.1.clauses : (List (List Int))) :: L) w') := by
  refine enterM (N := 68) Tryz.func26 rfl rfl [(0, (.string p0))] rfl (argsIn_mem ⟨rfl, trivial⟩) fun a hE => ?_
  unfold m_cnf_Parse at hm
  refine k_seq ?_
  refine k_region ?_
  refine s_new (wk0 rfl) rfl rfl hE hp rfl [(.int .i64 0), (.slice none 0 0)] (fun w => by simp [Instr.alloc, go_sem] <;> rfl) ?_
  intro a w b1 hE hp
  have hp : Hp Z ρ (Pt b1 (.cells #[(.int .i64 0), (.slice none 0 0)] 24 (0, 0)) :: L) w := hp
  refine s_new (wk0 rfl) rfl rfl hE hp rfl [(.int .i64 0)] (fun w => by simp [Instr.alloc, go_sem] <;> rfl) ?_
  intro a w b2 hE hp
  have hp : Hp Z ρ (Pt b2 (.cells #[(.int .i64 0)] 39 (0, 0)) :: _ :: L) w := hp
  refine s_nil ?_
  refine k_seq ?_
  refine k_region ?_
  refine s_val (wk0 rfl) rfl rfl hE hp (v := (.agg #[(.int .i64 0), (.slice none 0 0)])) (ex_bld rfl hE [] (by exact trivial) (fun w => by simp [Instr.build, Instr.fill, Value.cells, go_sem])) ?_
  intro a hE
  refine s_new (wk0 rfl) rfl rfl hE hp rfl [(.int .i64 0), (.slice none 0 0)] (fun w => by simp [Instr.alloc, go_sem] <;> rfl) ?_
  intro a w b3 hE hp
  have hp : Hp Z ρ (Pt b3 (.cells #[(.int .i64 0), (.slice none 0 0)] 24 (0, 0)) :: _ :: _ :: L) w := hp
  refine s_store (wk0 rfl) rfl hE hp rfl rfl rfl 0 rfl varty24.size_ rfl (allOne_mem ⟨rfl, rfl, trivial⟩) [(.int .i64 0), (.slice none 0 0)] rfl ?_
  intro w hp
  have hp : Hp Z ρ (_ :: _ :: _ :: L) w := hp
  refine s_nil ?_
  refine k_seq ?_
  refine k_region ?_
  refine s_new (wk0 rfl) rfl rfl hE hp rfl [(.bool false)] (fun w => by simp [Instr.alloc, go_sem] <;> rfl) ?_
  intro a w b4 hE hp
  have hp : Hp Z ρ (Pt b4 (.cells #[(.bool false)] 4 (0, 0)) :: _ :: _ :: _ :: L) w := hp
  refine s_store (wk0 rfl) rfl hE hp rfl rfl rfl 0 rfl varty4.size_ rfl (allOne_mem ⟨rfl, trivial⟩) [(.bool true)] rfl ?_
  intro w hp
  have hp : Hp Z ρ (Pt b4 (.cells #[(.bool true)] 4 (0, 0)) :: _ :: _ :: _ :: L) w := hp
  refine s_nil ?_
  refine k_seq ?_
  refine k_seq ?_
  refine k_region ?_
  refine s_val (wk0 rfl) rfl rfl hE hp (v := (.string p0)) (ex_move rfl hE rfl) ?_
  intro a hE
  obtain ⟨x1, ex1, hm⟩ := bnd hm
  refine s_call (wk0 rfl) rfl rfl hE rfl [(.string p0)] ⟨rfl, trivial⟩ ent61 (c_cnf_lines hT p0 hp x1 ex1) Ret.ret ?_
  intro v a w hR hE
  obtain ⟨b5, rfl, hp⟩ := Ret.of hR
  have hp : Hp Z ρ (Pt b5 (.cells #[(.string x1)] 9 (0, 0)) :: _ :: _ :: _ :: _ :: L) w := hp
  refine s_nil ?_
  refine k_plain ?_
  have hp := hp.emp (TblA.none (α := Int) 25 3 none)
  have hp : Hp Z ρ (TblA 25 3 (.slice none 0 0) ([]) ([] : (List (List Int))) :: _ :: _ :: _ :: _ :: _ :: L) w := hp
  have hp : Hp Z ρ (_ :: _ :: _ :: _ :: _ :: _ :: L) w := hp
  obtain ⟨b6, hc1, hm⟩ := bnd hm
  have hp : Hp Z ρ ((fun s : ((List (List Int)) × Bool × Int) => fun k => ∃ w32 : Value, ∃ us32 : List Sl, Stars [TblA 25 3 w32 us32 (s.1 : (List (List Int))), Pt b4 (.cells #[(.bool s.2.1)] 4 (0, 0)), Pt b3 (.cells #[(.int .i64 s.2.2), w32] 24 (0, 0)), Pt b2 (.cells #[(.int .i64 0)] 39 (0, 0)), Pt b1 (.cells #[(.int .i64 0), (.slice none 0 0)] 24 (0, 0))] k) ([], true, 0) :: Pt b5 (.cells #[(.string x1)] 9 (0, 0)) :: L) w := Hp.exI _ (Hp.exI _ (Hp.stars (l := [_, _, _, _, _]) (((((((hp.get 1 rfl).get 5 rfl).get 5 rfl).get 5 rfl).get 5 rfl).get 5 rfl))))
  have hE := hE.cut (E' := [(0, (.string p0)), (2, (.pointer (some ⟨b1, 0, none⟩))), (3, (.pointer (some ⟨b2, 0, none⟩))), (4, (.pointer (some ⟨b3, 0, none⟩))), (5, (.pointer (some ⟨b4, 0, none⟩))), (15, (.func (.func 82) #[] #[(.pointer (some ⟨b5, 0, none⟩))]))]) ⟨rfl, rfl, rfl, rfl, rfl, rfl, trivial⟩
  refine k_rangeF (fun s : ((List (List Int)) × Bool × Int) => fun k => ∃ w32 : Value, ∃ us32 : List Sl, Stars [TblA 25 3 w32 us32 (s.1 : (List (List Int))), Pt b4 (.cells #[(.bool s.2.1)] 4 (0, 0)), Pt b3 (.cells #[(.int .i64 s.2.2), w32] 24 (0, 0)), Pt b2 (.cells #[(.int .i64 0)] 39 (0, 0)), Pt b1 (.cells #[(.int .i64 0), (.slice none 0 0)] 24 (0, 0))] k) (fun r : (Formula × Int) => fun k => ∃ vr1_clauses : Value, ∃ usr1_clauses : List Sl, Stars [Pt b1 (.cells #[(.int .i64 r.1.vars), vr1_clauses] 24 (0, 0)), TblA 25 3 vr1_clauses usr1_clauses (r.1.clauses : (List (List Int))), Pt b2 (.cells #[(.int .i64 r.2)] 39 (0, 0))] k) (fun x : ByteArray => [(.string x)]) (fun x s => m_cnf_Parse_lp1  x s.1 s.2.1 s.2.2) (b := b6.2) (L' := L) (E2 := fun x => [(6, (.string x))]) (lb := [(.pointer (some ⟨b5, 0, none⟩))]) hE rfl ent82 hp (fun _ => rfl) (by decide) ?_ ?_ ?_ ?_ ?_
  · intro yl Y w hY hp
    refine Calls.mono (c_cnf_lines_1_yield hT (fun x s => m_cnf_Parse_lp1  x s.1 s.2.1 s.2.2) yl Y hY (.next ([], true, 0)) b5 x1 (hp.get 1 rfl) _ hc1) fun e w' he => ?_
    obtain ⟨v, rfl, hh⟩ := he
    obtain ⟨-, hp⟩ := hh
    exact ⟨_, rfl, hp.drop⟩
  · intro yl x a L w hE hp
    have hE : Env 68 [(16, (.string x)), (0, (.string p0)), (2, (.pointer (some ⟨b1, 0, none⟩))), (3, (.pointer (some ⟨b2, 0, none⟩))), (4, (.pointer (some ⟨b3, 0, none⟩))), (5, (.pointer (some ⟨b4, 0, none⟩))), (15, (.func (.func 82) #[] #[(.pointer (some ⟨b5, 0, none⟩))]))] a := hE
    refine k_region ?_
    refine s_val (wk0 rfl) rfl rfl hE hp (v := (.string x)) (ex_asn rfl hE rfl) ?_
    intro a hE
    refine s_nil ?_
    exact ⟨hE.cut ⟨rfl, rfl, rfl, rfl, rfl, rfl, rfl, rfl, trivial⟩, hp⟩
  · rintro yl x ⟨lp1_0, lp1_1, lp1_2⟩ st a L w hl1 hE hp
    have hp := hp
    obtain ⟨w32, hp⟩ := Hp.exO hp
    obtain ⟨us32, hp⟩ := Hp.exO hp
    have hp := Hp.unstar hp
    have hE := hE.cut (E' := [(2, (.pointer (some ⟨b1, 0, none⟩))), (3, (.pointer (some ⟨b2, 0, none⟩))), (4, (.pointer (some ⟨b3, 0, none⟩))), (5, (.pointer (some ⟨b4, 0, none⟩))), (6, (.string x)), (15, (.func (.func 82) #[] #[(.pointer (some ⟨b5, 0, none⟩))]))]) ⟨rfl, rfl, rfl, rfl, rfl, rfl, trivial⟩
    have hp : Hp Z ρ (TblA 25 3 w32 us32 (lp1_0 : (List (List Int))) :: Pt b4 (.cells #[(.bool lp1_1)] 4 (0, 0)) :: Pt b3 (.cells #[(.int .i64 lp1_2), w32] 24 (0, 0)) :: Pt b2 (.cells #[(.int .i64 0)] 39 (0, 0)) :: Pt b1 (.cells #[(.int .i64 0), (.slice none 0 0)] 24 (0, 0)) :: L) w := hp
    replace hl1 : m_cnf_Parse_lp1  x lp1_0 lp1_1 lp1_2 = some st := hl1
    unfold m_cnf_Parse_lp1 at hl1
    obtain ⟨j1, hj1, hl1⟩ := bnd hl1
    refine k_block (fun a w => ∃ s : ((List (List Int)) × Bool × Int), j1 = .brk s ∧ (∃ (w32q : Value) (us32q : List Sl), Env 68 [] a ∧ Hp Z ρ (TblA 25 3 w32q us32q (s.1 : (List (List Int))) :: Pt b4 (.cells #[(.bool s.2.1)] 4 (0, 0)) :: Pt b3 (.cells #[(.int .i64 s.2.2), w32q] 24 (0, 0)) :: Pt b2 (.cells #[(.int .i64 0)] 39 (0, 0)) :: Pt b1 (.cells #[(.int .i64 0), (.slice none 0 0)] 24 (0, 0)) :: L) w)) ?_ ?_
    ·
      refine k_seq ?_
      refine k_region ?_
      refine s_val (wk0 rfl) rfl rfl hE hp (v := (.string x)) (ex_move rfl hE rfl) ?_
      intro a hE
      obtain ⟨x2, ex2, hj1⟩ := bnd hj1
      refine s_call (wk0 rfl) rfl rfl hE rfl [(.string x), (.string (ByteArray.mk #[32]))] ⟨rfl, rfl, trivial⟩ ent62 (c_split hT x (ByteArray.mk #[32]) hp x2 ex2) Ret.ret ?_
      intro v1 a w hR hE
      obtain ⟨u, hu, hp⟩ := Ret.of hR
      rw [← hu] at hp
      have hp : Hp Z ρ (OwnSl 9 v1 x2 :: _ :: _ :: _ :: _ :: _ :: L) w := hp
      refine s_val (wk0 rfl) rfl rfl hE hp (v := v1) (ex_asn rfl hE rfl) ?_
      intro a hE
      refine s_nil ?_
      refine k_seq ?_
      refine k_seq ?_
      refine k_region ?_
      refine s_val (wk0 rfl) rfl rfl hE hp (v := (.bool lp1_1)) (ex_load rfl hE rfl (fun w hw => run_ld1 varty4 (Hp.c 2 rfl 0 rfl w hw))) ?_
      intro a hE
      refine s_nil ?_
      refine k_if hE rfl (fun hc2 => ?_) (fun hc2 => ?_)
      · replace hj1 := (it hc2).symm.trans hj1
        refine k_seq ?_
        refine k_seq ?_
        refine k_region ?_
        refine s_val (wk0 rfl) rfl rfl hE hp (v := v1) (ex_move rfl hE rfl) ?_
        intro a hE
        refine s_val (wk0 rfl) rfl rfl hE hp (v := (.int .i64 (x2.length : Int))) (ex_len rfl hE rfl (OwnSl.len hp 0 rfl slty79)) ?_
        intro a hE
        refine s_val (wk0 rfl) rfl rfl hE hp (v := (.bool (!decide ((x2.length : Int) = 4)))) (ex_neq rfl hE rfl rfl) ?_
        intro a hE
        refine s_nil ?_
        have hE := hE.cut (E' := [(2, (.pointer (some ⟨b1, 0, none⟩))), (3, (.pointer (some ⟨b2, 0, none⟩))), (4, (.pointer (some ⟨b3, 0, none⟩))), (5, (.pointer (some ⟨b4, 0, none⟩))), (7, v1), (22, (.bool (!decide ((x2.length : Int) = 4))))]) ⟨rfl, rfl, rfl, rfl, rfl, rfl, trivial⟩
        refine k_if hE rfl (fun hc3 => ?_) (fun hc3 => ?_)
        · replace hj1 := (it hc3).symm.trans hj1
          refine k_seq ?_
          refine k_region ?_
          refine s_val (wk0 rfl) rfl rfl hE hp (v := (.agg #[(.int .i64 0), (.slice none 0 0)])) (ex_bld rfl hE [] (by exact trivial) (fun w => by simp [Instr.build, Instr.fill, Value.cells, go_sem])) ?_
          intro a hE
          refine s_store (wk0 rfl) rfl hE hp rfl rfl rfl 5 rfl varty24.size_ rfl (allOne_mem ⟨rfl, rfl, trivial⟩) [(.int .i64 0), (.slice none 0 0)] rfl ?_
          intro w hp
          have hp : Hp Z ρ (_ :: _ :: _ :: _ :: _ :: _ :: L) w := hp
          refine s_store (wk0 rfl) rfl hE hp rfl rfl rfl 4 rfl varty39.size_ rfl (allOne_mem ⟨rfl, trivial⟩) [(.int .i64 3)] rfl ?_
          intro w hp
          have hp : Hp Z ρ (_ :: _ :: _ :: _ :: Pt b2 (.cells #[(.int .i64 3)] 39 (0, 0)) :: _ :: L) w := hp
          refine s_nil ?_
          refine k_ret ?_
          obtain rfl := Option.some.inj hj1
          have hp := hp.emp (TblA.none (α := Int) 25 3 none)
          have hp : Hp Z ρ (TblA 25 3 (.slice none 0 0) ([]) ([] : (List (List Int))) :: _ :: _ :: _ :: _ :: _ :: _ :: L) w := hp
          have hp : Hp Z ρ (_ :: _ :: _ :: _ :: _ :: _ :: _ :: L) w := hp
          exact ⟨_, (Option.some.inj hl1).symm, Hp.exI _ (Hp.exI _ (Hp.stars (l := [_, _, _]) ((((((((((((hp.get 5 rfl).get 1 rfl).get 6 rfl).get 6 rfl).drop).get 5 rfl).drop).get 4 rfl).drop).get 3 rfl).drop))))⟩
        · replace hj1 := (ie hc3).symm.trans hj1
          refine k_skip ?_
          refine k_seq ?_
          refine k_region ?_
          refine s_val (wk0 rfl) rfl rfl hE hp (v := v1) (ex_move rfl hE rfl) ?_
          intro a hE
          obtain ⟨x3, ex3, hj1⟩ := bnd hj1
          obtain ⟨b7, b7o, b7r, b7v, b7f⟩ := OwnSl.at hp 0 rfl slty79 ex3
          have b7f : ∀ (j : Nat) (u : Value), ([(.string x3)] : List Value)[j]? = some u → ∀ ρ' L' w, Hp Z ρ' (OwnSl 9 v1 x2 :: L') w → w.cell? ⟨b7, b7o + j, none⟩ = some u := b7f
          refine s_val (wk0 rfl) rfl rfl hE hp (v := (.pointer (some ⟨b7, b7o, none⟩))) (ex_index rfl hE rfl rfl b7r) ?_
          intro a hE
          refine s_val (wk0 rfl) rfl rfl hE hp (v := (.string x3)) (ex_load rfl hE rfl (fun w hw => run_ld1 varty9 (b7f 0 _ rfl _ _ w (hw.get 0 rfl)))) ?_
          intro a hE
          obtain ⟨x4, ex4, hj1⟩ := bnd hj1
          refine s_call (wk0 rfl) rfl rfl hE rfl [(.string x3)] ⟨rfl, trivial⟩ ent63 (c_atoi hT x3 hp x4 ex4) Ret.ret ?_
          intro v a w hR hE
          obtain ⟨ev1, rfl, hp⟩ := Ret.of hR
          have hp : Hp Z ρ (_ :: _ :: _ :: _ :: _ :: _ :: L) w := hp
          refine s_val (wk0 rfl) rfl rfl hE hp (v := (.tuple #[(.int .i64 x4), ev1])) (ex_move rfl hE rfl) ?_
          intro a hE
          refine s_val (wk0 rfl) rfl rfl hE hp (v := (.int .i64 x4)) (ex_extract rfl hE rfl rfl) ?_
          intro a hE
          refine s_val (wk0 rfl) rfl rfl hE hp (v := ev1) (ex_extract rfl hE rfl rfl) ?_
          intro a hE
          refine s_val (wk0 rfl) rfl rfl hE hp (v := (.pointer (some ⟨b3, 0, none⟩))) (ex_field rfl hE rfl (fldty24_0 _ _)) ?_
          intro a hE
          refine s_store (wk0 rfl) rfl hE hp rfl rfl rfl 3 rfl varty3.size_ rfl (allOne_mem ⟨rfl, trivial⟩) [(.int .i64 x4), w32] rfl ?_
          intro w hp
          have hp : Hp Z ρ (_ :: _ :: _ :: Pt b3 (.cells #[(.int .i64 x4), w32] 24 (0, 0)) :: _ :: _ :: L) w := hp
          refine s_nil ?_
          refine k_seq ?_
          refine k_region ?_
          refine s_store (wk0 rfl) rfl hE hp rfl rfl rfl 2 rfl varty4.size_ rfl (allOne_mem ⟨rfl, trivial⟩) [(.bool false)] rfl ?_
          intro w hp
          have hp : Hp Z ρ (_ :: _ :: Pt b4 (.cells #[(.bool false)] 4 (0, 0)) :: _ :: _ :: _ :: L) w := hp
          refine s_nil ?_
          refine k_exit ?_
          obtain rfl := Option.some.inj hj1
          exact ⟨_, rfl, _, _, hE.cut trivial, (hp.drop)⟩
      · replace hj1 := (ie hc2).symm.trans hj1
        refine k_skip ?_
        refine k_seq ?_
        refine k_region ?_
        refine s_val (wk0 rfl) rfl rfl hE hp (v := (.slice none 0 0)) (ex_asn rfl hE rfl) ?_
        intro a hE
        refine s_nil ?_
        refine k_seq ?_
        refine k_seq ?_
        refine k_region ?_
        refine s_val (wk0 rfl) rfl rfl hE hp (v := v1) (ex_move rfl hE rfl) ?_
        intro a hE
        refine s_val (wk0 rfl) rfl rfl hE hp (v := v1) (ex_move rfl hE rfl) ?_
        intro a hE
        refine s_val (wk0 rfl) rfl rfl hE hp (v := (.int .i64 (x2.length : Int))) (ex_len rfl hE rfl (OwnSl.len hp 0 rfl slty79)) ?_
        intro a hE
        obtain ⟨x5, ex5, hj1⟩ := bnd hj1
        refine s_val (wk0 rfl) rfl rfl hE hp (v := (.int .i64 x5)) (ex_sub rfl hE rfl rfl (inK_some ex5)) ?_
        intro a hE
        obtain ⟨x6, ex6, hj1⟩ := bnd hj1
        obtain ⟨v2, v2r, hp⟩ := OwnSl.head (hp.get 0 rfl) slty79 (some (.i64, x5)) rfl ex6
        have hp : Hp Z ρ (OwnSl 9 v2 x6 :: _ :: _ :: _ :: _ :: _ :: L) w := hp
        refine s_val (wk0 rfl) rfl rfl hE hp (v := v2) (ex_sl rfl hE rfl none (some (.i64, x5)) (by exact trivial) (by exact rfl) v2r) ?_
        intro a hE
        refine s_val (wk0 rfl) rfl rfl hE hp (v := (.int .i64 (x6.length : Int))) (ex_len rfl hE rfl (OwnSl.len hp 0 rfl slty79)) ?_
        intro a hE
        refine s_val (wk0 rfl) rfl rfl hE hp (v := (.int .i64 0)) (ex_move rfl hE rfl) ?_
        intro a hE
        refine s_nil ?_
        have hp := hp.emp (OwnSl.nil (α := Int) 3)
        have hp : Hp Z ρ (OwnSl 3 (.slice none 0 0) ([] : List Int) :: _ :: _ :: _ :: _ :: _ :: _ :: L) w := hp
        obtain ⟨b8, hc4, hj1⟩ := bnd hj1
        refine k_block (fun a w => ∃ (w59 : Value), Env 68 [(4, (.pointer (some ⟨b3, 0, none⟩))), (8, w59)] a ∧ Hp Z ρ (OwnSl 3 w59 b8 :: OwnSl 9 v2 x6 :: TblA 25 3 w32 us32 (lp1_0 : (List (List Int))) :: Pt b4 (.cells #[(.bool lp1_1)] 4 (0, 0)) :: Pt b3 (.cells #[(.int .i64 lp1_2), w32] 24 (0, 0)) :: Pt b2 (.cells #[(.int .i64 0)] 39 (0, 0)) :: Pt b1 (.cells #[(.int .i64 0), (.slice none 0 0)] 24 (0, 0)) :: L) w) ?_ ?_
        · refine k_loop hc4 (fun s a w => ∃ (w59 : Value), Env 68 [(4, (.pointer (some ⟨b3, 0, none⟩))), (8, w59), (36, v2), (37, (.int .i64 (x6.length : Int))), (38, (.int .i64 s.1))] a ∧ Hp Z ρ (OwnSl 3 w59 s.2 :: OwnSl 9 v2 x6 :: TblA 25 3 w32 us32 (lp1_0 : (List (List Int))) :: Pt b4 (.cells #[(.bool lp1_1)] 4 (0, 0)) :: Pt b3 (.cells #[(.int .i64 lp1_2), w32] 24 (0, 0)) :: Pt b2 (.cells #[(.int .i64 0)] 39 (0, 0)) :: Pt b1 (.cells #[(.int .i64 0), (.slice none 0 0)] 24 (0, 0)) :: L) w) ?_ ?_
          · exact ⟨_, hE.cut ⟨rfl, rfl, rfl, rfl, rfl, trivial⟩, hp⟩
          · rintro ⟨lp2_0, lp2_1⟩ st a w ⟨w59, hE, hp⟩ hl2
            have hE : Env 68 [(4, (.pointer (some ⟨b3, 0, none⟩))), (8, w59), (36, v2), (37, (.int .i64 (x6.length : Int))), (38, (.int .i64 lp2_0))] a := hE
            have hp : Hp Z ρ (OwnSl 3 w59 lp2_1 :: _ :: _ :: _ :: _ :: _ :: _ :: L) w := hp
            replace hl2 : m_cnf_Parse_lp2 x6 lp2_0 lp2_1 = some st := hl2
            unfold m_cnf_Parse_lp2 at hl2
            refine k_seq ?_
            refine k_region ?_
            refine s_val (wk0 rfl) rfl rfl hE hp (v := (.bool (decide (lp2_0 < (x6.length : Int))))) (ex_lss rfl hE rfl rfl) ?_
            intro a hE
            refine s_nil ?_
            refine k_seq ?_
            refine k_if hE rfl (fun hc5 => ?_) (fun hc5 => ?_)
            · replace hl2 := (it hc5).symm.trans hl2
              refine k_skip ?_
              refine k_seq ?_
              refine k_plain ?_
              refine k_seq ?_
              refine k_region ?_
              obtain ⟨x7, ex7, hl2⟩ := bnd hl2
              obtain ⟨b9, b9o, b9r, b9v, b9f⟩ := OwnSl.at hp 1 rfl slty79 ex7
              have b9f : ∀ (j : Nat) (u : Value), ([(.string x7)] : List Value)[j]? = some u → ∀ ρ' L' w, Hp Z ρ' (OwnSl 9 v2 x6 :: L') w → w.cell? ⟨b9, b9o + j, none⟩ = some u := b9f
              refine s_val (wk0 rfl) rfl rfl hE hp (v := (.pointer (some ⟨b9, b9o, none⟩))) (ex_index rfl hE rfl rfl b9r) ?_
              intro a hE
              refine s_val (wk0 rfl) rfl rfl hE hp (v := (.string x7)) (ex_load rfl hE rfl (fun w hw => run_ld1 varty9 (b9f 0 _ rfl _ _ w (hw.get 1 rfl)))) ?_
              intro a hE
              refine s_val (wk0 rfl) rfl rfl hE hp (v := (.string x7)) (ex_asn rfl hE rfl) ?_
              intro a hE
              refine s_nil ?_
              refine k_seq ?_
              refine k_region ?_
              refine s_val (wk0 rfl) rfl rfl hE hp (v := (.string x7)) (ex_move rfl hE rfl) ?_
              intro a hE
              obtain ⟨x8, ex8, hl2⟩ := bnd hl2
              refine s_call (wk0 rfl) rfl rfl hE rfl [(.string x7)] ⟨rfl, trivial⟩ ent63 (c_atoi hT x7 hp x8 ex8) Ret.ret ?_
              intro v a w hR hE
              obtain ⟨ev2, rfl, hp⟩ := Ret.of hR
              have hp : Hp Z ρ (_ :: _ :: _ :: _ :: _ :: _ :: _ :: L) w := hp
              refine s_val (wk0 rfl) rfl rfl hE hp (v := (.tuple #[(.int .i64 x8), ev2])) (ex_move rfl hE rfl) ?_
              intro a hE
              refine s_val (wk0 rfl) rfl rfl hE hp (v := (.int .i64 x8)) (ex_extract rfl hE rfl rfl) ?_
              intro a hE
              refine s_val (wk0 rfl) rfl rfl hE hp (v := ev2) (ex_extract rfl hE rfl rfl) ?_
              intro a hE
              refine s_val (wk0 rfl) rfl rfl hE hp (v := (.int .i64 x8)) (ex_asn rfl hE rfl) ?_
              intro a hE
              refine s_val (wk0 rfl) rfl rfl hE hp (v := ev2) (ex_asn rfl hE rfl) ?_
              intro a hE
              refine s_nil ?_
              refine k_region ?_
              refine s_val (wk0 rfl) rfl rfl hE hp (v := w59) (ex_move rfl hE rfl) ?_
              intro a hE
              refine s_val (wk0 rfl) rfl rfl hE hp (v := (.int .i64 x8)) (ex_move rfl hE rfl) ?_
              intro a hE
              refine s_lit (wk0 rfl) rfl rfl hE hp rfl [(0, (.int .i64 x8))] ⟨⟨rfl, rfl⟩, trivial⟩ [(.int .i64 x8)] 3 (fun w => by simp [Instr.buildSlice, Instr.fill, Value.cells, go_sem]) ?_
              intro a w b10 hE hp
              have hp : Hp Z ρ (Pt b10 (.cells #[(.int .i64 x8)] 3 (0, 0)) :: _ :: _ :: _ :: _ :: _ :: _ :: _ :: L) w := hp
              obtain ⟨x9, ex9, hl2⟩ := bnd hl2
              refine s_app (wk0 rfl) rfl rfl hE hp rfl slty25 rfl rfl 1 rfl rfl (l2 := [x8]) rfl (fun j u hj => by have := Hp.cN 0 rfl 0 _ (sub_all rfl) w hp j u hj; simpa using this) ex9 ?_
              intro v3 a w hE hp
              have hp : Hp Z ρ (_ :: OwnSl 3 v3 x9 :: _ :: _ :: _ :: _ :: _ :: _ :: L) w := hp
              refine s_val (wk0 rfl) rfl rfl hE hp (v := v3) (ex_asn rfl hE rfl) ?_
              intro a hE
              refine s_nil ?_
              have hE := hE.cut (E' := [(4, (.pointer (some ⟨b3, 0, none⟩))), (8, v3), (36, v2), (37, (.int .i64 (x6.length : Int))), (38, (.int .i64 lp2_0))]) ⟨rfl, rfl, rfl, rfl, rfl, trivial⟩
              refine k_region ?_
              obtain ⟨x10, ex10, hl2⟩ := bnd hl2
              refine s_val (wk0 rfl) rfl rfl hE hp (v := (.int .i64 x10)) (ex_add rfl hE rfl rfl (inK_some ex10)) ?_
              intro a hE
              refine s_val (wk0 rfl) rfl rfl hE hp (v := (.int .i64 x10)) (ex_move rfl hE rfl) ?_
              intro a hE
              refine s_nil ?_
              exact ⟨_, (Option.some.inj hl2).symm, _, hE.cut ⟨rfl, rfl, rfl, rfl, rfl, trivial⟩, (hp.drop)⟩
            · replace hl2 := (ie hc5).symm.trans hl2
              refine k_exit ?_
              refine ⟨_, (Option.some.inj hl2).symm, fun hbb => ?_⟩
              subst hbb
              exact ⟨_, hE.cut ⟨rfl, rfl, trivial⟩, hp⟩
        · rintro a w ⟨w59, hE, hp⟩
          refine k_region ?_
          refine s_val (wk0 rfl) rfl rfl hE hp (v := (.pointer (some ⟨b3, 1, none⟩))) (ex_field rfl hE rfl (fldty24_1 _ _)) ?_
          intro a hE
          refine s_val (wk0 rfl) rfl rfl hE hp (v := w32) (ex_load rfl hE rfl (fun w hw => run_ld1 varty22 (Hp.c 4 rfl 1 rfl w hw))) ?_
          intro a hE
          refine s_val (wk0 rfl) rfl rfl hE hp (v := w59) (ex_move rfl hE rfl) ?_
          intro a hE
          refine s_lit (wk0 rfl) rfl rfl hE hp rfl [(0, w59)] ⟨⟨rfl, rfl⟩, trivial⟩ [w59] 25 (fun w => by have hc0 := OwnSl.cells hp 0 rfl; simp only [Value.cells] at hc0; simp [Instr.buildSlice, Instr.fill, Value.cells, hc0, go_sem]) ?_
          intro a w b11 hE hp
          have hp : Hp Z ρ (Pt b11 (.cells #[w59] 25 (0, 0)) :: OwnSl 3 w59 b8 :: _ :: _ :: _ :: _ :: _ :: _ :: L) w := hp
          obtain ⟨x11, ex11, hj1⟩ := bnd hj1
          obtain ⟨sl1, sl1e⟩ := OwnSl.toSl hp 1 rfl
          refine s_tapp (wk0 rfl) rfl rfl hE sl1e (hp.get 1 rfl) rfl slty22 rfl rfl 2 rfl rfl (Hp.c 0 rfl 0 rfl w hp) ex11 ?_
          intro v4 us1 a w hE hp
          have hp : Hp Z ρ (_ :: _ :: TblA 25 3 v4 us1 (x11 : (List (List Int))) :: _ :: _ :: _ :: _ :: L) w := hp
          refine s_val (wk0 rfl) rfl rfl hE hp (v := (.pointer (some ⟨b3, 1, none⟩))) (ex_field rfl hE rfl (fldty24_1 _ _)) ?_
          intro a hE
          refine s_store1 (wk0 rfl) rfl hE hp rfl rfl rfl 4 rfl varty22.size_ (TblA.cells hp 2 rfl) (TblA.one hp 2 rfl) rfl [(.int .i64 lp1_2), v4] rfl ?_
          intro w hp
          have hp : Hp Z ρ (_ :: _ :: _ :: _ :: Pt b3 (.cells #[(.int .i64 lp1_2), v4] 24 (0, 0)) :: _ :: _ :: L) w := hp
          refine s_nil ?_
          obtain rfl := Option.some.inj hj1
          exact ⟨_, rfl, _, _, hE.cut trivial, (((hp.get 1 rfl).drop).drop)⟩
    · rintro a w ⟨j1s, rfl, w32q, us32q, hE, hp⟩
      dsimp only at hl1
      exact ⟨_, (Option.some.inj hl1).symm, Hp.exI _ (Hp.exI _ (Hp.stars (l := [_, _, _, _, _]) (hp)))⟩
  · intro lp1n hb1 dd1 a w hE hp
    rw [hb1] at hm
    dsimp only at hm
    have hp := hp
    obtain ⟨w32, hp⟩ := Hp.exO hp
    obtain ⟨us32, hp⟩ := Hp.exO hp
    have hp := Hp.unstar hp
    have hE := hE.cut (E' := [(0, (.string p0)), (2, (.pointer (some ⟨b1, 0, none⟩))), (3, (.pointer (some ⟨b2, 0, none⟩))), (4, (.pointer (some ⟨b3, 0, none⟩)))]) ⟨rfl, rfl, rfl, rfl, trivial⟩
    have hp : Hp Z ρ (TblA 25 3 w32 us32 (lp1n.1 : (List (List Int))) :: Pt b4 (.cells #[(.bool lp1n.2.1)] 4 (0, 0)) :: Pt b3 (.cells #[(.int .i64 lp1n.2.2), w32] 24 (0, 0)) :: Pt b2 (.cells #[(.int .i64 0)] 39 (0, 0)) :: Pt b1 (.cells #[(.int .i64 0), (.slice none 0 0)] 24 (0, 0)) :: Pt dd1 (.deferred (some [])) :: L) w := hp
    refine k_seq ?_
    refine k_seq ?_
    refine k_region ?_
    refine s_val (wk0 rfl) rfl rfl hE hp (v := (.string p0)) (ex_move rfl hE rfl) ?_
    intro a hE
    refine s_val (wk0 rfl) rfl rfl hE hp (v := (.bool (decide (p0 = (ByteArray.mk #[]))))) (ex_seql rfl hE rfl rfl) ?_
    intro a hE
    refine s_val (wk0 rfl) rfl rfl hE hp (v := (.bool (decide (p0 = (ByteArray.mk #[]))))) (ex_move rfl hE rfl) ?_
    intro a hE
    obtain ⟨m1, hg1, hm⟩ := bnd hm
    refine s_cut [_, _, _, _, _] (fun a w => EnvD [markOf dd1] 68 [(65, (.bool m1)), (2, (.pointer (some ⟨b1, 0, none⟩))), (3, (.pointer (some ⟨b2, 0, none⟩))), (4, (.pointer (some ⟨b3, 0, none⟩)))] a ∧ Hp Z ρ (TblA 25 3 w32 us32 (lp1n.1 : (List (List Int))) :: Pt b4 (.cells #[(.bool lp1n.2.1)] 4 (0, 0)) :: Pt b3 (.cells #[(.int .i64 lp1n.2.2), w32] 24 (0, 0)) :: Pt b2 (.cells #[(.int .i64 0)] 39 (0, 0)) :: Pt b1 (.cells #[(.int .i64 0), (.slice none 0 0)] 24 (0, 0)) :: Pt dd1 (.deferred (some [])) :: L) w) ?_ ?_
    · rcases Bool.eq_false_or_eq_true (decide (p0 = (ByteArray.mk #[]))) with hc6 | hc6
      ·
        replace hg1 := (it hc6).symm.trans hg1
        refine s_skip (wk2 hE rfl rfl rfl hc6) rfl rfl hE ?_
        intro a hE
        refine s_skip (wk2 hE rfl rfl rfl hc6) rfl rfl hE ?_
        intro a hE
        refine s_skip (wk2 hE rfl rfl rfl hc6) rfl rfl hE ?_
        intro a hE
        refine s_skip (wk2 hE rfl rfl rfl hc6) rfl rfl hE ?_
        intro a hE
        refine s_val (wk0 rfl) rfl rfl hE hp (v := (.bool true)) (ex_pick1 rfl hE rfl hc6 rfl) ?_
        intro a hE
        obtain rfl := Option.some.inj hg1
        exact s_nil ⟨hE.cut ⟨rfl, rfl, rfl, rfl, trivial⟩, hp⟩
      ·
        replace hg1 := (ie hc6).symm.trans hg1
        refine s_val (wk1 hE rfl rfl rfl hc6) rfl rfl hE hp (v := (.agg #[(.int .i64 lp1n.2.2), w32])) (ex_load rfl hE rfl (fun w hw => run_ldN (cs := [(.int .i64 lp1n.2.2), w32]) varty24 (Hp.cN 2 rfl 0 _ (sub_all rfl) w hw))) ?_
        intro a hE
        obtain ⟨k1, k1a, k1d, k1h⟩ := (hp.get 0 rfl).lend
        obtain ⟨x12, ex12, hg1⟩ := bnd hg1
        refine s_call (wk1 hE rfl rfl rfl hc6) rfl rfl hE rfl [(.agg #[(.int .i64 lp1n.2.2), w32])] ⟨rfl, trivial⟩ ent28 (c_cnf_Format (Tabs.mono hT (PH.le_un _ k1)) (Formula.mk lp1n.2.2 lp1n.1) w32 (TblA.ro k1d k1a) k1h x12 ex12) Ret.ret ?_
        intro v a w hR hE
        obtain ⟨rfl, hp⟩ := Ret.of hR
        have hp := Hp.back k1a k1d hp
        have hp : Hp Z ρ (_ :: _ :: _ :: _ :: _ :: _ :: L) w := hp
        refine s_val (wk1 hE rfl rfl rfl hc6) rfl rfl hE hp (v := (.string p0)) (ex_move rfl hE rfl) ?_
        intro a hE
        refine s_val (wk1 hE rfl rfl rfl hc6) rfl rfl hE hp (v := (.bool (!decide (x12 = p0)))) (ex_sneq rfl hE rfl rfl) ?_
        intro a hE
        refine s_val (wk0 rfl) rfl rfl hE hp (v := (.bool (!decide (x12 = p0)))) (ex_pick0 rfl hE rfl hc6 rfl) ?_
        intro a hE
        obtain rfl := Option.some.inj hg1
        exact s_nil ⟨hE.cut ⟨rfl, rfl, rfl, rfl, trivial⟩, hp⟩
    · rintro a w ⟨hE, hp⟩
      refine s_nil ?_
      refine k_if hE rfl (fun hc7 => ?_) (fun hc7 => ?_)
      · replace hm := (it hc7).symm.trans hm
        refine k_seq ?_
        refine k_region ?_
        refine s_val (wk0 rfl) rfl rfl hE hp (v := (.agg #[(.int .i64 0), (.slice none 0 0)])) (ex_bld rfl hE [] (by exact trivial) (fun w => by simp [Instr.build, Instr.fill, Value.cells, go_sem])) ?_
        intro a hE
        refine s_store (wk0 rfl) rfl hE hp rfl rfl rfl 4 rfl varty24.size_ rfl (allOne_mem ⟨rfl, rfl, trivial⟩) [(.int .i64 0), (.slice none 0 0)] rfl ?_
        intro w hp
        have hp : Hp Z ρ (_ :: _ :: _ :: _ :: _ :: _ :: L) w := hp
        refine s_store (wk0 rfl) rfl hE hp rfl rfl rfl 3 rfl varty39.size_ rfl (allOne_mem ⟨rfl, trivial⟩) [(.int .i64 3)] rfl ?_
        intro w hp
        have hp : Hp Z ρ (_ :: _ :: _ :: Pt b2 (.cells #[(.int .i64 3)] 39 (0, 0)) :: _ :: _ :: L) w := hp
        refine s_nil ?_
        refine k_ret ?_
        refine retM (.inl rfl) hE (hp.get 5 rfl) fun a w hE hp => ?_
        have hp := hp.emp (TblA.none (α := Int) 25 3 none)
        have hp : Hp Z ρ (TblA 25 3 (.slice none 0 0) ([]) ([] : (List (List Int))) :: _ :: _ :: _ :: _ :: _ :: L) w := hp
        have hp : Hp Z ρ (_ :: _ :: _ :: _ :: _ :: _ :: L) w := hp
        obtain rfl := Option.some.inj hm
        exact retc2 hE rfl rfl rfl (run_lvN (cs := [(.int .i64 0), (.slice none 0 0)]) varty24 (Hp.cN 5 rfl 0 _ (sub_all rfl) _ hp)) (run_lv1 varty39 (Hp.c 4 rfl 0 rfl _ hp)) ⟨_, rfl, _, _, rfl, ((((((((((hp.get 5 rfl).drop).get 4 rfl).drop).get 3 rfl).drop).get 2 rfl).drop).get 1 rfl).drop)⟩
      · replace hm := (ie hc7).symm.trans hm
        refine k_skip ?_
        refine k_seq ?_
        refine k_region ?_
        refine s_val (wk0 rfl) rfl rfl hE hp (v := (.agg #[(.int .i64 lp1n.2.2), w32])) (ex_load rfl hE rfl (fun w hw => run_ldN (cs := [(.int .i64 lp1n.2.2), w32]) varty24 (Hp.cN 2 rfl 0 _ (sub_all rfl) w hw))) ?_
        intro a hE
        refine s_store (wk0 rfl) rfl hE hp rfl rfl rfl 4 rfl varty24.size_ rfl (allOne_mem ⟨rfl, (TblA.one hp 0 rfl), trivial⟩) [(.int .i64 lp1n.2.2), w32] rfl ?_
        intro w hp
        have hp : Hp Z ρ (_ :: _ :: _ :: _ :: Pt b1 (.cells #[(.int .i64 lp1n.2.2), w32] 24 (0, 0)) :: _ :: L) w := hp
        refine s_store (wk0 rfl) rfl hE hp rfl rfl rfl 3 rfl varty39.size_ rfl (allOne_mem ⟨rfl, trivial⟩) [(.int .i64 0)] rfl ?_
        intro w hp
        have hp : Hp Z ρ (_ :: _ :: _ :: _ :: _ :: _ :: L) w := hp
        refine s_nil ?_
        refine k_ret ?_
        refine retM (.inl rfl) hE (hp.get 5 rfl) fun a w hE hp => ?_
        obtain rfl := Option.some.inj hm
        exact retc2 hE rfl rfl rfl (run_lvN (cs := [(.int .i64 lp1n.2.2), w32]) varty24 (Hp.cN 4 rfl 0 _ (sub_all rfl) _ hp)) (run_lv1 varty39 (Hp.c 3 rfl 0 rfl _ hp)) ⟨_, rfl, _, _, rfl, ((((((((hp.get 4 rfl).drop).get 3 rfl).drop).get 2 rfl).drop).get 1 rfl).drop)⟩
  · intro r hb1 dd1 a w hE hp
    rw [hb1] at hm
    dsimp only at hm
    have hp := hp
    obtain ⟨vr1_clauses, hp⟩ := Hp.exO hp
    obtain ⟨usr1_clauses, hp⟩ := Hp.exO hp
    have hp := Hp.unstar hp
    have hE := hE.cut (E' := [(2, (.pointer (some ⟨b1, 0, none⟩))), (3, (.pointer (some ⟨b2, 0, none⟩)))]) ⟨rfl, rfl, trivial⟩
    have hp : Hp Z ρ (Pt b1 (.cells #[(.int .i64 r.1.vars), vr1_clauses] 24 (0, 0)) :: TblA 25 3 vr1_clauses usr1_clauses (r.1.clauses : (List (List Int))) :: Pt b2 (.cells #[(.int .i64 r.2)] 39 (0, 0)) :: Pt dd1 (.deferred (some [])) :: L) w := hp
    refine retM (.inl rfl) hE (hp.get 3 rfl) fun a w hE hp => ?_
    obtain rfl := Option.some.inj hm
    exact retc2 hE rfl rfl rfl (run_lvN (cs := [(.int .i64 r.1.vars), vr1_clauses]) varty24 (Hp.cN 0 rfl 0 _ (sub_all rfl) _ hp)) (run_lv1 varty39 (Hp.c 2 rfl 0 rfl _ hp)) ⟨_, rfl, _, _, rfl, (((hp.get 2 rfl).drop).drop)⟩
end Go.Proofs.YtelioaepnpnojaaGreatDoor

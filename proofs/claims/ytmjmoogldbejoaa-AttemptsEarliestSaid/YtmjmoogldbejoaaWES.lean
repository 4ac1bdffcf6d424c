/-
  The code goes as its model: assessor/assessorlaw52.AttemptsEarliest. (Printed by wip/sp/gen.py.)
-/
import Derived.Test.YtmjmoogldbejoaaWEM
import Derived.Test.YtmjmoogldbejoaaFct
import Derived.Test.YtmjmoogldbejoaaWS
set_option linter.unusedVariables false
set_option linter.unusedSimpArgs false
namespace Go.Proofs.Ytmjmoogldbejoaa
open Go.RowKit

/- assessor/assessorlaw52.AttemptsEarliest -/
set_option maxRecDepth 100000 in
set_option maxHeartbeats 4000000 in
theorem c_assessorlaw52_AttemptsEarliest {Z : World} {ρ : PH} {L : List Atom} {w : World} (p0 : Rule) (p1 : (List Att)) (vp1 : Value) (hp1 : RoSl ρ vp1 p1) (p2 : Int) (hp : Hp Z ρ (L) w) (r : Bool) (hm : m_assessorlaw52_AttemptsEarliest p0 p1 p2 = some r) :
    Calls Try.prog 9 #[(.agg #[(.int .i64 p0.kind), (.int .i64 p0.most), (.int .i64 p0.pause), (.int .i64 p0.keep)]), vp1, (.int .i64 p2)] w (Ret fun v w' => v = (.bool r) ∧ Hp Z ρ (L) w') := by
  refine enter (N := 108) Try.func9 rfl rfl [(0, (.agg #[(.int .i64 p0.kind), (.int .i64 p0.most), (.int .i64 p0.pause), (.int .i64 p0.keep)])), (1, vp1), (2, (.int .i64 p2))] rfl (argsIn_mem ⟨rfl, rfl, rfl, trivial⟩) fun a hE => ?_
  unfold m_assessorlaw52_AttemptsEarliest at hm
  refine k_seq ?_
  refine k_region ?_
  refine s_box (wk0 rfl) rfl rfl hE hp rfl (v := (.agg #[(.int .i64 p0.kind), (.int .i64 p0.most), (.int .i64 p0.pause), (.int .i64 p0.keep)])) rfl ?_
  intro a w b1 hE hp
  have hp : Hp Z ρ (Pt b1 (.cells #[(.int .i64 p0.kind), (.int .i64 p0.most), (.int .i64 p0.pause), (.int .i64 p0.keep)] 23 (0, 0)) :: L) w := hp
  refine s_val (wk0 rfl) rfl rfl hE hp (v := (.bool false)) (ex_asn rfl hE rfl) ?_
  intro a hE
  refine s_nil ?_
  refine k_seq ?_
  refine k_seq ?_
  refine k_region ?_
  obtain ⟨x1, ex1, hm⟩ := bnd hm
  refine s_call (wk0 rfl) rfl rfl hE rfl [] trivial ent10 (c_assessorlaw52_awake  hp x1 ex1) Ret.ret ?_
  intro v a w hR hE
  obtain ⟨rfl, hp⟩ := Ret.of hR
  have hp : Hp Z ρ (Pt b1 (.cells #[(.int .i64 p0.kind), (.int .i64 p0.most), (.int .i64 p0.pause), (.int .i64 p0.keep)] 23 (0, 0)) :: L) w := hp
  refine s_val (wk0 rfl) rfl rfl hE hp (v := (.bool (!x1))) (ex_not rfl hE rfl) ?_
  intro a hE
  refine s_nil ?_
  refine k_if hE rfl (fun hb1 => ?_) (fun hb1 => ?_)
  · replace hm := (it hb1).symm.trans hm
    refine k_seq ?_
    refine k_region ?_
    refine s_val (wk0 rfl) rfl rfl hE hp (v := (.bool false)) (ex_asn rfl hE rfl) ?_
    intro a hE
    refine s_nil ?_
    refine k_ret ?_
    obtain rfl := Option.some.inj hm
    exact ret1 hE rfl rfl ⟨_, rfl, rfl, (hp.drop)⟩
  · replace hm := (ie hb1).symm.trans hm
    refine k_skip ?_
    refine k_seq ?_
    refine k_seq ?_
    refine k_region ?_
    refine s_val (wk0 rfl) rfl rfl hE hp (v := vp1) (ex_move rfl hE rfl) ?_
    intro a hE
    refine s_val (wk0 rfl) rfl rfl hE hp (v := (.int .i64 (p1.length : Int))) (ex_len rfl hE rfl (RoSl.len hp1 slty24)) ?_
    intro a hE
    refine s_val (wk0 rfl) rfl rfl hE hp (v := (.bool (decide (20 < (p1.length : Int))))) (ex_gtr rfl hE rfl rfl) ?_
    intro a hE
    refine s_val (wk0 rfl) rfl rfl hE hp (v := (.bool (decide (20 < (p1.length : Int))))) (ex_move rfl hE rfl) ?_
    intro a hE
    obtain ⟨m1, hg1, hm⟩ := bnd hm
    refine s_cut [_, _, _, _, _] (fun a w => Env 108 [(20, (.bool m1)), (1, vp1), (2, (.int .i64 p2)), (3, (.pointer (some ⟨b1, 0, none⟩)))] a ∧ Hp Z ρ (Pt b1 (.cells #[(.int .i64 p0.kind), (.int .i64 p0.most), (.int .i64 p0.pause), (.int .i64 p0.keep)] 23 (0, 0)) :: L) w) ?_ ?_
    · rcases Bool.eq_false_or_eq_true (decide (20 < (p1.length : Int))) with hb2 | hb2
      ·
        replace hg1 := (it hb2).symm.trans hg1
        refine s_skip (wk2 hE rfl rfl rfl hb2) rfl rfl hE ?_
        intro a hE
        refine s_skip (wk2 hE rfl rfl rfl hb2) rfl rfl hE ?_
        intro a hE
        refine s_skip (wk2 hE rfl rfl rfl hb2) rfl rfl hE ?_
        intro a hE
        refine s_skip (wk2 hE rfl rfl rfl hb2) rfl rfl hE ?_
        intro a hE
        refine s_val (wk0 rfl) rfl rfl hE hp (v := (.bool true)) (ex_pick1 rfl hE rfl hb2 rfl) ?_
        intro a hE
        obtain rfl := Option.some.inj hg1
        exact s_nil ⟨hE.cut ⟨rfl, rfl, rfl, rfl, trivial⟩, hp⟩
      ·
        replace hg1 := (ie hb2).symm.trans hg1
        refine s_val (wk1 hE rfl rfl rfl hb2) rfl rfl hE hp (v := (.agg #[(.int .i64 p0.kind), (.int .i64 p0.most), (.int .i64 p0.pause), (.int .i64 p0.keep)])) (ex_load rfl hE rfl (fun w hw => run_ldN (cs := [(.int .i64 p0.kind), (.int .i64 p0.most), (.int .i64 p0.pause), (.int .i64 p0.keep)]) varty23 (Hp.cN 0 rfl 0 _ (sub_all rfl) w hw))) ?_
        intro a hE
        refine s_val (wk1 hE rfl rfl rfl hb2) rfl rfl hE hp (v := vp1) (ex_move rfl hE rfl) ?_
        intro a hE
        obtain ⟨x2, ex2, hg1⟩ := bnd hg1
        refine s_call (wk1 hE rfl rfl rfl hb2) rfl rfl hE rfl [(.agg #[(.int .i64 p0.kind), (.int .i64 p0.most), (.int .i64 p0.pause), (.int .i64 p0.keep)]), vp1] ⟨rfl, rfl, trivial⟩ ent18 (c_attempts_Valid p0 p1 vp1 hp1 hp x2 ex2) Ret.ret ?_
        intro v a w hR hE
        obtain ⟨rfl, hp⟩ := Ret.of hR
        have hp : Hp Z ρ (Pt b1 (.cells #[(.int .i64 p0.kind), (.int .i64 p0.most), (.int .i64 p0.pause), (.int .i64 p0.keep)] 23 (0, 0)) :: L) w := hp
        refine s_val (wk1 hE rfl rfl rfl hb2) rfl rfl hE hp (v := (.bool (!x2))) (ex_not rfl hE rfl) ?_
        intro a hE
        refine s_val (wk0 rfl) rfl rfl hE hp (v := (.bool (!x2))) (ex_pick0 rfl hE rfl hb2 rfl) ?_
        intro a hE
        obtain rfl := Option.some.inj hg1
        exact s_nil ⟨hE.cut ⟨rfl, rfl, rfl, rfl, trivial⟩, hp⟩
    · rintro a w ⟨hE, hp⟩
      refine s_nil ?_
      refine k_if hE rfl (fun hb3 => ?_) (fun hb3 => ?_)
      · replace hm := (it hb3).symm.trans hm
        refine k_seq ?_
        refine k_region ?_
        refine s_val (wk0 rfl) rfl rfl hE hp (v := (.bool true)) (ex_asn rfl hE rfl) ?_
        intro a hE
        refine s_nil ?_
        refine k_ret ?_
        obtain rfl := Option.some.inj hm
        exact ret1 hE rfl rfl ⟨_, rfl, rfl, (hp.drop)⟩
      · replace hm := (ie hb3).symm.trans hm
        refine k_skip ?_
        refine k_seq ?_
        refine k_region ?_
        refine s_val (wk0 rfl) rfl rfl hE hp (v := (.agg #[(.int .i64 p0.kind), (.int .i64 p0.most), (.int .i64 p0.pause), (.int .i64 p0.keep)])) (ex_load rfl hE rfl (fun w hw => run_ldN (cs := [(.int .i64 p0.kind), (.int .i64 p0.most), (.int .i64 p0.pause), (.int .i64 p0.keep)]) varty23 (Hp.cN 0 rfl 0 _ (sub_all rfl) w hw))) ?_
        intro a hE
        refine s_val (wk0 rfl) rfl rfl hE hp (v := vp1) (ex_move rfl hE rfl) ?_
        intro a hE
        obtain ⟨x3, ex3, hm⟩ := bnd hm
        refine s_call (wk0 rfl) rfl rfl hE rfl [(.agg #[(.int .i64 p0.kind), (.int .i64 p0.most), (.int .i64 p0.pause), (.int .i64 p0.keep)]), vp1] ⟨rfl, rfl, trivial⟩ ent22 (c_attempts_Earliest p0 p1 vp1 hp1 hp x3 ex3) Ret.ret ?_
        intro v a w hR hE
        obtain ⟨rfl, hp⟩ := Ret.of hR
        have hp : Hp Z ρ (Pt b1 (.cells #[(.int .i64 p0.kind), (.int .i64 p0.most), (.int .i64 p0.pause), (.int .i64 p0.keep)] 23 (0, 0)) :: L) w := hp
        refine s_val (wk0 rfl) rfl rfl hE hp (v := (.tuple #[(.int .i64 x3.1), (.bool x3.2)])) (ex_move rfl hE rfl) ?_
        intro a hE
        refine s_val (wk0 rfl) rfl rfl hE hp (v := (.int .i64 x3.1)) (ex_extract rfl hE rfl rfl) ?_
        intro a hE
        refine s_val (wk0 rfl) rfl rfl hE hp (v := (.bool x3.2)) (ex_extract rfl hE rfl rfl) ?_
        intro a hE
        refine s_val (wk0 rfl) rfl rfl hE hp (v := (.int .i64 x3.1)) (ex_asn rfl hE rfl) ?_
        intro a hE
        refine s_val (wk0 rfl) rfl rfl hE hp (v := (.bool x3.2)) (ex_asn rfl hE rfl) ?_
        intro a hE
        refine s_nil ?_
        refine k_seq ?_
        refine k_region ?_
        refine s_val (wk0 rfl) rfl rfl hE hp (v := (.agg #[(.int .i64 p0.kind), (.int .i64 p0.most), (.int .i64 p0.pause), (.int .i64 p0.keep)])) (ex_load rfl hE rfl (fun w hw => run_ldN (cs := [(.int .i64 p0.kind), (.int .i64 p0.most), (.int .i64 p0.pause), (.int .i64 p0.keep)]) varty23 (Hp.cN 0 rfl 0 _ (sub_all rfl) w hw))) ?_
        intro a hE
        refine s_val (wk0 rfl) rfl rfl hE hp (v := vp1) (ex_move rfl hE rfl) ?_
        intro a hE
        refine s_val (wk0 rfl) rfl rfl hE hp (v := (.int .i64 p2)) (ex_move rfl hE rfl) ?_
        intro a hE
        obtain ⟨x4, ex4, hm⟩ := bnd hm
        refine s_call (wk0 rfl) rfl rfl hE rfl [(.agg #[(.int .i64 p0.kind), (.int .i64 p0.most), (.int .i64 p0.pause), (.int .i64 p0.keep)]), vp1, (.int .i64 p2)] ⟨rfl, rfl, rfl, trivial⟩ ent25 (c_attempts_Allowed p0 p1 vp1 hp1 p2 hp x4 ex4) Ret.ret ?_
        intro v a w hR hE
        obtain ⟨rfl, hp⟩ := Ret.of hR
        have hp : Hp Z ρ (Pt b1 (.cells #[(.int .i64 p0.kind), (.int .i64 p0.most), (.int .i64 p0.pause), (.int .i64 p0.keep)] 23 (0, 0)) :: L) w := hp
        refine s_val (wk0 rfl) rfl rfl hE hp (v := (.int .i64 x4)) (ex_asn rfl hE rfl) ?_
        intro a hE
        refine s_nil ?_
        refine k_seq ?_
        refine k_seq ?_
        refine k_region ?_
        refine s_val (wk0 rfl) rfl rfl hE hp (v := (.bool x3.2)) (ex_move rfl hE rfl) ?_
        intro a hE
        refine s_val (wk0 rfl) rfl rfl hE hp (v := (.bool (!x3.2))) (ex_not rfl hE rfl) ?_
        intro a hE
        refine s_nil ?_
        refine k_if hE rfl (fun hb4 => ?_) (fun hb4 => ?_)
        · replace hm := (it hb4).symm.trans hm
          refine k_seq ?_
          refine k_region ?_
          refine s_val (wk0 rfl) rfl rfl hE hp (v := (.int .i64 x3.1)) (ex_move rfl hE rfl) ?_
          intro a hE
          refine s_val (wk0 rfl) rfl rfl hE hp (v := (.bool (decide (x3.1 = 0)))) (ex_eql rfl hE rfl rfl) ?_
          intro a hE
          refine s_val (wk0 rfl) rfl rfl hE hp (v := (.bool (decide (x3.1 = 0)))) (ex_move rfl hE rfl) ?_
          intro a hE
          refine s_cut [_, _, _] (fun a w => Env 108 [(38, (.bool ((decide (x3.1 = 0)) && (!decide (x4 = 0)))))] a ∧ Hp Z ρ (Pt b1 (.cells #[(.int .i64 p0.kind), (.int .i64 p0.most), (.int .i64 p0.pause), (.int .i64 p0.keep)] 23 (0, 0)) :: L) w) ?_ ?_
          · rcases Bool.eq_false_or_eq_true (decide (x3.1 = 0)) with hb5 | hb5
            ·
              refine s_val (wk1 hE rfl rfl rfl hb5) rfl rfl hE hp (v := (.int .i64 x4)) (ex_move rfl hE rfl) ?_
              intro a hE
              refine s_val (wk1 hE rfl rfl rfl hb5) rfl rfl hE hp (v := (.bool (!decide (x4 = 0)))) (ex_neq rfl hE rfl rfl) ?_
              intro a hE
              refine s_val (wk0 rfl) rfl rfl hE hp (v := (.bool (!decide (x4 = 0)))) (ex_pick1 rfl hE rfl hb5 rfl) ?_
              intro a hE
              have hE := hE.eqv (v' := (.bool ((decide (x3.1 = 0)) && (!decide (x4 = 0))))) (by rw [hb5]; rfl)
              exact s_nil ⟨hE.cut ⟨rfl, trivial⟩, hp⟩
            ·
              refine s_skip (wk2 hE rfl rfl rfl hb5) rfl rfl hE ?_
              intro a hE
              refine s_skip (wk2 hE rfl rfl rfl hb5) rfl rfl hE ?_
              intro a hE
              refine s_val (wk0 rfl) rfl rfl hE hp (v := (.bool false)) (ex_pick0 rfl hE rfl hb5 rfl) ?_
              intro a hE
              have hE := hE.eqv (v' := (.bool ((decide (x3.1 = 0)) && (!decide (x4 = 0))))) (by rw [hb5]; rfl)
              exact s_nil ⟨hE.cut ⟨rfl, trivial⟩, hp⟩
          · rintro a w ⟨hE, hp⟩
            refine s_val (wk0 rfl) rfl rfl hE hp (v := (.bool ((decide (x3.1 = 0)) && (!decide (x4 = 0))))) (ex_asn rfl hE rfl) ?_
            intro a hE
            refine s_nil ?_
            refine k_ret ?_
            obtain rfl := Option.some.inj hm
            exact ret1 hE rfl rfl ⟨_, rfl, rfl, (hp.drop)⟩
        · replace hm := (ie hb4).symm.trans hm
          refine k_skip ?_
          refine k_seq ?_
          refine k_seq ?_
          refine k_region ?_
          refine s_val (wk0 rfl) rfl rfl hE hp (v := (.agg #[(.int .i64 p0.kind), (.int .i64 p0.most), (.int .i64 p0.pause), (.int .i64 p0.keep)])) (ex_load rfl hE rfl (fun w hw => run_ldN (cs := [(.int .i64 p0.kind), (.int .i64 p0.most), (.int .i64 p0.pause), (.int .i64 p0.keep)]) varty23 (Hp.cN 0 rfl 0 _ (sub_all rfl) w hw))) ?_
          intro a hE
          refine s_val (wk0 rfl) rfl rfl hE hp (v := vp1) (ex_move rfl hE rfl) ?_
          intro a hE
          refine s_val (wk0 rfl) rfl rfl hE hp (v := (.int .i64 x3.1)) (ex_move rfl hE rfl) ?_
          intro a hE
          obtain ⟨x5, ex5, hm⟩ := bnd hm
          refine s_call (wk0 rfl) rfl rfl hE rfl [(.agg #[(.int .i64 p0.kind), (.int .i64 p0.most), (.int .i64 p0.pause), (.int .i64 p0.keep)]), vp1, (.int .i64 x3.1)] ⟨rfl, rfl, rfl, trivial⟩ ent25 (c_attempts_Allowed p0 p1 vp1 hp1 x3.1 hp x5 ex5) Ret.ret ?_
          intro v a w hR hE
          obtain ⟨rfl, hp⟩ := Ret.of hR
          have hp : Hp Z ρ (Pt b1 (.cells #[(.int .i64 p0.kind), (.int .i64 p0.most), (.int .i64 p0.pause), (.int .i64 p0.keep)] 23 (0, 0)) :: L) w := hp
          refine s_val (wk0 rfl) rfl rfl hE hp (v := (.bool (!decide (x5 = 0)))) (ex_neq rfl hE rfl rfl) ?_
          intro a hE
          refine s_val (wk0 rfl) rfl rfl hE hp (v := (.bool (!decide (x5 = 0)))) (ex_move rfl hE rfl) ?_
          intro a hE
          refine s_cut [_, _, _, _, _, _, _, _, _, _, _] (fun a w => Env 108 [(55, (.bool ((!decide (x5 = 0)) || (!(((decide (x3.1 ≤ p2)) && (decide (p2 ≤ 1099511627776))) == (decide (x4 = 0))))))), (1, vp1), (3, (.pointer (some ⟨b1, 0, none⟩))), (8, (.bool x3.2))] a ∧ Hp Z ρ (Pt b1 (.cells #[(.int .i64 p0.kind), (.int .i64 p0.most), (.int .i64 p0.pause), (.int .i64 p0.keep)] 23 (0, 0)) :: L) w) ?_ ?_
          · rcases Bool.eq_false_or_eq_true (!decide (x5 = 0)) with hb6 | hb6
            ·
              refine s_skip (wk2 hE rfl rfl rfl hb6) rfl rfl hE ?_
              intro a hE
              refine s_skip (wk2 hE rfl rfl rfl hb6) rfl rfl hE ?_
              intro a hE
              refine s_skip (wk2 hE rfl rfl rfl hb6) rfl rfl hE ?_
              intro a hE
              refine s_skip (wk2 hE rfl rfl rfl hb6) rfl rfl hE ?_
              intro a hE
              refine s_skip (wk3 hE rfl rfl rfl) rfl rfl hE ?_
              intro a hE
              refine s_skip (wk3 hE rfl rfl rfl) rfl rfl hE ?_
              intro a hE
              refine s_skip (wk2 hE rfl rfl rfl hb6) rfl rfl hE ?_
              intro a hE
              refine s_skip (wk2 hE rfl rfl rfl hb6) rfl rfl hE ?_
              intro a hE
              refine s_skip (wk2 hE rfl rfl rfl hb6) rfl rfl hE ?_
              intro a hE
              refine s_skip (wk2 hE rfl rfl rfl hb6) rfl rfl hE ?_
              intro a hE
              refine s_val (wk0 rfl) rfl rfl hE hp (v := (.bool true)) (ex_pick1 rfl hE rfl hb6 rfl) ?_
              intro a hE
              have hE := hE.eqv (v' := (.bool ((!decide (x5 = 0)) || (!(((decide (x3.1 ≤ p2)) && (decide (p2 ≤ 1099511627776))) == (decide (x4 = 0))))))) (by rw [hb6]; rfl)
              exact s_nil ⟨hE.cut ⟨rfl, rfl, rfl, rfl, trivial⟩, hp⟩
            ·
              refine s_val (wk1 hE rfl rfl rfl hb6) rfl rfl hE hp (v := (.int .i64 p2)) (ex_move rfl hE rfl) ?_
              intro a hE
              refine s_val (wk1 hE rfl rfl rfl hb6) rfl rfl hE hp (v := (.int .i64 x3.1)) (ex_move rfl hE rfl) ?_
              intro a hE
              refine s_val (wk1 hE rfl rfl rfl hb6) rfl rfl hE hp (v := (.bool (decide (x3.1 ≤ p2)))) (ex_geq rfl hE rfl rfl) ?_
              intro a hE
              refine s_val (wk1 hE rfl rfl rfl hb6) rfl rfl hE hp (v := (.bool (decide (x3.1 ≤ p2)))) (ex_move rfl hE rfl) ?_
              intro a hE
              refine s_cut [_, _, _] (fun a w => Env 108 [(51, (.bool ((decide (x3.1 ≤ p2)) && (decide (p2 ≤ 1099511627776))))), (1, vp1), (3, (.pointer (some ⟨b1, 0, none⟩))), (8, (.bool x3.2)), (9, (.int .i64 x4)), (44, (.bool (!decide (x5 = 0))))] a ∧ Hp Z ρ (Pt b1 (.cells #[(.int .i64 p0.kind), (.int .i64 p0.most), (.int .i64 p0.pause), (.int .i64 p0.keep)] 23 (0, 0)) :: L) w) ?_ ?_
              · rcases Bool.eq_false_or_eq_true (decide (x3.1 ≤ p2)) with hb7 | hb7
                ·
                  refine s_val (wk1 hE rfl rfl rfl hb7) rfl rfl hE hp (v := (.int .i64 p2)) (ex_move rfl hE rfl) ?_
                  intro a hE
                  refine s_val (wk1 hE rfl rfl rfl hb7) rfl rfl hE hp (v := (.bool (decide (p2 ≤ 1099511627776)))) (ex_leq rfl hE rfl rfl) ?_
                  intro a hE
                  refine s_val (wk1 hE rfl rfl rfl hb6) rfl rfl hE hp (v := (.bool (decide (p2 ≤ 1099511627776)))) (ex_pick1 rfl hE rfl hb7 rfl) ?_
                  intro a hE
                  have hE := hE.eqv (v' := (.bool ((decide (x3.1 ≤ p2)) && (decide (p2 ≤ 1099511627776))))) (by rw [hb7]; rfl)
                  exact s_nil ⟨hE.cut ⟨rfl, rfl, rfl, rfl, rfl, rfl, trivial⟩, hp⟩
                ·
                  refine s_skip (wk2 hE rfl rfl rfl hb7) rfl rfl hE ?_
                  intro a hE
                  refine s_skip (wk2 hE rfl rfl rfl hb7) rfl rfl hE ?_
                  intro a hE
                  refine s_val (wk1 hE rfl rfl rfl hb6) rfl rfl hE hp (v := (.bool false)) (ex_pick0 rfl hE rfl hb7 rfl) ?_
                  intro a hE
                  have hE := hE.eqv (v' := (.bool ((decide (x3.1 ≤ p2)) && (decide (p2 ≤ 1099511627776))))) (by rw [hb7]; rfl)
                  exact s_nil ⟨hE.cut ⟨rfl, rfl, rfl, rfl, rfl, rfl, trivial⟩, hp⟩
              · rintro a w ⟨hE, hp⟩
                refine s_val (wk1 hE rfl rfl rfl hb6) rfl rfl hE hp (v := (.int .i64 x4)) (ex_move rfl hE rfl) ?_
                intro a hE
                refine s_val (wk1 hE rfl rfl rfl hb6) rfl rfl hE hp (v := (.bool (decide (x4 = 0)))) (ex_eql rfl hE rfl rfl) ?_
                intro a hE
                refine s_val (wk1 hE rfl rfl rfl hb6) rfl rfl hE hp (v := (.bool (!(((decide (x3.1 ≤ p2)) && (decide (p2 ≤ 1099511627776))) == (decide (x4 = 0)))))) (ex_bneq bty4 rfl hE rfl rfl) ?_
                intro a hE
                refine s_val (wk0 rfl) rfl rfl hE hp (v := (.bool (!(((decide (x3.1 ≤ p2)) && (decide (p2 ≤ 1099511627776))) == (decide (x4 = 0)))))) (ex_pick0 rfl hE rfl hb6 rfl) ?_
                intro a hE
                have hE := hE.eqv (v' := (.bool ((!decide (x5 = 0)) || (!(((decide (x3.1 ≤ p2)) && (decide (p2 ≤ 1099511627776))) == (decide (x4 = 0))))))) (by rw [hb6]; rfl)
                exact s_nil ⟨hE.cut ⟨rfl, rfl, rfl, rfl, trivial⟩, hp⟩
          · rintro a w ⟨hE, hp⟩
            refine s_nil ?_
            refine k_if hE rfl (fun hb8 => ?_) (fun hb8 => ?_)
            · replace hm := (it hb8).symm.trans hm
              refine k_seq ?_
              refine k_region ?_
              refine s_val (wk0 rfl) rfl rfl hE hp (v := (.bool false)) (ex_asn rfl hE rfl) ?_
              intro a hE
              refine s_nil ?_
              refine k_ret ?_
              obtain rfl := Option.some.inj hm
              exact ret1 hE rfl rfl ⟨_, rfl, rfl, (hp.drop)⟩
            · replace hm := (ie hb8).symm.trans hm
              refine k_skip ?_
              refine k_seq ?_
              refine k_region ?_
              refine s_val (wk0 rfl) rfl rfl hE hp (v := vp1) (ex_move rfl hE rfl) ?_
              intro a hE
              obtain ⟨x6, ex6, hm⟩ := bnd hm
              refine s_call (wk0 rfl) rfl rfl hE rfl [vp1] ⟨rfl, trivial⟩ ent19 (c_clone19 p1 vp1 hp1 hp x6 ex6) Ret.ret ?_
              intro v1 a w hR hE
              obtain ⟨u, hu, hp⟩ := Ret.of hR
              rw [← hu] at hp
              have hp : Hp Z ρ (OwnSl 38 v1 x6 :: Pt b1 (.cells #[(.int .i64 p0.kind), (.int .i64 p0.most), (.int .i64 p0.pause), (.int .i64 p0.keep)] 23 (0, 0)) :: L) w := hp
              refine s_val (wk0 rfl) rfl rfl hE hp (v := v1) (ex_asn rfl hE rfl) ?_
              intro a hE
              refine s_nil ?_
              refine k_seq ?_
              refine k_seq ?_
              refine k_region ?_
              refine s_val (wk0 rfl) rfl rfl hE hp (v := (.int .i64 0)) (ex_move rfl hE rfl) ?_
              intro a hE
              refine s_nil ?_
              obtain ⟨b2, hb9, hm⟩ := bnd hm
              refine k_block (fun a w => ∃ s : (Bool × (List Att)), b2 = .brk s ∧ (∃ w2 : Value, Env 108 [(1, w2), (3, (.pointer (some ⟨b1, 0, none⟩))), (8, (.bool s.1))] a ∧ Hp Z ρ (OwnSl 38 w2 s.2 :: Pt b1 (.cells #[(.int .i64 p0.kind), (.int .i64 p0.most), (.int .i64 p0.pause), (.int .i64 p0.keep)] 23 (0, 0)) :: L) w)) ?_ ?_
              · refine k_loop hb9 (fun s a w => ∃ w2 : Value, Env 108 [(1, w2), (3, (.pointer (some ⟨b1, 0, none⟩))), (8, (.bool s.1)), (58, (.int .i64 s.2.1))] a ∧ Hp Z ρ (OwnSl 38 w2 s.2.2 :: Pt b1 (.cells #[(.int .i64 p0.kind), (.int .i64 p0.most), (.int .i64 p0.pause), (.int .i64 p0.keep)] 23 (0, 0)) :: L) w) ?_ ?_
                · exact ⟨_, hE.cut ⟨rfl, rfl, rfl, rfl, trivial⟩, hp⟩
                · rintro ⟨lp1_0, lp1_1, lp1_2⟩ st a w ⟨w2, hE, hp⟩ hl1
                  have hE : Env 108 [(1, w2), (3, (.pointer (some ⟨b1, 0, none⟩))), (8, (.bool lp1_0)), (58, (.int .i64 lp1_1))] a := hE
                  have hp : Hp Z ρ (OwnSl 38 w2 lp1_2 :: Pt b1 (.cells #[(.int .i64 p0.kind), (.int .i64 p0.most), (.int .i64 p0.pause), (.int .i64 p0.keep)] 23 (0, 0)) :: L) w := hp
                  replace hl1 : m_assessorlaw52_AttemptsEarliest_lp1 p0 lp1_0 lp1_1 lp1_2 = some st := hl1
                  unfold m_assessorlaw52_AttemptsEarliest_lp1 at hl1
                  refine k_seq ?_
                  refine k_region ?_
                  refine s_val (wk0 rfl) rfl rfl hE hp (v := (.bool (decide (lp1_1 < 17)))) (ex_lss rfl hE rfl rfl) ?_
                  intro a hE
                  refine s_nil ?_
                  refine k_seq ?_
                  refine k_if hE rfl (fun hb10 => ?_) (fun hb10 => ?_)
                  · replace hl1 := (it hb10).symm.trans hl1
                    refine k_skip ?_
                    refine k_seq ?_
                    refine k_plain ?_
                    refine k_seq ?_
                    refine k_region ?_
                    refine s_val (wk0 rfl) rfl rfl hE hp (v := (.agg #[(.int .i64 p0.kind), (.int .i64 p0.most), (.int .i64 p0.pause), (.int .i64 p0.keep)])) (ex_load rfl hE rfl (fun w hw => run_ldN (cs := [(.int .i64 p0.kind), (.int .i64 p0.most), (.int .i64 p0.pause), (.int .i64 p0.keep)]) varty23 (Hp.cN 1 rfl 0 _ (sub_all rfl) w hw))) ?_
                    intro a hE
                    refine s_val (wk0 rfl) rfl rfl hE hp (v := w2) (ex_move rfl hE rfl) ?_
                    intro a hE
                    obtain ⟨k1, k1a, k1d, k1h⟩ := (hp.get 0 rfl).lend
                    obtain ⟨x7, ex7, hl1⟩ := bnd hl1
                    refine s_call (wk0 rfl) rfl rfl hE rfl [(.agg #[(.int .i64 p0.kind), (.int .i64 p0.most), (.int .i64 p0.pause), (.int .i64 p0.keep)]), w2] ⟨rfl, rfl, trivial⟩ ent22 (c_attempts_Earliest p0 lp1_2 w2 (OwnSl.ro k1d k1a) k1h x7 ex7) Ret.ret ?_
                    intro v a w hR hE
                    obtain ⟨rfl, hp⟩ := Ret.of hR
                    have hp := Hp.back k1a k1d hp
                    have hp : Hp Z ρ (OwnSl 38 w2 lp1_2 :: Pt b1 (.cells #[(.int .i64 p0.kind), (.int .i64 p0.most), (.int .i64 p0.pause), (.int .i64 p0.keep)] 23 (0, 0)) :: L) w := hp
                    have hp : Hp Z ρ (OwnSl 38 w2 lp1_2 :: Pt b1 (.cells #[(.int .i64 p0.kind), (.int .i64 p0.most), (.int .i64 p0.pause), (.int .i64 p0.keep)] 23 (0, 0)) :: L) w := hp
                    refine s_val (wk0 rfl) rfl rfl hE hp (v := (.tuple #[(.int .i64 x7.1), (.bool x7.2)])) (ex_move rfl hE rfl) ?_
                    intro a hE
                    refine s_val (wk0 rfl) rfl rfl hE hp (v := (.int .i64 x7.1)) (ex_extract rfl hE rfl rfl) ?_
                    intro a hE
                    refine s_val (wk0 rfl) rfl rfl hE hp (v := (.bool x7.2)) (ex_extract rfl hE rfl rfl) ?_
                    intro a hE
                    refine s_val (wk0 rfl) rfl rfl hE hp (v := (.int .i64 x7.1)) (ex_asn rfl hE rfl) ?_
                    intro a hE
                    refine s_val (wk0 rfl) rfl rfl hE hp (v := (.bool x7.2)) (ex_asn rfl hE rfl) ?_
                    intro a hE
                    refine s_nil ?_
                    refine k_seq ?_
                    refine k_seq ?_
                    refine k_region ?_
                    refine s_val (wk0 rfl) rfl rfl hE hp (v := (.bool x7.2)) (ex_move rfl hE rfl) ?_
                    intro a hE
                    refine s_val (wk0 rfl) rfl rfl hE hp (v := (.bool (!x7.2))) (ex_not rfl hE rfl) ?_
                    intro a hE
                    refine s_nil ?_
                    refine k_if hE rfl (fun hb11 => ?_) (fun hb11 => ?_)
                    · replace hl1 := (it hb11).symm.trans hl1
                      refine k_exit ?_
                      refine ⟨_, (Option.some.inj hl1).symm, fun hbb => ?_⟩
                      exact ⟨_, hbb.symm, _, hE.cut ⟨rfl, rfl, rfl, trivial⟩, hp⟩
                    · replace hl1 := (ie hb11).symm.trans hl1
                      refine k_skip ?_
                      refine k_seq ?_
                      refine k_region ?_
                      refine s_val (wk0 rfl) rfl rfl hE hp (v := w2) (ex_move rfl hE rfl) ?_
                      intro a hE
                      refine s_val (wk0 rfl) rfl rfl hE hp (v := w2) (ex_move rfl hE rfl) ?_
                      intro a hE
                      refine s_val (wk0 rfl) rfl rfl hE hp (v := (.int .i64 (lp1_2.length : Int))) (ex_len rfl hE rfl (OwnSl.len hp 0 rfl slty24)) ?_
                      intro a hE
                      obtain ⟨x8, ex8, hl1⟩ := bnd hl1
                      refine s_val (wk0 rfl) rfl rfl hE hp (v := (.int .i64 x8)) (ex_add rfl hE rfl rfl (inK_some ex8)) ?_
                      intro a hE
                      refine s_val (wk0 rfl) rfl rfl hE hp (v := (.int .i64 x7.1)) (ex_move rfl hE rfl) ?_
                      intro a hE
                      refine s_val (wk0 rfl) rfl rfl hE hp (v := (.agg #[(.int .i64 x8), (.int .i64 x7.1), (.int .i64 0)])) (ex_bld rfl hE [(0, (.int .i64 x8)), (1, (.int .i64 x7.1))] (by exact ⟨⟨rfl, rfl⟩, ⟨rfl, rfl⟩, trivial⟩) (fun w => by simp [Instr.build, Instr.fill, Value.cells, go_sem])) ?_
                      intro a hE
                      refine s_lit (wk0 rfl) rfl rfl hE hp rfl [(0, (.agg #[(.int .i64 x8), (.int .i64 x7.1), (.int .i64 0)]))] ⟨⟨rfl, rfl⟩, trivial⟩ [(.int .i64 x8), (.int .i64 x7.1), (.int .i64 0)] 38 (fun w => by simp [Instr.buildSlice, Instr.fill, Value.cells, go_sem]) ?_
                      intro a w b3 hE hp
                      have hp : Hp Z ρ (Pt b3 (.cells #[(.int .i64 x8), (.int .i64 x7.1), (.int .i64 0)] 38 (0, 0)) :: OwnSl 38 w2 lp1_2 :: Pt b1 (.cells #[(.int .i64 p0.kind), (.int .i64 p0.most), (.int .i64 p0.pause), (.int .i64 p0.keep)] 23 (0, 0)) :: L) w := hp
                      obtain ⟨x9, ex9, hl1⟩ := bnd hl1
                      refine s_app (wk0 rfl) rfl rfl hE hp rfl slty24 rfl rfl 1 rfl rfl (l2 := [(Att.mk x8 x7.1 0)]) rfl (fun j u hj => by have := Hp.cN 0 rfl 0 _ (sub_all rfl) w hp j u hj; simpa using this) ex9 ?_
                      intro v2 a w hE hp
                      have hp : Hp Z ρ (Pt b3 (.cells #[(.int .i64 x8), (.int .i64 x7.1), (.int .i64 0)] 38 (0, 0)) :: OwnSl 38 v2 x9 :: Pt b1 (.cells #[(.int .i64 p0.kind), (.int .i64 p0.most), (.int .i64 p0.pause), (.int .i64 p0.keep)] 23 (0, 0)) :: L) w := hp
                      refine s_val (wk0 rfl) rfl rfl hE hp (v := v2) (ex_asn rfl hE rfl) ?_
                      intro a hE
                      refine s_nil ?_
                      have hE := hE.cut (E' := [(1, v2), (3, (.pointer (some ⟨b1, 0, none⟩))), (8, (.bool x7.2)), (58, (.int .i64 lp1_1))]) ⟨rfl, rfl, rfl, rfl, trivial⟩
                      refine k_seq ?_
                      refine k_region ?_
                      refine s_val (wk0 rfl) rfl rfl hE hp (v := (.agg #[(.int .i64 p0.kind), (.int .i64 p0.most), (.int .i64 p0.pause), (.int .i64 p0.keep)])) (ex_load rfl hE rfl (fun w hw => run_ldN (cs := [(.int .i64 p0.kind), (.int .i64 p0.most), (.int .i64 p0.pause), (.int .i64 p0.keep)]) varty23 (Hp.cN 2 rfl 0 _ (sub_all rfl) w hw))) ?_
                      intro a hE
                      refine s_val (wk0 rfl) rfl rfl hE hp (v := v2) (ex_move rfl hE rfl) ?_
                      intro a hE
                      obtain ⟨k2, k2a, k2d, k2h⟩ := (hp.get 1 rfl).lend
                      obtain ⟨x10, ex10, hl1⟩ := bnd hl1
                      refine s_call (wk0 rfl) rfl rfl hE rfl [(.agg #[(.int .i64 p0.kind), (.int .i64 p0.most), (.int .i64 p0.pause), (.int .i64 p0.keep)]), v2] ⟨rfl, rfl, trivial⟩ ent18 (c_attempts_Valid p0 x9 v2 (OwnSl.ro k2d k2a) k2h x10 ex10) Ret.ret ?_
                      intro v a w hR hE
                      obtain ⟨rfl, hp⟩ := Ret.of hR
                      have hp := Hp.back k2a k2d hp
                      have hp : Hp Z ρ (OwnSl 38 v2 x9 :: Pt b3 (.cells #[(.int .i64 x8), (.int .i64 x7.1), (.int .i64 0)] 38 (0, 0)) :: Pt b1 (.cells #[(.int .i64 p0.kind), (.int .i64 p0.most), (.int .i64 p0.pause), (.int .i64 p0.keep)] 23 (0, 0)) :: L) w := hp
                      have hp : Hp Z ρ (OwnSl 38 v2 x9 :: Pt b3 (.cells #[(.int .i64 x8), (.int .i64 x7.1), (.int .i64 0)] 38 (0, 0)) :: Pt b1 (.cells #[(.int .i64 p0.kind), (.int .i64 p0.most), (.int .i64 p0.pause), (.int .i64 p0.keep)] 23 (0, 0)) :: L) w := hp
                      refine s_val (wk0 rfl) rfl rfl hE hp (v := (.bool (!x10))) (ex_not rfl hE rfl) ?_
                      intro a hE
                      refine s_nil ?_
                      refine k_if hE rfl (fun hb12 => ?_) (fun hb12 => ?_)
                      · replace hl1 := (it hb12).symm.trans hl1
                        refine k_seq ?_
                        refine k_region ?_
                        refine s_val (wk0 rfl) rfl rfl hE hp (v := (.bool false)) (ex_asn rfl hE rfl) ?_
                        intro a hE
                        refine s_nil ?_
                        refine k_ret ?_
                        refine ⟨_, (Option.some.inj hl1).symm, fun hb => ?_⟩
                        subst hb
                        obtain rfl := Option.some.inj hm
                        exact ret1 hE rfl rfl ⟨_, rfl, rfl, (((((hp.get 2 rfl).drop).get 1 rfl).drop).drop)⟩
                      · replace hl1 := (ie hb12).symm.trans hl1
                        refine k_skip ?_
                        refine k_region ?_
                        obtain ⟨x11, ex11, hl1⟩ := bnd hl1
                        refine s_val (wk0 rfl) rfl rfl hE hp (v := (.int .i64 x11)) (ex_add rfl hE rfl rfl (inK_some ex11)) ?_
                        intro a hE
                        refine s_val (wk0 rfl) rfl rfl hE hp (v := (.int .i64 x11)) (ex_move rfl hE rfl) ?_
                        intro a hE
                        refine s_nil ?_
                        exact ⟨_, (Option.some.inj hl1).symm, _, hE.cut ⟨rfl, rfl, rfl, rfl, trivial⟩, ((hp.get 1 rfl).drop)⟩
                  · replace hl1 := (ie hb10).symm.trans hl1
                    refine k_exit ?_
                    refine ⟨_, (Option.some.inj hl1).symm, fun hbb => ?_⟩
                    exact ⟨_, hbb.symm, _, hE.cut ⟨rfl, rfl, rfl, trivial⟩, hp⟩
              · rintro a w ⟨b2s, rfl, w2, hE, hp⟩
                dsimp only at hm
                refine k_seq ?_
                refine k_quiet (by kernel_rfl) (by kernel_rfl) hp ?_
                refine q_val (wk0 rfl) rfl rfl hE (v := (.bool b2s.1)) (ex_move rfl hE rfl) ?_
                intro a hE
                refine q_val (wk0 rfl) rfl rfl hE (v := (.bool (!b2s.1))) (ex_not rfl hE rfl) ?_
                intro a hE
                refine q_val (wk0 rfl) rfl rfl hE (v := (.bool (!b2s.1))) (ex_move rfl hE rfl) ?_
                intro a hE
                obtain ⟨m2, hg2, hm⟩ := bnd hm
                refine q_cut [_, _, _, _, _, _, _, _, _, _, _, _, _, _, _, _, _, _, _, _, _, _, _, _] (fun a => Env 108 [(107, (.bool m2))] a) ?_ ?_
                · rcases Bool.eq_false_or_eq_true (!b2s.1) with hb13 | hb13
                  ·
                    replace hg2 := (it hb13).symm.trans hg2
                    refine q_val (wk1 hE rfl rfl rfl hb13) rfl rfl hE (v := w2) (ex_move rfl hE rfl) ?_
                    intro a hE
                    refine q_val (wk1 hE rfl rfl rfl hb13) rfl rfl hE (v := (.int .i64 (b2s.2.length : Int))) (ex_len rfl hE rfl (OwnSl.len hp 0 rfl slty24)) ?_
                    intro a hE
                    refine q_val (wk1 hE rfl rfl rfl hb13) rfl rfl hE (v := (.pointer (some ⟨b1, 1, none⟩))) (ex_field rfl hE rfl (fldty23_1 _ _)) ?_
                    intro a hE
                    refine q_val (wk1 hE rfl rfl rfl hb13) rfl rfl hE (v := (.int .i64 p0.most)) (ex_load rfl hE rfl (fun w hw => run_ld1 varty3 (Hp.c 1 rfl 1 rfl w hw))) ?_
                    intro a hE
                    refine q_val (wk1 hE rfl rfl rfl hb13) rfl rfl hE (v := (.bool (decide ((b2s.2.length : Int) = p0.most)))) (ex_eql rfl hE rfl rfl) ?_
                    intro a hE
                    refine q_val (wk1 hE rfl rfl rfl hb13) rfl rfl hE (v := (.bool (decide ((b2s.2.length : Int) = p0.most)))) (ex_move rfl hE rfl) ?_
                    intro a hE
                    obtain ⟨m3, hg3, hg2⟩ := bnd hg2
                    refine q_cut [_, _, _, _, _, _, _, _, _, _, _, _, _, _, _, _, _] (fun a => Env 108 [(106, (.bool m3)), (83, (.bool (!b2s.1)))] a) ?_ ?_
                    · rcases Bool.eq_false_or_eq_true (decide ((b2s.2.length : Int) = p0.most)) with hb14 | hb14
                      ·
                        replace hg3 := (it hb14).symm.trans hg3
                        refine q_skip (wk2 hE rfl rfl rfl hb14) rfl rfl hE ?_
                        intro a hE
                        refine q_skip (wk2 hE rfl rfl rfl hb14) rfl rfl hE ?_
                        intro a hE
                        refine q_skip (wk2 hE rfl rfl rfl hb14) rfl rfl hE ?_
                        intro a hE
                        refine q_skip (wk2 hE rfl rfl rfl hb14) rfl rfl hE ?_
                        intro a hE
                        refine q_skip (wk3 hE rfl rfl rfl) rfl rfl hE ?_
                        intro a hE
                        refine q_skip (wk3 hE rfl rfl rfl) rfl rfl hE ?_
                        intro a hE
                        refine q_skip (wk3 hE rfl rfl rfl) rfl rfl hE ?_
                        intro a hE
                        refine q_skip (wk3 hE rfl rfl rfl) rfl rfl hE ?_
                        intro a hE
                        refine q_skip (wk3 hE rfl rfl rfl) rfl rfl hE ?_
                        intro a hE
                        refine q_skip (wk3 hE rfl rfl rfl) rfl rfl hE ?_
                        intro a hE
                        refine q_skip (wk3 hE rfl rfl rfl) rfl rfl hE ?_
                        intro a hE
                        refine q_skip (wk3 hE rfl rfl rfl) rfl rfl hE ?_
                        intro a hE
                        refine q_skip (wk3 hE rfl rfl rfl) rfl rfl hE ?_
                        intro a hE
                        refine q_skip (wk3 hE rfl rfl rfl) rfl rfl hE ?_
                        intro a hE
                        refine q_skip (wk3 hE rfl rfl rfl) rfl rfl hE ?_
                        intro a hE
                        refine q_skip (wk2 hE rfl rfl rfl hb14) rfl rfl hE ?_
                        intro a hE
                        refine q_val (wk1 hE rfl rfl rfl hb13) rfl rfl hE (v := (.bool true)) (ex_pick1 rfl hE rfl hb14 rfl) ?_
                        intro a hE
                        obtain rfl := Option.some.inj hg3
                        exact q_nil (hE.cut ⟨rfl, rfl, trivial⟩)
                      ·
                        replace hg3 := (ie hb14).symm.trans hg3
                        refine q_val (wk1 hE rfl rfl rfl hb14) rfl rfl hE (v := w2) (ex_move rfl hE rfl) ?_
                        intro a hE
                        refine q_val (wk1 hE rfl rfl rfl hb14) rfl rfl hE (v := (.int .i64 (b2s.2.length : Int))) (ex_len rfl hE rfl (OwnSl.len hp 0 rfl slty24)) ?_
                        intro a hE
                        refine q_val (wk1 hE rfl rfl rfl hb14) rfl rfl hE (v := (.bool (decide (0 < (b2s.2.length : Int))))) (ex_gtr rfl hE rfl rfl) ?_
                        intro a hE
                        refine q_val (wk1 hE rfl rfl rfl hb14) rfl rfl hE (v := (.bool (decide (0 < (b2s.2.length : Int))))) (ex_move rfl hE rfl) ?_
                        intro a hE
                        obtain ⟨m4, hg4, hg3⟩ := bnd hg3
                        refine q_cut [_, _, _, _, _, _, _, _, _, _, _, _] (fun a => Env 108 [(105, (.bool m4)), (83, (.bool (!b2s.1))), (89, (.bool (decide ((b2s.2.length : Int) = p0.most))))] a) ?_ ?_
                        · rcases Bool.eq_false_or_eq_true (decide (0 < (b2s.2.length : Int))) with hb15 | hb15
                          ·
                            replace hg4 := (it hb15).symm.trans hg4
                            refine q_val (wk1 hE rfl rfl rfl hb15) rfl rfl hE (v := w2) (ex_move rfl hE rfl) ?_
                            intro a hE
                            refine q_val (wk1 hE rfl rfl rfl hb15) rfl rfl hE (v := w2) (ex_move rfl hE rfl) ?_
                            intro a hE
                            refine q_val (wk1 hE rfl rfl rfl hb15) rfl rfl hE (v := (.int .i64 (b2s.2.length : Int))) (ex_len rfl hE rfl (OwnSl.len hp 0 rfl slty24)) ?_
                            intro a hE
                            obtain ⟨x12, ex12, hg4⟩ := bnd hg4
                            refine q_val (wk1 hE rfl rfl rfl hb15) rfl rfl hE (v := (.int .i64 x12)) (ex_sub rfl hE rfl rfl (inK_some ex12)) ?_
                            intro a hE
                            obtain ⟨x13, ex13, hg4⟩ := bnd hg4
                            obtain ⟨b4, b4o, b4r, b4o2, b4v, b4f⟩ := OwnSl.at hp 0 rfl slty24 ex13
                            have b4f : ∀ (j : Nat) (u : Value), ([(.int .i64 x13.num), (.int .i64 x13.tick), (.int .i64 x13.pts)] : List Value)[j]? = some u → ∀ w, Hp Z ρ (OwnSl 38 w2 b2s.2 :: Pt b1 (.cells #[(.int .i64 p0.kind), (.int .i64 p0.most), (.int .i64 p0.pause), (.int .i64 p0.keep)] 23 (0, 0)) :: L) w → w.cell? ⟨b4, b4o + j, none⟩ = some u := b4f
                            refine q_val (wk1 hE rfl rfl rfl hb15) rfl rfl hE (v := (.pointer (some ⟨b4, b4o, none⟩))) (ex_index rfl hE rfl rfl b4r) ?_
                            intro a hE
                            refine q_val (wk1 hE rfl rfl rfl hb15) rfl rfl hE (v := (.pointer (some ⟨b4, b4o + 1, none⟩))) (ex_field rfl hE rfl (fldty38_1 _ _)) ?_
                            intro a hE
                            refine q_val (wk1 hE rfl rfl rfl hb15) rfl rfl hE (v := (.int .i64 x13.tick)) (ex_load rfl hE rfl (fun w hw => run_ld1 varty3 (b4f 1 _ rfl w hw))) ?_
                            intro a hE
                            refine q_val (wk1 hE rfl rfl rfl hb15) rfl rfl hE (v := (.pointer (some ⟨b1, 2, none⟩))) (ex_field rfl hE rfl (fldty23_2 _ _)) ?_
                            intro a hE
                            refine q_val (wk1 hE rfl rfl rfl hb15) rfl rfl hE (v := (.int .i64 p0.pause)) (ex_load rfl hE rfl (fun w hw => run_ld1 varty3 (Hp.c 1 rfl 2 rfl w hw))) ?_
                            intro a hE
                            obtain ⟨x14, ex14, hg4⟩ := bnd hg4
                            refine q_val (wk1 hE rfl rfl rfl hb15) rfl rfl hE (v := (.int .i64 x14)) (ex_sub rfl hE rfl rfl (inK_some ex14)) ?_
                            intro a hE
                            refine q_val (wk1 hE rfl rfl rfl hb15) rfl rfl hE (v := (.bool (decide (x14 < x13.tick)))) (ex_gtr rfl hE rfl rfl) ?_
                            intro a hE
                            refine q_val (wk1 hE rfl rfl rfl hb14) rfl rfl hE (v := (.bool (decide (x14 < x13.tick)))) (ex_pick1 rfl hE rfl hb15 rfl) ?_
                            intro a hE
                            obtain rfl := Option.some.inj hg4
                            exact q_nil (hE.cut ⟨rfl, rfl, rfl, trivial⟩)
                          ·
                            replace hg4 := (ie hb15).symm.trans hg4
                            refine q_skip (wk2 hE rfl rfl rfl hb15) rfl rfl hE ?_
                            intro a hE
                            refine q_skip (wk2 hE rfl rfl rfl hb15) rfl rfl hE ?_
                            intro a hE
                            refine q_skip (wk2 hE rfl rfl rfl hb15) rfl rfl hE ?_
                            intro a hE
                            refine q_skip (wk2 hE rfl rfl rfl hb15) rfl rfl hE ?_
                            intro a hE
                            refine q_skip (wk2 hE rfl rfl rfl hb15) rfl rfl hE ?_
                            intro a hE
                            refine q_skip (wk2 hE rfl rfl rfl hb15) rfl rfl hE ?_
                            intro a hE
                            refine q_skip (wk2 hE rfl rfl rfl hb15) rfl rfl hE ?_
                            intro a hE
                            refine q_skip (wk2 hE rfl rfl rfl hb15) rfl rfl hE ?_
                            intro a hE
                            refine q_skip (wk2 hE rfl rfl rfl hb15) rfl rfl hE ?_
                            intro a hE
                            refine q_skip (wk2 hE rfl rfl rfl hb15) rfl rfl hE ?_
                            intro a hE
                            refine q_skip (wk2 hE rfl rfl rfl hb15) rfl rfl hE ?_
                            intro a hE
                            refine q_val (wk1 hE rfl rfl rfl hb14) rfl rfl hE (v := (.bool false)) (ex_pick0 rfl hE rfl hb15 rfl) ?_
                            intro a hE
                            obtain rfl := Option.some.inj hg4
                            exact q_nil (hE.cut ⟨rfl, rfl, rfl, trivial⟩)
                        · intro a hE
                          refine q_val (wk1 hE rfl rfl rfl hb13) rfl rfl hE (v := (.bool m4)) (ex_pick0 rfl hE rfl hb14 rfl) ?_
                          intro a hE
                          obtain rfl := Option.some.inj hg3
                          exact q_nil (hE.cut ⟨rfl, rfl, trivial⟩)
                    · intro a hE
                      refine q_val (wk0 rfl) rfl rfl hE (v := (.bool m3)) (ex_pick1 rfl hE rfl hb13 rfl) ?_
                      intro a hE
                      obtain rfl := Option.some.inj hg2
                      exact q_nil (hE.cut ⟨rfl, trivial⟩)
                  ·
                    replace hg2 := (ie hb13).symm.trans hg2
                    refine q_skip (wk2 hE rfl rfl rfl hb13) rfl rfl hE ?_
                    intro a hE
                    refine q_skip (wk2 hE rfl rfl rfl hb13) rfl rfl hE ?_
                    intro a hE
                    refine q_skip (wk2 hE rfl rfl rfl hb13) rfl rfl hE ?_
                    intro a hE
                    refine q_skip (wk2 hE rfl rfl rfl hb13) rfl rfl hE ?_
                    intro a hE
                    refine q_skip (wk2 hE rfl rfl rfl hb13) rfl rfl hE ?_
                    intro a hE
                    refine q_skip (wk2 hE rfl rfl rfl hb13) rfl rfl hE ?_
                    intro a hE
                    refine q_skip (wk3 hE rfl rfl rfl) rfl rfl hE ?_
                    intro a hE
                    refine q_skip (wk3 hE rfl rfl rfl) rfl rfl hE ?_
                    intro a hE
                    refine q_skip (wk3 hE rfl rfl rfl) rfl rfl hE ?_
                    intro a hE
                    refine q_skip (wk3 hE rfl rfl rfl) rfl rfl hE ?_
                    intro a hE
                    refine q_skip (wk3 hE rfl rfl rfl) rfl rfl hE ?_
                    intro a hE
                    refine q_skip (wk3 hE rfl rfl rfl) rfl rfl hE ?_
                    intro a hE
                    refine q_skip (wk3 hE rfl rfl rfl) rfl rfl hE ?_
                    intro a hE
                    refine q_skip (wk3 hE rfl rfl rfl) rfl rfl hE ?_
                    intro a hE
                    refine q_skip (wk3 hE rfl rfl rfl) rfl rfl hE ?_
                    intro a hE
                    refine q_skip (wk3 hE rfl rfl rfl) rfl rfl hE ?_
                    intro a hE
                    refine q_skip (wk3 hE rfl rfl rfl) rfl rfl hE ?_
                    intro a hE
                    refine q_skip (wk3 hE rfl rfl rfl) rfl rfl hE ?_
                    intro a hE
                    refine q_skip (wk3 hE rfl rfl rfl) rfl rfl hE ?_
                    intro a hE
                    refine q_skip (wk3 hE rfl rfl rfl) rfl rfl hE ?_
                    intro a hE
                    refine q_skip (wk3 hE rfl rfl rfl) rfl rfl hE ?_
                    intro a hE
                    refine q_skip (wk3 hE rfl rfl rfl) rfl rfl hE ?_
                    intro a hE
                    refine q_skip (wk2 hE rfl rfl rfl hb13) rfl rfl hE ?_
                    intro a hE
                    refine q_val (wk0 rfl) rfl rfl hE (v := (.bool false)) (ex_pick0 rfl hE rfl hb13 rfl) ?_
                    intro a hE
                    obtain rfl := Option.some.inj hg2
                    exact q_nil (hE.cut ⟨rfl, trivial⟩)
                · intro a hE
                  refine q_val (wk0 rfl) rfl rfl hE (v := (.bool m2)) (ex_asn rfl hE rfl) ?_
                  intro a hE
                  refine q_nil fun w hp => ?_
                  have hp : Hp Z ρ (OwnSl 38 w2 b2s.2 :: Pt b1 (.cells #[(.int .i64 p0.kind), (.int .i64 p0.most), (.int .i64 p0.pause), (.int .i64 p0.keep)] 23 (0, 0)) :: L) w := hp
                  refine k_ret ?_
                  obtain rfl := Option.some.inj hm
                  exact ret1 hE rfl rfl ⟨_, rfl, rfl, (((hp.get 1 rfl).drop).drop)⟩
end Go.Proofs.Ytmjmoogldbejoaa

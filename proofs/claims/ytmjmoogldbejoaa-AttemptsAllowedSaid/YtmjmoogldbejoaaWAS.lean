/-
  The code goes as its model: assessor/assessorlaw52.AttemptsAllowed. (Printed by wip/sp/gen.py.)
-/
import Derived.Test.YtmjmoogldbejoaaWAM
import Derived.Test.YtmjmoogldbejoaaFct
import Derived.Test.YtmjmoogldbejoaaWS
set_option linter.unusedVariables false
set_option linter.unusedSimpArgs false
namespace Go.Proofs.Ytmjmoogldbejoaa
open Go.RowKit

/- assessor/assessorlaw52.AttemptsAllowed -/
set_option maxRecDepth 100000 in
set_option maxHeartbeats 4000000 in
theorem c_assessorlaw52_AttemptsAllowed {Z : World} {ρ : PH} {L : List Atom} {w : World} (p0 : Rule) (p1 : (List Att)) (vp1 : Value) (hp1 : RoSl ρ vp1 p1) (p2 : Int) (hp : Hp Z ρ (L) w) (r : Bool) (hm : m_assessorlaw52_AttemptsAllowed p0 p1 p2 = some r) :
    Calls Try.prog 8 #[(.agg #[(.int .i64 p0.kind), (.int .i64 p0.most), (.int .i64 p0.pause), (.int .i64 p0.keep)]), vp1, (.int .i64 p2)] w (Ret fun v w' => v = (.bool r) ∧ Hp Z ρ (L) w') := by
  refine enter (N := 56) Try.func8 rfl rfl [(0, (.agg #[(.int .i64 p0.kind), (.int .i64 p0.most), (.int .i64 p0.pause), (.int .i64 p0.keep)])), (1, vp1), (2, (.int .i64 p2))] rfl (argsIn_mem ⟨rfl, rfl, rfl, trivial⟩) fun a hE => ?_
  unfold m_assessorlaw52_AttemptsAllowed at hm
  refine k_seq ?_
  refine k_region ?_
  refine s_box (wk0 rfl) rfl rfl hE hp rfl (v := (.agg #[(.int .i64 p0.kind), (.int .i64 p0.most), (.int .i64 p0.pause), (.int .i64 p0.keep)])) rfl ?_
  intro a w b1 hE hp
  have hp : Hp Z ρ (Pt b1 (.cells #[(.int .i64 p0.kind), (.int .i64 p0.most), (.int .i64 p0.pause), (.int .i64 p0.keep)] 23 (0, 0)) :: L) w := hp
  refine s_val (wk0 rfl) rfl rfl hE hp (v := (.bool false)) (ex_asn rfl hE rfl) ?_
  intro a hE
  refine s_nil ?_
  refine k_seq ?_
  refine k_seq ?_
  refine k_region ?_
  obtain ⟨x1, ex1, hm⟩ := bnd hm
  refine s_call (wk0 rfl) rfl rfl hE rfl [] trivial ent10 (c_assessorlaw52_awake  hp x1 ex1) Ret.ret ?_
  intro v a w hR hE
  obtain ⟨rfl, hp⟩ := Ret.of hR
  have hp : Hp Z ρ (Pt b1 (.cells #[(.int .i64 p0.kind), (.int .i64 p0.most), (.int .i64 p0.pause), (.int .i64 p0.keep)] 23 (0, 0)) :: L) w := hp
  refine s_val (wk0 rfl) rfl rfl hE hp (v := (.bool (!x1))) (ex_not rfl hE rfl) ?_
  intro a hE
  refine s_nil ?_
  refine k_if hE rfl (fun hb1 => ?_) (fun hb1 => ?_)
  · replace hm := (it hb1).symm.trans hm
    refine k_seq ?_
    refine k_region ?_
    refine s_val (wk0 rfl) rfl rfl hE hp (v := (.bool false)) (ex_asn rfl hE rfl) ?_
    intro a hE
    refine s_nil ?_
    refine k_ret ?_
    obtain rfl := Option.some.inj hm
    exact ret1 hE rfl rfl ⟨_, rfl, rfl, (hp.drop)⟩
  · replace hm := (ie hb1).symm.trans hm
    refine k_skip ?_
    refine k_seq ?_
    refine k_seq ?_
    refine k_region ?_
    refine s_val (wk0 rfl) rfl rfl hE hp (v := vp1) (ex_move rfl hE rfl) ?_
    intro a hE
    refine s_val (wk0 rfl) rfl rfl hE hp (v := (.int .i64 (p1.length : Int))) (ex_len rfl hE rfl (RoSl.len hp1 slty24)) ?_
    intro a hE
    refine s_val (wk0 rfl) rfl rfl hE hp (v := (.bool (decide (20 < (p1.length : Int))))) (ex_gtr rfl hE rfl rfl) ?_
    intro a hE
    refine s_nil ?_
    refine k_if hE rfl (fun hb2 => ?_) (fun hb2 => ?_)
    · replace hm := (it hb2).symm.trans hm
      refine k_seq ?_
      refine k_region ?_
      refine s_val (wk0 rfl) rfl rfl hE hp (v := (.bool true)) (ex_asn rfl hE rfl) ?_
      intro a hE
      refine s_nil ?_
      refine k_ret ?_
      obtain rfl := Option.some.inj hm
      exact ret1 hE rfl rfl ⟨_, rfl, rfl, (hp.drop)⟩
    · replace hm := (ie hb2).symm.trans hm
      refine k_skip ?_
      refine k_seq ?_
      refine k_region ?_
      refine s_val (wk0 rfl) rfl rfl hE hp (v := (.agg #[(.int .i64 p0.kind), (.int .i64 p0.most), (.int .i64 p0.pause), (.int .i64 p0.keep)])) (ex_load rfl hE rfl (fun w hw => run_ldN (cs := [(.int .i64 p0.kind), (.int .i64 p0.most), (.int .i64 p0.pause), (.int .i64 p0.keep)]) varty23 (Hp.cN 0 rfl 0 _ (sub_all rfl) w hw))) ?_
      intro a hE
      refine s_val (wk0 rfl) rfl rfl hE hp (v := vp1) (ex_move rfl hE rfl) ?_
      intro a hE
      obtain ⟨x2, ex2, hm⟩ := bnd hm
      refine s_call (wk0 rfl) rfl rfl hE rfl [(.agg #[(.int .i64 p0.kind), (.int .i64 p0.most), (.int .i64 p0.pause), (.int .i64 p0.keep)]), vp1] ⟨rfl, rfl, trivial⟩ ent22 (c_attempts_Earliest p0 p1 vp1 hp1 hp x2 ex2) Ret.ret ?_
      intro v a w hR hE
      obtain ⟨rfl, hp⟩ := Ret.of hR
      have hp : Hp Z ρ (Pt b1 (.cells #[(.int .i64 p0.kind), (.int .i64 p0.most), (.int .i64 p0.pause), (.int .i64 p0.keep)] 23 (0, 0)) :: L) w := hp
      refine s_val (wk0 rfl) rfl rfl hE hp (v := (.tuple #[(.int .i64 x2.1), (.bool x2.2)])) (ex_move rfl hE rfl) ?_
      intro a hE
      refine s_val (wk0 rfl) rfl rfl hE hp (v := (.int .i64 x2.1)) (ex_extract rfl hE rfl rfl) ?_
      intro a hE
      refine s_val (wk0 rfl) rfl rfl hE hp (v := (.bool x2.2)) (ex_extract rfl hE rfl rfl) ?_
      intro a hE
      refine s_val (wk0 rfl) rfl rfl hE hp (v := (.int .i64 x2.1)) (ex_asn rfl hE rfl) ?_
      intro a hE
      refine s_val (wk0 rfl) rfl rfl hE hp (v := (.bool x2.2)) (ex_asn rfl hE rfl) ?_
      intro a hE
      refine s_nil ?_
      refine k_seq ?_
      refine k_region ?_
      refine s_val (wk0 rfl) rfl rfl hE hp (v := (.agg #[(.int .i64 p0.kind), (.int .i64 p0.most), (.int .i64 p0.pause), (.int .i64 p0.keep)])) (ex_load rfl hE rfl (fun w hw => run_ldN (cs := [(.int .i64 p0.kind), (.int .i64 p0.most), (.int .i64 p0.pause), (.int .i64 p0.keep)]) varty23 (Hp.cN 0 rfl 0 _ (sub_all rfl) w hw))) ?_
      intro a hE
      refine s_val (wk0 rfl) rfl rfl hE hp (v := vp1) (ex_move rfl hE rfl) ?_
      intro a hE
      obtain ⟨x3, ex3, hm⟩ := bnd hm
      refine s_call (wk0 rfl) rfl rfl hE rfl [(.agg #[(.int .i64 p0.kind), (.int .i64 p0.most), (.int .i64 p0.pause), (.int .i64 p0.keep)]), vp1] ⟨rfl, rfl, trivial⟩ ent23 (c_assessorref52_Earliest p0 p1 vp1 hp1 hp x3 ex3) Ret.ret ?_
      intro v a w hR hE
      obtain ⟨rfl, hp⟩ := Ret.of hR
      have hp : Hp Z ρ (Pt b1 (.cells #[(.int .i64 p0.kind), (.int .i64 p0.most), (.int .i64 p0.pause), (.int .i64 p0.keep)] 23 (0, 0)) :: L) w := hp
      refine s_val (wk0 rfl) rfl rfl hE hp (v := (.tuple #[(.int .i64 x3.1), (.bool x3.2)])) (ex_move rfl hE rfl) ?_
      intro a hE
      refine s_val (wk0 rfl) rfl rfl hE hp (v := (.int .i64 x3.1)) (ex_extract rfl hE rfl rfl) ?_
      intro a hE
      refine s_val (wk0 rfl) rfl rfl hE hp (v := (.bool x3.2)) (ex_extract rfl hE rfl rfl) ?_
      intro a hE
      refine s_val (wk0 rfl) rfl rfl hE hp (v := (.int .i64 x3.1)) (ex_asn rfl hE rfl) ?_
      intro a hE
      refine s_val (wk0 rfl) rfl rfl hE hp (v := (.bool x3.2)) (ex_asn rfl hE rfl) ?_
      intro a hE
      refine s_nil ?_
      have hE := hE.cut (E' := [(1, vp1), (2, (.int .i64 p2)), (3, (.pointer (some ⟨b1, 0, none⟩))), (7, (.int .i64 x2.1)), (8, (.bool x2.2)), (9, (.int .i64 x3.1)), (10, (.bool x3.2))]) ⟨rfl, rfl, rfl, rfl, rfl, rfl, rfl, trivial⟩
      refine k_seq ?_
      refine k_quiet (by kernel_rfl) (by kernel_rfl) hp ?_
      refine q_val (wk0 rfl) rfl rfl hE (v := (.agg #[(.int .i64 p0.kind), (.int .i64 p0.most), (.int .i64 p0.pause), (.int .i64 p0.keep)])) (ex_load rfl hE rfl (fun w hw => run_ldN (cs := [(.int .i64 p0.kind), (.int .i64 p0.most), (.int .i64 p0.pause), (.int .i64 p0.keep)]) varty23 (Hp.cN 0 rfl 0 _ (sub_all rfl) w hw))) ?_
      intro a hE
      refine q_val (wk0 rfl) rfl rfl hE (v := vp1) (ex_move rfl hE rfl) ?_
      intro a hE
      obtain ⟨x4, ex4, hm⟩ := bnd hm
      refine q_call (wk0 rfl) rfl rfl hE rfl [(.agg #[(.int .i64 p0.kind), (.int .i64 p0.most), (.int .i64 p0.pause), (.int .i64 p0.keep)]), vp1] ⟨rfl, rfl, trivial⟩ ent18 (v := (.bool x4)) (fun w hw => Calls.mono (c_attempts_Valid p0 p1 vp1 hp1 hw x4 ex4) fun e w' ⟨v, he, hv, hh⟩ => ⟨by rw [he, hv], hh⟩) ?_
      intro a hE
      refine q_val (wk0 rfl) rfl rfl hE (v := (.agg #[(.int .i64 p0.kind), (.int .i64 p0.most), (.int .i64 p0.pause), (.int .i64 p0.keep)])) (ex_load rfl hE rfl (fun w hw => run_ldN (cs := [(.int .i64 p0.kind), (.int .i64 p0.most), (.int .i64 p0.pause), (.int .i64 p0.keep)]) varty23 (Hp.cN 0 rfl 0 _ (sub_all rfl) w hw))) ?_
      intro a hE
      refine q_val (wk0 rfl) rfl rfl hE (v := vp1) (ex_move rfl hE rfl) ?_
      intro a hE
      obtain ⟨x5, ex5, hm⟩ := bnd hm
      refine q_call (wk0 rfl) rfl rfl hE rfl [(.agg #[(.int .i64 p0.kind), (.int .i64 p0.most), (.int .i64 p0.pause), (.int .i64 p0.keep)]), vp1] ⟨rfl, rfl, trivial⟩ ent24 (v := (.bool x5)) (fun w hw => Calls.mono (c_assessorref52_Valid p0 p1 vp1 hp1 hw x5 ex5) fun e w' ⟨v, he, hv, hh⟩ => ⟨by rw [he, hv], hh⟩) ?_
      intro a hE
      refine q_val (wk0 rfl) rfl rfl hE (v := (.bool (x4 == x5))) (ex_beql bty4 rfl hE rfl rfl) ?_
      intro a hE
      refine q_val (wk0 rfl) rfl rfl hE (v := (.bool (x4 == x5))) (ex_move rfl hE rfl) ?_
      intro a hE
      obtain ⟨m1, hg1, hm⟩ := bnd hm
      refine q_cut [_, _, _, _, _, _, _, _, _, _] (fun a => Env 56 [(45, (.bool m1)), (7, (.int .i64 x2.1)), (8, (.bool x2.2)), (9, (.int .i64 x3.1)), (10, (.bool x3.2))] a) ?_ ?_
      · rcases Bool.eq_false_or_eq_true (x4 == x5) with hb3 | hb3
        ·
          replace hg1 := (it hb3).symm.trans hg1
          refine q_val (wk1 hE rfl rfl rfl hb3) rfl rfl hE (v := (.agg #[(.int .i64 p0.kind), (.int .i64 p0.most), (.int .i64 p0.pause), (.int .i64 p0.keep)])) (ex_load rfl hE rfl (fun w hw => run_ldN (cs := [(.int .i64 p0.kind), (.int .i64 p0.most), (.int .i64 p0.pause), (.int .i64 p0.keep)]) varty23 (Hp.cN 0 rfl 0 _ (sub_all rfl) w hw))) ?_
          intro a hE
          refine q_val (wk1 hE rfl rfl rfl hb3) rfl rfl hE (v := vp1) (ex_move rfl hE rfl) ?_
          intro a hE
          refine q_val (wk1 hE rfl rfl rfl hb3) rfl rfl hE (v := (.int .i64 p2)) (ex_move rfl hE rfl) ?_
          intro a hE
          obtain ⟨x6, ex6, hg1⟩ := bnd hg1
          refine q_call (wk1 hE rfl rfl rfl hb3) rfl rfl hE rfl [(.agg #[(.int .i64 p0.kind), (.int .i64 p0.most), (.int .i64 p0.pause), (.int .i64 p0.keep)]), vp1, (.int .i64 p2)] ⟨rfl, rfl, rfl, trivial⟩ ent25 (v := (.int .i64 x6)) (fun w hw => Calls.mono (c_attempts_Allowed p0 p1 vp1 hp1 p2 hw x6 ex6) fun e w' ⟨v, he, hv, hh⟩ => ⟨by rw [he, hv], hh⟩) ?_
          intro a hE
          refine q_val (wk1 hE rfl rfl rfl hb3) rfl rfl hE (v := (.agg #[(.int .i64 p0.kind), (.int .i64 p0.most), (.int .i64 p0.pause), (.int .i64 p0.keep)])) (ex_load rfl hE rfl (fun w hw => run_ldN (cs := [(.int .i64 p0.kind), (.int .i64 p0.most), (.int .i64 p0.pause), (.int .i64 p0.keep)]) varty23 (Hp.cN 0 rfl 0 _ (sub_all rfl) w hw))) ?_
          intro a hE
          refine q_val (wk1 hE rfl rfl rfl hb3) rfl rfl hE (v := vp1) (ex_move rfl hE rfl) ?_
          intro a hE
          refine q_val (wk1 hE rfl rfl rfl hb3) rfl rfl hE (v := (.int .i64 p2)) (ex_move rfl hE rfl) ?_
          intro a hE
          obtain ⟨x7, ex7, hg1⟩ := bnd hg1
          refine q_call (wk1 hE rfl rfl rfl hb3) rfl rfl hE rfl [(.agg #[(.int .i64 p0.kind), (.int .i64 p0.most), (.int .i64 p0.pause), (.int .i64 p0.keep)]), vp1, (.int .i64 p2)] ⟨rfl, rfl, rfl, trivial⟩ ent26 (v := (.int .i64 x7)) (fun w hw => Calls.mono (c_assessorref52_Allowed p0 p1 vp1 hp1 p2 hw x7 ex7) fun e w' ⟨v, he, hv, hh⟩ => ⟨by rw [he, hv], hh⟩) ?_
          intro a hE
          refine q_val (wk1 hE rfl rfl rfl hb3) rfl rfl hE (v := (.bool (decide (x6 = x7)))) (ex_eql rfl hE rfl rfl) ?_
          intro a hE
          refine q_val (wk0 rfl) rfl rfl hE (v := (.bool (decide (x6 = x7)))) (ex_pick1 rfl hE rfl hb3 rfl) ?_
          intro a hE
          obtain rfl := Option.some.inj hg1
          exact q_nil (hE.cut ⟨rfl, rfl, rfl, rfl, rfl, trivial⟩)
        ·
          replace hg1 := (ie hb3).symm.trans hg1
          refine q_skip (wk2 hE rfl rfl rfl hb3) rfl rfl hE ?_
          intro a hE
          refine q_skip (wk2 hE rfl rfl rfl hb3) rfl rfl hE ?_
          intro a hE
          refine q_skip (wk2 hE rfl rfl rfl hb3) rfl rfl hE ?_
          intro a hE
          refine q_skip (wk2 hE rfl rfl rfl hb3) rfl rfl hE ?_
          intro a hE
          refine q_skip (wk2 hE rfl rfl rfl hb3) rfl rfl hE ?_
          intro a hE
          refine q_skip (wk2 hE rfl rfl rfl hb3) rfl rfl hE ?_
          intro a hE
          refine q_skip (wk2 hE rfl rfl rfl hb3) rfl rfl hE ?_
          intro a hE
          refine q_skip (wk2 hE rfl rfl rfl hb3) rfl rfl hE ?_
          intro a hE
          refine q_skip (wk2 hE rfl rfl rfl hb3) rfl rfl hE ?_
          intro a hE
          refine q_val (wk0 rfl) rfl rfl hE (v := (.bool false)) (ex_pick0 rfl hE rfl hb3 rfl) ?_
          intro a hE
          obtain rfl := Option.some.inj hg1
          exact q_nil (hE.cut ⟨rfl, rfl, rfl, rfl, rfl, trivial⟩)
      · intro a hE
        refine q_val (wk0 rfl) rfl rfl hE (v := (.bool m1)) (ex_move rfl hE rfl) ?_
        intro a hE
        refine q_cut [_, _, _, _] (fun a => Env 56 [(50, (.bool (m1 && (decide (x2.1 = x3.1))))), (8, (.bool x2.2)), (10, (.bool x3.2))] a) ?_ ?_
        · rcases Bool.eq_false_or_eq_true m1 with hb4 | hb4
          ·
            refine q_val (wk1 hE rfl rfl rfl hb4) rfl rfl hE (v := (.int .i64 x2.1)) (ex_move rfl hE rfl) ?_
            intro a hE
            refine q_val (wk1 hE rfl rfl rfl hb4) rfl rfl hE (v := (.int .i64 x3.1)) (ex_move rfl hE rfl) ?_
            intro a hE
            refine q_val (wk1 hE rfl rfl rfl hb4) rfl rfl hE (v := (.bool (decide (x2.1 = x3.1)))) (ex_eql rfl hE rfl rfl) ?_
            intro a hE
            refine q_val (wk0 rfl) rfl rfl hE (v := (.bool (decide (x2.1 = x3.1)))) (ex_pick1 rfl hE rfl hb4 rfl) ?_
            intro a hE
            have hE := hE.eqv (v' := (.bool (m1 && (decide (x2.1 = x3.1))))) (by rw [hb4]; rfl)
            exact q_nil (hE.cut ⟨rfl, rfl, rfl, trivial⟩)
          ·
            refine q_skip (wk2 hE rfl rfl rfl hb4) rfl rfl hE ?_
            intro a hE
            refine q_skip (wk2 hE rfl rfl rfl hb4) rfl rfl hE ?_
            intro a hE
            refine q_skip (wk2 hE rfl rfl rfl hb4) rfl rfl hE ?_
            intro a hE
            refine q_val (wk0 rfl) rfl rfl hE (v := (.bool false)) (ex_pick0 rfl hE rfl hb4 rfl) ?_
            intro a hE
            have hE := hE.eqv (v' := (.bool (m1 && (decide (x2.1 = x3.1))))) (by rw [hb4]; rfl)
            exact q_nil (hE.cut ⟨rfl, rfl, rfl, trivial⟩)
        · intro a hE
          refine q_val (wk0 rfl) rfl rfl hE (v := (.bool (m1 && (decide (x2.1 = x3.1))))) (ex_move rfl hE rfl) ?_
          intro a hE
          refine q_cut [_, _, _, _] (fun a => Env 56 [(55, (.bool ((m1 && (decide (x2.1 = x3.1))) && (x2.2 == x3.2))))] a) ?_ ?_
          · rcases Bool.eq_false_or_eq_true (m1 && (decide (x2.1 = x3.1))) with hb5 | hb5
            ·
              refine q_val (wk1 hE rfl rfl rfl hb5) rfl rfl hE (v := (.bool x2.2)) (ex_move rfl hE rfl) ?_
              intro a hE
              refine q_val (wk1 hE rfl rfl rfl hb5) rfl rfl hE (v := (.bool x3.2)) (ex_move rfl hE rfl) ?_
              intro a hE
              refine q_val (wk1 hE rfl rfl rfl hb5) rfl rfl hE (v := (.bool (x2.2 == x3.2))) (ex_beql bty4 rfl hE rfl rfl) ?_
              intro a hE
              refine q_val (wk0 rfl) rfl rfl hE (v := (.bool (x2.2 == x3.2))) (ex_pick1 rfl hE rfl hb5 rfl) ?_
              intro a hE
              have hE := hE.eqv (v' := (.bool ((m1 && (decide (x2.1 = x3.1))) && (x2.2 == x3.2)))) (by rw [hb5]; rfl)
              exact q_nil (hE.cut ⟨rfl, trivial⟩)
            ·
              refine q_skip (wk2 hE rfl rfl rfl hb5) rfl rfl hE ?_
              intro a hE
              refine q_skip (wk2 hE rfl rfl rfl hb5) rfl rfl hE ?_
              intro a hE
              refine q_skip (wk2 hE rfl rfl rfl hb5) rfl rfl hE ?_
              intro a hE
              refine q_val (wk0 rfl) rfl rfl hE (v := (.bool false)) (ex_pick0 rfl hE rfl hb5 rfl) ?_
              intro a hE
              have hE := hE.eqv (v' := (.bool ((m1 && (decide (x2.1 = x3.1))) && (x2.2 == x3.2)))) (by rw [hb5]; rfl)
              exact q_nil (hE.cut ⟨rfl, trivial⟩)
          · intro a hE
            refine q_val (wk0 rfl) rfl rfl hE (v := (.bool ((m1 && (decide (x2.1 = x3.1))) && (x2.2 == x3.2)))) (ex_asn rfl hE rfl) ?_
            intro a hE
            refine q_nil fun w hp => ?_
            have hp : Hp Z ρ (Pt b1 (.cells #[(.int .i64 p0.kind), (.int .i64 p0.most), (.int .i64 p0.pause), (.int .i64 p0.keep)] 23 (0, 0)) :: L) w := hp
            refine k_ret ?_
            obtain rfl := Option.some.inj hm
            exact ret1 hE rfl rfl ⟨_, rfl, rfl, (hp.drop)⟩
end Go.Proofs.Ytmjmoogldbejoaa

/-
  The code goes as its model: assessor/assessorlaw52.AttemptsNeeded. (Printed by wip/sp/gen.py.)
-/
import Derived.Test.YtmjmoogldbejoaaWNM
import Derived.Test.YtmjmoogldbejoaaFct
import Derived.Test.YtmjmoogldbejoaaWS
set_option linter.unusedVariables false
set_option linter.unusedSimpArgs false
namespace Go.Proofs.Ytmjmoogldbejoaa
open Go.RowKit

/- assessor/assessorlaw52.AttemptsNeeded -/
set_option maxRecDepth 100000 in
set_option maxHeartbeats 4000000 in
theorem c_assessorlaw52_AttemptsNeeded {Z : World} {ρ : PH} {L : List Atom} {w : World} (p0 : Rule) (p1 : (List Att)) (vp1 : Value) (hp1 : RoSl ρ vp1 p1) (p2 : Int) (hp : Hp Z ρ (L) w) (r : Bool) (hm : m_assessorlaw52_AttemptsNeeded p0 p1 p2 = some r) :
    Calls Try.prog 5 #[(.agg #[(.int .i64 p0.kind), (.int .i64 p0.most), (.int .i64 p0.pause), (.int .i64 p0.keep)]), vp1, (.int .i64 p2)] w (Ret fun v w' => v = (.bool r) ∧ Hp Z ρ (L) w') := by
  refine enter (N := 103) Try.func5 rfl rfl [(0, (.agg #[(.int .i64 p0.kind), (.int .i64 p0.most), (.int .i64 p0.pause), (.int .i64 p0.keep)])), (1, vp1), (2, (.int .i64 p2))] rfl (argsIn_mem ⟨rfl, rfl, rfl, trivial⟩) fun a hE => ?_
  unfold m_assessorlaw52_AttemptsNeeded at hm
  refine k_seq ?_
  refine k_region ?_
  refine s_box (wk0 rfl) rfl rfl hE hp rfl (v := (.agg #[(.int .i64 p0.kind), (.int .i64 p0.most), (.int .i64 p0.pause), (.int .i64 p0.keep)])) rfl ?_
  intro a w b1 hE hp
  have hp : Hp Z ρ (Pt b1 (.cells #[(.int .i64 p0.kind), (.int .i64 p0.most), (.int .i64 p0.pause), (.int .i64 p0.keep)] 23 (0, 0)) :: L) w := hp
  refine s_val (wk0 rfl) rfl rfl hE hp (v := (.bool false)) (ex_asn rfl hE rfl) ?_
  intro a hE
  refine s_nil ?_
  refine k_seq ?_
  refine k_seq ?_
  refine k_region ?_
  obtain ⟨x1, ex1, hm⟩ := bnd hm
  refine s_call (wk0 rfl) rfl rfl hE rfl [] trivial ent10 (c_assessorlaw52_awake  hp x1 ex1) Ret.ret ?_
  intro v a w hR hE
  obtain ⟨rfl, hp⟩ := Ret.of hR
  have hp : Hp Z ρ (Pt b1 (.cells #[(.int .i64 p0.kind), (.int .i64 p0.most), (.int .i64 p0.pause), (.int .i64 p0.keep)] 23 (0, 0)) :: L) w := hp
  refine s_val (wk0 rfl) rfl rfl hE hp (v := (.bool (!x1))) (ex_not rfl hE rfl) ?_
  intro a hE
  refine s_nil ?_
  refine k_if hE rfl (fun hb1 => ?_) (fun hb1 => ?_)
  · replace hm := (it hb1).symm.trans hm
    refine k_seq ?_
    refine k_region ?_
    refine s_val (wk0 rfl) rfl rfl hE hp (v := (.bool false)) (ex_asn rfl hE rfl) ?_
    intro a hE
    refine s_nil ?_
    refine k_ret ?_
    obtain rfl := Option.some.inj hm
    exact ret1 hE rfl rfl ⟨_, rfl, rfl, (hp.drop)⟩
  · replace hm := (ie hb1).symm.trans hm
    refine k_skip ?_
    refine k_seq ?_
    refine k_seq ?_
    refine k_region ?_
    refine s_val (wk0 rfl) rfl rfl hE hp (v := vp1) (ex_move rfl hE rfl) ?_
    intro a hE
    refine s_val (wk0 rfl) rfl rfl hE hp (v := (.int .i64 (p1.length : Int))) (ex_len rfl hE rfl (RoSl.len hp1 slty24)) ?_
    intro a hE
    refine s_val (wk0 rfl) rfl rfl hE hp (v := (.bool (decide (20 < (p1.length : Int))))) (ex_gtr rfl hE rfl rfl) ?_
    intro a hE
    refine s_nil ?_
    refine k_if hE rfl (fun hb2 => ?_) (fun hb2 => ?_)
    · replace hm := (it hb2).symm.trans hm
      refine k_seq ?_
      refine k_region ?_
      refine s_val (wk0 rfl) rfl rfl hE hp (v := (.bool true)) (ex_asn rfl hE rfl) ?_
      intro a hE
      refine s_nil ?_
      refine k_ret ?_
      obtain rfl := Option.some.inj hm
      exact ret1 hE rfl rfl ⟨_, rfl, rfl, (hp.drop)⟩
    · replace hm := (ie hb2).symm.trans hm
      refine k_skip ?_
      refine k_seq ?_
      refine k_region ?_
      refine s_val (wk0 rfl) rfl rfl hE hp (v := (.agg #[(.int .i64 p0.kind), (.int .i64 p0.most), (.int .i64 p0.pause), (.int .i64 p0.keep)])) (ex_load rfl hE rfl (fun w hw => run_ldN (cs := [(.int .i64 p0.kind), (.int .i64 p0.most), (.int .i64 p0.pause), (.int .i64 p0.keep)]) varty23 (Hp.cN 0 rfl 0 _ (sub_all rfl) w hw))) ?_
      intro a hE
      refine s_val (wk0 rfl) rfl rfl hE hp (v := vp1) (ex_move rfl hE rfl) ?_
      intro a hE
      refine s_val (wk0 rfl) rfl rfl hE hp (v := (.int .i64 p2)) (ex_move rfl hE rfl) ?_
      intro a hE
      obtain ⟨x2, ex2, hm⟩ := bnd hm
      refine s_call (wk0 rfl) rfl rfl hE rfl [(.agg #[(.int .i64 p0.kind), (.int .i64 p0.most), (.int .i64 p0.pause), (.int .i64 p0.keep)]), vp1, (.int .i64 p2)] ⟨rfl, rfl, rfl, trivial⟩ ent13 (c_attempts_Needed p0 p1 vp1 hp1 p2 hp x2 ex2) Ret.ret ?_
      intro v a w hR hE
      obtain ⟨rfl, hp⟩ := Ret.of hR
      have hp : Hp Z ρ (Pt b1 (.cells #[(.int .i64 p0.kind), (.int .i64 p0.most), (.int .i64 p0.pause), (.int .i64 p0.keep)] 23 (0, 0)) :: L) w := hp
      refine s_val (wk0 rfl) rfl rfl hE hp (v := (.tuple #[(.int .i64 x2.1), (.bool x2.2)])) (ex_move rfl hE rfl) ?_
      intro a hE
      refine s_val (wk0 rfl) rfl rfl hE hp (v := (.int .i64 x2.1)) (ex_extract rfl hE rfl rfl) ?_
      intro a hE
      refine s_val (wk0 rfl) rfl rfl hE hp (v := (.bool x2.2)) (ex_extract rfl hE rfl rfl) ?_
      intro a hE
      refine s_val (wk0 rfl) rfl rfl hE hp (v := (.int .i64 x2.1)) (ex_asn rfl hE rfl) ?_
      intro a hE
      refine s_val (wk0 rfl) rfl rfl hE hp (v := (.bool x2.2)) (ex_asn rfl hE rfl) ?_
      intro a hE
      refine s_nil ?_
      refine k_seq ?_
      refine k_seq ?_
      refine k_region ?_
      refine s_val (wk0 rfl) rfl rfl hE hp (v := (.agg #[(.int .i64 p0.kind), (.int .i64 p0.most), (.int .i64 p0.pause), (.int .i64 p0.keep)])) (ex_load rfl hE rfl (fun w hw => run_ldN (cs := [(.int .i64 p0.kind), (.int .i64 p0.most), (.int .i64 p0.pause), (.int .i64 p0.keep)]) varty23 (Hp.cN 0 rfl 0 _ (sub_all rfl) w hw))) ?_
      intro a hE
      refine s_val (wk0 rfl) rfl rfl hE hp (v := vp1) (ex_move rfl hE rfl) ?_
      intro a hE
      obtain ⟨x3, ex3, hm⟩ := bnd hm
      refine s_call (wk0 rfl) rfl rfl hE rfl [(.agg #[(.int .i64 p0.kind), (.int .i64 p0.most), (.int .i64 p0.pause), (.int .i64 p0.keep)]), vp1] ⟨rfl, rfl, trivial⟩ ent18 (c_attempts_Valid p0 p1 vp1 hp1 hp x3 ex3) Ret.ret ?_
      intro v a w hR hE
      obtain ⟨rfl, hp⟩ := Ret.of hR
      have hp : Hp Z ρ (Pt b1 (.cells #[(.int .i64 p0.kind), (.int .i64 p0.most), (.int .i64 p0.pause), (.int .i64 p0.keep)] 23 (0, 0)) :: L) w := hp
      refine s_val (wk0 rfl) rfl rfl hE hp (v := (.bool (!x3))) (ex_not rfl hE rfl) ?_
      intro a hE
      refine s_val (wk0 rfl) rfl rfl hE hp (v := (.bool (!x3))) (ex_move rfl hE rfl) ?_
      intro a hE
      refine s_cut [_, _, _, _, _, _] (fun a w => Env 103 [(35, (.bool ((!x3) || (decide ((p1.length : Int) = p0.most))))), (1, vp1), (2, (.int .i64 p2)), (3, (.pointer (some ⟨b1, 0, none⟩))), (7, (.int .i64 x2.1)), (8, (.bool x2.2))] a ∧ Hp Z ρ (Pt b1 (.cells #[(.int .i64 p0.kind), (.int .i64 p0.most), (.int .i64 p0.pause), (.int .i64 p0.keep)] 23 (0, 0)) :: L) w) ?_ ?_
      · rcases Bool.eq_false_or_eq_true (!x3) with hb3 | hb3
        ·
          refine s_skip (wk2 hE rfl rfl rfl hb3) rfl rfl hE ?_
          intro a hE
          refine s_skip (wk2 hE rfl rfl rfl hb3) rfl rfl hE ?_
          intro a hE
          refine s_skip (wk2 hE rfl rfl rfl hb3) rfl rfl hE ?_
          intro a hE
          refine s_skip (wk2 hE rfl rfl rfl hb3) rfl rfl hE ?_
          intro a hE
          refine s_skip (wk2 hE rfl rfl rfl hb3) rfl rfl hE ?_
          intro a hE
          refine s_val (wk0 rfl) rfl rfl hE hp (v := (.bool true)) (ex_pick1 rfl hE rfl hb3 rfl) ?_
          intro a hE
          have hE := hE.eqv (v' := (.bool ((!x3) || (decide ((p1.length : Int) = p0.most))))) (by rw [hb3]; rfl)
          exact s_nil ⟨hE.cut ⟨rfl, rfl, rfl, rfl, rfl, rfl, trivial⟩, hp⟩
        ·
          refine s_val (wk1 hE rfl rfl rfl hb3) rfl rfl hE hp (v := vp1) (ex_move rfl hE rfl) ?_
          intro a hE
          refine s_val (wk1 hE rfl rfl rfl hb3) rfl rfl hE hp (v := (.int .i64 (p1.length : Int))) (ex_len rfl hE rfl (RoSl.len hp1 slty24)) ?_
          intro a hE
          refine s_val (wk1 hE rfl rfl rfl hb3) rfl rfl hE hp (v := (.pointer (some ⟨b1, 1, none⟩))) (ex_field rfl hE rfl (fldty23_1 _ _)) ?_
          intro a hE
          refine s_val (wk1 hE rfl rfl rfl hb3) rfl rfl hE hp (v := (.int .i64 p0.most)) (ex_load rfl hE rfl (fun w hw => run_ld1 varty3 (Hp.c 0 rfl 1 rfl w hw))) ?_
          intro a hE
          refine s_val (wk1 hE rfl rfl rfl hb3) rfl rfl hE hp (v := (.bool (decide ((p1.length : Int) = p0.most)))) (ex_eql rfl hE rfl rfl) ?_
          intro a hE
          refine s_val (wk0 rfl) rfl rfl hE hp (v := (.bool (decide ((p1.length : Int) = p0.most)))) (ex_pick0 rfl hE rfl hb3 rfl) ?_
          intro a hE
          have hE := hE.eqv (v' := (.bool ((!x3) || (decide ((p1.length : Int) = p0.most))))) (by rw [hb3]; rfl)
          exact s_nil ⟨hE.cut ⟨rfl, rfl, rfl, rfl, rfl, rfl, trivial⟩, hp⟩
      · rintro a w ⟨hE, hp⟩
        refine s_nil ?_
        refine k_if hE rfl (fun hb4 => ?_) (fun hb4 => ?_)
        · replace hm := (it hb4).symm.trans hm
          refine k_seq ?_
          refine k_region ?_
          refine s_val (wk0 rfl) rfl rfl hE hp (v := (.bool x2.2)) (ex_move rfl hE rfl) ?_
          intro a hE
          refine s_val (wk0 rfl) rfl rfl hE hp (v := (.bool (!x2.2))) (ex_not rfl hE rfl) ?_
          intro a hE
          refine s_val (wk0 rfl) rfl rfl hE hp (v := (.bool (!x2.2))) (ex_move rfl hE rfl) ?_
          intro a hE
          refine s_cut [_, _, _] (fun a w => Env 103 [(41, (.bool ((!x2.2) && (decide (x2.1 = 0)))))] a ∧ Hp Z ρ (Pt b1 (.cells #[(.int .i64 p0.kind), (.int .i64 p0.most), (.int .i64 p0.pause), (.int .i64 p0.keep)] 23 (0, 0)) :: L) w) ?_ ?_
          · rcases Bool.eq_false_or_eq_true (!x2.2) with hb5 | hb5
            ·
              refine s_val (wk1 hE rfl rfl rfl hb5) rfl rfl hE hp (v := (.int .i64 x2.1)) (ex_move rfl hE rfl) ?_
              intro a hE
              refine s_val (wk1 hE rfl rfl rfl hb5) rfl rfl hE hp (v := (.bool (decide (x2.1 = 0)))) (ex_eql rfl hE rfl rfl) ?_
              intro a hE
              refine s_val (wk0 rfl) rfl rfl hE hp (v := (.bool (decide (x2.1 = 0)))) (ex_pick1 rfl hE rfl hb5 rfl) ?_
              intro a hE
              have hE := hE.eqv (v' := (.bool ((!x2.2) && (decide (x2.1 = 0))))) (by rw [hb5]; rfl)
              exact s_nil ⟨hE.cut ⟨rfl, trivial⟩, hp⟩
            ·
              refine s_skip (wk2 hE rfl rfl rfl hb5) rfl rfl hE ?_
              intro a hE
              refine s_skip (wk2 hE rfl rfl rfl hb5) rfl rfl hE ?_
              intro a hE
              refine s_val (wk0 rfl) rfl rfl hE hp (v := (.bool false)) (ex_pick0 rfl hE rfl hb5 rfl) ?_
              intro a hE
              have hE := hE.eqv (v' := (.bool ((!x2.2) && (decide (x2.1 = 0))))) (by rw [hb5]; rfl)
              exact s_nil ⟨hE.cut ⟨rfl, trivial⟩, hp⟩
          · rintro a w ⟨hE, hp⟩
            refine s_val (wk0 rfl) rfl rfl hE hp (v := (.bool ((!x2.2) && (decide (x2.1 = 0))))) (ex_asn rfl hE rfl) ?_
            intro a hE
            refine s_nil ?_
            refine k_ret ?_
            obtain rfl := Option.some.inj hm
            exact ret1 hE rfl rfl ⟨_, rfl, rfl, (hp.drop)⟩
        · replace hm := (ie hb4).symm.trans hm
          refine k_skip ?_
          refine k_seq ?_
          refine k_seq ?_
          refine k_region ?_
          refine s_val (wk0 rfl) rfl rfl hE hp (v := (.bool x2.2)) (ex_move rfl hE rfl) ?_
          intro a hE
          refine s_val (wk0 rfl) rfl rfl hE hp (v := (.bool (!x2.2))) (ex_not rfl hE rfl) ?_
          intro a hE
          refine s_nil ?_
          refine k_if hE rfl (fun hb6 => ?_) (fun hb6 => ?_)
          · replace hm := (it hb6).symm.trans hm
            refine k_seq ?_
            obtain ⟨x4, ex4, hm⟩ := bnd hm
            obtain ⟨x5, ex5, hm⟩ := bnd hm
            refine k_held (Z := Z) (ρ := ρ) (Pt b1 (.cells #[(.int .i64 p0.kind), (.int .i64 p0.most), (.int .i64 p0.pause), (.int .i64 p0.keep)] 23 (0, 0)) :: L) (fun a w => ∃ y2 : Value, Env 103 [(2, (.int .i64 p2)), (7, (.int .i64 x2.1)), (9, (.int .i64 x5.1)), (10, (.int .i64 x5.2))] a ∧ Hp Z ρ (OwnSl 38 y2 x4 :: Pt b1 (.cells #[(.int .i64 p0.kind), (.int .i64 p0.most), (.int .i64 p0.pause), (.int .i64 p0.keep)] 23 (0, 0)) :: L) w) (by kernel_rfl) ?_ ?_
            ·
              have hp := hp.drew
              have hS : Hp Z ρ (Pt b1 (.cells #[(.int .i64 p0.kind), (.int .i64 p0.most), (.int .i64 p0.pause), (.int .i64 p0.keep)] 23 (0, 0)) :: L) w.drew := hp
              refine h_take 0 (wk0 rfl) rfl rfl rfl hE (by kernel_rfl) (by kernel_rfl) (by kernel_rfl) hS (v := (.agg #[(.int .i64 p0.kind), (.int .i64 p0.most), (.int .i64 p0.pause), (.int .i64 p0.keep)])) (ex_load rfl hE rfl (fun w hw => run_ldN (cs := [(.int .i64 p0.kind), (.int .i64 p0.most), (.int .i64 p0.pause), (.int .i64 p0.keep)]) varty23 (Hp.cN 0 rfl 0 _ (sub_all rfl) w hw))) ?_
              intro a hE
              refine h_take 1 (wk0 rfl) rfl rfl rfl hE (by kernel_rfl) (by kernel_rfl) (by kernel_rfl) hS (v := vp1) (ex_move rfl hE rfl) ?_
              intro a hE
              refine h_all [2] (by kernel_rfl) rfl ?_
              refine List.forall_mem_cons.2 ⟨?_, fun _ h => absurd h (by simp)⟩
              ·
                refine h_op rfl ?_
                refine s_call (wk0 rfl) rfl rfl hE rfl [vp1, (.int .i64 100000000)] ⟨rfl, rfl, trivial⟩ ent20 (c_assessorlaw52_next p1 vp1 hp1 100000000 hp x4 ex4) Ret.ret ?_
                intro v2 a w hR hE
                obtain ⟨u, hu, hp⟩ := Ret.of hR
                rw [← hu] at hp
                have hp : Hp Z ρ (OwnSl 38 v2 x4 :: Pt b1 (.cells #[(.int .i64 p0.kind), (.int .i64 p0.most), (.int .i64 p0.pause), (.int .i64 p0.keep)] 23 (0, 0)) :: L) w := hp
                refine s_nil ⟨(hp.drop), ?_⟩
                have hS := (hp.drop)
                refine h_all [3] (by kernel_rfl) rfl ?_
                refine List.forall_mem_cons.2 ⟨?_, fun _ h => absurd h (by simp)⟩
                ·
                  refine h_op rfl ?_
                  obtain ⟨k2, k2a, k2d, k2h⟩ := (hp.get 0 rfl).lend
                  refine s_call (wk0 rfl) rfl rfl hE rfl [(.agg #[(.int .i64 p0.kind), (.int .i64 p0.most), (.int .i64 p0.pause), (.int .i64 p0.keep)]), v2] ⟨rfl, rfl, trivial⟩ ent11 (c_attempts_Final p0 x4 v2 (OwnSl.ro k2d k2a) k2h x5 ex5) Ret.ret ?_
                  intro v a w hR hE
                  obtain ⟨rfl, hp⟩ := Ret.of hR
                  have hp := Hp.back k2a k2d hp
                  have hp : Hp Z ρ (OwnSl 38 v2 x4 :: Pt b1 (.cells #[(.int .i64 p0.kind), (.int .i64 p0.most), (.int .i64 p0.pause), (.int .i64 p0.keep)] 23 (0, 0)) :: L) w := hp
                  have hp : Hp Z ρ (OwnSl 38 v2 x4 :: Pt b1 (.cells #[(.int .i64 p0.kind), (.int .i64 p0.most), (.int .i64 p0.pause), (.int .i64 p0.keep)] 23 (0, 0)) :: L) w := hp
                  refine s_nil ⟨(hp.drop), ?_⟩
                  have hS := (hp.drop)
                  refine h_take 4 (wk0 rfl) rfl rfl rfl hE (by kernel_rfl) (by kernel_rfl) (by kernel_rfl) hS (v := (.tuple #[(.int .i64 x5.1), (.int .i64 x5.2)])) (ex_move rfl hE rfl) ?_
                  intro a hE
                  refine h_take 5 (wk0 rfl) rfl rfl rfl hE (by kernel_rfl) (by kernel_rfl) (by kernel_rfl) hS (v := (.int .i64 x5.1)) (ex_extract rfl hE rfl rfl) ?_
                  intro a hE
                  refine h_take 6 (wk0 rfl) rfl rfl rfl hE (by kernel_rfl) (by kernel_rfl) (by kernel_rfl) hS (v := (.int .i64 x5.2)) (ex_extract rfl hE rfl rfl) ?_
                  intro a hE
                  refine h_take 7 (wk0 rfl) rfl rfl rfl hE (by kernel_rfl) (by kernel_rfl) (by kernel_rfl) hS (v := (.int .i64 x5.1)) (ex_asn rfl hE rfl) ?_
                  intro a hE
                  refine h_take 8 (wk0 rfl) rfl rfl rfl hE (by kernel_rfl) (by kernel_rfl) (by kernel_rfl) hS (v := (.int .i64 x5.2)) (ex_asn rfl hE rfl) ?_
                  intro a hE
                  exact h_done (by kernel_rfl) ⟨_, hE.cut ⟨rfl, rfl, rfl, rfl, trivial⟩, hp⟩
            · rintro a w ⟨y2, hE, hp⟩
              refine k_seq ?_
              refine k_region ?_
              refine s_val (wk0 rfl) rfl rfl hE hp (v := (.int .i64 x2.1)) (ex_move rfl hE rfl) ?_
              intro a hE
              refine s_val (wk0 rfl) rfl rfl hE hp (v := (.bool (decide (x2.1 = 0)))) (ex_eql rfl hE rfl rfl) ?_
              intro a hE
              refine s_val (wk0 rfl) rfl rfl hE hp (v := (.bool (decide (x2.1 = 0)))) (ex_move rfl hE rfl) ?_
              intro a hE
              refine s_cut [_, _, _] (fun a w => Env 103 [(56, (.bool ((decide (x2.1 = 0)) && (decide (x5.2 = 0))))), (2, (.int .i64 p2)), (9, (.int .i64 x5.1))] a ∧ Hp Z ρ (OwnSl 38 y2 x4 :: Pt b1 (.cells #[(.int .i64 p0.kind), (.int .i64 p0.most), (.int .i64 p0.pause), (.int .i64 p0.keep)] 23 (0, 0)) :: L) w) ?_ ?_
              · rcases Bool.eq_false_or_eq_true (decide (x2.1 = 0)) with hb7 | hb7
                ·
                  refine s_val (wk1 hE rfl rfl rfl hb7) rfl rfl hE hp (v := (.int .i64 x5.2)) (ex_move rfl hE rfl) ?_
                  intro a hE
                  refine s_val (wk1 hE rfl rfl rfl hb7) rfl rfl hE hp (v := (.bool (decide (x5.2 = 0)))) (ex_eql rfl hE rfl rfl) ?_
                  intro a hE
                  refine s_val (wk0 rfl) rfl rfl hE hp (v := (.bool (decide (x5.2 = 0)))) (ex_pick1 rfl hE rfl hb7 rfl) ?_
                  intro a hE
                  have hE := hE.eqv (v' := (.bool ((decide (x2.1 = 0)) && (decide (x5.2 = 0))))) (by rw [hb7]; rfl)
                  exact s_nil ⟨hE.cut ⟨rfl, rfl, rfl, trivial⟩, hp⟩
                ·
                  refine s_skip (wk2 hE rfl rfl rfl hb7) rfl rfl hE ?_
                  intro a hE
                  refine s_skip (wk2 hE rfl rfl rfl hb7) rfl rfl hE ?_
                  intro a hE
                  refine s_val (wk0 rfl) rfl rfl hE hp (v := (.bool false)) (ex_pick0 rfl hE rfl hb7 rfl) ?_
                  intro a hE
                  have hE := hE.eqv (v' := (.bool ((decide (x2.1 = 0)) && (decide (x5.2 = 0))))) (by rw [hb7]; rfl)
                  exact s_nil ⟨hE.cut ⟨rfl, rfl, rfl, trivial⟩, hp⟩
              · rintro a w ⟨hE, hp⟩
                refine s_val (wk0 rfl) rfl rfl hE hp (v := (.bool ((decide (x2.1 = 0)) && (decide (x5.2 = 0))))) (ex_move rfl hE rfl) ?_
                intro a hE
                refine s_cut [_, _, _, _] (fun a w => Env 103 [(61, (.bool (((decide (x2.1 = 0)) && (decide (x5.2 = 0))) && (decide (x5.1 < p2)))))] a ∧ Hp Z ρ (OwnSl 38 y2 x4 :: Pt b1 (.cells #[(.int .i64 p0.kind), (.int .i64 p0.most), (.int .i64 p0.pause), (.int .i64 p0.keep)] 23 (0, 0)) :: L) w) ?_ ?_
                · rcases Bool.eq_false_or_eq_true ((decide (x2.1 = 0)) && (decide (x5.2 = 0))) with hb8 | hb8
                  ·
                    refine s_val (wk1 hE rfl rfl rfl hb8) rfl rfl hE hp (v := (.int .i64 x5.1)) (ex_move rfl hE rfl) ?_
                    intro a hE
                    refine s_val (wk1 hE rfl rfl rfl hb8) rfl rfl hE hp (v := (.int .i64 p2)) (ex_move rfl hE rfl) ?_
                    intro a hE
                    refine s_val (wk1 hE rfl rfl rfl hb8) rfl rfl hE hp (v := (.bool (decide (x5.1 < p2)))) (ex_lss rfl hE rfl rfl) ?_
                    intro a hE
                    refine s_val (wk0 rfl) rfl rfl hE hp (v := (.bool (decide (x5.1 < p2)))) (ex_pick1 rfl hE rfl hb8 rfl) ?_
                    intro a hE
                    have hE := hE.eqv (v' := (.bool (((decide (x2.1 = 0)) && (decide (x5.2 = 0))) && (decide (x5.1 < p2))))) (by rw [hb8]; rfl)
                    exact s_nil ⟨hE.cut ⟨rfl, trivial⟩, hp⟩
                  ·
                    refine s_skip (wk2 hE rfl rfl rfl hb8) rfl rfl hE ?_
                    intro a hE
                    refine s_skip (wk2 hE rfl rfl rfl hb8) rfl rfl hE ?_
                    intro a hE
                    refine s_skip (wk2 hE rfl rfl rfl hb8) rfl rfl hE ?_
                    intro a hE
                    refine s_val (wk0 rfl) rfl rfl hE hp (v := (.bool false)) (ex_pick0 rfl hE rfl hb8 rfl) ?_
                    intro a hE
                    have hE := hE.eqv (v' := (.bool (((decide (x2.1 = 0)) && (decide (x5.2 = 0))) && (decide (x5.1 < p2))))) (by rw [hb8]; rfl)
                    exact s_nil ⟨hE.cut ⟨rfl, trivial⟩, hp⟩
                · rintro a w ⟨hE, hp⟩
                  refine s_val (wk0 rfl) rfl rfl hE hp (v := (.bool (((decide (x2.1 = 0)) && (decide (x5.2 = 0))) && (decide (x5.1 < p2))))) (ex_asn rfl hE rfl) ?_
                  intro a hE
                  refine s_nil ?_
                  refine k_ret ?_
                  obtain rfl := Option.some.inj hm
                  exact ret1 hE rfl rfl ⟨_, rfl, rfl, (((hp.get 1 rfl).drop).drop)⟩
          · replace hm := (ie hb6).symm.trans hm
            refine k_skip ?_
            refine k_seq ?_
            refine k_seq ?_
            refine k_region ?_
            refine s_val (wk0 rfl) rfl rfl hE hp (v := (.int .i64 x2.1)) (ex_move rfl hE rfl) ?_
            intro a hE
            refine s_val (wk0 rfl) rfl rfl hE hp (v := (.bool (decide (x2.1 < 0)))) (ex_lss rfl hE rfl rfl) ?_
            intro a hE
            refine s_val (wk0 rfl) rfl rfl hE hp (v := (.bool (decide (x2.1 < 0)))) (ex_move rfl hE rfl) ?_
            intro a hE
            refine s_cut [_, _, _] (fun a w => Env 103 [(67, (.bool ((decide (x2.1 < 0)) || (decide (100000000 < x2.1))))), (1, vp1), (2, (.int .i64 p2)), (3, (.pointer (some ⟨b1, 0, none⟩))), (7, (.int .i64 x2.1))] a ∧ Hp Z ρ (Pt b1 (.cells #[(.int .i64 p0.kind), (.int .i64 p0.most), (.int .i64 p0.pause), (.int .i64 p0.keep)] 23 (0, 0)) :: L) w) ?_ ?_
            · rcases Bool.eq_false_or_eq_true (decide (x2.1 < 0)) with hb9 | hb9
              ·
                refine s_skip (wk2 hE rfl rfl rfl hb9) rfl rfl hE ?_
                intro a hE
                refine s_skip (wk2 hE rfl rfl rfl hb9) rfl rfl hE ?_
                intro a hE
                refine s_val (wk0 rfl) rfl rfl hE hp (v := (.bool true)) (ex_pick1 rfl hE rfl hb9 rfl) ?_
                intro a hE
                have hE := hE.eqv (v' := (.bool ((decide (x2.1 < 0)) || (decide (100000000 < x2.1))))) (by rw [hb9]; rfl)
                exact s_nil ⟨hE.cut ⟨rfl, rfl, rfl, rfl, rfl, trivial⟩, hp⟩
              ·
                refine s_val (wk1 hE rfl rfl rfl hb9) rfl rfl hE hp (v := (.int .i64 x2.1)) (ex_move rfl hE rfl) ?_
                intro a hE
                refine s_val (wk1 hE rfl rfl rfl hb9) rfl rfl hE hp (v := (.bool (decide (100000000 < x2.1)))) (ex_gtr rfl hE rfl rfl) ?_
                intro a hE
                refine s_val (wk0 rfl) rfl rfl hE hp (v := (.bool (decide (100000000 < x2.1)))) (ex_pick0 rfl hE rfl hb9 rfl) ?_
                intro a hE
                have hE := hE.eqv (v' := (.bool ((decide (x2.1 < 0)) || (decide (100000000 < x2.1))))) (by rw [hb9]; rfl)
                exact s_nil ⟨hE.cut ⟨rfl, rfl, rfl, rfl, rfl, trivial⟩, hp⟩
            · rintro a w ⟨hE, hp⟩
              refine s_nil ?_
              refine k_if hE rfl (fun hb10 => ?_) (fun hb10 => ?_)
              · replace hm := (it hb10).symm.trans hm
                refine k_seq ?_
                refine k_region ?_
                refine s_val (wk0 rfl) rfl rfl hE hp (v := (.bool false)) (ex_asn rfl hE rfl) ?_
                intro a hE
                refine s_nil ?_
                refine k_ret ?_
                obtain rfl := Option.some.inj hm
                exact ret1 hE rfl rfl ⟨_, rfl, rfl, (hp.drop)⟩
              · replace hm := (ie hb10).symm.trans hm
                refine k_skip ?_
                refine k_seq ?_
                obtain ⟨x6, ex6, hm⟩ := bnd hm
                obtain ⟨x7, ex7, hm⟩ := bnd hm
                refine k_held (Z := Z) (ρ := ρ) (Pt b1 (.cells #[(.int .i64 p0.kind), (.int .i64 p0.most), (.int .i64 p0.pause), (.int .i64 p0.keep)] 23 (0, 0)) :: L) (fun a w => ∃ y3 : Value, Env 103 [(1, vp1), (2, (.int .i64 p2)), (3, (.pointer (some ⟨b1, 0, none⟩))), (7, (.int .i64 x2.1)), (11, (.int .i64 x7.1)), (12, (.int .i64 x7.2))] a ∧ Hp Z ρ (OwnSl 38 y3 x6 :: Pt b1 (.cells #[(.int .i64 p0.kind), (.int .i64 p0.most), (.int .i64 p0.pause), (.int .i64 p0.keep)] 23 (0, 0)) :: L) w) (by kernel_rfl) ?_ ?_
                ·
                  have hp := hp.drew
                  have hS : Hp Z ρ (Pt b1 (.cells #[(.int .i64 p0.kind), (.int .i64 p0.most), (.int .i64 p0.pause), (.int .i64 p0.keep)] 23 (0, 0)) :: L) w.drew := hp
                  refine h_take 0 (wk0 rfl) rfl rfl rfl hE (by kernel_rfl) (by kernel_rfl) (by kernel_rfl) hS (v := (.agg #[(.int .i64 p0.kind), (.int .i64 p0.most), (.int .i64 p0.pause), (.int .i64 p0.keep)])) (ex_load rfl hE rfl (fun w hw => run_ldN (cs := [(.int .i64 p0.kind), (.int .i64 p0.most), (.int .i64 p0.pause), (.int .i64 p0.keep)]) varty23 (Hp.cN 0 rfl 0 _ (sub_all rfl) w hw))) ?_
                  intro a hE
                  refine h_take 1 (wk0 rfl) rfl rfl rfl hE (by kernel_rfl) (by kernel_rfl) (by kernel_rfl) hS (v := vp1) (ex_move rfl hE rfl) ?_
                  intro a hE
                  refine h_take 2 (wk0 rfl) rfl rfl rfl hE (by kernel_rfl) (by kernel_rfl) (by kernel_rfl) hS (v := (.int .i64 x2.1)) (ex_move rfl hE rfl) ?_
                  intro a hE
                  refine h_all [3] (by kernel_rfl) rfl ?_
                  refine List.forall_mem_cons.2 ⟨?_, fun _ h => absurd h (by simp)⟩
                  ·
                    refine h_op rfl ?_
                    refine s_call (wk0 rfl) rfl rfl hE rfl [vp1, (.int .i64 x2.1)] ⟨rfl, rfl, trivial⟩ ent20 (c_assessorlaw52_next p1 vp1 hp1 x2.1 hp x6 ex6) Ret.ret ?_
                    intro v4 a w hR hE
                    obtain ⟨u, hu, hp⟩ := Ret.of hR
                    rw [← hu] at hp
                    have hp : Hp Z ρ (OwnSl 38 v4 x6 :: Pt b1 (.cells #[(.int .i64 p0.kind), (.int .i64 p0.most), (.int .i64 p0.pause), (.int .i64 p0.keep)] 23 (0, 0)) :: L) w := hp
                    refine s_nil ⟨(hp.drop), ?_⟩
                    have hS := (hp.drop)
                    refine h_all [4] (by kernel_rfl) rfl ?_
                    refine List.forall_mem_cons.2 ⟨?_, fun _ h => absurd h (by simp)⟩
                    ·
                      refine h_op rfl ?_
                      obtain ⟨k4, k4a, k4d, k4h⟩ := (hp.get 0 rfl).lend
                      refine s_call (wk0 rfl) rfl rfl hE rfl [(.agg #[(.int .i64 p0.kind), (.int .i64 p0.most), (.int .i64 p0.pause), (.int .i64 p0.keep)]), v4] ⟨rfl, rfl, trivial⟩ ent11 (c_attempts_Final p0 x6 v4 (OwnSl.ro k4d k4a) k4h x7 ex7) Ret.ret ?_
                      intro v a w hR hE
                      obtain ⟨rfl, hp⟩ := Ret.of hR
                      have hp := Hp.back k4a k4d hp
                      have hp : Hp Z ρ (OwnSl 38 v4 x6 :: Pt b1 (.cells #[(.int .i64 p0.kind), (.int .i64 p0.most), (.int .i64 p0.pause), (.int .i64 p0.keep)] 23 (0, 0)) :: L) w := hp
                      have hp : Hp Z ρ (OwnSl 38 v4 x6 :: Pt b1 (.cells #[(.int .i64 p0.kind), (.int .i64 p0.most), (.int .i64 p0.pause), (.int .i64 p0.keep)] 23 (0, 0)) :: L) w := hp
                      refine s_nil ⟨(hp.drop), ?_⟩
                      have hS := (hp.drop)
                      refine h_take 5 (wk0 rfl) rfl rfl rfl hE (by kernel_rfl) (by kernel_rfl) (by kernel_rfl) hS (v := (.tuple #[(.int .i64 x7.1), (.int .i64 x7.2)])) (ex_move rfl hE rfl) ?_
                      intro a hE
                      refine h_take 6 (wk0 rfl) rfl rfl rfl hE (by kernel_rfl) (by kernel_rfl) (by kernel_rfl) hS (v := (.int .i64 x7.1)) (ex_extract rfl hE rfl rfl) ?_
                      intro a hE
                      refine h_take 7 (wk0 rfl) rfl rfl rfl hE (by kernel_rfl) (by kernel_rfl) (by kernel_rfl) hS (v := (.int .i64 x7.2)) (ex_extract rfl hE rfl rfl) ?_
                      intro a hE
                      refine h_take 8 (wk0 rfl) rfl rfl rfl hE (by kernel_rfl) (by kernel_rfl) (by kernel_rfl) hS (v := (.int .i64 x7.1)) (ex_asn rfl hE rfl) ?_
                      intro a hE
                      refine h_take 9 (wk0 rfl) rfl rfl rfl hE (by kernel_rfl) (by kernel_rfl) (by kernel_rfl) hS (v := (.int .i64 x7.2)) (ex_asn rfl hE rfl) ?_
                      intro a hE
                      exact h_done (by kernel_rfl) ⟨_, hE.cut ⟨rfl, rfl, rfl, rfl, rfl, rfl, trivial⟩, hp⟩
                · rintro a w ⟨y3, hE, hp⟩
                  refine k_seq ?_
                  refine k_seq ?_
                  refine k_region ?_
                  refine s_val (wk0 rfl) rfl rfl hE hp (v := (.int .i64 x7.2)) (ex_move rfl hE rfl) ?_
                  intro a hE
                  refine s_val (wk0 rfl) rfl rfl hE hp (v := (.bool (!decide (x7.2 = 0)))) (ex_neq rfl hE rfl rfl) ?_
                  intro a hE
                  refine s_val (wk0 rfl) rfl rfl hE hp (v := (.bool (!decide (x7.2 = 0)))) (ex_move rfl hE rfl) ?_
                  intro a hE
                  refine s_cut [_, _, _, _] (fun a w => Env 103 [(82, (.bool ((!decide (x7.2 = 0)) || (decide (x7.1 < p2))))), (1, vp1), (2, (.int .i64 p2)), (3, (.pointer (some ⟨b1, 0, none⟩))), (7, (.int .i64 x2.1))] a ∧ Hp Z ρ (OwnSl 38 y3 x6 :: Pt b1 (.cells #[(.int .i64 p0.kind), (.int .i64 p0.most), (.int .i64 p0.pause), (.int .i64 p0.keep)] 23 (0, 0)) :: L) w) ?_ ?_
                  · rcases Bool.eq_false_or_eq_true (!decide (x7.2 = 0)) with hb11 | hb11
                    ·
                      refine s_skip (wk2 hE rfl rfl rfl hb11) rfl rfl hE ?_
                      intro a hE
                      refine s_skip (wk2 hE rfl rfl rfl hb11) rfl rfl hE ?_
                      intro a hE
                      refine s_skip (wk2 hE rfl rfl rfl hb11) rfl rfl hE ?_
                      intro a hE
                      refine s_val (wk0 rfl) rfl rfl hE hp (v := (.bool true)) (ex_pick1 rfl hE rfl hb11 rfl) ?_
                      intro a hE
                      have hE := hE.eqv (v' := (.bool ((!decide (x7.2 = 0)) || (decide (x7.1 < p2))))) (by rw [hb11]; rfl)
                      exact s_nil ⟨hE.cut ⟨rfl, rfl, rfl, rfl, rfl, trivial⟩, hp⟩
                    ·
                      refine s_val (wk1 hE rfl rfl rfl hb11) rfl rfl hE hp (v := (.int .i64 x7.1)) (ex_move rfl hE rfl) ?_
                      intro a hE
                      refine s_val (wk1 hE rfl rfl rfl hb11) rfl rfl hE hp (v := (.int .i64 p2)) (ex_move rfl hE rfl) ?_
                      intro a hE
                      refine s_val (wk1 hE rfl rfl rfl hb11) rfl rfl hE hp (v := (.bool (decide (x7.1 < p2)))) (ex_lss rfl hE rfl rfl) ?_
                      intro a hE
                      refine s_val (wk0 rfl) rfl rfl hE hp (v := (.bool (decide (x7.1 < p2)))) (ex_pick0 rfl hE rfl hb11 rfl) ?_
                      intro a hE
                      have hE := hE.eqv (v' := (.bool ((!decide (x7.2 = 0)) || (decide (x7.1 < p2))))) (by rw [hb11]; rfl)
                      exact s_nil ⟨hE.cut ⟨rfl, rfl, rfl, rfl, rfl, trivial⟩, hp⟩
                  · rintro a w ⟨hE, hp⟩
                    refine s_nil ?_
                    refine k_if hE rfl (fun hb12 => ?_) (fun hb12 => ?_)
                    · replace hm := (it hb12).symm.trans hm
                      refine k_seq ?_
                      refine k_region ?_
                      refine s_val (wk0 rfl) rfl rfl hE hp (v := (.bool false)) (ex_asn rfl hE rfl) ?_
                      intro a hE
                      refine s_nil ?_
                      refine k_ret ?_
                      obtain rfl := Option.some.inj hm
                      exact ret1 hE rfl rfl ⟨_, rfl, rfl, (((hp.get 1 rfl).drop).drop)⟩
                    · replace hm := (ie hb12).symm.trans hm
                      refine k_skip ?_
                      refine k_seq ?_
                      obtain ⟨x8, ex8, hm⟩ := bnd hm
                      obtain ⟨x9, ex9, hm⟩ := bnd hm
                      obtain ⟨x10, ex10, hm⟩ := bnd hm
                      refine k_held (Z := Z) (ρ := ρ) (OwnSl 38 y3 x6 :: Pt b1 (.cells #[(.int .i64 p0.kind), (.int .i64 p0.most), (.int .i64 p0.pause), (.int .i64 p0.keep)] 23 (0, 0)) :: L) (fun a w => ∃ y4 : Value, Env 103 [(2, (.int .i64 p2)), (7, (.int .i64 x2.1)), (11, (.int .i64 x10.1)), (12, (.int .i64 x10.2))] a ∧ Hp Z ρ (OwnSl 38 y4 x9 :: OwnSl 38 y3 x6 :: Pt b1 (.cells #[(.int .i64 p0.kind), (.int .i64 p0.most), (.int .i64 p0.pause), (.int .i64 p0.keep)] 23 (0, 0)) :: L) w) (by kernel_rfl) ?_ ?_
                      ·
                        have hp := hp.drew
                        have hS : Hp Z ρ (OwnSl 38 y3 x6 :: Pt b1 (.cells #[(.int .i64 p0.kind), (.int .i64 p0.most), (.int .i64 p0.pause), (.int .i64 p0.keep)] 23 (0, 0)) :: L) w.drew := hp
                        refine h_take 0 (wk0 rfl) rfl rfl rfl hE (by kernel_rfl) (by kernel_rfl) (by kernel_rfl) hS (v := (.agg #[(.int .i64 p0.kind), (.int .i64 p0.most), (.int .i64 p0.pause), (.int .i64 p0.keep)])) (ex_load rfl hE rfl (fun w hw => run_ldN (cs := [(.int .i64 p0.kind), (.int .i64 p0.most), (.int .i64 p0.pause), (.int .i64 p0.keep)]) varty23 (Hp.cN 1 rfl 0 _ (sub_all rfl) w hw))) ?_
                        intro a hE
                        refine h_take 1 (wk0 rfl) rfl rfl rfl hE (by kernel_rfl) (by kernel_rfl) (by kernel_rfl) hS (v := vp1) (ex_move rfl hE rfl) ?_
                        intro a hE
                        refine h_take 2 (wk0 rfl) rfl rfl rfl hE (by kernel_rfl) (by kernel_rfl) (by kernel_rfl) hS (v := (.int .i64 x2.1)) (ex_move rfl hE rfl) ?_
                        intro a hE
                        refine h_take 3 (wk0 rfl) rfl rfl rfl hE (by kernel_rfl) (by kernel_rfl) (by kernel_rfl) hS (v := (.int .i64 x8)) (ex_sub rfl hE rfl rfl (inK_some ex8)) ?_
                        intro a hE
                        refine h_all [4] (by kernel_rfl) rfl ?_
                        refine List.forall_mem_cons.2 ⟨?_, fun _ h => absurd h (by simp)⟩
                        ·
                          refine h_op rfl ?_
                          refine s_call (wk0 rfl) rfl rfl hE rfl [vp1, (.int .i64 x8)] ⟨rfl, rfl, trivial⟩ ent20 (c_assessorlaw52_next p1 vp1 hp1 x8 hp x9 ex9) Ret.ret ?_
                          intro v6 a w hR hE
                          obtain ⟨u, hu, hp⟩ := Ret.of hR
                          rw [← hu] at hp
                          have hp : Hp Z ρ (OwnSl 38 v6 x9 :: OwnSl 38 y3 x6 :: Pt b1 (.cells #[(.int .i64 p0.kind), (.int .i64 p0.most), (.int .i64 p0.pause), (.int .i64 p0.keep)] 23 (0, 0)) :: L) w := hp
                          refine s_nil ⟨(hp.drop), ?_⟩
                          have hS := (hp.drop)
                          refine h_all [5] (by kernel_rfl) rfl ?_
                          refine List.forall_mem_cons.2 ⟨?_, fun _ h => absurd h (by simp)⟩
                          ·
                            refine h_op rfl ?_
                            obtain ⟨k6, k6a, k6d, k6h⟩ := (hp.get 0 rfl).lend
                            refine s_call (wk0 rfl) rfl rfl hE rfl [(.agg #[(.int .i64 p0.kind), (.int .i64 p0.most), (.int .i64 p0.pause), (.int .i64 p0.keep)]), v6] ⟨rfl, rfl, trivial⟩ ent11 (c_attempts_Final p0 x9 v6 (OwnSl.ro k6d k6a) k6h x10 ex10) Ret.ret ?_
                            intro v a w hR hE
                            obtain ⟨rfl, hp⟩ := Ret.of hR
                            have hp := Hp.back k6a k6d hp
                            have hp : Hp Z ρ (OwnSl 38 v6 x9 :: OwnSl 38 y3 x6 :: Pt b1 (.cells #[(.int .i64 p0.kind), (.int .i64 p0.most), (.int .i64 p0.pause), (.int .i64 p0.keep)] 23 (0, 0)) :: L) w := hp
                            have hp : Hp Z ρ (OwnSl 38 v6 x9 :: OwnSl 38 y3 x6 :: Pt b1 (.cells #[(.int .i64 p0.kind), (.int .i64 p0.most), (.int .i64 p0.pause), (.int .i64 p0.keep)] 23 (0, 0)) :: L) w := hp
                            refine s_nil ⟨(hp.drop), ?_⟩
                            have hS := (hp.drop)
                            refine h_take 6 (wk0 rfl) rfl rfl rfl hE (by kernel_rfl) (by kernel_rfl) (by kernel_rfl) hS (v := (.tuple #[(.int .i64 x10.1), (.int .i64 x10.2)])) (ex_move rfl hE rfl) ?_
                            intro a hE
                            refine h_take 7 (wk0 rfl) rfl rfl rfl hE (by kernel_rfl) (by kernel_rfl) (by kernel_rfl) hS (v := (.int .i64 x10.1)) (ex_extract rfl hE rfl rfl) ?_
                            intro a hE
                            refine h_take 8 (wk0 rfl) rfl rfl rfl hE (by kernel_rfl) (by kernel_rfl) (by kernel_rfl) hS (v := (.int .i64 x10.2)) (ex_extract rfl hE rfl rfl) ?_
                            intro a hE
                            refine h_take 9 (wk0 rfl) rfl rfl rfl hE (by kernel_rfl) (by kernel_rfl) (by kernel_rfl) hS (v := (.int .i64 x10.1)) (ex_asn rfl hE rfl) ?_
                            intro a hE
                            refine h_take 10 (wk0 rfl) rfl rfl rfl hE (by kernel_rfl) (by kernel_rfl) (by kernel_rfl) hS (v := (.int .i64 x10.2)) (ex_asn rfl hE rfl) ?_
                            intro a hE
                            exact h_done (by kernel_rfl) ⟨_, hE.cut ⟨rfl, rfl, rfl, rfl, trivial⟩, hp⟩
                      · rintro a w ⟨y4, hE, hp⟩
                        refine k_seq ?_
                        refine k_region ?_
                        refine s_val (wk0 rfl) rfl rfl hE hp (v := (.int .i64 x2.1)) (ex_move rfl hE rfl) ?_
                        intro a hE
                        refine s_val (wk0 rfl) rfl rfl hE hp (v := (.bool (decide (x2.1 = 0)))) (ex_eql rfl hE rfl rfl) ?_
                        intro a hE
                        refine s_val (wk0 rfl) rfl rfl hE hp (v := (.bool (decide (x2.1 = 0)))) (ex_move rfl hE rfl) ?_
                        intro a hE
                        refine s_cut [_, _, _, _, _, _, _, _] (fun a w => Env 103 [(102, (.bool ((decide (x2.1 = 0)) || ((decide (x10.2 = 0)) && (decide (x10.1 < p2))))))] a ∧ Hp Z ρ (OwnSl 38 y4 x9 :: OwnSl 38 y3 x6 :: Pt b1 (.cells #[(.int .i64 p0.kind), (.int .i64 p0.most), (.int .i64 p0.pause), (.int .i64 p0.keep)] 23 (0, 0)) :: L) w) ?_ ?_
                        · rcases Bool.eq_false_or_eq_true (decide (x2.1 = 0)) with hb13 | hb13
                          ·
                            refine s_skip (wk2 hE rfl rfl rfl hb13) rfl rfl hE ?_
                            intro a hE
                            refine s_skip (wk2 hE rfl rfl rfl hb13) rfl rfl hE ?_
                            intro a hE
                            refine s_skip (wk2 hE rfl rfl rfl hb13) rfl rfl hE ?_
                            intro a hE
                            refine s_skip (wk3 hE rfl rfl rfl) rfl rfl hE ?_
                            intro a hE
                            refine s_skip (wk3 hE rfl rfl rfl) rfl rfl hE ?_
                            intro a hE
                            refine s_skip (wk3 hE rfl rfl rfl) rfl rfl hE ?_
                            intro a hE
                            refine s_skip (wk2 hE rfl rfl rfl hb13) rfl rfl hE ?_
                            intro a hE
                            refine s_val (wk0 rfl) rfl rfl hE hp (v := (.bool true)) (ex_pick1 rfl hE rfl hb13 rfl) ?_
                            intro a hE
                            have hE := hE.eqv (v' := (.bool ((decide (x2.1 = 0)) || ((decide (x10.2 = 0)) && (decide (x10.1 < p2)))))) (by rw [hb13]; rfl)
                            exact s_nil ⟨hE.cut ⟨rfl, trivial⟩, hp⟩
                          ·
                            refine s_val (wk1 hE rfl rfl rfl hb13) rfl rfl hE hp (v := (.int .i64 x10.2)) (ex_move rfl hE rfl) ?_
                            intro a hE
                            refine s_val (wk1 hE rfl rfl rfl hb13) rfl rfl hE hp (v := (.bool (decide (x10.2 = 0)))) (ex_eql rfl hE rfl rfl) ?_
                            intro a hE
                            refine s_val (wk1 hE rfl rfl rfl hb13) rfl rfl hE hp (v := (.bool (decide (x10.2 = 0)))) (ex_move rfl hE rfl) ?_
                            intro a hE
                            refine s_cut [_, _, _, _] (fun a w => Env 103 [(101, (.bool ((decide (x10.2 = 0)) && (decide (x10.1 < p2))))), (94, (.bool (decide (x2.1 = 0))))] a ∧ Hp Z ρ (OwnSl 38 y4 x9 :: OwnSl 38 y3 x6 :: Pt b1 (.cells #[(.int .i64 p0.kind), (.int .i64 p0.most), (.int .i64 p0.pause), (.int .i64 p0.keep)] 23 (0, 0)) :: L) w) ?_ ?_
                            · rcases Bool.eq_false_or_eq_true (decide (x10.2 = 0)) with hb14 | hb14
                              ·
                                refine s_val (wk1 hE rfl rfl rfl hb14) rfl rfl hE hp (v := (.int .i64 x10.1)) (ex_move rfl hE rfl) ?_
                                intro a hE
                                refine s_val (wk1 hE rfl rfl rfl hb14) rfl rfl hE hp (v := (.int .i64 p2)) (ex_move rfl hE rfl) ?_
                                intro a hE
                                refine s_val (wk1 hE rfl rfl rfl hb14) rfl rfl hE hp (v := (.bool (decide (x10.1 < p2)))) (ex_lss rfl hE rfl rfl) ?_
                                intro a hE
                                refine s_val (wk1 hE rfl rfl rfl hb13) rfl rfl hE hp (v := (.bool (decide (x10.1 < p2)))) (ex_pick1 rfl hE rfl hb14 rfl) ?_
                                intro a hE
                                have hE := hE.eqv (v' := (.bool ((decide (x10.2 = 0)) && (decide (x10.1 < p2))))) (by rw [hb14]; rfl)
                                exact s_nil ⟨hE.cut ⟨rfl, rfl, trivial⟩, hp⟩
                              ·
                                refine s_skip (wk2 hE rfl rfl rfl hb14) rfl rfl hE ?_
                                intro a hE
                                refine s_skip (wk2 hE rfl rfl rfl hb14) rfl rfl hE ?_
                                intro a hE
                                refine s_skip (wk2 hE rfl rfl rfl hb14) rfl rfl hE ?_
                                intro a hE
                                refine s_val (wk1 hE rfl rfl rfl hb13) rfl rfl hE hp (v := (.bool false)) (ex_pick0 rfl hE rfl hb14 rfl) ?_
                                intro a hE
                                have hE := hE.eqv (v' := (.bool ((decide (x10.2 = 0)) && (decide (x10.1 < p2))))) (by rw [hb14]; rfl)
                                exact s_nil ⟨hE.cut ⟨rfl, rfl, trivial⟩, hp⟩
                            · rintro a w ⟨hE, hp⟩
                              refine s_val (wk0 rfl) rfl rfl hE hp (v := (.bool ((decide (x10.2 = 0)) && (decide (x10.1 < p2))))) (ex_pick0 rfl hE rfl hb13 rfl) ?_
                              intro a hE
                              have hE := hE.eqv (v' := (.bool ((decide (x2.1 = 0)) || ((decide (x10.2 = 0)) && (decide (x10.1 < p2)))))) (by rw [hb13]; rfl)
                              exact s_nil ⟨hE.cut ⟨rfl, trivial⟩, hp⟩
                        · rintro a w ⟨hE, hp⟩
                          refine s_val (wk0 rfl) rfl rfl hE hp (v := (.bool ((decide (x2.1 = 0)) || ((decide (x10.2 = 0)) && (decide (x10.1 < p2)))))) (ex_asn rfl hE rfl) ?_
                          intro a hE
                          refine s_nil ?_
                          refine k_ret ?_
                          obtain rfl := Option.some.inj hm
                          exact ret1 hE rfl rfl ⟨_, rfl, rfl, (((((hp.get 2 rfl).drop).get 1 rfl).drop).drop)⟩
end Go.Proofs.Ytmjmoogldbejoaa

/-
  The code goes as its model: assessor/assessorlaw52.AttemptsWithin. (Printed by wip/sp/gen.py.)
-/
import Derived.Test.YtmjmoogldbejoaaWIM
import Derived.Test.YtmjmoogldbejoaaFct
import Derived.Test.YtmjmoogldbejoaaWS
set_option linter.unusedVariables false
set_option linter.unusedSimpArgs false
namespace Go.Proofs.Ytmjmoogldbejoaa
open Go.RowKit

/- assessor/assessorlaw52.AttemptsWithin -/
set_option maxRecDepth 100000 in
set_option maxHeartbeats 4000000 in
theorem c_assessorlaw52_AttemptsWithin {Z : World} {ρ : PH} {L : List Atom} {w : World} (p0 : Rule) (p1 : (List Att)) (vp1 : Value) (hp1 : RoSl ρ vp1 p1) (hp : Hp Z ρ (L) w) (r : Bool) (hm : m_assessorlaw52_AttemptsWithin p0 p1 = some r) :
    Calls Try.prog 7 #[(.agg #[(.int .i64 p0.kind), (.int .i64 p0.most), (.int .i64 p0.pause), (.int .i64 p0.keep)]), vp1] w (Ret fun v w' => v = (.bool r) ∧ Hp Z ρ (L) w') := by
  refine enter (N := 187) Try.func7 rfl rfl [(0, (.agg #[(.int .i64 p0.kind), (.int .i64 p0.most), (.int .i64 p0.pause), (.int .i64 p0.keep)])), (1, vp1)] rfl (argsIn_mem ⟨rfl, rfl, trivial⟩) fun a hE => ?_
  unfold m_assessorlaw52_AttemptsWithin at hm
  refine k_seq ?_
  refine k_region ?_
  refine s_box (wk0 rfl) rfl rfl hE hp rfl (v := (.agg #[(.int .i64 p0.kind), (.int .i64 p0.most), (.int .i64 p0.pause), (.int .i64 p0.keep)])) rfl ?_
  intro a w b1 hE hp
  have hp : Hp Z ρ (Pt b1 (.cells #[(.int .i64 p0.kind), (.int .i64 p0.most), (.int .i64 p0.pause), (.int .i64 p0.keep)] 23 (0, 0)) :: L) w := hp
  refine s_val (wk0 rfl) rfl rfl hE hp (v := (.bool false)) (ex_asn rfl hE rfl) ?_
  intro a hE
  refine s_nil ?_
  refine k_seq ?_
  refine k_seq ?_
  refine k_region ?_
  obtain ⟨x1, ex1, hm⟩ := bnd hm
  refine s_call (wk0 rfl) rfl rfl hE rfl [] trivial ent10 (c_assessorlaw52_awake  hp x1 ex1) Ret.ret ?_
  intro v a w hR hE
  obtain ⟨rfl, hp⟩ := Ret.of hR
  have hp : Hp Z ρ (Pt b1 (.cells #[(.int .i64 p0.kind), (.int .i64 p0.most), (.int .i64 p0.pause), (.int .i64 p0.keep)] 23 (0, 0)) :: L) w := hp
  refine s_val (wk0 rfl) rfl rfl hE hp (v := (.bool (!x1))) (ex_not rfl hE rfl) ?_
  intro a hE
  refine s_nil ?_
  refine k_if hE rfl (fun hb1 => ?_) (fun hb1 => ?_)
  · replace hm := (it hb1).symm.trans hm
    refine k_seq ?_
    refine k_region ?_
    refine s_val (wk0 rfl) rfl rfl hE hp (v := (.bool false)) (ex_asn rfl hE rfl) ?_
    intro a hE
    refine s_nil ?_
    refine k_ret ?_
    obtain rfl := Option.some.inj hm
    exact ret1 hE rfl rfl ⟨_, rfl, rfl, (hp.drop)⟩
  · replace hm := (ie hb1).symm.trans hm
    refine k_skip ?_
    refine k_seq ?_
    refine k_seq ?_
    refine k_region ?_
    refine s_val (wk0 rfl) rfl rfl hE hp (v := vp1) (ex_move rfl hE rfl) ?_
    intro a hE
    refine s_val (wk0 rfl) rfl rfl hE hp (v := (.int .i64 (p1.length : Int))) (ex_len rfl hE rfl (RoSl.len hp1 slty24)) ?_
    intro a hE
    refine s_val (wk0 rfl) rfl rfl hE hp (v := (.bool (decide (20 < (p1.length : Int))))) (ex_gtr rfl hE rfl rfl) ?_
    intro a hE
    refine s_nil ?_
    refine k_if hE rfl (fun hb2 => ?_) (fun hb2 => ?_)
    · replace hm := (it hb2).symm.trans hm
      refine k_seq ?_
      refine k_region ?_
      refine s_val (wk0 rfl) rfl rfl hE hp (v := (.bool true)) (ex_asn rfl hE rfl) ?_
      intro a hE
      refine s_nil ?_
      refine k_ret ?_
      obtain rfl := Option.some.inj hm
      exact ret1 hE rfl rfl ⟨_, rfl, rfl, (hp.drop)⟩
    · replace hm := (ie hb2).symm.trans hm
      refine k_skip ?_
      refine k_seq ?_
      refine k_region ?_
      refine s_val (wk0 rfl) rfl rfl hE hp (v := (.agg #[(.int .i64 p0.kind), (.int .i64 p0.most), (.int .i64 p0.pause), (.int .i64 p0.keep)])) (ex_load rfl hE rfl (fun w hw => run_ldN (cs := [(.int .i64 p0.kind), (.int .i64 p0.most), (.int .i64 p0.pause), (.int .i64 p0.keep)]) varty23 (Hp.cN 0 rfl 0 _ (sub_all rfl) w hw))) ?_
      intro a hE
      refine s_val (wk0 rfl) rfl rfl hE hp (v := vp1) (ex_move rfl hE rfl) ?_
      intro a hE
      obtain ⟨x2, ex2, hm⟩ := bnd hm
      refine s_call (wk0 rfl) rfl rfl hE rfl [(.agg #[(.int .i64 p0.kind), (.int .i64 p0.most), (.int .i64 p0.pause), (.int .i64 p0.keep)]), vp1] ⟨rfl, rfl, trivial⟩ ent16 (c_attempts_Counting p0 p1 vp1 hp1 hp x2 ex2) Ret.ret ?_
      intro v1 a w hR hE
      obtain ⟨u, hu, hp⟩ := Ret.of hR
      rw [← hu] at hp
      have hp : Hp Z ρ (OwnSl 3 v1 x2 :: Pt b1 (.cells #[(.int .i64 p0.kind), (.int .i64 p0.most), (.int .i64 p0.pause), (.int .i64 p0.keep)] 23 (0, 0)) :: L) w := hp
      refine s_val (wk0 rfl) rfl rfl hE hp (v := v1) (ex_asn rfl hE rfl) ?_
      intro a hE
      refine s_nil ?_
      refine k_seq ?_
      refine k_region ?_
      refine s_val (wk0 rfl) rfl rfl hE hp (v := (.agg #[(.int .i64 p0.kind), (.int .i64 p0.most), (.int .i64 p0.pause), (.int .i64 p0.keep)])) (ex_load rfl hE rfl (fun w hw => run_ldN (cs := [(.int .i64 p0.kind), (.int .i64 p0.most), (.int .i64 p0.pause), (.int .i64 p0.keep)]) varty23 (Hp.cN 1 rfl 0 _ (sub_all rfl) w hw))) ?_
      intro a hE
      refine s_val (wk0 rfl) rfl rfl hE hp (v := vp1) (ex_move rfl hE rfl) ?_
      intro a hE
      obtain ⟨x3, ex3, hm⟩ := bnd hm
      refine s_call (wk0 rfl) rfl rfl hE rfl [(.agg #[(.int .i64 p0.kind), (.int .i64 p0.most), (.int .i64 p0.pause), (.int .i64 p0.keep)]), vp1] ⟨rfl, rfl, trivial⟩ ent11 (c_attempts_Final p0 p1 vp1 hp1 hp x3 ex3) Ret.ret ?_
      intro v a w hR hE
      obtain ⟨rfl, hp⟩ := Ret.of hR
      have hp : Hp Z ρ (OwnSl 3 v1 x2 :: Pt b1 (.cells #[(.int .i64 p0.kind), (.int .i64 p0.most), (.int .i64 p0.pause), (.int .i64 p0.keep)] 23 (0, 0)) :: L) w := hp
      refine s_val (wk0 rfl) rfl rfl hE hp (v := (.tuple #[(.int .i64 x3.1), (.int .i64 x3.2)])) (ex_move rfl hE rfl) ?_
      intro a hE
      refine s_val (wk0 rfl) rfl rfl hE hp (v := (.int .i64 x3.1)) (ex_extract rfl hE rfl rfl) ?_
      intro a hE
      refine s_val (wk0 rfl) rfl rfl hE hp (v := (.int .i64 x3.2)) (ex_extract rfl hE rfl rfl) ?_
      intro a hE
      refine s_val (wk0 rfl) rfl rfl hE hp (v := (.int .i64 x3.1)) (ex_asn rfl hE rfl) ?_
      intro a hE
      refine s_val (wk0 rfl) rfl rfl hE hp (v := (.int .i64 x3.2)) (ex_asn rfl hE rfl) ?_
      intro a hE
      refine s_nil ?_
      refine k_seq ?_
      refine k_seq ?_
      refine k_region ?_
      refine s_val (wk0 rfl) rfl rfl hE hp (v := (.agg #[(.int .i64 p0.kind), (.int .i64 p0.most), (.int .i64 p0.pause), (.int .i64 p0.keep)])) (ex_load rfl hE rfl (fun w hw => run_ldN (cs := [(.int .i64 p0.kind), (.int .i64 p0.most), (.int .i64 p0.pause), (.int .i64 p0.keep)]) varty23 (Hp.cN 1 rfl 0 _ (sub_all rfl) w hw))) ?_
      intro a hE
      refine s_val (wk0 rfl) rfl rfl hE hp (v := vp1) (ex_move rfl hE rfl) ?_
      intro a hE
      obtain ⟨x4, ex4, hm⟩ := bnd hm
      refine s_call (wk0 rfl) rfl rfl hE rfl [(.agg #[(.int .i64 p0.kind), (.int .i64 p0.most), (.int .i64 p0.pause), (.int .i64 p0.keep)]), vp1] ⟨rfl, rfl, trivial⟩ ent18 (c_attempts_Valid p0 p1 vp1 hp1 hp x4 ex4) Ret.ret ?_
      intro v a w hR hE
      obtain ⟨rfl, hp⟩ := Ret.of hR
      have hp : Hp Z ρ (OwnSl 3 v1 x2 :: Pt b1 (.cells #[(.int .i64 p0.kind), (.int .i64 p0.most), (.int .i64 p0.pause), (.int .i64 p0.keep)] 23 (0, 0)) :: L) w := hp
      refine s_val (wk0 rfl) rfl rfl hE hp (v := (.bool (!x4))) (ex_not rfl hE rfl) ?_
      intro a hE
      refine s_nil ?_
      have hE := hE.cut (E' := [(1, vp1), (2, (.pointer (some ⟨b1, 0, none⟩))), (5, v1), (6, (.int .i64 x3.1)), (7, (.int .i64 x3.2)), (36, (.bool (!x4)))]) ⟨rfl, rfl, rfl, rfl, rfl, rfl, trivial⟩
      refine k_if hE rfl (fun hb3 => ?_) (fun hb3 => ?_)
      · replace hm := (it hb3).symm.trans hm
        refine k_seq ?_
        refine k_region ?_
        refine s_val (wk0 rfl) rfl rfl hE hp (v := (.int .i64 x3.2)) (ex_move rfl hE rfl) ?_
        intro a hE
        refine s_val (wk0 rfl) rfl rfl hE hp (v := (.bool (decide (x3.2 = 1)))) (ex_eql rfl hE rfl rfl) ?_
        intro a hE
        refine s_val (wk0 rfl) rfl rfl hE hp (v := (.bool (decide (x3.2 = 1)))) (ex_move rfl hE rfl) ?_
        intro a hE
        refine s_cut [_, _, _] (fun a w => Env 187 [(42, (.bool ((decide (x3.2 = 1)) && (decide (x3.1 = 0))))), (5, v1)] a ∧ Hp Z ρ (OwnSl 3 v1 x2 :: Pt b1 (.cells #[(.int .i64 p0.kind), (.int .i64 p0.most), (.int .i64 p0.pause), (.int .i64 p0.keep)] 23 (0, 0)) :: L) w) ?_ ?_
        · rcases Bool.eq_false_or_eq_true (decide (x3.2 = 1)) with hb4 | hb4
          ·
            refine s_val (wk1 hE rfl rfl rfl hb4) rfl rfl hE hp (v := (.int .i64 x3.1)) (ex_move rfl hE rfl) ?_
            intro a hE
            refine s_val (wk1 hE rfl rfl rfl hb4) rfl rfl hE hp (v := (.bool (decide (x3.1 = 0)))) (ex_eql rfl hE rfl rfl) ?_
            intro a hE
            refine s_val (wk0 rfl) rfl rfl hE hp (v := (.bool (decide (x3.1 = 0)))) (ex_pick1 rfl hE rfl hb4 rfl) ?_
            intro a hE
            have hE := hE.eqv (v' := (.bool ((decide (x3.2 = 1)) && (decide (x3.1 = 0))))) (by rw [hb4]; rfl)
            exact s_nil ⟨hE.cut ⟨rfl, rfl, trivial⟩, hp⟩
          ·
            refine s_skip (wk2 hE rfl rfl rfl hb4) rfl rfl hE ?_
            intro a hE
            refine s_skip (wk2 hE rfl rfl rfl hb4) rfl rfl hE ?_
            intro a hE
            refine s_val (wk0 rfl) rfl rfl hE hp (v := (.bool false)) (ex_pick0 rfl hE rfl hb4 rfl) ?_
            intro a hE
            have hE := hE.eqv (v' := (.bool ((decide (x3.2 = 1)) && (decide (x3.1 = 0))))) (by rw [hb4]; rfl)
            exact s_nil ⟨hE.cut ⟨rfl, rfl, trivial⟩, hp⟩
        · rintro a w ⟨hE, hp⟩
          refine s_val (wk0 rfl) rfl rfl hE hp (v := (.bool ((decide (x3.2 = 1)) && (decide (x3.1 = 0))))) (ex_move rfl hE rfl) ?_
          intro a hE
          refine s_cut [_, _, _, _] (fun a w => Env 187 [(47, (.bool (((decide (x3.2 = 1)) && (decide (x3.1 = 0))) && (decide ((x2.length : Int) = 0)))))] a ∧ Hp Z ρ (OwnSl 3 v1 x2 :: Pt b1 (.cells #[(.int .i64 p0.kind), (.int .i64 p0.most), (.int .i64 p0.pause), (.int .i64 p0.keep)] 23 (0, 0)) :: L) w) ?_ ?_
          · rcases Bool.eq_false_or_eq_true ((decide (x3.2 = 1)) && (decide (x3.1 = 0))) with hb5 | hb5
            ·
              refine s_val (wk1 hE rfl rfl rfl hb5) rfl rfl hE hp (v := v1) (ex_move rfl hE rfl) ?_
              intro a hE
              refine s_val (wk1 hE rfl rfl rfl hb5) rfl rfl hE hp (v := (.int .i64 (x2.length : Int))) (ex_len rfl hE rfl (OwnSl.len hp 0 rfl slty32)) ?_
              intro a hE
              refine s_val (wk1 hE rfl rfl rfl hb5) rfl rfl hE hp (v := (.bool (decide ((x2.length : Int) = 0)))) (ex_eql rfl hE rfl rfl) ?_
              intro a hE
              refine s_val (wk0 rfl) rfl rfl hE hp (v := (.bool (decide ((x2.length : Int) = 0)))) (ex_pick1 rfl hE rfl hb5 rfl) ?_
              intro a hE
              have hE := hE.eqv (v' := (.bool (((decide (x3.2 = 1)) && (decide (x3.1 = 0))) && (decide ((x2.length : Int) = 0))))) (by rw [hb5]; rfl)
              exact s_nil ⟨hE.cut ⟨rfl, trivial⟩, hp⟩
            ·
              refine s_skip (wk2 hE rfl rfl rfl hb5) rfl rfl hE ?_
              intro a hE
              refine s_skip (wk2 hE rfl rfl rfl hb5) rfl rfl hE ?_
              intro a hE
              refine s_skip (wk2 hE rfl rfl rfl hb5) rfl rfl hE ?_
              intro a hE
              refine s_val (wk0 rfl) rfl rfl hE hp (v := (.bool false)) (ex_pick0 rfl hE rfl hb5 rfl) ?_
              intro a hE
              have hE := hE.eqv (v' := (.bool (((decide (x3.2 = 1)) && (decide (x3.1 = 0))) && (decide ((x2.length : Int) = 0))))) (by rw [hb5]; rfl)
              exact s_nil ⟨hE.cut ⟨rfl, trivial⟩, hp⟩
          · rintro a w ⟨hE, hp⟩
            refine s_val (wk0 rfl) rfl rfl hE hp (v := (.bool (((decide (x3.2 = 1)) && (decide (x3.1 = 0))) && (decide ((x2.length : Int) = 0))))) (ex_asn rfl hE rfl) ?_
            intro a hE
            refine s_nil ?_
            refine k_ret ?_
            obtain rfl := Option.some.inj hm
            exact ret1 hE rfl rfl ⟨_, rfl, rfl, (((hp.get 1 rfl).drop).drop)⟩
      · replace hm := (ie hb3).symm.trans hm
        refine k_skip ?_
        refine k_seq ?_
        refine k_seq ?_
        refine k_region ?_
        refine s_val (wk0 rfl) rfl rfl hE hp (v := (.int .i64 x3.2)) (ex_move rfl hE rfl) ?_
        intro a hE
        refine s_val (wk0 rfl) rfl rfl hE hp (v := (.bool (!decide (x3.2 = 0)))) (ex_neq rfl hE rfl rfl) ?_
        intro a hE
        refine s_val (wk0 rfl) rfl rfl hE hp (v := (.bool (!decide (x3.2 = 0)))) (ex_move rfl hE rfl) ?_
        intro a hE
        refine s_cut [_, _, _, _, _, _, _, _, _, _] (fun a w => Env 187 [(60, (.bool ((!decide (x3.2 = 0)) || (!decide ((x2.length : Int) = (min (p1.length : Int) (max p0.keep 1))))))), (1, vp1), (2, (.pointer (some ⟨b1, 0, none⟩))), (5, v1), (6, (.int .i64 x3.1))] a ∧ Hp Z ρ (OwnSl 3 v1 x2 :: Pt b1 (.cells #[(.int .i64 p0.kind), (.int .i64 p0.most), (.int .i64 p0.pause), (.int .i64 p0.keep)] 23 (0, 0)) :: L) w) ?_ ?_
        · rcases Bool.eq_false_or_eq_true (!decide (x3.2 = 0)) with hb6 | hb6
          ·
            refine s_skip (wk2 hE rfl rfl rfl hb6) rfl rfl hE ?_
            intro a hE
            refine s_skip (wk2 hE rfl rfl rfl hb6) rfl rfl hE ?_
            intro a hE
            refine s_skip (wk2 hE rfl rfl rfl hb6) rfl rfl hE ?_
            intro a hE
            refine s_skip (wk2 hE rfl rfl rfl hb6) rfl rfl hE ?_
            intro a hE
            refine s_skip (wk2 hE rfl rfl rfl hb6) rfl rfl hE ?_
            intro a hE
            refine s_skip (wk2 hE rfl rfl rfl hb6) rfl rfl hE ?_
            intro a hE
            refine s_skip (wk2 hE rfl rfl rfl hb6) rfl rfl hE ?_
            intro a hE
            refine s_skip (wk2 hE rfl rfl rfl hb6) rfl rfl hE ?_
            intro a hE
            refine s_skip (wk2 hE rfl rfl rfl hb6) rfl rfl hE ?_
            intro a hE
            refine s_val (wk0 rfl) rfl rfl hE hp (v := (.bool true)) (ex_pick1 rfl hE rfl hb6 rfl) ?_
            intro a hE
            have hE := hE.eqv (v' := (.bool ((!decide (x3.2 = 0)) || (!decide ((x2.length : Int) = (min (p1.length : Int) (max p0.keep 1))))))) (by rw [hb6]; rfl)
            exact s_nil ⟨hE.cut ⟨rfl, rfl, rfl, rfl, rfl, trivial⟩, hp⟩
          ·
            refine s_val (wk1 hE rfl rfl rfl hb6) rfl rfl hE hp (v := v1) (ex_move rfl hE rfl) ?_
            intro a hE
            refine s_val (wk1 hE rfl rfl rfl hb6) rfl rfl hE hp (v := (.int .i64 (x2.length : Int))) (ex_len rfl hE rfl (OwnSl.len hp 0 rfl slty32)) ?_
            intro a hE
            refine s_val (wk1 hE rfl rfl rfl hb6) rfl rfl hE hp (v := vp1) (ex_move rfl hE rfl) ?_
            intro a hE
            refine s_val (wk1 hE rfl rfl rfl hb6) rfl rfl hE hp (v := (.int .i64 (p1.length : Int))) (ex_len rfl hE rfl (RoSl.len hp1 slty24)) ?_
            intro a hE
            refine s_val (wk1 hE rfl rfl rfl hb6) rfl rfl hE hp (v := (.pointer (some ⟨b1, 3, none⟩))) (ex_field rfl hE rfl (fldty23_3 _ _)) ?_
            intro a hE
            refine s_val (wk1 hE rfl rfl rfl hb6) rfl rfl hE hp (v := (.int .i64 p0.keep)) (ex_load rfl hE rfl (fun w hw => run_ld1 varty3 (Hp.c 1 rfl 3 rfl w hw))) ?_
            intro a hE
            refine s_val (wk1 hE rfl rfl rfl hb6) rfl rfl hE hp (v := (.int .i64 (max p0.keep 1))) (ex_max rfl hE rfl rfl) ?_
            intro a hE
            refine s_val (wk1 hE rfl rfl rfl hb6) rfl rfl hE hp (v := (.int .i64 (min (p1.length : Int) (max p0.keep 1)))) (ex_min rfl hE rfl rfl) ?_
            intro a hE
            refine s_val (wk1 hE rfl rfl rfl hb6) rfl rfl hE hp (v := (.bool (!decide ((x2.length : Int) = (min (p1.length : Int) (max p0.keep 1)))))) (ex_neq rfl hE rfl rfl) ?_
            intro a hE
            refine s_val (wk0 rfl) rfl rfl hE hp (v := (.bool (!decide ((x2.length : Int) = (min (p1.length : Int) (max p0.keep 1)))))) (ex_pick0 rfl hE rfl hb6 rfl) ?_
            intro a hE
            have hE := hE.eqv (v' := (.bool ((!decide (x3.2 = 0)) || (!decide ((x2.length : Int) = (min (p1.length : Int) (max p0.keep 1))))))) (by rw [hb6]; rfl)
            exact s_nil ⟨hE.cut ⟨rfl, rfl, rfl, rfl, rfl, trivial⟩, hp⟩
        · rintro a w ⟨hE, hp⟩
          refine s_nil ?_
          refine k_if hE rfl (fun hb7 => ?_) (fun hb7 => ?_)
          · replace hm := (it hb7).symm.trans hm
            refine k_seq ?_
            refine k_region ?_
            refine s_val (wk0 rfl) rfl rfl hE hp (v := (.bool false)) (ex_asn rfl hE rfl) ?_
            intro a hE
            refine s_nil ?_
            refine k_ret ?_
            obtain rfl := Option.some.inj hm
            exact ret1 hE rfl rfl ⟨_, rfl, rfl, (((hp.get 1 rfl).drop).drop)⟩
          · replace hm := (ie hb7).symm.trans hm
            refine k_skip ?_
            refine k_seq ?_
            refine k_seq ?_
            refine k_region ?_
            refine s_val (wk0 rfl) rfl rfl hE hp (v := v1) (ex_move rfl hE rfl) ?_
            intro a hE
            refine s_val (wk0 rfl) rfl rfl hE hp (v := (.int .i64 (x2.length : Int))) (ex_len rfl hE rfl (OwnSl.len hp 0 rfl slty32)) ?_
            intro a hE
            refine s_val (wk0 rfl) rfl rfl hE hp (v := (.bool (decide ((x2.length : Int) = 0)))) (ex_eql rfl hE rfl rfl) ?_
            intro a hE
            refine s_nil ?_
            refine k_if hE rfl (fun hb8 => ?_) (fun hb8 => ?_)
            · replace hm := (it hb8).symm.trans hm
              refine k_seq ?_
              refine k_region ?_
              refine s_val (wk0 rfl) rfl rfl hE hp (v := (.int .i64 x3.1)) (ex_move rfl hE rfl) ?_
              intro a hE
              refine s_val (wk0 rfl) rfl rfl hE hp (v := (.bool (decide (x3.1 = 0)))) (ex_eql rfl hE rfl rfl) ?_
              intro a hE
              refine s_val (wk0 rfl) rfl rfl hE hp (v := (.bool (decide (x3.1 = 0)))) (ex_asn rfl hE rfl) ?_
              intro a hE
              refine s_nil ?_
              refine k_ret ?_
              obtain rfl := Option.some.inj hm
              exact ret1 hE rfl rfl ⟨_, rfl, rfl, (((hp.get 1 rfl).drop).drop)⟩
            · replace hm := (ie hb8).symm.trans hm
              refine k_skip ?_
              refine k_seq ?_
              refine k_quiet (by kernel_rfl) (by kernel_rfl) hp ?_
              refine q_val (wk0 rfl) rfl rfl hE (v := vp1) (ex_move rfl hE rfl) ?_
              intro a hE
              obtain ⟨x5, ex5, hm⟩ := bnd hm
              obtain ⟨b2, b2o, b2c, b2r, b2k, b2f⟩ := RoSl.at hp1 slty24 ex5
              obtain rfl : b2c = Enc.enc x5 := b2k
              have b2f : AtP ρ b2 b2o [(.int .i64 x5.num), (.int .i64 x5.tick), (.int .i64 x5.pts)] := b2f
              refine q_val (wk0 rfl) rfl rfl hE (v := (.pointer (some ⟨b2, b2o, none⟩))) (ex_index rfl hE rfl rfl b2r) ?_
              intro a hE
              refine q_val (wk0 rfl) rfl rfl hE (v := (.pointer (some ⟨b2, b2o + 2, none⟩))) (ex_field rfl hE rfl (fldty38_2 _ _)) ?_
              intro a hE
              refine q_val (wk0 rfl) rfl rfl hE (v := (.int .i64 x5.pts)) (ex_load rfl hE rfl (fun w hw => run_ld1 varty3 (b2f.c 2 rfl w hw))) ?_
              intro a hE
              refine q_val (wk0 rfl) rfl rfl hE (v := vp1) (ex_move rfl hE rfl) ?_
              intro a hE
              obtain ⟨x6, ex6, hm⟩ := bnd hm
              obtain ⟨b3, b3o, b3c, b3r, b3k, b3f⟩ := RoSl.at hp1 slty24 ex6
              obtain rfl : b3c = Enc.enc x6 := b3k
              have b3f : AtP ρ b3 b3o [(.int .i64 x6.num), (.int .i64 x6.tick), (.int .i64 x6.pts)] := b3f
              refine q_val (wk0 rfl) rfl rfl hE (v := (.pointer (some ⟨b3, b3o, none⟩))) (ex_index rfl hE rfl rfl b3r) ?_
              intro a hE
              refine q_val (wk0 rfl) rfl rfl hE (v := (.pointer (some ⟨b3, b3o + 2, none⟩))) (ex_field rfl hE rfl (fldty38_2 _ _)) ?_
              intro a hE
              refine q_val (wk0 rfl) rfl rfl hE (v := (.int .i64 x6.pts)) (ex_load rfl hE rfl (fun w hw => run_ld1 varty3 (b3f.c 2 rfl w hw))) ?_
              intro a hE
              refine q_val (wk0 rfl) rfl rfl hE (v := (.int .i64 0)) (ex_asn rfl hE rfl) ?_
              intro a hE
              refine q_val (wk0 rfl) rfl rfl hE (v := (.int .i64 x5.pts)) (ex_asn rfl hE rfl) ?_
              intro a hE
              refine q_val (wk0 rfl) rfl rfl hE (v := (.int .i64 x6.pts)) (ex_asn rfl hE rfl) ?_
              intro a hE
              refine q_nil fun w hp => ?_
              have hp : Hp Z ρ (OwnSl 3 v1 x2 :: Pt b1 (.cells #[(.int .i64 p0.kind), (.int .i64 p0.most), (.int .i64 p0.pause), (.int .i64 p0.keep)] 23 (0, 0)) :: L) w := hp
              refine k_seq ?_
              refine k_seq ?_
              refine k_region ?_
              refine s_val (wk0 rfl) rfl rfl hE hp (v := vp1) (ex_move rfl hE rfl) ?_
              intro a hE
              refine s_val (wk0 rfl) rfl rfl hE hp (v := (.int .i64 (p1.length : Int))) (ex_len rfl hE rfl (RoSl.len hp1 slty24)) ?_
              intro a hE
              refine s_val (wk0 rfl) rfl rfl hE hp (v := (.int .i64 0)) (ex_move rfl hE rfl) ?_
              intro a hE
              refine s_nil ?_
              have hE := hE.cut (E' := [(1, vp1), (2, (.pointer (some ⟨b1, 0, none⟩))), (5, v1), (6, (.int .i64 x3.1)), (8, (.int .i64 0)), (9, (.int .i64 x5.pts)), (10, (.int .i64 x6.pts)), (74, vp1), (75, (.int .i64 (p1.length : Int))), (76, (.int .i64 0))]) ⟨rfl, rfl, rfl, rfl, rfl, rfl, rfl, rfl, rfl, rfl, trivial⟩
              obtain ⟨b4, hb9, hm⟩ := bnd hm
              refine k_block (fun a w => Env 187 [(1, vp1), (2, (.pointer (some ⟨b1, 0, none⟩))), (5, v1), (6, (.int .i64 x3.1)), (8, (.int .i64 0)), (9, (.int .i64 b4.1)), (10, (.int .i64 b4.2))] a ∧ Hp Z ρ (OwnSl 3 v1 x2 :: Pt b1 (.cells #[(.int .i64 p0.kind), (.int .i64 p0.most), (.int .i64 p0.pause), (.int .i64 p0.keep)] 23 (0, 0)) :: L) w) ?_ ?_
              · refine k_loop hb9 (fun s a w => Env 187 [(1, vp1), (2, (.pointer (some ⟨b1, 0, none⟩))), (5, v1), (6, (.int .i64 x3.1)), (8, (.int .i64 0)), (9, (.int .i64 s.1)), (10, (.int .i64 s.2.1)), (74, vp1), (75, (.int .i64 (p1.length : Int))), (76, (.int .i64 s.2.2))] a ∧ Hp Z ρ (OwnSl 3 v1 x2 :: Pt b1 (.cells #[(.int .i64 p0.kind), (.int .i64 p0.most), (.int .i64 p0.pause), (.int .i64 p0.keep)] 23 (0, 0)) :: L) w) ?_ ?_
                · exact ⟨hE.cut ⟨rfl, rfl, rfl, rfl, rfl, rfl, rfl, rfl, rfl, rfl, trivial⟩, hp⟩
                · rintro ⟨lp1_0, lp1_1, lp1_2⟩ st a w ⟨hE, hp⟩ hl1
                  have hE : Env 187 [(1, vp1), (2, (.pointer (some ⟨b1, 0, none⟩))), (5, v1), (6, (.int .i64 x3.1)), (8, (.int .i64 0)), (9, (.int .i64 lp1_0)), (10, (.int .i64 lp1_1)), (74, vp1), (75, (.int .i64 (p1.length : Int))), (76, (.int .i64 lp1_2))] a := hE
                  have hp : Hp Z ρ (OwnSl 3 v1 x2 :: Pt b1 (.cells #[(.int .i64 p0.kind), (.int .i64 p0.most), (.int .i64 p0.pause), (.int .i64 p0.keep)] 23 (0, 0)) :: L) w := hp
                  replace hl1 : m_assessorlaw52_AttemptsWithin_lp1 p1 lp1_0 lp1_1 lp1_2 = some st := hl1
                  unfold m_assessorlaw52_AttemptsWithin_lp1 at hl1
                  refine k_seq ?_
                  refine k_region ?_
                  refine s_val (wk0 rfl) rfl rfl hE hp (v := (.bool (decide (lp1_2 < (p1.length : Int))))) (ex_lss rfl hE rfl rfl) ?_
                  intro a hE
                  refine s_nil ?_
                  refine k_seq ?_
                  refine k_if hE rfl (fun hb10 => ?_) (fun hb10 => ?_)
                  · replace hl1 := (it hb10).symm.trans hl1
                    refine k_skip ?_
                    refine k_seq ?_
                    refine k_plain ?_
                    refine k_seq ?_
                    refine k_region ?_
                    obtain ⟨x7, ex7, hl1⟩ := bnd hl1
                    obtain ⟨b5, b5o, b5c, b5r, b5k, b5f⟩ := RoSl.at hp1 slty24 ex7
                    obtain rfl : b5c = Enc.enc x7 := b5k
                    have b5f : AtP ρ b5 b5o [(.int .i64 x7.num), (.int .i64 x7.tick), (.int .i64 x7.pts)] := b5f
                    refine s_val (wk0 rfl) rfl rfl hE hp (v := (.pointer (some ⟨b5, b5o, none⟩))) (ex_index rfl hE rfl rfl b5r) ?_
                    intro a hE
                    refine s_val (wk0 rfl) rfl rfl hE hp (v := (.agg #[(.int .i64 x7.num), (.int .i64 x7.tick), (.int .i64 x7.pts)])) (ex_load rfl hE rfl (fun w hw => run_ldN (cs := [(.int .i64 x7.num), (.int .i64 x7.tick), (.int .i64 x7.pts)]) varty38 (fun j u hj => cell_of hw.le (b5f j u hj)))) ?_
                    intro a hE
                    refine s_new (wk0 rfl) rfl rfl hE hp rfl [(.int .i64 0), (.int .i64 0), (.int .i64 0)] (fun w => by simp [Instr.alloc, go_sem]) ?_
                    intro a w b6 hE hp
                    have hp : Hp Z ρ (Pt b6 (.cells #[(.int .i64 0), (.int .i64 0), (.int .i64 0)] 38 (0, 0)) :: OwnSl 3 v1 x2 :: Pt b1 (.cells #[(.int .i64 p0.kind), (.int .i64 p0.most), (.int .i64 p0.pause), (.int .i64 p0.keep)] 23 (0, 0)) :: L) w := hp
                    refine s_store (wk0 rfl) rfl hE hp rfl rfl rfl 0 rfl varty38.size_ rfl (by simp [Value.cells, Value.oneCell']) [(.int .i64 x7.num), (.int .i64 x7.tick), (.int .i64 x7.pts)] rfl ?_
                    intro w hp
                    have hp : Hp Z ρ (Pt b6 (.cells #[(.int .i64 x7.num), (.int .i64 x7.tick), (.int .i64 x7.pts)] 38 (0, 0)) :: OwnSl 3 v1 x2 :: Pt b1 (.cells #[(.int .i64 p0.kind), (.int .i64 p0.most), (.int .i64 p0.pause), (.int .i64 p0.keep)] 23 (0, 0)) :: L) w := hp
                    refine s_nil ?_
                    refine k_quiet (by kernel_rfl) (by kernel_rfl) hp ?_
                    refine q_val (wk0 rfl) rfl rfl hE (v := (.int .i64 lp1_0)) (ex_move rfl hE rfl) ?_
                    intro a hE
                    refine q_val (wk0 rfl) rfl rfl hE (v := (.pointer (some ⟨b6, 2, none⟩))) (ex_field rfl hE rfl (fldty38_2 _ _)) ?_
                    intro a hE
                    refine q_val (wk0 rfl) rfl rfl hE (v := (.int .i64 x7.pts)) (ex_load rfl hE rfl (fun w hw => run_ld1 varty3 (Hp.c 0 rfl 2 rfl w hw))) ?_
                    intro a hE
                    refine q_val (wk0 rfl) rfl rfl hE (v := (.int .i64 (min lp1_0 x7.pts))) (ex_min rfl hE rfl rfl) ?_
                    intro a hE
                    refine q_val (wk0 rfl) rfl rfl hE (v := (.int .i64 lp1_1)) (ex_move rfl hE rfl) ?_
                    intro a hE
                    refine q_val (wk0 rfl) rfl rfl hE (v := (.pointer (some ⟨b6, 2, none⟩))) (ex_field rfl hE rfl (fldty38_2 _ _)) ?_
                    intro a hE
                    refine q_val (wk0 rfl) rfl rfl hE (v := (.int .i64 x7.pts)) (ex_load rfl hE rfl (fun w hw => run_ld1 varty3 (Hp.c 0 rfl 2 rfl w hw))) ?_
                    intro a hE
                    refine q_val (wk0 rfl) rfl rfl hE (v := (.int .i64 (max lp1_1 x7.pts))) (ex_max rfl hE rfl rfl) ?_
                    intro a hE
                    refine q_val (wk0 rfl) rfl rfl hE (v := (.int .i64 (min lp1_0 x7.pts))) (ex_asn rfl hE rfl) ?_
                    intro a hE
                    refine q_val (wk0 rfl) rfl rfl hE (v := (.int .i64 (max lp1_1 x7.pts))) (ex_asn rfl hE rfl) ?_
                    intro a hE
                    refine q_nil fun w hp => ?_
                    have hp : Hp Z ρ (Pt b6 (.cells #[(.int .i64 x7.num), (.int .i64 x7.tick), (.int .i64 x7.pts)] 38 (0, 0)) :: OwnSl 3 v1 x2 :: Pt b1 (.cells #[(.int .i64 p0.kind), (.int .i64 p0.most), (.int .i64 p0.pause), (.int .i64 p0.keep)] 23 (0, 0)) :: L) w := hp
                    refine k_region ?_
                    obtain ⟨x8, ex8, hl1⟩ := bnd hl1
                    refine s_val (wk0 rfl) rfl rfl hE hp (v := (.int .i64 x8)) (ex_add rfl hE rfl rfl (inK_some ex8)) ?_
                    intro a hE
                    refine s_val (wk0 rfl) rfl rfl hE hp (v := (.int .i64 x8)) (ex_move rfl hE rfl) ?_
                    intro a hE
                    refine s_nil ?_
                    have hE := hE.cut (E' := [(1, vp1), (2, (.pointer (some ⟨b1, 0, none⟩))), (5, v1), (6, (.int .i64 x3.1)), (8, (.int .i64 0)), (9, (.int .i64 (min lp1_0 x7.pts))), (10, (.int .i64 (max lp1_1 x7.pts))), (74, vp1), (75, (.int .i64 (p1.length : Int))), (76, (.int .i64 x8))]) ⟨rfl, rfl, rfl, rfl, rfl, rfl, rfl, rfl, rfl, rfl, trivial⟩
                    exact ⟨_, (Option.some.inj hl1).symm, hE.cut ⟨rfl, rfl, rfl, rfl, rfl, rfl, rfl, rfl, rfl, rfl, trivial⟩, (hp.drop)⟩
                  · replace hl1 := (ie hb10).symm.trans hl1
                    refine k_exit ?_
                    refine ⟨_, (Option.some.inj hl1).symm, fun hbb => ?_⟩
                    subst hbb
                    exact ⟨hE.cut ⟨rfl, rfl, rfl, rfl, rfl, rfl, rfl, trivial⟩, hp⟩
              · rintro a w ⟨hE, hp⟩
                refine k_seq ?_
                refine k_region ?_
                refine s_val (wk0 rfl) rfl rfl hE hp (v := (.int .i64 b4.2)) (ex_move rfl hE rfl) ?_
                intro a hE
                refine s_val (wk0 rfl) rfl rfl hE hp (v := (.int .i64 b4.2)) (ex_asn rfl hE rfl) ?_
                intro a hE
                refine s_nil ?_
                refine k_seq ?_
                refine k_seq ?_
                refine k_region ?_
                refine s_val (wk0 rfl) rfl rfl hE hp (v := v1) (ex_move rfl hE rfl) ?_
                intro a hE
                refine s_val (wk0 rfl) rfl rfl hE hp (v := (.int .i64 (x2.length : Int))) (ex_len rfl hE rfl (OwnSl.len hp 0 rfl slty32)) ?_
                intro a hE
                refine s_val (wk0 rfl) rfl rfl hE hp (v := (.int .i64 0)) (ex_move rfl hE rfl) ?_
                intro a hE
                refine s_nil ?_
                obtain ⟨b7, hb11, hm⟩ := bnd hm
                refine k_block (fun a w => ∃ s : (Int × Int), b7 = .brk s ∧ (Env 187 [(1, vp1), (2, (.pointer (some ⟨b1, 0, none⟩))), (5, v1), (6, (.int .i64 x3.1)), (8, (.int .i64 s.1)), (9, (.int .i64 b4.1)), (10, (.int .i64 b4.2)), (13, (.int .i64 s.2))] a ∧ Hp Z ρ (OwnSl 3 v1 x2 :: Pt b1 (.cells #[(.int .i64 p0.kind), (.int .i64 p0.most), (.int .i64 p0.pause), (.int .i64 p0.keep)] 23 (0, 0)) :: L) w)) ?_ ?_
                · refine k_loop hb11 (fun s a w => Env 187 [(1, vp1), (2, (.pointer (some ⟨b1, 0, none⟩))), (5, v1), (6, (.int .i64 x3.1)), (8, (.int .i64 s.1)), (9, (.int .i64 b4.1)), (10, (.int .i64 b4.2)), (13, (.int .i64 s.2.1)), (90, v1), (91, (.int .i64 (x2.length : Int))), (92, (.int .i64 s.2.2))] a ∧ Hp Z ρ (OwnSl 3 v1 x2 :: Pt b1 (.cells #[(.int .i64 p0.kind), (.int .i64 p0.most), (.int .i64 p0.pause), (.int .i64 p0.keep)] 23 (0, 0)) :: L) w) ?_ ?_
                  · exact ⟨hE.cut ⟨rfl, rfl, rfl, rfl, rfl, rfl, rfl, rfl, rfl, rfl, rfl, trivial⟩, hp⟩
                  · rintro ⟨lp2_0, lp2_1, lp2_2⟩ st a w ⟨hE, hp⟩ hl2
                    have hE : Env 187 [(1, vp1), (2, (.pointer (some ⟨b1, 0, none⟩))), (5, v1), (6, (.int .i64 x3.1)), (8, (.int .i64 lp2_0)), (9, (.int .i64 b4.1)), (10, (.int .i64 b4.2)), (13, (.int .i64 lp2_1)), (90, v1), (91, (.int .i64 (x2.length : Int))), (92, (.int .i64 lp2_2))] a := hE
                    have hp : Hp Z ρ (OwnSl 3 v1 x2 :: Pt b1 (.cells #[(.int .i64 p0.kind), (.int .i64 p0.most), (.int .i64 p0.pause), (.int .i64 p0.keep)] 23 (0, 0)) :: L) w := hp
                    replace hl2 : m_assessorlaw52_AttemptsWithin_lp2 p1 x2 lp2_0 lp2_1 lp2_2 = some st := hl2
                    unfold m_assessorlaw52_AttemptsWithin_lp2 at hl2
                    refine k_seq ?_
                    refine k_region ?_
                    refine s_val (wk0 rfl) rfl rfl hE hp (v := (.bool (decide (lp2_2 < (x2.length : Int))))) (ex_lss rfl hE rfl rfl) ?_
                    intro a hE
                    refine s_nil ?_
                    refine k_seq ?_
                    refine k_if hE rfl (fun hb12 => ?_) (fun hb12 => ?_)
                    · replace hl2 := (it hb12).symm.trans hl2
                      refine k_skip ?_
                      refine k_seq ?_
                      refine k_plain ?_
                      refine k_seq ?_
                      refine k_region ?_
                      refine s_val (wk0 rfl) rfl rfl hE hp (v := (.int .i64 lp2_2)) (ex_move rfl hE rfl) ?_
                      intro a hE
                      obtain ⟨x9, ex9, hl2⟩ := bnd hl2
                      obtain ⟨b8, b8o, b8r, b8o2, b8v, b8f⟩ := OwnSl.at hp 0 rfl slty32 ex9
                      have b8f : ∀ (j : Nat) (u : Value), ([(.int .i64 x9)] : List Value)[j]? = some u → ∀ w, Hp Z ρ (OwnSl 3 v1 x2 :: Pt b1 (.cells #[(.int .i64 p0.kind), (.int .i64 p0.most), (.int .i64 p0.pause), (.int .i64 p0.keep)] 23 (0, 0)) :: L) w → w.cell? ⟨b8, b8o + j, none⟩ = some u := b8f
                      refine s_val (wk0 rfl) rfl rfl hE hp (v := (.pointer (some ⟨b8, b8o, none⟩))) (ex_index rfl hE rfl rfl b8r) ?_
                      intro a hE
                      refine s_val (wk0 rfl) rfl rfl hE hp (v := (.int .i64 x9)) (ex_load rfl hE rfl (fun w hw => run_ld1 varty3 (b8f 0 _ rfl w hw))) ?_
                      intro a hE
                      refine s_val (wk0 rfl) rfl rfl hE hp (v := (.int .i64 lp2_2)) (ex_asn rfl hE rfl) ?_
                      intro a hE
                      refine s_val (wk0 rfl) rfl rfl hE hp (v := (.int .i64 x9)) (ex_asn rfl hE rfl) ?_
                      intro a hE
                      refine s_nil ?_
                      refine k_seq ?_
                      refine k_seq ?_
                      refine k_region ?_
                      refine s_val (wk0 rfl) rfl rfl hE hp (v := (.int .i64 x9)) (ex_move rfl hE rfl) ?_
                      intro a hE
                      refine s_val (wk0 rfl) rfl rfl hE hp (v := (.bool (decide (x9 < 1)))) (ex_lss rfl hE rfl rfl) ?_
                      intro a hE
                      refine s_val (wk0 rfl) rfl rfl hE hp (v := (.bool (decide (x9 < 1)))) (ex_move rfl hE rfl) ?_
                      intro a hE
                      refine s_cut [_, _, _, _, _] (fun a w => Env 187 [(104, (.bool ((decide (x9 < 1)) || (decide ((p1.length : Int) < x9))))), (1, vp1), (2, (.pointer (some ⟨b1, 0, none⟩))), (5, v1), (6, (.int .i64 x3.1)), (8, (.int .i64 lp2_0)), (9, (.int .i64 b4.1)), (10, (.int .i64 b4.2)), (13, (.int .i64 lp2_1)), (14, (.int .i64 lp2_2)), (15, (.int .i64 x9)), (90, v1), (91, (.int .i64 (x2.length : Int))), (92, (.int .i64 lp2_2))] a ∧ Hp Z ρ (OwnSl 3 v1 x2 :: Pt b1 (.cells #[(.int .i64 p0.kind), (.int .i64 p0.most), (.int .i64 p0.pause), (.int .i64 p0.keep)] 23 (0, 0)) :: L) w) ?_ ?_
                      · rcases Bool.eq_false_or_eq_true (decide (x9 < 1)) with hb13 | hb13
                        ·
                          refine s_skip (wk2 hE rfl rfl rfl hb13) rfl rfl hE ?_
                          intro a hE
                          refine s_skip (wk2 hE rfl rfl rfl hb13) rfl rfl hE ?_
                          intro a hE
                          refine s_skip (wk2 hE rfl rfl rfl hb13) rfl rfl hE ?_
                          intro a hE
                          refine s_skip (wk2 hE rfl rfl rfl hb13) rfl rfl hE ?_
                          intro a hE
                          refine s_val (wk0 rfl) rfl rfl hE hp (v := (.bool true)) (ex_pick1 rfl hE rfl hb13 rfl) ?_
                          intro a hE
                          have hE := hE.eqv (v' := (.bool ((decide (x9 < 1)) || (decide ((p1.length : Int) < x9))))) (by rw [hb13]; rfl)
                          exact s_nil ⟨hE.cut ⟨rfl, rfl, rfl, rfl, rfl, rfl, rfl, rfl, rfl, rfl, rfl, rfl, rfl, rfl, trivial⟩, hp⟩
                        ·
                          refine s_val (wk1 hE rfl rfl rfl hb13) rfl rfl hE hp (v := (.int .i64 x9)) (ex_move rfl hE rfl) ?_
                          intro a hE
                          refine s_val (wk1 hE rfl rfl rfl hb13) rfl rfl hE hp (v := vp1) (ex_move rfl hE rfl) ?_
                          intro a hE
                          refine s_val (wk1 hE rfl rfl rfl hb13) rfl rfl hE hp (v := (.int .i64 (p1.length : Int))) (ex_len rfl hE rfl (RoSl.len hp1 slty24)) ?_
                          intro a hE
                          refine s_val (wk1 hE rfl rfl rfl hb13) rfl rfl hE hp (v := (.bool (decide ((p1.length : Int) < x9)))) (ex_gtr rfl hE rfl rfl) ?_
                          intro a hE
                          refine s_val (wk0 rfl) rfl rfl hE hp (v := (.bool (decide ((p1.length : Int) < x9)))) (ex_pick0 rfl hE rfl hb13 rfl) ?_
                          intro a hE
                          have hE := hE.eqv (v' := (.bool ((decide (x9 < 1)) || (decide ((p1.length : Int) < x9))))) (by rw [hb13]; rfl)
                          exact s_nil ⟨hE.cut ⟨rfl, rfl, rfl, rfl, rfl, rfl, rfl, rfl, rfl, rfl, rfl, rfl, rfl, rfl, trivial⟩, hp⟩
                      · rintro a w ⟨hE, hp⟩
                        refine s_val (wk0 rfl) rfl rfl hE hp (v := (.bool ((decide (x9 < 1)) || (decide ((p1.length : Int) < x9))))) (ex_move rfl hE rfl) ?_
                        intro a hE
                        obtain ⟨m1, hg1, hl2⟩ := bnd hl2
                        refine s_cut [_, _, _, _, _, _, _, _, _, _, _, _] (fun a w => Env 187 [(117, (.bool m1)), (1, vp1), (2, (.pointer (some ⟨b1, 0, none⟩))), (5, v1), (6, (.int .i64 x3.1)), (8, (.int .i64 lp2_0)), (9, (.int .i64 b4.1)), (10, (.int .i64 b4.2)), (13, (.int .i64 lp2_1)), (15, (.int .i64 x9)), (90, v1), (91, (.int .i64 (x2.length : Int))), (92, (.int .i64 lp2_2))] a ∧ Hp Z ρ (OwnSl 3 v1 x2 :: Pt b1 (.cells #[(.int .i64 p0.kind), (.int .i64 p0.most), (.int .i64 p0.pause), (.int .i64 p0.keep)] 23 (0, 0)) :: L) w) ?_ ?_
                        · rcases Bool.eq_false_or_eq_true ((decide (x9 < 1)) || (decide ((p1.length : Int) < x9))) with hb14 | hb14
                          ·
                            replace hg1 := (it hb14).symm.trans hg1
                            refine s_skip (wk2 hE rfl rfl rfl hb14) rfl rfl hE ?_
                            intro a hE
                            refine s_skip (wk2 hE rfl rfl rfl hb14) rfl rfl hE ?_
                            intro a hE
                            refine s_skip (wk2 hE rfl rfl rfl hb14) rfl rfl hE ?_
                            intro a hE
                            refine s_skip (wk3 hE rfl rfl rfl) rfl rfl hE ?_
                            intro a hE
                            refine s_skip (wk3 hE rfl rfl rfl) rfl rfl hE ?_
                            intro a hE
                            refine s_skip (wk3 hE rfl rfl rfl) rfl rfl hE ?_
                            intro a hE
                            refine s_skip (wk3 hE rfl rfl rfl) rfl rfl hE ?_
                            intro a hE
                            refine s_skip (wk3 hE rfl rfl rfl) rfl rfl hE ?_
                            intro a hE
                            refine s_skip (wk3 hE rfl rfl rfl) rfl rfl hE ?_
                            intro a hE
                            refine s_skip (wk3 hE rfl rfl rfl) rfl rfl hE ?_
                            intro a hE
                            refine s_skip (wk2 hE rfl rfl rfl hb14) rfl rfl hE ?_
                            intro a hE
                            refine s_val (wk0 rfl) rfl rfl hE hp (v := (.bool true)) (ex_pick1 rfl hE rfl hb14 rfl) ?_
                            intro a hE
                            obtain rfl := Option.some.inj hg1
                            exact s_nil ⟨hE.cut ⟨rfl, rfl, rfl, rfl, rfl, rfl, rfl, rfl, rfl, rfl, rfl, rfl, rfl, trivial⟩, hp⟩
                          ·
                            replace hg1 := (ie hb14).symm.trans hg1
                            refine s_val (wk1 hE rfl rfl rfl hb14) rfl rfl hE hp (v := (.int .i64 lp2_2)) (ex_move rfl hE rfl) ?_
                            intro a hE
                            refine s_val (wk1 hE rfl rfl rfl hb14) rfl rfl hE hp (v := (.bool (decide (0 < lp2_2)))) (ex_gtr rfl hE rfl rfl) ?_
                            intro a hE
                            refine s_val (wk1 hE rfl rfl rfl hb14) rfl rfl hE hp (v := (.bool (decide (0 < lp2_2)))) (ex_move rfl hE rfl) ?_
                            intro a hE
                            obtain ⟨m2, hg2, hg1⟩ := bnd hg1
                            refine s_cut [_, _, _, _, _, _, _, _] (fun a w => Env 187 [(116, (.bool m2)), (1, vp1), (2, (.pointer (some ⟨b1, 0, none⟩))), (5, v1), (6, (.int .i64 x3.1)), (8, (.int .i64 lp2_0)), (9, (.int .i64 b4.1)), (10, (.int .i64 b4.2)), (13, (.int .i64 lp2_1)), (15, (.int .i64 x9)), (90, v1), (91, (.int .i64 (x2.length : Int))), (92, (.int .i64 lp2_2)), (105, (.bool ((decide (x9 < 1)) || (decide ((p1.length : Int) < x9))))), (106, (.int .i64 lp2_2)), (107, (.bool (decide (0 < lp2_2)))), (108, (.bool (decide (0 < lp2_2))))] a ∧ Hp Z ρ (OwnSl 3 v1 x2 :: Pt b1 (.cells #[(.int .i64 p0.kind), (.int .i64 p0.most), (.int .i64 p0.pause), (.int .i64 p0.keep)] 23 (0, 0)) :: L) w) ?_ ?_
                            · rcases Bool.eq_false_or_eq_true (decide (0 < lp2_2)) with hb15 | hb15
                              ·
                                replace hg2 := (it hb15).symm.trans hg2
                                refine s_val (wk1 hE rfl rfl rfl hb15) rfl rfl hE hp (v := v1) (ex_move rfl hE rfl) ?_
                                intro a hE
                                refine s_val (wk1 hE rfl rfl rfl hb15) rfl rfl hE hp (v := (.int .i64 lp2_2)) (ex_move rfl hE rfl) ?_
                                intro a hE
                                obtain ⟨x10, ex10, hg2⟩ := bnd hg2
                                refine s_val (wk1 hE rfl rfl rfl hb15) rfl rfl hE hp (v := (.int .i64 x10)) (ex_sub rfl hE rfl rfl (inK_some ex10)) ?_
                                intro a hE
                                obtain ⟨x11, ex11, hg2⟩ := bnd hg2
                                obtain ⟨b9, b9o, b9r, b9o2, b9v, b9f⟩ := OwnSl.at hp 0 rfl slty32 ex11
                                have b9f : ∀ (j : Nat) (u : Value), ([(.int .i64 x11)] : List Value)[j]? = some u → ∀ w, Hp Z ρ (OwnSl 3 v1 x2 :: Pt b1 (.cells #[(.int .i64 p0.kind), (.int .i64 p0.most), (.int .i64 p0.pause), (.int .i64 p0.keep)] 23 (0, 0)) :: L) w → w.cell? ⟨b9, b9o + j, none⟩ = some u := b9f
                                refine s_val (wk1 hE rfl rfl rfl hb15) rfl rfl hE hp (v := (.pointer (some ⟨b9, b9o, none⟩))) (ex_index rfl hE rfl rfl b9r) ?_
                                intro a hE
                                refine s_val (wk1 hE rfl rfl rfl hb15) rfl rfl hE hp (v := (.int .i64 x11)) (ex_load rfl hE rfl (fun w hw => run_ld1 varty3 (b9f 0 _ rfl w hw))) ?_
                                intro a hE
                                refine s_val (wk1 hE rfl rfl rfl hb15) rfl rfl hE hp (v := (.int .i64 x9)) (ex_move rfl hE rfl) ?_
                                intro a hE
                                refine s_val (wk1 hE rfl rfl rfl hb15) rfl rfl hE hp (v := (.bool (decide (x9 ≤ x11)))) (ex_geq rfl hE rfl rfl) ?_
                                intro a hE
                                refine s_val (wk1 hE rfl rfl rfl hb14) rfl rfl hE hp (v := (.bool (decide (x9 ≤ x11)))) (ex_pick1 rfl hE rfl hb15 rfl) ?_
                                intro a hE
                                obtain rfl := Option.some.inj hg2
                                exact s_nil ⟨hE.cut ⟨rfl, rfl, rfl, rfl, rfl, rfl, rfl, rfl, rfl, rfl, rfl, rfl, rfl, rfl, rfl, rfl, rfl, trivial⟩, hp⟩
                              ·
                                replace hg2 := (ie hb15).symm.trans hg2
                                refine s_skip (wk2 hE rfl rfl rfl hb15) rfl rfl hE ?_
                                intro a hE
                                refine s_skip (wk2 hE rfl rfl rfl hb15) rfl rfl hE ?_
                                intro a hE
                                refine s_skip (wk2 hE rfl rfl rfl hb15) rfl rfl hE ?_
                                intro a hE
                                refine s_skip (wk2 hE rfl rfl rfl hb15) rfl rfl hE ?_
                                intro a hE
                                refine s_skip (wk2 hE rfl rfl rfl hb15) rfl rfl hE ?_
                                intro a hE
                                refine s_skip (wk2 hE rfl rfl rfl hb15) rfl rfl hE ?_
                                intro a hE
                                refine s_skip (wk2 hE rfl rfl rfl hb15) rfl rfl hE ?_
                                intro a hE
                                refine s_val (wk1 hE rfl rfl rfl hb14) rfl rfl hE hp (v := (.bool false)) (ex_pick0 rfl hE rfl hb15 rfl) ?_
                                intro a hE
                                obtain rfl := Option.some.inj hg2
                                exact s_nil ⟨hE.cut ⟨rfl, rfl, rfl, rfl, rfl, rfl, rfl, rfl, rfl, rfl, rfl, rfl, rfl, rfl, rfl, rfl, rfl, trivial⟩, hp⟩
                            · rintro a w ⟨hE, hp⟩
                              refine s_val (wk0 rfl) rfl rfl hE hp (v := (.bool m2)) (ex_pick0 rfl hE rfl hb14 rfl) ?_
                              intro a hE
                              obtain rfl := Option.some.inj hg1
                              exact s_nil ⟨hE.cut ⟨rfl, rfl, rfl, rfl, rfl, rfl, rfl, rfl, rfl, rfl, rfl, rfl, rfl, trivial⟩, hp⟩
                        · rintro a w ⟨hE, hp⟩
                          refine s_nil ?_
                          refine k_if hE rfl (fun hb16 => ?_) (fun hb16 => ?_)
                          · replace hl2 := (it hb16).symm.trans hl2
                            refine k_seq ?_
                            refine k_region ?_
                            refine s_val (wk0 rfl) rfl rfl hE hp (v := (.bool false)) (ex_asn rfl hE rfl) ?_
                            intro a hE
                            refine s_nil ?_
                            refine k_ret ?_
                            refine ⟨_, (Option.some.inj hl2).symm, fun hb => ?_⟩
                            subst hb
                            obtain rfl := Option.some.inj hm
                            exact ret1 hE rfl rfl ⟨_, rfl, rfl, (((hp.get 1 rfl).drop).drop)⟩
                          · replace hl2 := (ie hb16).symm.trans hl2
                            refine k_skip ?_
                            refine k_quiet (by kernel_rfl) (by kernel_rfl) hp ?_
                            refine q_val (wk0 rfl) rfl rfl hE (v := (.int .i64 lp2_0)) (ex_move rfl hE rfl) ?_
                            intro a hE
                            refine q_val (wk0 rfl) rfl rfl hE (v := vp1) (ex_move rfl hE rfl) ?_
                            intro a hE
                            refine q_val (wk0 rfl) rfl rfl hE (v := (.int .i64 x9)) (ex_move rfl hE rfl) ?_
                            intro a hE
                            obtain ⟨x12, ex12, hl2⟩ := bnd hl2
                            refine q_val (wk0 rfl) rfl rfl hE (v := (.int .i64 x12)) (ex_sub rfl hE rfl rfl (inK_some ex12)) ?_
                            intro a hE
                            obtain ⟨x13, ex13, hl2⟩ := bnd hl2
                            obtain ⟨b10, b10o, b10c, b10r, b10k, b10f⟩ := RoSl.at hp1 slty24 ex13
                            obtain rfl : b10c = Enc.enc x13 := b10k
                            have b10f : AtP ρ b10 b10o [(.int .i64 x13.num), (.int .i64 x13.tick), (.int .i64 x13.pts)] := b10f
                            refine q_val (wk0 rfl) rfl rfl hE (v := (.pointer (some ⟨b10, b10o, none⟩))) (ex_index rfl hE rfl rfl b10r) ?_
                            intro a hE
                            refine q_val (wk0 rfl) rfl rfl hE (v := (.pointer (some ⟨b10, b10o + 2, none⟩))) (ex_field rfl hE rfl (fldty38_2 _ _)) ?_
                            intro a hE
                            refine q_val (wk0 rfl) rfl rfl hE (v := (.int .i64 x13.pts)) (ex_load rfl hE rfl (fun w hw => run_ld1 varty3 (b10f.c 2 rfl w hw))) ?_
                            intro a hE
                            obtain ⟨x14, ex14, hl2⟩ := bnd hl2
                            refine q_val (wk0 rfl) rfl rfl hE (v := (.int .i64 x14)) (ex_add rfl hE rfl rfl (inK_some ex14)) ?_
                            intro a hE
                            refine q_val (wk0 rfl) rfl rfl hE (v := (.int .i64 lp2_1)) (ex_move rfl hE rfl) ?_
                            intro a hE
                            refine q_val (wk0 rfl) rfl rfl hE (v := vp1) (ex_move rfl hE rfl) ?_
                            intro a hE
                            refine q_val (wk0 rfl) rfl rfl hE (v := (.int .i64 x9)) (ex_move rfl hE rfl) ?_
                            intro a hE
                            obtain ⟨x15, ex15, hl2⟩ := bnd hl2
                            refine q_val (wk0 rfl) rfl rfl hE (v := (.int .i64 x15)) (ex_sub rfl hE rfl rfl (inK_some ex15)) ?_
                            intro a hE
                            obtain ⟨x16, ex16, hl2⟩ := bnd hl2
                            obtain ⟨b11, b11o, b11c, b11r, b11k, b11f⟩ := RoSl.at hp1 slty24 ex16
                            obtain rfl : b11c = Enc.enc x16 := b11k
                            have b11f : AtP ρ b11 b11o [(.int .i64 x16.num), (.int .i64 x16.tick), (.int .i64 x16.pts)] := b11f
                            refine q_val (wk0 rfl) rfl rfl hE (v := (.pointer (some ⟨b11, b11o, none⟩))) (ex_index rfl hE rfl rfl b11r) ?_
                            intro a hE
                            refine q_val (wk0 rfl) rfl rfl hE (v := (.pointer (some ⟨b11, b11o + 2, none⟩))) (ex_field rfl hE rfl (fldty38_2 _ _)) ?_
                            intro a hE
                            refine q_val (wk0 rfl) rfl rfl hE (v := (.int .i64 x16.pts)) (ex_load rfl hE rfl (fun w hw => run_ld1 varty3 (b11f.c 2 rfl w hw))) ?_
                            intro a hE
                            refine q_val (wk0 rfl) rfl rfl hE (v := (.int .i64 (min lp2_1 x16.pts))) (ex_min rfl hE rfl rfl) ?_
                            intro a hE
                            refine q_val (wk0 rfl) rfl rfl hE (v := (.int .i64 x14)) (ex_asn rfl hE rfl) ?_
                            intro a hE
                            refine q_val (wk0 rfl) rfl rfl hE (v := (.int .i64 (min lp2_1 x16.pts))) (ex_asn rfl hE rfl) ?_
                            intro a hE
                            refine q_nil fun w hp => ?_
                            have hp : Hp Z ρ (OwnSl 3 v1 x2 :: Pt b1 (.cells #[(.int .i64 p0.kind), (.int .i64 p0.most), (.int .i64 p0.pause), (.int .i64 p0.keep)] 23 (0, 0)) :: L) w := hp
                            have hE := hE.cut (E' := [(1, vp1), (2, (.pointer (some ⟨b1, 0, none⟩))), (5, v1), (6, (.int .i64 x3.1)), (8, (.int .i64 x14)), (9, (.int .i64 b4.1)), (10, (.int .i64 b4.2)), (13, (.int .i64 (min lp2_1 x16.pts))), (90, v1), (91, (.int .i64 (x2.length : Int))), (92, (.int .i64 lp2_2))]) ⟨rfl, rfl, rfl, rfl, rfl, rfl, rfl, rfl, rfl, rfl, rfl, trivial⟩
                            refine k_region ?_
                            obtain ⟨x17, ex17, hl2⟩ := bnd hl2
                            refine s_val (wk0 rfl) rfl rfl hE hp (v := (.int .i64 x17)) (ex_add rfl hE rfl rfl (inK_some ex17)) ?_
                            intro a hE
                            refine s_val (wk0 rfl) rfl rfl hE hp (v := (.int .i64 x17)) (ex_move rfl hE rfl) ?_
                            intro a hE
                            refine s_nil ?_
                            exact ⟨_, (Option.some.inj hl2).symm, hE.cut ⟨rfl, rfl, rfl, rfl, rfl, rfl, rfl, rfl, rfl, rfl, rfl, trivial⟩, hp⟩
                    · replace hl2 := (ie hb12).symm.trans hl2
                      refine k_exit ?_
                      refine ⟨_, (Option.some.inj hl2).symm, fun hbb => ?_⟩
                      exact ⟨_, hbb.symm, hE.cut ⟨rfl, rfl, rfl, rfl, rfl, rfl, rfl, rfl, trivial⟩, hp⟩
                · rintro a w ⟨b7s, rfl, hE, hp⟩
                  dsimp only at hm
                  refine k_seq ?_
                  refine k_seq ?_
                  refine k_region ?_
                  refine s_val (wk0 rfl) rfl rfl hE hp (v := vp1) (ex_move rfl hE rfl) ?_
                  intro a hE
                  refine s_val (wk0 rfl) rfl rfl hE hp (v := (.int .i64 (p1.length : Int))) (ex_len rfl hE rfl (RoSl.len hp1 slty24)) ?_
                  intro a hE
                  refine s_val (wk0 rfl) rfl rfl hE hp (v := (.int .i64 0)) (ex_move rfl hE rfl) ?_
                  intro a hE
                  refine s_nil ?_
                  obtain ⟨b12, hb17, hm⟩ := bnd hm
                  refine k_block (fun a w => ∃ s : Unit, b12 = .brk s ∧ (Env 187 [(5, v1), (6, (.int .i64 x3.1)), (8, (.int .i64 b7s.1)), (9, (.int .i64 b4.1)), (10, (.int .i64 b4.2))] a ∧ Hp Z ρ (OwnSl 3 v1 x2 :: Pt b1 (.cells #[(.int .i64 p0.kind), (.int .i64 p0.most), (.int .i64 p0.pause), (.int .i64 p0.keep)] 23 (0, 0)) :: L) w)) ?_ ?_
                  · refine k_loop hb17 (fun s a w => Env 187 [(2, (.pointer (some ⟨b1, 0, none⟩))), (5, v1), (6, (.int .i64 x3.1)), (8, (.int .i64 b7s.1)), (9, (.int .i64 b4.1)), (10, (.int .i64 b4.2)), (13, (.int .i64 b7s.2)), (135, vp1), (136, (.int .i64 (p1.length : Int))), (137, (.int .i64 s))] a ∧ Hp Z ρ (OwnSl 3 v1 x2 :: Pt b1 (.cells #[(.int .i64 p0.kind), (.int .i64 p0.most), (.int .i64 p0.pause), (.int .i64 p0.keep)] 23 (0, 0)) :: L) w) ?_ ?_
                    · exact ⟨hE.cut ⟨rfl, rfl, rfl, rfl, rfl, rfl, rfl, rfl, rfl, rfl, trivial⟩, hp⟩
                    · rintro lp3_0 st a w ⟨hE, hp⟩ hl3
                      have hE : Env 187 [(2, (.pointer (some ⟨b1, 0, none⟩))), (5, v1), (6, (.int .i64 x3.1)), (8, (.int .i64 b7s.1)), (9, (.int .i64 b4.1)), (10, (.int .i64 b4.2)), (13, (.int .i64 b7s.2)), (135, vp1), (136, (.int .i64 (p1.length : Int))), (137, (.int .i64 lp3_0))] a := hE
                      have hp : Hp Z ρ (OwnSl 3 v1 x2 :: Pt b1 (.cells #[(.int .i64 p0.kind), (.int .i64 p0.most), (.int .i64 p0.pause), (.int .i64 p0.keep)] 23 (0, 0)) :: L) w := hp
                      replace hl3 : m_assessorlaw52_AttemptsWithin_lp3 p0 p1 x2 b7s lp3_0 = some st := hl3
                      unfold m_assessorlaw52_AttemptsWithin_lp3 at hl3
                      refine k_seq ?_
                      refine k_region ?_
                      refine s_val (wk0 rfl) rfl rfl hE hp (v := (.bool (decide (lp3_0 < (p1.length : Int))))) (ex_lss rfl hE rfl rfl) ?_
                      intro a hE
                      refine s_nil ?_
                      refine k_seq ?_
                      refine k_if hE rfl (fun hb18 => ?_) (fun hb18 => ?_)
                      · replace hl3 := (it hb18).symm.trans hl3
                        refine k_skip ?_
                        refine k_seq ?_
                        refine k_plain ?_
                        refine k_seq ?_
                        refine k_region ?_
                        refine s_val (wk0 rfl) rfl rfl hE hp (v := (.int .i64 lp3_0)) (ex_move rfl hE rfl) ?_
                        intro a hE
                        obtain ⟨x18, ex18, hl3⟩ := bnd hl3
                        obtain ⟨b13, b13o, b13c, b13r, b13k, b13f⟩ := RoSl.at hp1 slty24 ex18
                        obtain rfl : b13c = Enc.enc x18 := b13k
                        have b13f : AtP ρ b13 b13o [(.int .i64 x18.num), (.int .i64 x18.tick), (.int .i64 x18.pts)] := b13f
                        refine s_val (wk0 rfl) rfl rfl hE hp (v := (.pointer (some ⟨b13, b13o, none⟩))) (ex_index rfl hE rfl rfl b13r) ?_
                        intro a hE
                        refine s_val (wk0 rfl) rfl rfl hE hp (v := (.agg #[(.int .i64 x18.num), (.int .i64 x18.tick), (.int .i64 x18.pts)])) (ex_load rfl hE rfl (fun w hw => run_ldN (cs := [(.int .i64 x18.num), (.int .i64 x18.tick), (.int .i64 x18.pts)]) varty38 (fun j u hj => cell_of hw.le (b13f j u hj)))) ?_
                        intro a hE
                        refine s_new (wk0 rfl) rfl rfl hE hp rfl [(.int .i64 0), (.int .i64 0), (.int .i64 0)] (fun w => by simp [Instr.alloc, go_sem]) ?_
                        intro a w b14 hE hp
                        have hp : Hp Z ρ (Pt b14 (.cells #[(.int .i64 0), (.int .i64 0), (.int .i64 0)] 38 (0, 0)) :: OwnSl 3 v1 x2 :: Pt b1 (.cells #[(.int .i64 p0.kind), (.int .i64 p0.most), (.int .i64 p0.pause), (.int .i64 p0.keep)] 23 (0, 0)) :: L) w := hp
                        refine s_val (wk0 rfl) rfl rfl hE hp (v := (.int .i64 lp3_0)) (ex_asn rfl hE rfl) ?_
                        intro a hE
                        refine s_store (wk0 rfl) rfl hE hp rfl rfl rfl 0 rfl varty38.size_ rfl (by simp [Value.cells, Value.oneCell']) [(.int .i64 x18.num), (.int .i64 x18.tick), (.int .i64 x18.pts)] rfl ?_
                        intro w hp
                        have hp : Hp Z ρ (Pt b14 (.cells #[(.int .i64 x18.num), (.int .i64 x18.tick), (.int .i64 x18.pts)] 38 (0, 0)) :: OwnSl 3 v1 x2 :: Pt b1 (.cells #[(.int .i64 p0.kind), (.int .i64 p0.most), (.int .i64 p0.pause), (.int .i64 p0.keep)] 23 (0, 0)) :: L) w := hp
                        refine s_nil ?_
                        refine k_seq ?_
                        refine k_region ?_
                        refine s_val (wk0 rfl) rfl rfl hE hp (v := (.pointer (some ⟨b1, 0, none⟩))) (ex_field rfl hE rfl (fldty23_0 _ _)) ?_
                        intro a hE
                        refine s_val (wk0 rfl) rfl rfl hE hp (v := (.int .i64 p0.kind)) (ex_load rfl hE rfl (fun w hw => run_ld1 varty3 (Hp.c 2 rfl 0 rfl w hw))) ?_
                        intro a hE
                        refine s_val (wk0 rfl) rfl rfl hE hp (v := (.bool (!decide (p0.kind = 1)))) (ex_neq rfl hE rfl rfl) ?_
                        intro a hE
                        refine s_val (wk0 rfl) rfl rfl hE hp (v := (.bool (!decide (p0.kind = 1)))) (ex_move rfl hE rfl) ?_
                        intro a hE
                        obtain ⟨m3, hg3, hl3⟩ := bnd hl3
                        refine s_cut [_, _, _, _, _, _] (fun a w => Env 187 [(151, (.bool m3)), (2, (.pointer (some ⟨b1, 0, none⟩))), (5, v1), (6, (.int .i64 x3.1)), (8, (.int .i64 b7s.1)), (9, (.int .i64 b4.1)), (10, (.int .i64 b4.2)), (13, (.int .i64 b7s.2)), (17, (.pointer (some ⟨b14, 0, none⟩))), (135, vp1), (136, (.int .i64 (p1.length : Int))), (137, (.int .i64 lp3_0))] a ∧ Hp Z ρ (Pt b14 (.cells #[(.int .i64 x18.num), (.int .i64 x18.tick), (.int .i64 x18.pts)] 38 (0, 0)) :: OwnSl 3 v1 x2 :: Pt b1 (.cells #[(.int .i64 p0.kind), (.int .i64 p0.most), (.int .i64 p0.pause), (.int .i64 p0.keep)] 23 (0, 0)) :: L) w) ?_ ?_
                        · rcases Bool.eq_false_or_eq_true (!decide (p0.kind = 1)) with hb19 | hb19
                          ·
                            replace hg3 := (it hb19).symm.trans hg3
                            refine s_val (wk1 hE rfl rfl rfl hb19) rfl rfl hE hp (v := v1) (ex_move rfl hE rfl) ?_
                            intro a hE
                            refine s_val (wk1 hE rfl rfl rfl hb19) rfl rfl hE hp (v := (.int .i64 lp3_0)) (ex_move rfl hE rfl) ?_
                            intro a hE
                            obtain ⟨x19, ex19, hg3⟩ := bnd hg3
                            refine s_val (wk1 hE rfl rfl rfl hb19) rfl rfl hE hp (v := (.int .i64 x19)) (ex_add rfl hE rfl rfl (inK_some ex19)) ?_
                            intro a hE
                            obtain ⟨k1, k1a, k1d, k1h⟩ := (hp.get 1 rfl).lend
                            obtain ⟨x20, ex20, hg3⟩ := bnd hg3
                            refine s_call (wk1 hE rfl rfl rfl hb19) rfl rfl hE rfl [v1, (.int .i64 x19)] ⟨rfl, rfl, trivial⟩ ent21 (c_containsI x2 v1 (OwnSl.ro k1d k1a) x19 k1h x20 ex20) Ret.ret ?_
                            intro v a w hR hE
                            obtain ⟨rfl, hp⟩ := Ret.of hR
                            have hp := Hp.back k1a k1d hp
                            have hp : Hp Z ρ (OwnSl 3 v1 x2 :: Pt b14 (.cells #[(.int .i64 x18.num), (.int .i64 x18.tick), (.int .i64 x18.pts)] 38 (0, 0)) :: Pt b1 (.cells #[(.int .i64 p0.kind), (.int .i64 p0.most), (.int .i64 p0.pause), (.int .i64 p0.keep)] 23 (0, 0)) :: L) w := hp
                            have hp : Hp Z ρ (OwnSl 3 v1 x2 :: Pt b14 (.cells #[(.int .i64 x18.num), (.int .i64 x18.tick), (.int .i64 x18.pts)] 38 (0, 0)) :: Pt b1 (.cells #[(.int .i64 p0.kind), (.int .i64 p0.most), (.int .i64 p0.pause), (.int .i64 p0.keep)] 23 (0, 0)) :: L) w := hp
                            refine s_val (wk1 hE rfl rfl rfl hb19) rfl rfl hE hp (v := (.bool (!x20))) (ex_not rfl hE rfl) ?_
                            intro a hE
                            refine s_val (wk0 rfl) rfl rfl hE hp (v := (.bool (!x20))) (ex_pick1 rfl hE rfl hb19 rfl) ?_
                            intro a hE
                            obtain rfl := Option.some.inj hg3
                            exact s_nil ⟨hE.cut ⟨rfl, rfl, rfl, rfl, rfl, rfl, rfl, rfl, rfl, rfl, rfl, rfl, trivial⟩, (((hp.get 2 rfl).get 1 rfl).get 2 rfl)⟩
                          ·
                            replace hg3 := (ie hb19).symm.trans hg3
                            refine s_skip (wk2 hE rfl rfl rfl hb19) rfl rfl hE ?_
                            intro a hE
                            refine s_skip (wk2 hE rfl rfl rfl hb19) rfl rfl hE ?_
                            intro a hE
                            refine s_skip (wk2 hE rfl rfl rfl hb19) rfl rfl hE ?_
                            intro a hE
                            refine s_skip (wk2 hE rfl rfl rfl hb19) rfl rfl hE ?_
                            intro a hE
                            refine s_skip (wk2 hE rfl rfl rfl hb19) rfl rfl hE ?_
                            intro a hE
                            refine s_val (wk0 rfl) rfl rfl hE hp (v := (.bool false)) (ex_pick0 rfl hE rfl hb19 rfl) ?_
                            intro a hE
                            obtain rfl := Option.some.inj hg3
                            exact s_nil ⟨hE.cut ⟨rfl, rfl, rfl, rfl, rfl, rfl, rfl, rfl, rfl, rfl, rfl, rfl, trivial⟩, hp⟩
                        · rintro a w ⟨hE, hp⟩
                          refine s_val (wk0 rfl) rfl rfl hE hp (v := (.bool m3)) (ex_move rfl hE rfl) ?_
                          intro a hE
                          refine s_cut [_, _, _, _, _] (fun a w => Env 187 [(157, (.bool (m3 && (decide (b7s.2 < x18.pts))))), (2, (.pointer (some ⟨b1, 0, none⟩))), (5, v1), (6, (.int .i64 x3.1)), (8, (.int .i64 b7s.1)), (9, (.int .i64 b4.1)), (10, (.int .i64 b4.2)), (13, (.int .i64 b7s.2)), (135, vp1), (136, (.int .i64 (p1.length : Int))), (137, (.int .i64 lp3_0))] a ∧ Hp Z ρ (Pt b14 (.cells #[(.int .i64 x18.num), (.int .i64 x18.tick), (.int .i64 x18.pts)] 38 (0, 0)) :: OwnSl 3 v1 x2 :: Pt b1 (.cells #[(.int .i64 p0.kind), (.int .i64 p0.most), (.int .i64 p0.pause), (.int .i64 p0.keep)] 23 (0, 0)) :: L) w) ?_ ?_
                          · rcases Bool.eq_false_or_eq_true m3 with hb20 | hb20
                            ·
                              refine s_val (wk1 hE rfl rfl rfl hb20) rfl rfl hE hp (v := (.pointer (some ⟨b14, 2, none⟩))) (ex_field rfl hE rfl (fldty38_2 _ _)) ?_
                              intro a hE
                              refine s_val (wk1 hE rfl rfl rfl hb20) rfl rfl hE hp (v := (.int .i64 x18.pts)) (ex_load rfl hE rfl (fun w hw => run_ld1 varty3 (Hp.c 0 rfl 2 rfl w hw))) ?_
                              intro a hE
                              refine s_val (wk1 hE rfl rfl rfl hb20) rfl rfl hE hp (v := (.int .i64 b7s.2)) (ex_move rfl hE rfl) ?_
                              intro a hE
                              refine s_val (wk1 hE rfl rfl rfl hb20) rfl rfl hE hp (v := (.bool (decide (b7s.2 < x18.pts)))) (ex_gtr rfl hE rfl rfl) ?_
                              intro a hE
                              refine s_val (wk0 rfl) rfl rfl hE hp (v := (.bool (decide (b7s.2 < x18.pts)))) (ex_pick1 rfl hE rfl hb20 rfl) ?_
                              intro a hE
                              have hE := hE.eqv (v' := (.bool (m3 && (decide (b7s.2 < x18.pts))))) (by rw [hb20]; rfl)
                              exact s_nil ⟨hE.cut ⟨rfl, rfl, rfl, rfl, rfl, rfl, rfl, rfl, rfl, rfl, rfl, trivial⟩, hp⟩
                            ·
                              refine s_skip (wk2 hE rfl rfl rfl hb20) rfl rfl hE ?_
                              intro a hE
                              refine s_skip (wk2 hE rfl rfl rfl hb20) rfl rfl hE ?_
                              intro a hE
                              refine s_skip (wk2 hE rfl rfl rfl hb20) rfl rfl hE ?_
                              intro a hE
                              refine s_skip (wk2 hE rfl rfl rfl hb20) rfl rfl hE ?_
                              intro a hE
                              refine s_val (wk0 rfl) rfl rfl hE hp (v := (.bool false)) (ex_pick0 rfl hE rfl hb20 rfl) ?_
                              intro a hE
                              have hE := hE.eqv (v' := (.bool (m3 && (decide (b7s.2 < x18.pts))))) (by rw [hb20]; rfl)
                              exact s_nil ⟨hE.cut ⟨rfl, rfl, rfl, rfl, rfl, rfl, rfl, rfl, rfl, rfl, rfl, trivial⟩, hp⟩
                          · rintro a w ⟨hE, hp⟩
                            refine s_nil ?_
                            refine k_if hE rfl (fun hb21 => ?_) (fun hb21 => ?_)
                            · replace hl3 := (it hb21).symm.trans hl3
                              refine k_seq ?_
                              refine k_region ?_
                              refine s_val (wk0 rfl) rfl rfl hE hp (v := (.bool false)) (ex_asn rfl hE rfl) ?_
                              intro a hE
                              refine s_nil ?_
                              refine k_ret ?_
                              refine ⟨_, (Option.some.inj hl3).symm, fun hb => ?_⟩
                              subst hb
                              obtain rfl := Option.some.inj hm
                              exact ret1 hE rfl rfl ⟨_, rfl, rfl, (((((hp.get 2 rfl).drop).get 1 rfl).drop).drop)⟩
                            · replace hl3 := (ie hb21).symm.trans hl3
                              refine k_skip ?_
                              refine k_region ?_
                              obtain ⟨x21, ex21, hl3⟩ := bnd hl3
                              refine s_val (wk0 rfl) rfl rfl hE hp (v := (.int .i64 x21)) (ex_add rfl hE rfl rfl (inK_some ex21)) ?_
                              intro a hE
                              refine s_val (wk0 rfl) rfl rfl hE hp (v := (.int .i64 x21)) (ex_move rfl hE rfl) ?_
                              intro a hE
                              refine s_nil ?_
                              exact ⟨_, (Option.some.inj hl3).symm, hE.cut ⟨rfl, rfl, rfl, rfl, rfl, rfl, rfl, rfl, rfl, rfl, trivial⟩, (hp.drop)⟩
                      · replace hl3 := (ie hb18).symm.trans hl3
                        refine k_exit ?_
                        refine ⟨_, (Option.some.inj hl3).symm, fun hbb => ?_⟩
                        exact ⟨_, hbb.symm, hE.cut ⟨rfl, rfl, rfl, rfl, rfl, trivial⟩, hp⟩
                  · rintro a w ⟨b12s, rfl, hE, hp⟩
                    dsimp only at hm
                    refine k_seq ?_
                    refine k_region ?_
                    refine s_val (wk0 rfl) rfl rfl hE hp (v := (.int .i64 x3.1)) (ex_move rfl hE rfl) ?_
                    intro a hE
                    refine s_val (wk0 rfl) rfl rfl hE hp (v := v1) (ex_move rfl hE rfl) ?_
                    intro a hE
                    refine s_val (wk0 rfl) rfl rfl hE hp (v := (.int .i64 (x2.length : Int))) (ex_len rfl hE rfl (OwnSl.len hp 0 rfl slty32)) ?_
                    intro a hE
                    obtain ⟨x22, ex22, hm⟩ := bnd hm
                    refine s_val (wk0 rfl) rfl rfl hE hp (v := (.int .i64 x22)) (ex_mul rfl hE rfl rfl (inK_some ex22)) ?_
                    intro a hE
                    refine s_val (wk0 rfl) rfl rfl hE hp (v := (.int .i64 b7s.1)) (ex_move rfl hE rfl) ?_
                    intro a hE
                    obtain ⟨x23, ex23, hm⟩ := bnd hm
                    refine s_val (wk0 rfl) rfl rfl hE hp (v := (.int .i64 x23)) (ex_sub rfl hE rfl rfl (inK_some ex23)) ?_
                    intro a hE
                    obtain ⟨x24, ex24, hm⟩ := bnd hm
                    refine s_val (wk0 rfl) rfl rfl hE hp (v := (.int .i64 x24)) (ex_mul rfl hE rfl rfl (inK_some ex24)) ?_
                    intro a hE
                    refine s_val (wk0 rfl) rfl rfl hE hp (v := (.int .i64 x24)) (ex_asn rfl hE rfl) ?_
                    intro a hE
                    refine s_nil ?_
                    refine k_seq ?_
                    refine k_region ?_
                    refine s_val (wk0 rfl) rfl rfl hE hp (v := (.int .i64 x3.1)) (ex_move rfl hE rfl) ?_
                    intro a hE
                    refine s_val (wk0 rfl) rfl rfl hE hp (v := (.int .i64 b4.1)) (ex_move rfl hE rfl) ?_
                    intro a hE
                    refine s_val (wk0 rfl) rfl rfl hE hp (v := (.bool (decide (b4.1 ≤ x3.1)))) (ex_geq rfl hE rfl rfl) ?_
                    intro a hE
                    refine s_val (wk0 rfl) rfl rfl hE hp (v := (.bool (decide (b4.1 ≤ x3.1)))) (ex_move rfl hE rfl) ?_
                    intro a hE
                    refine s_cut [_, _, _, _] (fun a w => Env 187 [(173, (.bool ((decide (b4.1 ≤ x3.1)) && (decide (x3.1 ≤ b4.2))))), (5, v1), (18, (.int .i64 x24))] a ∧ Hp Z ρ (OwnSl 3 v1 x2 :: Pt b1 (.cells #[(.int .i64 p0.kind), (.int .i64 p0.most), (.int .i64 p0.pause), (.int .i64 p0.keep)] 23 (0, 0)) :: L) w) ?_ ?_
                    · rcases Bool.eq_false_or_eq_true (decide (b4.1 ≤ x3.1)) with hb22 | hb22
                      ·
                        refine s_val (wk1 hE rfl rfl rfl hb22) rfl rfl hE hp (v := (.int .i64 x3.1)) (ex_move rfl hE rfl) ?_
                        intro a hE
                        refine s_val (wk1 hE rfl rfl rfl hb22) rfl rfl hE hp (v := (.int .i64 b4.2)) (ex_move rfl hE rfl) ?_
                        intro a hE
                        refine s_val (wk1 hE rfl rfl rfl hb22) rfl rfl hE hp (v := (.bool (decide (x3.1 ≤ b4.2)))) (ex_leq rfl hE rfl rfl) ?_
                        intro a hE
                        refine s_val (wk0 rfl) rfl rfl hE hp (v := (.bool (decide (x3.1 ≤ b4.2)))) (ex_pick1 rfl hE rfl hb22 rfl) ?_
                        intro a hE
                        have hE := hE.eqv (v' := (.bool ((decide (b4.1 ≤ x3.1)) && (decide (x3.1 ≤ b4.2))))) (by rw [hb22]; rfl)
                        exact s_nil ⟨hE.cut ⟨rfl, rfl, rfl, trivial⟩, hp⟩
                      ·
                        refine s_skip (wk2 hE rfl rfl rfl hb22) rfl rfl hE ?_
                        intro a hE
                        refine s_skip (wk2 hE rfl rfl rfl hb22) rfl rfl hE ?_
                        intro a hE
                        refine s_skip (wk2 hE rfl rfl rfl hb22) rfl rfl hE ?_
                        intro a hE
                        refine s_val (wk0 rfl) rfl rfl hE hp (v := (.bool false)) (ex_pick0 rfl hE rfl hb22 rfl) ?_
                        intro a hE
                        have hE := hE.eqv (v' := (.bool ((decide (b4.1 ≤ x3.1)) && (decide (x3.1 ≤ b4.2))))) (by rw [hb22]; rfl)
                        exact s_nil ⟨hE.cut ⟨rfl, rfl, rfl, trivial⟩, hp⟩
                    · rintro a w ⟨hE, hp⟩
                      refine s_val (wk0 rfl) rfl rfl hE hp (v := (.bool ((decide (b4.1 ≤ x3.1)) && (decide (x3.1 ≤ b4.2))))) (ex_move rfl hE rfl) ?_
                      intro a hE
                      obtain ⟨m4, hg4, hm⟩ := bnd hm
                      refine s_cut [_, _, _, _, _, _] (fun a w => Env 187 [(180, (.bool m4)), (5, v1), (18, (.int .i64 x24))] a ∧ Hp Z ρ (OwnSl 3 v1 x2 :: Pt b1 (.cells #[(.int .i64 p0.kind), (.int .i64 p0.most), (.int .i64 p0.pause), (.int .i64 p0.keep)] 23 (0, 0)) :: L) w) ?_ ?_
                      · rcases Bool.eq_false_or_eq_true ((decide (b4.1 ≤ x3.1)) && (decide (x3.1 ≤ b4.2))) with hb23 | hb23
                        ·
                          replace hg4 := (it hb23).symm.trans hg4
                          refine s_val (wk1 hE rfl rfl rfl hb23) rfl rfl hE hp (v := (.int .i64 x24)) (ex_move rfl hE rfl) ?_
                          intro a hE
                          refine s_val (wk1 hE rfl rfl rfl hb23) rfl rfl hE hp (v := v1) (ex_move rfl hE rfl) ?_
                          intro a hE
                          refine s_val (wk1 hE rfl rfl rfl hb23) rfl rfl hE hp (v := (.int .i64 (x2.length : Int))) (ex_len rfl hE rfl (OwnSl.len hp 0 rfl slty32)) ?_
                          intro a hE
                          obtain ⟨x25, ex25, hg4⟩ := bnd hg4
                          refine s_val (wk1 hE rfl rfl rfl hb23) rfl rfl hE hp (v := (.int .i64 x25)) (ex_neg rfl hE rfl (inK_some ex25)) ?_
                          intro a hE
                          refine s_val (wk1 hE rfl rfl rfl hb23) rfl rfl hE hp (v := (.bool (decide (x25 < x24)))) (ex_gtr rfl hE rfl rfl) ?_
                          intro a hE
                          refine s_val (wk0 rfl) rfl rfl hE hp (v := (.bool (decide (x25 < x24)))) (ex_pick1 rfl hE rfl hb23 rfl) ?_
                          intro a hE
                          obtain rfl := Option.some.inj hg4
                          exact s_nil ⟨hE.cut ⟨rfl, rfl, rfl, trivial⟩, hp⟩
                        ·
                          replace hg4 := (ie hb23).symm.trans hg4
                          refine s_skip (wk2 hE rfl rfl rfl hb23) rfl rfl hE ?_
                          intro a hE
                          refine s_skip (wk2 hE rfl rfl rfl hb23) rfl rfl hE ?_
                          intro a hE
                          refine s_skip (wk2 hE rfl rfl rfl hb23) rfl rfl hE ?_
                          intro a hE
                          refine s_skip (wk2 hE rfl rfl rfl hb23) rfl rfl hE ?_
                          intro a hE
                          refine s_skip (wk2 hE rfl rfl rfl hb23) rfl rfl hE ?_
                          intro a hE
                          refine s_val (wk0 rfl) rfl rfl hE hp (v := (.bool false)) (ex_pick0 rfl hE rfl hb23 rfl) ?_
                          intro a hE
                          obtain rfl := Option.some.inj hg4
                          exact s_nil ⟨hE.cut ⟨rfl, rfl, rfl, trivial⟩, hp⟩
                      · rintro a w ⟨hE, hp⟩
                        refine s_val (wk0 rfl) rfl rfl hE hp (v := (.bool m4)) (ex_move rfl hE rfl) ?_
                        intro a hE
                        refine s_cut [_, _, _, _, _] (fun a w => Env 187 [(186, (.bool (m4 && (decide (x24 ≤ (x2.length : Int))))))] a ∧ Hp Z ρ (OwnSl 3 v1 x2 :: Pt b1 (.cells #[(.int .i64 p0.kind), (.int .i64 p0.most), (.int .i64 p0.pause), (.int .i64 p0.keep)] 23 (0, 0)) :: L) w) ?_ ?_
                        · rcases Bool.eq_false_or_eq_true m4 with hb24 | hb24
                          ·
                            refine s_val (wk1 hE rfl rfl rfl hb24) rfl rfl hE hp (v := (.int .i64 x24)) (ex_move rfl hE rfl) ?_
                            intro a hE
                            refine s_val (wk1 hE rfl rfl rfl hb24) rfl rfl hE hp (v := v1) (ex_move rfl hE rfl) ?_
                            intro a hE
                            refine s_val (wk1 hE rfl rfl rfl hb24) rfl rfl hE hp (v := (.int .i64 (x2.length : Int))) (ex_len rfl hE rfl (OwnSl.len hp 0 rfl slty32)) ?_
                            intro a hE
                            refine s_val (wk1 hE rfl rfl rfl hb24) rfl rfl hE hp (v := (.bool (decide (x24 ≤ (x2.length : Int))))) (ex_leq rfl hE rfl rfl) ?_
                            intro a hE
                            refine s_val (wk0 rfl) rfl rfl hE hp (v := (.bool (decide (x24 ≤ (x2.length : Int))))) (ex_pick1 rfl hE rfl hb24 rfl) ?_
                            intro a hE
                            have hE := hE.eqv (v' := (.bool (m4 && (decide (x24 ≤ (x2.length : Int)))))) (by rw [hb24]; rfl)
                            exact s_nil ⟨hE.cut ⟨rfl, trivial⟩, hp⟩
                          ·
                            refine s_skip (wk2 hE rfl rfl rfl hb24) rfl rfl hE ?_
                            intro a hE
                            refine s_skip (wk2 hE rfl rfl rfl hb24) rfl rfl hE ?_
                            intro a hE
                            refine s_skip (wk2 hE rfl rfl rfl hb24) rfl rfl hE ?_
                            intro a hE
                            refine s_skip (wk2 hE rfl rfl rfl hb24) rfl rfl hE ?_
                            intro a hE
                            refine s_val (wk0 rfl) rfl rfl hE hp (v := (.bool false)) (ex_pick0 rfl hE rfl hb24 rfl) ?_
                            intro a hE
                            have hE := hE.eqv (v' := (.bool (m4 && (decide (x24 ≤ (x2.length : Int)))))) (by rw [hb24]; rfl)
                            exact s_nil ⟨hE.cut ⟨rfl, trivial⟩, hp⟩
                        · rintro a w ⟨hE, hp⟩
                          refine s_val (wk0 rfl) rfl rfl hE hp (v := (.bool (m4 && (decide (x24 ≤ (x2.length : Int)))))) (ex_asn rfl hE rfl) ?_
                          intro a hE
                          refine s_nil ?_
                          refine k_ret ?_
                          obtain rfl := Option.some.inj hm
                          exact ret1 hE rfl rfl ⟨_, rfl, rfl, (((hp.get 1 rfl).drop).drop)⟩
end Go.Proofs.Ytmjmoogldbejoaa

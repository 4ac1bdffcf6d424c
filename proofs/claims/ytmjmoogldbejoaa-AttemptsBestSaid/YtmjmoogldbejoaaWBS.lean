/-
  The code goes as its model: assessor/assessorlaw52.AttemptsBest. (Printed by wip/sp/gen.py.)
-/
import Derived.Test.YtmjmoogldbejoaaWBM
import Derived.Test.YtmjmoogldbejoaaFct
import Derived.Test.YtmjmoogldbejoaaWS
set_option linter.unusedVariables false
set_option linter.unusedSimpArgs false
namespace Go.Proofs.Ytmjmoogldbejoaa
open Go.RowKit

/- assessor/assessorlaw52.AttemptsBest -/
set_option maxRecDepth 100000 in
set_option maxHeartbeats 4000000 in
theorem c_assessorlaw52_AttemptsBest {Z : World} {ρ : PH} {L : List Atom} {w : World} (p0 : Rule) (p1 : (List Att)) (vp1 : Value) (hp1 : RoSl ρ vp1 p1) (p2 : Int) (p3 : Int) (p4 : Int) (hp : Hp Z ρ (L) w) (r : Bool) (hm : m_assessorlaw52_AttemptsBest p0 p1 p2 p3 p4 = some r) :
    Calls Try.prog 6 #[(.agg #[(.int .i64 p0.kind), (.int .i64 p0.most), (.int .i64 p0.pause), (.int .i64 p0.keep)]), vp1, (.int .i64 p2), (.int .u8 p3), (.int .u8 p4)] w (Ret fun v w' => v = (.bool r) ∧ Hp Z ρ (L) w') := by
  refine enter (N := 163) Try.func6 rfl rfl [(0, (.agg #[(.int .i64 p0.kind), (.int .i64 p0.most), (.int .i64 p0.pause), (.int .i64 p0.keep)])), (1, vp1), (2, (.int .i64 p2)), (3, (.int .u8 p3)), (4, (.int .u8 p4))] rfl (argsIn_mem ⟨rfl, rfl, rfl, rfl, rfl, trivial⟩) fun a hE => ?_
  unfold m_assessorlaw52_AttemptsBest at hm
  refine k_seq ?_
  refine k_region ?_
  refine s_box (wk0 rfl) rfl rfl hE hp rfl (v := (.agg #[(.int .i64 p0.kind), (.int .i64 p0.most), (.int .i64 p0.pause), (.int .i64 p0.keep)])) rfl ?_
  intro a w b1 hE hp
  have hp : Hp Z ρ (Pt b1 (.cells #[(.int .i64 p0.kind), (.int .i64 p0.most), (.int .i64 p0.pause), (.int .i64 p0.keep)] 23 (0, 0)) :: L) w := hp
  refine s_val (wk0 rfl) rfl rfl hE hp (v := (.bool false)) (ex_asn rfl hE rfl) ?_
  intro a hE
  refine s_nil ?_
  refine k_seq ?_
  refine k_seq ?_
  refine k_region ?_
  obtain ⟨x1, ex1, hm⟩ := bnd hm
  refine s_call (wk0 rfl) rfl rfl hE rfl [] trivial ent10 (c_assessorlaw52_awake  hp x1 ex1) Ret.ret ?_
  intro v a w hR hE
  obtain ⟨rfl, hp⟩ := Ret.of hR
  have hp : Hp Z ρ (Pt b1 (.cells #[(.int .i64 p0.kind), (.int .i64 p0.most), (.int .i64 p0.pause), (.int .i64 p0.keep)] 23 (0, 0)) :: L) w := hp
  refine s_val (wk0 rfl) rfl rfl hE hp (v := (.bool (!x1))) (ex_not rfl hE rfl) ?_
  intro a hE
  refine s_nil ?_
  refine k_if hE rfl (fun hb1 => ?_) (fun hb1 => ?_)
  · replace hm := (it hb1).symm.trans hm
    refine k_seq ?_
    refine k_region ?_
    refine s_val (wk0 rfl) rfl rfl hE hp (v := (.bool false)) (ex_asn rfl hE rfl) ?_
    intro a hE
    refine s_nil ?_
    refine k_ret ?_
    obtain rfl := Option.some.inj hm
    exact ret1 hE rfl rfl ⟨_, rfl, rfl, (hp.drop)⟩
  · replace hm := (ie hb1).symm.trans hm
    refine k_skip ?_
    refine k_seq ?_
    refine k_seq ?_
    refine k_region ?_
    refine s_val (wk0 rfl) rfl rfl hE hp (v := vp1) (ex_move rfl hE rfl) ?_
    intro a hE
    refine s_val (wk0 rfl) rfl rfl hE hp (v := (.int .i64 (p1.length : Int))) (ex_len rfl hE rfl (RoSl.len hp1 slty24)) ?_
    intro a hE
    refine s_val (wk0 rfl) rfl rfl hE hp (v := (.bool (decide (20 < (p1.length : Int))))) (ex_gtr rfl hE rfl rfl) ?_
    intro a hE
    refine s_val (wk0 rfl) rfl rfl hE hp (v := (.bool (decide (20 < (p1.length : Int))))) (ex_move rfl hE rfl) ?_
    intro a hE
    refine s_cut [_, _, _, _] (fun a w => Env 163 [(33, (.bool ((decide (20 < (p1.length : Int))) || (decide ((p1.length : Int) = 0))))), (1, vp1), (2, (.int .i64 p2)), (3, (.int .u8 p3)), (4, (.int .u8 p4)), (5, (.pointer (some ⟨b1, 0, none⟩)))] a ∧ Hp Z ρ (Pt b1 (.cells #[(.int .i64 p0.kind), (.int .i64 p0.most), (.int .i64 p0.pause), (.int .i64 p0.keep)] 23 (0, 0)) :: L) w) ?_ ?_
    · rcases Bool.eq_false_or_eq_true (decide (20 < (p1.length : Int))) with hb2 | hb2
      ·
        refine s_skip (wk2 hE rfl rfl rfl hb2) rfl rfl hE ?_
        intro a hE
        refine s_skip (wk2 hE rfl rfl rfl hb2) rfl rfl hE ?_
        intro a hE
        refine s_skip (wk2 hE rfl rfl rfl hb2) rfl rfl hE ?_
        intro a hE
        refine s_val (wk0 rfl) rfl rfl hE hp (v := (.bool true)) (ex_pick1 rfl hE rfl hb2 rfl) ?_
        intro a hE
        have hE := hE.eqv (v' := (.bool ((decide (20 < (p1.length : Int))) || (decide ((p1.length : Int) = 0))))) (by rw [hb2]; rfl)
        exact s_nil ⟨hE.cut ⟨rfl, rfl, rfl, rfl, rfl, rfl, trivial⟩, hp⟩
      ·
        refine s_val (wk1 hE rfl rfl rfl hb2) rfl rfl hE hp (v := vp1) (ex_move rfl hE rfl) ?_
        intro a hE
        refine s_val (wk1 hE rfl rfl rfl hb2) rfl rfl hE hp (v := (.int .i64 (p1.length : Int))) (ex_len rfl hE rfl (RoSl.len hp1 slty24)) ?_
        intro a hE
        refine s_val (wk1 hE rfl rfl rfl hb2) rfl rfl hE hp (v := (.bool (decide ((p1.length : Int) = 0)))) (ex_eql rfl hE rfl rfl) ?_
        intro a hE
        refine s_val (wk0 rfl) rfl rfl hE hp (v := (.bool (decide ((p1.length : Int) = 0)))) (ex_pick0 rfl hE rfl hb2 rfl) ?_
        intro a hE
        have hE := hE.eqv (v' := (.bool ((decide (20 < (p1.length : Int))) || (decide ((p1.length : Int) = 0))))) (by rw [hb2]; rfl)
        exact s_nil ⟨hE.cut ⟨rfl, rfl, rfl, rfl, rfl, rfl, trivial⟩, hp⟩
    · rintro a w ⟨hE, hp⟩
      refine s_val (wk0 rfl) rfl rfl hE hp (v := (.bool ((decide (20 < (p1.length : Int))) || (decide ((p1.length : Int) = 0))))) (ex_move rfl hE rfl) ?_
      intro a hE
      obtain ⟨m1, hg1, hm⟩ := bnd hm
      refine s_cut [_, _, _, _, _] (fun a w => Env 163 [(39, (.bool m1)), (1, vp1), (2, (.int .i64 p2)), (3, (.int .u8 p3)), (4, (.int .u8 p4)), (5, (.pointer (some ⟨b1, 0, none⟩)))] a ∧ Hp Z ρ (Pt b1 (.cells #[(.int .i64 p0.kind), (.int .i64 p0.most), (.int .i64 p0.pause), (.int .i64 p0.keep)] 23 (0, 0)) :: L) w) ?_ ?_
      · rcases Bool.eq_false_or_eq_true ((decide (20 < (p1.length : Int))) || (decide ((p1.length : Int) = 0))) with hb3 | hb3
        ·
          replace hg1 := (it hb3).symm.trans hg1
          refine s_skip (wk2 hE rfl rfl rfl hb3) rfl rfl hE ?_
          intro a hE
          refine s_skip (wk2 hE rfl rfl rfl hb3) rfl rfl hE ?_
          intro a hE
          refine s_skip (wk2 hE rfl rfl rfl hb3) rfl rfl hE ?_
          intro a hE
          refine s_skip (wk2 hE rfl rfl rfl hb3) rfl rfl hE ?_
          intro a hE
          refine s_val (wk0 rfl) rfl rfl hE hp (v := (.bool true)) (ex_pick1 rfl hE rfl hb3 rfl) ?_
          intro a hE
          obtain rfl := Option.some.inj hg1
          exact s_nil ⟨hE.cut ⟨rfl, rfl, rfl, rfl, rfl, rfl, trivial⟩, hp⟩
        ·
          replace hg1 := (ie hb3).symm.trans hg1
          refine s_val (wk1 hE rfl rfl rfl hb3) rfl rfl hE hp (v := (.agg #[(.int .i64 p0.kind), (.int .i64 p0.most), (.int .i64 p0.pause), (.int .i64 p0.keep)])) (ex_load rfl hE rfl (fun w hw => run_ldN (cs := [(.int .i64 p0.kind), (.int .i64 p0.most), (.int .i64 p0.pause), (.int .i64 p0.keep)]) varty23 (Hp.cN 0 rfl 0 _ (sub_all rfl) w hw))) ?_
          intro a hE
          refine s_val (wk1 hE rfl rfl rfl hb3) rfl rfl hE hp (v := vp1) (ex_move rfl hE rfl) ?_
          intro a hE
          obtain ⟨x2, ex2, hg1⟩ := bnd hg1
          refine s_call (wk1 hE rfl rfl rfl hb3) rfl rfl hE rfl [(.agg #[(.int .i64 p0.kind), (.int .i64 p0.most), (.int .i64 p0.pause), (.int .i64 p0.keep)]), vp1] ⟨rfl, rfl, trivial⟩ ent18 (c_attempts_Valid p0 p1 vp1 hp1 hp x2 ex2) Ret.ret ?_
          intro v a w hR hE
          obtain ⟨rfl, hp⟩ := Ret.of hR
          have hp : Hp Z ρ (Pt b1 (.cells #[(.int .i64 p0.kind), (.int .i64 p0.most), (.int .i64 p0.pause), (.int .i64 p0.keep)] 23 (0, 0)) :: L) w := hp
          refine s_val (wk1 hE rfl rfl rfl hb3) rfl rfl hE hp (v := (.bool (!x2))) (ex_not rfl hE rfl) ?_
          intro a hE
          refine s_val (wk0 rfl) rfl rfl hE hp (v := (.bool (!x2))) (ex_pick0 rfl hE rfl hb3 rfl) ?_
          intro a hE
          obtain rfl := Option.some.inj hg1
          exact s_nil ⟨hE.cut ⟨rfl, rfl, rfl, rfl, rfl, rfl, trivial⟩, hp⟩
      · rintro a w ⟨hE, hp⟩
        refine s_nil ?_
        refine k_if hE rfl (fun hb4 => ?_) (fun hb4 => ?_)
        · replace hm := (it hb4).symm.trans hm
          refine k_seq ?_
          refine k_region ?_
          refine s_val (wk0 rfl) rfl rfl hE hp (v := (.bool true)) (ex_asn rfl hE rfl) ?_
          intro a hE
          refine s_nil ?_
          refine k_ret ?_
          obtain rfl := Option.some.inj hm
          exact ret1 hE rfl rfl ⟨_, rfl, rfl, (hp.drop)⟩
        · replace hm := (ie hb4).symm.trans hm
          refine k_skip ?_
          refine k_seq ?_
          refine k_region ?_
          refine s_val (wk0 rfl) rfl rfl hE hp (v := (.pointer (some ⟨b1, 1, none⟩))) (ex_field rfl hE rfl (fldty23_1 _ _)) ?_
          intro a hE
          refine s_val (wk0 rfl) rfl rfl hE hp (v := (.int .i64 p0.most)) (ex_load rfl hE rfl (fun w hw => run_ld1 varty3 (Hp.c 0 rfl 1 rfl w hw))) ?_
          intro a hE
          refine s_val (wk0 rfl) rfl rfl hE hp (v := (.pointer (some ⟨b1, 2, none⟩))) (ex_field rfl hE rfl (fldty23_2 _ _)) ?_
          intro a hE
          refine s_val (wk0 rfl) rfl rfl hE hp (v := (.int .i64 p0.pause)) (ex_load rfl hE rfl (fun w hw => run_ld1 varty3 (Hp.c 0 rfl 2 rfl w hw))) ?_
          intro a hE
          refine s_val (wk0 rfl) rfl rfl hE hp (v := (.agg #[(.int .i64 0), (.int .i64 p0.most), (.int .i64 p0.pause), (.int .i64 0)])) (ex_bld rfl hE [(0, (.int .i64 0)), (1, (.int .i64 p0.most)), (2, (.int .i64 p0.pause))] (by exact ⟨⟨rfl, rfl⟩, ⟨rfl, rfl⟩, ⟨rfl, rfl⟩, trivial⟩) (fun w => by simp [Instr.build, Instr.fill, Value.cells, go_sem])) ?_
          intro a hE
          refine s_new (wk0 rfl) rfl rfl hE hp rfl [(.int .i64 0), (.int .i64 0), (.int .i64 0), (.int .i64 0)] (fun w => by simp [Instr.alloc, go_sem]) ?_
          intro a w b2 hE hp
          have hp : Hp Z ρ (Pt b2 (.cells #[(.int .i64 0), (.int .i64 0), (.int .i64 0), (.int .i64 0)] 23 (0, 0)) :: Pt b1 (.cells #[(.int .i64 p0.kind), (.int .i64 p0.most), (.int .i64 p0.pause), (.int .i64 p0.keep)] 23 (0, 0)) :: L) w := hp
          refine s_store (wk0 rfl) rfl hE hp rfl rfl rfl 0 rfl varty23.size_ rfl (by simp [Value.cells, Value.oneCell']) [(.int .i64 0), (.int .i64 p0.most), (.int .i64 p0.pause), (.int .i64 0)] rfl ?_
          intro w hp
          have hp : Hp Z ρ (Pt b2 (.cells #[(.int .i64 0), (.int .i64 p0.most), (.int .i64 p0.pause), (.int .i64 0)] 23 (0, 0)) :: Pt b1 (.cells #[(.int .i64 p0.kind), (.int .i64 p0.most), (.int .i64 p0.pause), (.int .i64 p0.keep)] 23 (0, 0)) :: L) w := hp
          refine s_nil ?_
          refine k_seq ?_
          refine k_region ?_
          refine s_val (wk0 rfl) rfl rfl hE hp (v := (.agg #[(.int .i64 0), (.int .i64 p0.most), (.int .i64 p0.pause), (.int .i64 0)])) (ex_load rfl hE rfl (fun w hw => run_ldN (cs := [(.int .i64 0), (.int .i64 p0.most), (.int .i64 p0.pause), (.int .i64 0)]) varty23 (Hp.cN 0 rfl 0 _ (sub_all rfl) w hw))) ?_
          intro a hE
          refine s_val (wk0 rfl) rfl rfl hE hp (v := vp1) (ex_move rfl hE rfl) ?_
          intro a hE
          obtain ⟨x3, ex3, hm⟩ := bnd hm
          refine s_call (wk0 rfl) rfl rfl hE rfl [(.agg #[(.int .i64 0), (.int .i64 p0.most), (.int .i64 p0.pause), (.int .i64 0)]), vp1] ⟨rfl, rfl, trivial⟩ ent11 (c_attempts_Final (Rule.mk 0 p0.most p0.pause 0) p1 vp1 hp1 hp x3 ex3) Ret.ret ?_
          intro v a w hR hE
          obtain ⟨rfl, hp⟩ := Ret.of hR
          have hp : Hp Z ρ (Pt b2 (.cells #[(.int .i64 0), (.int .i64 p0.most), (.int .i64 p0.pause), (.int .i64 0)] 23 (0, 0)) :: Pt b1 (.cells #[(.int .i64 p0.kind), (.int .i64 p0.most), (.int .i64 p0.pause), (.int .i64 p0.keep)] 23 (0, 0)) :: L) w := hp
          refine s_val (wk0 rfl) rfl rfl hE hp (v := (.tuple #[(.int .i64 x3.1), (.int .i64 x3.2)])) (ex_move rfl hE rfl) ?_
          intro a hE
          refine s_val (wk0 rfl) rfl rfl hE hp (v := (.int .i64 x3.1)) (ex_extract rfl hE rfl rfl) ?_
          intro a hE
          refine s_val (wk0 rfl) rfl rfl hE hp (v := (.int .i64 x3.2)) (ex_extract rfl hE rfl rfl) ?_
          intro a hE
          refine s_val (wk0 rfl) rfl rfl hE hp (v := (.int .i64 x3.1)) (ex_asn rfl hE rfl) ?_
          intro a hE
          refine s_val (wk0 rfl) rfl rfl hE hp (v := (.int .i64 x3.2)) (ex_asn rfl hE rfl) ?_
          intro a hE
          refine s_nil ?_
          refine k_seq ?_
          refine k_region ?_
          refine s_val (wk0 rfl) rfl rfl hE hp (v := (.agg #[(.int .i64 p0.kind), (.int .i64 p0.most), (.int .i64 p0.pause), (.int .i64 p0.keep)])) (ex_load rfl hE rfl (fun w hw => run_ldN (cs := [(.int .i64 p0.kind), (.int .i64 p0.most), (.int .i64 p0.pause), (.int .i64 p0.keep)]) varty23 (Hp.cN 1 rfl 0 _ (sub_all rfl) w hw))) ?_
          intro a hE
          refine s_val (wk0 rfl) rfl rfl hE hp (v := vp1) (ex_move rfl hE rfl) ?_
          intro a hE
          obtain ⟨x4, ex4, hm⟩ := bnd hm
          refine s_call (wk0 rfl) rfl rfl hE rfl [(.agg #[(.int .i64 p0.kind), (.int .i64 p0.most), (.int .i64 p0.pause), (.int .i64 p0.keep)]), vp1] ⟨rfl, rfl, trivial⟩ ent11 (c_attempts_Final p0 p1 vp1 hp1 hp x4 ex4) Ret.ret ?_
          intro v a w hR hE
          obtain ⟨rfl, hp⟩ := Ret.of hR
          have hp : Hp Z ρ (Pt b2 (.cells #[(.int .i64 0), (.int .i64 p0.most), (.int .i64 p0.pause), (.int .i64 0)] 23 (0, 0)) :: Pt b1 (.cells #[(.int .i64 p0.kind), (.int .i64 p0.most), (.int .i64 p0.pause), (.int .i64 p0.keep)] 23 (0, 0)) :: L) w := hp
          refine s_val (wk0 rfl) rfl rfl hE hp (v := (.tuple #[(.int .i64 x4.1), (.int .i64 x4.2)])) (ex_move rfl hE rfl) ?_
          intro a hE
          refine s_val (wk0 rfl) rfl rfl hE hp (v := (.int .i64 x4.1)) (ex_extract rfl hE rfl rfl) ?_
          intro a hE
          refine s_val (wk0 rfl) rfl rfl hE hp (v := (.int .i64 x4.2)) (ex_extract rfl hE rfl rfl) ?_
          intro a hE
          refine s_val (wk0 rfl) rfl rfl hE hp (v := (.int .i64 x4.1)) (ex_asn rfl hE rfl) ?_
          intro a hE
          refine s_val (wk0 rfl) rfl rfl hE hp (v := (.int .i64 x4.2)) (ex_asn rfl hE rfl) ?_
          intro a hE
          refine s_nil ?_
          have hE := hE.cut (E' := [(1, vp1), (2, (.int .i64 p2)), (3, (.int .u8 p3)), (4, (.int .u8 p4)), (5, (.pointer (some ⟨b1, 0, none⟩))), (11, (.pointer (some ⟨b2, 0, none⟩))), (12, (.int .i64 x3.1)), (13, (.int .i64 x3.2)), (14, (.int .i64 x4.1)), (15, (.int .i64 x4.2))]) ⟨rfl, rfl, rfl, rfl, rfl, rfl, rfl, rfl, rfl, rfl, trivial⟩
          refine k_seq ?_
          refine k_region ?_
          refine s_val (wk0 rfl) rfl rfl hE hp (v := vp1) (ex_move rfl hE rfl) ?_
          intro a hE
          obtain ⟨x5, ex5, hm⟩ := bnd hm
          refine s_call (wk0 rfl) rfl rfl hE rfl [vp1] ⟨rfl, trivial⟩ ent19 (c_clone19 p1 vp1 hp1 hp x5 ex5) Ret.ret ?_
          intro v1 a w hR hE
          obtain ⟨u, hu, hp⟩ := Ret.of hR
          rw [← hu] at hp
          have hp : Hp Z ρ (OwnSl 38 v1 x5 :: Pt b2 (.cells #[(.int .i64 0), (.int .i64 p0.most), (.int .i64 p0.pause), (.int .i64 0)] 23 (0, 0)) :: Pt b1 (.cells #[(.int .i64 p0.kind), (.int .i64 p0.most), (.int .i64 p0.pause), (.int .i64 p0.keep)] 23 (0, 0)) :: L) w := hp
          refine s_val (wk0 rfl) rfl rfl hE hp (v := v1) (ex_asn rfl hE rfl) ?_
          intro a hE
          refine s_nil ?_
          refine k_seq ?_
          refine k_quiet (by kernel_rfl) (by kernel_rfl) hp ?_
          refine q_val (wk0 rfl) rfl rfl hE (v := (.int .u8 p3)) (ex_move rfl hE rfl) ?_
          intro a hE
          obtain ⟨x6, ex6, hm⟩ := bnd hm
          refine q_val (wk0 rfl) rfl rfl hE (v := (.int .i64 x6)) (ex_conv rfl hE rfl (fun w _ => by rw [← inK_some ex6]; simp [convert, Conv.intToInt, go_sem])) ?_
          intro a hE
          refine q_val (wk0 rfl) rfl rfl hE (v := vp1) (ex_move rfl hE rfl) ?_
          intro a hE
          refine q_val (wk0 rfl) rfl rfl hE (v := (.int .i64 (p1.length : Int))) (ex_len rfl hE rfl (RoSl.len hp1 slty24)) ?_
          intro a hE
          obtain ⟨x7, ex7, hm⟩ := bnd hm
          refine q_val (wk0 rfl) rfl rfl hE (v := (.int .i64 x7)) (ex_rem rfl hE rfl rfl (remK_some ex7).1 (remK_some ex7).2) ?_
          intro a hE
          refine q_val (wk0 rfl) rfl rfl hE (v := (.int .u8 p4)) (ex_move rfl hE rfl) ?_
          intro a hE
          obtain ⟨x8, ex8, hm⟩ := bnd hm
          refine q_val (wk0 rfl) rfl rfl hE (v := (.int .i64 x8)) (ex_conv rfl hE rfl (fun w _ => by rw [← inK_some ex8]; simp [convert, Conv.intToInt, go_sem])) ?_
          intro a hE
          refine q_val (wk0 rfl) rfl rfl hE (v := vp1) (ex_move rfl hE rfl) ?_
          intro a hE
          refine q_val (wk0 rfl) rfl rfl hE (v := (.int .i64 (p1.length : Int))) (ex_len rfl hE rfl (RoSl.len hp1 slty24)) ?_
          intro a hE
          obtain ⟨x9, ex9, hm⟩ := bnd hm
          refine q_val (wk0 rfl) rfl rfl hE (v := (.int .i64 x9)) (ex_rem rfl hE rfl rfl (remK_some ex9).1 (remK_some ex9).2) ?_
          intro a hE
          refine q_val (wk0 rfl) rfl rfl hE (v := (.int .i64 x7)) (ex_asn rfl hE rfl) ?_
          intro a hE
          refine q_val (wk0 rfl) rfl rfl hE (v := (.int .i64 x9)) (ex_asn rfl hE rfl) ?_
          intro a hE
          refine q_nil fun w hp => ?_
          have hp : Hp Z ρ (OwnSl 38 v1 x5 :: Pt b2 (.cells #[(.int .i64 0), (.int .i64 p0.most), (.int .i64 p0.pause), (.int .i64 0)] 23 (0, 0)) :: Pt b1 (.cells #[(.int .i64 p0.kind), (.int .i64 p0.most), (.int .i64 p0.pause), (.int .i64 p0.keep)] 23 (0, 0)) :: L) w := hp
          have hE := hE.cut (E' := [(1, vp1), (2, (.int .i64 p2)), (5, (.pointer (some ⟨b1, 0, none⟩))), (11, (.pointer (some ⟨b2, 0, none⟩))), (12, (.int .i64 x3.1)), (13, (.int .i64 x3.2)), (14, (.int .i64 x4.1)), (15, (.int .i64 x4.2)), (16, v1), (17, (.int .i64 x7)), (18, (.int .i64 x9))]) ⟨rfl, rfl, rfl, rfl, rfl, rfl, rfl, rfl, rfl, rfl, rfl, trivial⟩
          refine k_seq ?_
          obtain ⟨x10, ex10, hm⟩ := bnd hm
          obtain ⟨x11, ex11, hm⟩ := bnd hm
          obtain ⟨x12, ex12, hm⟩ := bnd hm
          obtain ⟨x13, ex13, hm⟩ := bnd hm
          refine k_held (Z := Z) (ρ := ρ) (Pt b2 (.cells #[(.int .i64 0), (.int .i64 p0.most), (.int .i64 p0.pause), (.int .i64 0)] 23 (0, 0)) :: Pt b1 (.cells #[(.int .i64 p0.kind), (.int .i64 p0.most), (.int .i64 p0.pause), (.int .i64 p0.keep)] 23 (0, 0)) :: L) (fun a w => Env 163 [(1, vp1), (2, (.int .i64 p2)), (5, (.pointer (some ⟨b1, 0, none⟩))), (11, (.pointer (some ⟨b2, 0, none⟩))), (12, (.int .i64 x3.1)), (13, (.int .i64 x3.2)), (14, (.int .i64 x4.1)), (15, (.int .i64 x4.2)), (16, v1)] a ∧ Hp Z ρ (OwnSl 38 v1 ((x5.set x7.toNat (Att.mk x12.num x12.tick x10.pts)).set x9.toNat (Att.mk x13.num x13.tick x11.pts)) :: Pt b2 (.cells #[(.int .i64 0), (.int .i64 p0.most), (.int .i64 p0.pause), (.int .i64 0)] 23 (0, 0)) :: Pt b1 (.cells #[(.int .i64 p0.kind), (.int .i64 p0.most), (.int .i64 p0.pause), (.int .i64 p0.keep)] 23 (0, 0)) :: L) w) (by kernel_rfl) ?_ ?_
          ·
            have hp := hp.drew
            have hS : Hp Z ρ (Pt b2 (.cells #[(.int .i64 0), (.int .i64 p0.most), (.int .i64 p0.pause), (.int .i64 0)] 23 (0, 0)) :: Pt b1 (.cells #[(.int .i64 p0.kind), (.int .i64 p0.most), (.int .i64 p0.pause), (.int .i64 p0.keep)] 23 (0, 0)) :: L) w.drew := (hp.drop)
            refine h_take 0 (wk0 rfl) rfl rfl rfl hE (by kernel_rfl) (by kernel_rfl) (by kernel_rfl) hS (v := v1) (ex_move rfl hE rfl) ?_
            intro a hE
            refine h_take 1 (wk0 rfl) rfl rfl rfl hE (by kernel_rfl) (by kernel_rfl) (by kernel_rfl) hS (v := (.int .i64 x7)) (ex_move rfl hE rfl) ?_
            intro a hE
            refine h_take 2 (wk0 rfl) rfl rfl rfl hE (by kernel_rfl) (by kernel_rfl) (by kernel_rfl) hS (v := v1) (ex_move rfl hE rfl) ?_
            intro a hE
            refine h_take 3 (wk0 rfl) rfl rfl rfl hE (by kernel_rfl) (by kernel_rfl) (by kernel_rfl) hS (v := (.int .i64 x9)) (ex_move rfl hE rfl) ?_
            intro a hE
            refine h_take 4 (wk0 rfl) rfl rfl rfl hE (by kernel_rfl) (by kernel_rfl) (by kernel_rfl) hS (v := vp1) (ex_move rfl hE rfl) ?_
            intro a hE
            refine h_take 5 (wk0 rfl) rfl rfl rfl hE (by kernel_rfl) (by kernel_rfl) (by kernel_rfl) hS (v := (.int .i64 x9)) (ex_move rfl hE rfl) ?_
            intro a hE
            obtain ⟨b7, b7o, b7c, b7r, b7k, b7f⟩ := RoSl.at hp1 slty24 ex10
            obtain rfl : b7c = Enc.enc x10 := b7k
            have b7f : AtP ρ b7 b7o [(.int .i64 x10.num), (.int .i64 x10.tick), (.int .i64 x10.pts)] := b7f
            refine h_take 6 (wk0 rfl) rfl rfl rfl hE (by kernel_rfl) (by kernel_rfl) (by kernel_rfl) hS (v := (.pointer (some ⟨b7, b7o, none⟩))) (ex_index rfl hE rfl rfl b7r) ?_
            intro a hE
            refine h_take 7 (wk0 rfl) rfl rfl rfl hE (by kernel_rfl) (by kernel_rfl) (by kernel_rfl) hS (v := (.pointer (some ⟨b7, b7o + 2, none⟩))) (ex_field rfl hE rfl (fldty38_2 _ _)) ?_
            intro a hE
            refine h_take 8 (wk0 rfl) rfl rfl rfl hE (by kernel_rfl) (by kernel_rfl) (by kernel_rfl) hS (v := (.int .i64 x10.pts)) (ex_load rfl hE rfl (fun w hw => run_ld1 varty3 (b7f.c 2 rfl w hw))) ?_
            intro a hE
            refine h_take 9 (wk0 rfl) rfl rfl rfl hE (by kernel_rfl) (by kernel_rfl) (by kernel_rfl) hS (v := vp1) (ex_move rfl hE rfl) ?_
            intro a hE
            refine h_take 10 (wk0 rfl) rfl rfl rfl hE (by kernel_rfl) (by kernel_rfl) (by kernel_rfl) hS (v := (.int .i64 x7)) (ex_move rfl hE rfl) ?_
            intro a hE
            obtain ⟨b8, b8o, b8c, b8r, b8k, b8f⟩ := RoSl.at hp1 slty24 ex11
            obtain rfl : b8c = Enc.enc x11 := b8k
            have b8f : AtP ρ b8 b8o [(.int .i64 x11.num), (.int .i64 x11.tick), (.int .i64 x11.pts)] := b8f
            refine h_take 11 (wk0 rfl) rfl rfl rfl hE (by kernel_rfl) (by kernel_rfl) (by kernel_rfl) hS (v := (.pointer (some ⟨b8, b8o, none⟩))) (ex_index rfl hE rfl rfl b8r) ?_
            intro a hE
            refine h_take 12 (wk0 rfl) rfl rfl rfl hE (by kernel_rfl) (by kernel_rfl) (by kernel_rfl) hS (v := (.pointer (some ⟨b8, b8o + 2, none⟩))) (ex_field rfl hE rfl (fldty38_2 _ _)) ?_
            intro a hE
            refine h_take 13 (wk0 rfl) rfl rfl rfl hE (by kernel_rfl) (by kernel_rfl) (by kernel_rfl) hS (v := (.int .i64 x11.pts)) (ex_load rfl hE rfl (fun w hw => run_ld1 varty3 (b8f.c 2 rfl w hw))) ?_
            intro a hE
            refine h_all [14] (by kernel_rfl) rfl ?_
            refine List.forall_mem_cons.2 ⟨?_, fun _ h => absurd h (by simp)⟩
            ·
              refine h_op rfl ?_
              obtain ⟨b9, b9o, b9r, b9o2, b9v, b9f⟩ := OwnSl.at hp 0 rfl slty24 ex12
              have b9f : ∀ (j : Nat) (u : Value), ([(.int .i64 x12.num), (.int .i64 x12.tick), (.int .i64 x12.pts)] : List Value)[j]? = some u → ∀ w, Hp Z ρ (OwnSl 38 v1 x5 :: Pt b2 (.cells #[(.int .i64 0), (.int .i64 p0.most), (.int .i64 p0.pause), (.int .i64 0)] 23 (0, 0)) :: Pt b1 (.cells #[(.int .i64 p0.kind), (.int .i64 p0.most), (.int .i64 p0.pause), (.int .i64 p0.keep)] 23 (0, 0)) :: L) w → w.cell? ⟨b9, b9o + j, none⟩ = some u := b9f
              refine s_val (wk0 rfl) rfl rfl hE hp (v := (.pointer (some ⟨b9, b9o, none⟩))) (ex_index rfl hE rfl rfl b9r) ?_
              intro a hE
              refine s_nil ⟨(hp.drop), ?_⟩
              have hS := (hp.drop)
              refine h_take 15 (wk0 rfl) rfl rfl rfl hE (by kernel_rfl) (by kernel_rfl) (by kernel_rfl) hS (v := (.pointer (some ⟨b9, b9o + 2, none⟩))) (ex_field rfl hE rfl (fldty38_2 _ _)) ?_
              intro a hE
              refine h_all [16] (by kernel_rfl) rfl ?_
              refine List.forall_mem_cons.2 ⟨?_, fun _ h => absurd h (by simp)⟩
              ·
                refine h_op rfl ?_
                refine s_stel (wk0 rfl) rfl hE hp rfl rfl rfl 0 rfl ex12 b9o2 b9v 2 (e' := (Att.mk x12.num x12.tick x10.pts)) varty3.size_ rfl rfl rfl ⟨rfl, rfl⟩ ?_
                intro w hp
                have hp : Hp Z ρ (OwnSl 38 v1 (x5.set x7.toNat (Att.mk x12.num x12.tick x10.pts)) :: Pt b2 (.cells #[(.int .i64 0), (.int .i64 p0.most), (.int .i64 p0.pause), (.int .i64 0)] 23 (0, 0)) :: Pt b1 (.cells #[(.int .i64 p0.kind), (.int .i64 p0.most), (.int .i64 p0.pause), (.int .i64 p0.keep)] 23 (0, 0)) :: L) w := hp
                refine s_nil ⟨(hp.drop), ?_⟩
                have hS := (hp.drop)
                refine h_all [17] (by kernel_rfl) rfl ?_
                refine List.forall_mem_cons.2 ⟨?_, fun _ h => absurd h (by simp)⟩
                ·
                  refine h_op rfl ?_
                  obtain ⟨b10, b10o, b10r, b10o2, b10v, b10f⟩ := OwnSl.at hp 0 rfl slty24 ex13
                  have b10f : ∀ (j : Nat) (u : Value), ([(.int .i64 x13.num), (.int .i64 x13.tick), (.int .i64 x13.pts)] : List Value)[j]? = some u → ∀ w, Hp Z ρ (OwnSl 38 v1 (x5.set x7.toNat (Att.mk x12.num x12.tick x10.pts)) :: Pt b2 (.cells #[(.int .i64 0), (.int .i64 p0.most), (.int .i64 p0.pause), (.int .i64 0)] 23 (0, 0)) :: Pt b1 (.cells #[(.int .i64 p0.kind), (.int .i64 p0.most), (.int .i64 p0.pause), (.int .i64 p0.keep)] 23 (0, 0)) :: L) w → w.cell? ⟨b10, b10o + j, none⟩ = some u := b10f
                  refine s_val (wk0 rfl) rfl rfl hE hp (v := (.pointer (some ⟨b10, b10o, none⟩))) (ex_index rfl hE rfl rfl b10r) ?_
                  intro a hE
                  refine s_nil ⟨(hp.drop), ?_⟩
                  have hS := (hp.drop)
                  refine h_take 18 (wk0 rfl) rfl rfl rfl hE (by kernel_rfl) (by kernel_rfl) (by kernel_rfl) hS (v := (.pointer (some ⟨b10, b10o + 2, none⟩))) (ex_field rfl hE rfl (fldty38_2 _ _)) ?_
                  intro a hE
                  refine h_all [19] (by kernel_rfl) rfl ?_
                  refine List.forall_mem_cons.2 ⟨?_, fun _ h => absurd h (by simp)⟩
                  ·
                    refine h_op rfl ?_
                    refine s_stel (wk0 rfl) rfl hE hp rfl rfl rfl 0 rfl ex13 b10o2 b10v 2 (e' := (Att.mk x13.num x13.tick x11.pts)) varty3.size_ rfl rfl rfl ⟨rfl, rfl⟩ ?_
                    intro w hp
                    have hp : Hp Z ρ (OwnSl 38 v1 ((x5.set x7.toNat (Att.mk x12.num x12.tick x10.pts)).set x9.toNat (Att.mk x13.num x13.tick x11.pts)) :: Pt b2 (.cells #[(.int .i64 0), (.int .i64 p0.most), (.int .i64 p0.pause), (.int .i64 0)] 23 (0, 0)) :: Pt b1 (.cells #[(.int .i64 p0.kind), (.int .i64 p0.most), (.int .i64 p0.pause), (.int .i64 p0.keep)] 23 (0, 0)) :: L) w := hp
                    refine s_nil ⟨(hp.drop), ?_⟩
                    have hS := (hp.drop)
                    exact h_done (by kernel_rfl) ⟨hE.cut ⟨rfl, rfl, rfl, rfl, rfl, rfl, rfl, rfl, rfl, trivial⟩, hp⟩
          · rintro a w ⟨hE, hp⟩
            refine k_seq ?_
            refine k_region ?_
            refine s_val (wk0 rfl) rfl rfl hE hp (v := (.agg #[(.int .i64 0), (.int .i64 p0.most), (.int .i64 p0.pause), (.int .i64 0)])) (ex_load rfl hE rfl (fun w hw => run_ldN (cs := [(.int .i64 0), (.int .i64 p0.most), (.int .i64 p0.pause), (.int .i64 0)]) varty23 (Hp.cN 1 rfl 0 _ (sub_all rfl) w hw))) ?_
            intro a hE
            refine s_val (wk0 rfl) rfl rfl hE hp (v := v1) (ex_move rfl hE rfl) ?_
            intro a hE
            obtain ⟨k1, k1a, k1d, k1h⟩ := (hp.get 0 rfl).lend
            obtain ⟨x14, ex14, hm⟩ := bnd hm
            refine s_call (wk0 rfl) rfl rfl hE rfl [(.agg #[(.int .i64 0), (.int .i64 p0.most), (.int .i64 p0.pause), (.int .i64 0)]), v1] ⟨rfl, rfl, trivial⟩ ent11 (c_attempts_Final (Rule.mk 0 p0.most p0.pause 0) ((x5.set x7.toNat (Att.mk x12.num x12.tick x10.pts)).set x9.toNat (Att.mk x13.num x13.tick x11.pts)) v1 (OwnSl.ro k1d k1a) k1h x14 ex14) Ret.ret ?_
            intro v a w hR hE
            obtain ⟨rfl, hp⟩ := Ret.of hR
            have hp := Hp.back k1a k1d hp
            have hp : Hp Z ρ (OwnSl 38 v1 ((x5.set x7.toNat (Att.mk x12.num x12.tick x10.pts)).set x9.toNat (Att.mk x13.num x13.tick x11.pts)) :: Pt b2 (.cells #[(.int .i64 0), (.int .i64 p0.most), (.int .i64 p0.pause), (.int .i64 0)] 23 (0, 0)) :: Pt b1 (.cells #[(.int .i64 p0.kind), (.int .i64 p0.most), (.int .i64 p0.pause), (.int .i64 p0.keep)] 23 (0, 0)) :: L) w := hp
            have hp : Hp Z ρ (OwnSl 38 v1 ((x5.set x7.toNat (Att.mk x12.num x12.tick x10.pts)).set x9.toNat (Att.mk x13.num x13.tick x11.pts)) :: Pt b2 (.cells #[(.int .i64 0), (.int .i64 p0.most), (.int .i64 p0.pause), (.int .i64 0)] 23 (0, 0)) :: Pt b1 (.cells #[(.int .i64 p0.kind), (.int .i64 p0.most), (.int .i64 p0.pause), (.int .i64 p0.keep)] 23 (0, 0)) :: L) w := hp
            refine s_val (wk0 rfl) rfl rfl hE hp (v := (.tuple #[(.int .i64 x14.1), (.int .i64 x14.2)])) (ex_move rfl hE rfl) ?_
            intro a hE
            refine s_val (wk0 rfl) rfl rfl hE hp (v := (.int .i64 x14.1)) (ex_extract rfl hE rfl rfl) ?_
            intro a hE
            refine s_val (wk0 rfl) rfl rfl hE hp (v := (.int .i64 x14.2)) (ex_extract rfl hE rfl rfl) ?_
            intro a hE
            refine s_val (wk0 rfl) rfl rfl hE hp (v := (.int .i64 x14.1)) (ex_asn rfl hE rfl) ?_
            intro a hE
            refine s_val (wk0 rfl) rfl rfl hE hp (v := (.int .i64 x14.2)) (ex_asn rfl hE rfl) ?_
            intro a hE
            refine s_nil ?_
            refine k_seq ?_
            refine k_region ?_
            refine s_val (wk0 rfl) rfl rfl hE hp (v := (.agg #[(.int .i64 p0.kind), (.int .i64 p0.most), (.int .i64 p0.pause), (.int .i64 p0.keep)])) (ex_load rfl hE rfl (fun w hw => run_ldN (cs := [(.int .i64 p0.kind), (.int .i64 p0.most), (.int .i64 p0.pause), (.int .i64 p0.keep)]) varty23 (Hp.cN 2 rfl 0 _ (sub_all rfl) w hw))) ?_
            intro a hE
            refine s_val (wk0 rfl) rfl rfl hE hp (v := v1) (ex_move rfl hE rfl) ?_
            intro a hE
            obtain ⟨k2, k2a, k2d, k2h⟩ := (hp.get 0 rfl).lend
            obtain ⟨x15, ex15, hm⟩ := bnd hm
            refine s_call (wk0 rfl) rfl rfl hE rfl [(.agg #[(.int .i64 p0.kind), (.int .i64 p0.most), (.int .i64 p0.pause), (.int .i64 p0.keep)]), v1] ⟨rfl, rfl, trivial⟩ ent11 (c_attempts_Final p0 ((x5.set x7.toNat (Att.mk x12.num x12.tick x10.pts)).set x9.toNat (Att.mk x13.num x13.tick x11.pts)) v1 (OwnSl.ro k2d k2a) k2h x15 ex15) Ret.ret ?_
            intro v a w hR hE
            obtain ⟨rfl, hp⟩ := Ret.of hR
            have hp := Hp.back k2a k2d hp
            have hp : Hp Z ρ (OwnSl 38 v1 ((x5.set x7.toNat (Att.mk x12.num x12.tick x10.pts)).set x9.toNat (Att.mk x13.num x13.tick x11.pts)) :: Pt b2 (.cells #[(.int .i64 0), (.int .i64 p0.most), (.int .i64 p0.pause), (.int .i64 0)] 23 (0, 0)) :: Pt b1 (.cells #[(.int .i64 p0.kind), (.int .i64 p0.most), (.int .i64 p0.pause), (.int .i64 p0.keep)] 23 (0, 0)) :: L) w := hp
            have hp : Hp Z ρ (OwnSl 38 v1 ((x5.set x7.toNat (Att.mk x12.num x12.tick x10.pts)).set x9.toNat (Att.mk x13.num x13.tick x11.pts)) :: Pt b2 (.cells #[(.int .i64 0), (.int .i64 p0.most), (.int .i64 p0.pause), (.int .i64 0)] 23 (0, 0)) :: Pt b1 (.cells #[(.int .i64 p0.kind), (.int .i64 p0.most), (.int .i64 p0.pause), (.int .i64 p0.keep)] 23 (0, 0)) :: L) w := hp
            refine s_val (wk0 rfl) rfl rfl hE hp (v := (.tuple #[(.int .i64 x15.1), (.int .i64 x15.2)])) (ex_move rfl hE rfl) ?_
            intro a hE
            refine s_val (wk0 rfl) rfl rfl hE hp (v := (.int .i64 x15.1)) (ex_extract rfl hE rfl rfl) ?_
            intro a hE
            refine s_val (wk0 rfl) rfl rfl hE hp (v := (.int .i64 x15.2)) (ex_extract rfl hE rfl rfl) ?_
            intro a hE
            refine s_val (wk0 rfl) rfl rfl hE hp (v := (.int .i64 x15.1)) (ex_asn rfl hE rfl) ?_
            intro a hE
            refine s_val (wk0 rfl) rfl rfl hE hp (v := (.int .i64 x15.2)) (ex_asn rfl hE rfl) ?_
            intro a hE
            refine s_nil ?_
            have hE := hE.cut (E' := [(1, vp1), (2, (.int .i64 p2)), (5, (.pointer (some ⟨b1, 0, none⟩))), (11, (.pointer (some ⟨b2, 0, none⟩))), (12, (.int .i64 x3.1)), (13, (.int .i64 x3.2)), (14, (.int .i64 x4.1)), (15, (.int .i64 x4.2)), (19, (.int .i64 x14.1)), (20, (.int .i64 x14.2)), (21, (.int .i64 x15.1)), (22, (.int .i64 x15.2))]) ⟨rfl, rfl, rfl, rfl, rfl, rfl, rfl, rfl, rfl, rfl, rfl, rfl, trivial⟩
            refine k_seq ?_
            refine k_seq ?_
            refine k_region ?_
            refine s_val (wk0 rfl) rfl rfl hE hp (v := (.int .i64 x3.2)) (ex_move rfl hE rfl) ?_
            intro a hE
            refine s_val (wk0 rfl) rfl rfl hE hp (v := (.bool (!decide (x3.2 = 0)))) (ex_neq rfl hE rfl rfl) ?_
            intro a hE
            refine s_val (wk0 rfl) rfl rfl hE hp (v := (.bool (!decide (x3.2 = 0)))) (ex_move rfl hE rfl) ?_
            intro a hE
            refine s_cut [_, _, _] (fun a w => Env 163 [(104, (.bool ((!decide (x3.2 = 0)) || (!decide (x4.2 = 0))))), (1, vp1), (2, (.int .i64 p2)), (5, (.pointer (some ⟨b1, 0, none⟩))), (11, (.pointer (some ⟨b2, 0, none⟩))), (12, (.int .i64 x3.1)), (14, (.int .i64 x4.1)), (19, (.int .i64 x14.1)), (20, (.int .i64 x14.2)), (21, (.int .i64 x15.1)), (22, (.int .i64 x15.2))] a ∧ Hp Z ρ (OwnSl 38 v1 ((x5.set x7.toNat (Att.mk x12.num x12.tick x10.pts)).set x9.toNat (Att.mk x13.num x13.tick x11.pts)) :: Pt b2 (.cells #[(.int .i64 0), (.int .i64 p0.most), (.int .i64 p0.pause), (.int .i64 0)] 23 (0, 0)) :: Pt b1 (.cells #[(.int .i64 p0.kind), (.int .i64 p0.most), (.int .i64 p0.pause), (.int .i64 p0.keep)] 23 (0, 0)) :: L) w) ?_ ?_
            · rcases Bool.eq_false_or_eq_true (!decide (x3.2 = 0)) with hb5 | hb5
              ·
                refine s_skip (wk2 hE rfl rfl rfl hb5) rfl rfl hE ?_
                intro a hE
                refine s_skip (wk2 hE rfl rfl rfl hb5) rfl rfl hE ?_
                intro a hE
                refine s_val (wk0 rfl) rfl rfl hE hp (v := (.bool true)) (ex_pick1 rfl hE rfl hb5 rfl) ?_
                intro a hE
                have hE := hE.eqv (v' := (.bool ((!decide (x3.2 = 0)) || (!decide (x4.2 = 0))))) (by rw [hb5]; rfl)
                exact s_nil ⟨hE.cut ⟨rfl, rfl, rfl, rfl, rfl, rfl, rfl, rfl, rfl, rfl, rfl, trivial⟩, hp⟩
              ·
                refine s_val (wk1 hE rfl rfl rfl hb5) rfl rfl hE hp (v := (.int .i64 x4.2)) (ex_move rfl hE rfl) ?_
                intro a hE
                refine s_val (wk1 hE rfl rfl rfl hb5) rfl rfl hE hp (v := (.bool (!decide (x4.2 = 0)))) (ex_neq rfl hE rfl rfl) ?_
                intro a hE
                refine s_val (wk0 rfl) rfl rfl hE hp (v := (.bool (!decide (x4.2 = 0)))) (ex_pick0 rfl hE rfl hb5 rfl) ?_
                intro a hE
                have hE := hE.eqv (v' := (.bool ((!decide (x3.2 = 0)) || (!decide (x4.2 = 0))))) (by rw [hb5]; rfl)
                exact s_nil ⟨hE.cut ⟨rfl, rfl, rfl, rfl, rfl, rfl, rfl, rfl, rfl, rfl, rfl, trivial⟩, hp⟩
            · rintro a w ⟨hE, hp⟩
              refine s_val (wk0 rfl) rfl rfl hE hp (v := (.bool ((!decide (x3.2 = 0)) || (!decide (x4.2 = 0))))) (ex_move rfl hE rfl) ?_
              intro a hE
              refine s_cut [_, _, _] (fun a w => Env 163 [(108, (.bool (((!decide (x3.2 = 0)) || (!decide (x4.2 = 0))) || (!decide (x14.2 = 0))))), (1, vp1), (2, (.int .i64 p2)), (5, (.pointer (some ⟨b1, 0, none⟩))), (11, (.pointer (some ⟨b2, 0, none⟩))), (12, (.int .i64 x3.1)), (14, (.int .i64 x4.1)), (19, (.int .i64 x14.1)), (21, (.int .i64 x15.1)), (22, (.int .i64 x15.2))] a ∧ Hp Z ρ (OwnSl 38 v1 ((x5.set x7.toNat (Att.mk x12.num x12.tick x10.pts)).set x9.toNat (Att.mk x13.num x13.tick x11.pts)) :: Pt b2 (.cells #[(.int .i64 0), (.int .i64 p0.most), (.int .i64 p0.pause), (.int .i64 0)] 23 (0, 0)) :: Pt b1 (.cells #[(.int .i64 p0.kind), (.int .i64 p0.most), (.int .i64 p0.pause), (.int .i64 p0.keep)] 23 (0, 0)) :: L) w) ?_ ?_
              · rcases Bool.eq_false_or_eq_true ((!decide (x3.2 = 0)) || (!decide (x4.2 = 0))) with hb6 | hb6
                ·
                  refine s_skip (wk2 hE rfl rfl rfl hb6) rfl rfl hE ?_
                  intro a hE
                  refine s_skip (wk2 hE rfl rfl rfl hb6) rfl rfl hE ?_
                  intro a hE
                  refine s_val (wk0 rfl) rfl rfl hE hp (v := (.bool true)) (ex_pick1 rfl hE rfl hb6 rfl) ?_
                  intro a hE
                  have hE := hE.eqv (v' := (.bool (((!decide (x3.2 = 0)) || (!decide (x4.2 = 0))) || (!decide (x14.2 = 0))))) (by rw [hb6]; rfl)
                  exact s_nil ⟨hE.cut ⟨rfl, rfl, rfl, rfl, rfl, rfl, rfl, rfl, rfl, rfl, trivial⟩, hp⟩
                ·
                  refine s_val (wk1 hE rfl rfl rfl hb6) rfl rfl hE hp (v := (.int .i64 x14.2)) (ex_move rfl hE rfl) ?_
                  intro a hE
                  refine s_val (wk1 hE rfl rfl rfl hb6) rfl rfl hE hp (v := (.bool (!decide (x14.2 = 0)))) (ex_neq rfl hE rfl rfl) ?_
                  intro a hE
                  refine s_val (wk0 rfl) rfl rfl hE hp (v := (.bool (!decide (x14.2 = 0)))) (ex_pick0 rfl hE rfl hb6 rfl) ?_
                  intro a hE
                  have hE := hE.eqv (v' := (.bool (((!decide (x3.2 = 0)) || (!decide (x4.2 = 0))) || (!decide (x14.2 = 0))))) (by rw [hb6]; rfl)
                  exact s_nil ⟨hE.cut ⟨rfl, rfl, rfl, rfl, rfl, rfl, rfl, rfl, rfl, rfl, trivial⟩, hp⟩
              · rintro a w ⟨hE, hp⟩
                refine s_val (wk0 rfl) rfl rfl hE hp (v := (.bool (((!decide (x3.2 = 0)) || (!decide (x4.2 = 0))) || (!decide (x14.2 = 0))))) (ex_move rfl hE rfl) ?_
                intro a hE
                refine s_cut [_, _, _] (fun a w => Env 163 [(112, (.bool ((((!decide (x3.2 = 0)) || (!decide (x4.2 = 0))) || (!decide (x14.2 = 0))) || (!decide (x15.2 = 0))))), (1, vp1), (2, (.int .i64 p2)), (5, (.pointer (some ⟨b1, 0, none⟩))), (11, (.pointer (some ⟨b2, 0, none⟩))), (12, (.int .i64 x3.1)), (14, (.int .i64 x4.1)), (19, (.int .i64 x14.1)), (21, (.int .i64 x15.1))] a ∧ Hp Z ρ (OwnSl 38 v1 ((x5.set x7.toNat (Att.mk x12.num x12.tick x10.pts)).set x9.toNat (Att.mk x13.num x13.tick x11.pts)) :: Pt b2 (.cells #[(.int .i64 0), (.int .i64 p0.most), (.int .i64 p0.pause), (.int .i64 0)] 23 (0, 0)) :: Pt b1 (.cells #[(.int .i64 p0.kind), (.int .i64 p0.most), (.int .i64 p0.pause), (.int .i64 p0.keep)] 23 (0, 0)) :: L) w) ?_ ?_
                · rcases Bool.eq_false_or_eq_true (((!decide (x3.2 = 0)) || (!decide (x4.2 = 0))) || (!decide (x14.2 = 0))) with hb7 | hb7
                  ·
                    refine s_skip (wk2 hE rfl rfl rfl hb7) rfl rfl hE ?_
                    intro a hE
                    refine s_skip (wk2 hE rfl rfl rfl hb7) rfl rfl hE ?_
                    intro a hE
                    refine s_val (wk0 rfl) rfl rfl hE hp (v := (.bool true)) (ex_pick1 rfl hE rfl hb7 rfl) ?_
                    intro a hE
                    have hE := hE.eqv (v' := (.bool ((((!decide (x3.2 = 0)) || (!decide (x4.2 = 0))) || (!decide (x14.2 = 0))) || (!decide (x15.2 = 0))))) (by rw [hb7]; rfl)
                    exact s_nil ⟨hE.cut ⟨rfl, rfl, rfl, rfl, rfl, rfl, rfl, rfl, rfl, trivial⟩, hp⟩
                  ·
                    refine s_val (wk1 hE rfl rfl rfl hb7) rfl rfl hE hp (v := (.int .i64 x15.2)) (ex_move rfl hE rfl) ?_
                    intro a hE
                    refine s_val (wk1 hE rfl rfl rfl hb7) rfl rfl hE hp (v := (.bool (!decide (x15.2 = 0)))) (ex_neq rfl hE rfl rfl) ?_
                    intro a hE
                    refine s_val (wk0 rfl) rfl rfl hE hp (v := (.bool (!decide (x15.2 = 0)))) (ex_pick0 rfl hE rfl hb7 rfl) ?_
                    intro a hE
                    have hE := hE.eqv (v' := (.bool ((((!decide (x3.2 = 0)) || (!decide (x4.2 = 0))) || (!decide (x14.2 = 0))) || (!decide (x15.2 = 0))))) (by rw [hb7]; rfl)
                    exact s_nil ⟨hE.cut ⟨rfl, rfl, rfl, rfl, rfl, rfl, rfl, rfl, rfl, trivial⟩, hp⟩
                · rintro a w ⟨hE, hp⟩
                  refine s_val (wk0 rfl) rfl rfl hE hp (v := (.bool ((((!decide (x3.2 = 0)) || (!decide (x4.2 = 0))) || (!decide (x14.2 = 0))) || (!decide (x15.2 = 0))))) (ex_move rfl hE rfl) ?_
                  intro a hE
                  refine s_cut [_, _, _, _] (fun a w => Env 163 [(117, (.bool (((((!decide (x3.2 = 0)) || (!decide (x4.2 = 0))) || (!decide (x14.2 = 0))) || (!decide (x15.2 = 0))) || (decide (x3.1 < x4.1))))), (1, vp1), (2, (.int .i64 p2)), (5, (.pointer (some ⟨b1, 0, none⟩))), (11, (.pointer (some ⟨b2, 0, none⟩))), (12, (.int .i64 x3.1)), (14, (.int .i64 x4.1)), (19, (.int .i64 x14.1)), (21, (.int .i64 x15.1))] a ∧ Hp Z ρ (OwnSl 38 v1 ((x5.set x7.toNat (Att.mk x12.num x12.tick x10.pts)).set x9.toNat (Att.mk x13.num x13.tick x11.pts)) :: Pt b2 (.cells #[(.int .i64 0), (.int .i64 p0.most), (.int .i64 p0.pause), (.int .i64 0)] 23 (0, 0)) :: Pt b1 (.cells #[(.int .i64 p0.kind), (.int .i64 p0.most), (.int .i64 p0.pause), (.int .i64 p0.keep)] 23 (0, 0)) :: L) w) ?_ ?_
                  · rcases Bool.eq_false_or_eq_true ((((!decide (x3.2 = 0)) || (!decide (x4.2 = 0))) || (!decide (x14.2 = 0))) || (!decide (x15.2 = 0))) with hb8 | hb8
                    ·
                      refine s_skip (wk2 hE rfl rfl rfl hb8) rfl rfl hE ?_
                      intro a hE
                      refine s_skip (wk2 hE rfl rfl rfl hb8) rfl rfl hE ?_
                      intro a hE
                      refine s_skip (wk2 hE rfl rfl rfl hb8) rfl rfl hE ?_
                      intro a hE
                      refine s_val (wk0 rfl) rfl rfl hE hp (v := (.bool true)) (ex_pick1 rfl hE rfl hb8 rfl) ?_
                      intro a hE
                      have hE := hE.eqv (v' := (.bool (((((!decide (x3.2 = 0)) || (!decide (x4.2 = 0))) || (!decide (x14.2 = 0))) || (!decide (x15.2 = 0))) || (decide (x3.1 < x4.1))))) (by rw [hb8]; rfl)
                      exact s_nil ⟨hE.cut ⟨rfl, rfl, rfl, rfl, rfl, rfl, rfl, rfl, rfl, trivial⟩, hp⟩
                    ·
                      refine s_val (wk1 hE rfl rfl rfl hb8) rfl rfl hE hp (v := (.int .i64 x4.1)) (ex_move rfl hE rfl) ?_
                      intro a hE
                      refine s_val (wk1 hE rfl rfl rfl hb8) rfl rfl hE hp (v := (.int .i64 x3.1)) (ex_move rfl hE rfl) ?_
                      intro a hE
                      refine s_val (wk1 hE rfl rfl rfl hb8) rfl rfl hE hp (v := (.bool (decide (x3.1 < x4.1)))) (ex_gtr rfl hE rfl rfl) ?_
                      intro a hE
                      refine s_val (wk0 rfl) rfl rfl hE hp (v := (.bool (decide (x3.1 < x4.1)))) (ex_pick0 rfl hE rfl hb8 rfl) ?_
                      intro a hE
                      have hE := hE.eqv (v' := (.bool (((((!decide (x3.2 = 0)) || (!decide (x4.2 = 0))) || (!decide (x14.2 = 0))) || (!decide (x15.2 = 0))) || (decide (x3.1 < x4.1))))) (by rw [hb8]; rfl)
                      exact s_nil ⟨hE.cut ⟨rfl, rfl, rfl, rfl, rfl, rfl, rfl, rfl, rfl, trivial⟩, hp⟩
                  · rintro a w ⟨hE, hp⟩
                    refine s_val (wk0 rfl) rfl rfl hE hp (v := (.bool (((((!decide (x3.2 = 0)) || (!decide (x4.2 = 0))) || (!decide (x14.2 = 0))) || (!decide (x15.2 = 0))) || (decide (x3.1 < x4.1))))) (ex_move rfl hE rfl) ?_
                    intro a hE
                    refine s_cut [_, _, _, _] (fun a w => Env 163 [(122, (.bool ((((((!decide (x3.2 = 0)) || (!decide (x4.2 = 0))) || (!decide (x14.2 = 0))) || (!decide (x15.2 = 0))) || (decide (x3.1 < x4.1))) || (!decide (x3.1 = x14.1))))), (1, vp1), (2, (.int .i64 p2)), (5, (.pointer (some ⟨b1, 0, none⟩))), (11, (.pointer (some ⟨b2, 0, none⟩))), (12, (.int .i64 x3.1)), (14, (.int .i64 x4.1)), (21, (.int .i64 x15.1))] a ∧ Hp Z ρ (OwnSl 38 v1 ((x5.set x7.toNat (Att.mk x12.num x12.tick x10.pts)).set x9.toNat (Att.mk x13.num x13.tick x11.pts)) :: Pt b2 (.cells #[(.int .i64 0), (.int .i64 p0.most), (.int .i64 p0.pause), (.int .i64 0)] 23 (0, 0)) :: Pt b1 (.cells #[(.int .i64 p0.kind), (.int .i64 p0.most), (.int .i64 p0.pause), (.int .i64 p0.keep)] 23 (0, 0)) :: L) w) ?_ ?_
                    · rcases Bool.eq_false_or_eq_true (((((!decide (x3.2 = 0)) || (!decide (x4.2 = 0))) || (!decide (x14.2 = 0))) || (!decide (x15.2 = 0))) || (decide (x3.1 < x4.1))) with hb9 | hb9
                      ·
                        refine s_skip (wk2 hE rfl rfl rfl hb9) rfl rfl hE ?_
                        intro a hE
                        refine s_skip (wk2 hE rfl rfl rfl hb9) rfl rfl hE ?_
                        intro a hE
                        refine s_skip (wk2 hE rfl rfl rfl hb9) rfl rfl hE ?_
                        intro a hE
                        refine s_val (wk0 rfl) rfl rfl hE hp (v := (.bool true)) (ex_pick1 rfl hE rfl hb9 rfl) ?_
                        intro a hE
                        have hE := hE.eqv (v' := (.bool ((((((!decide (x3.2 = 0)) || (!decide (x4.2 = 0))) || (!decide (x14.2 = 0))) || (!decide (x15.2 = 0))) || (decide (x3.1 < x4.1))) || (!decide (x3.1 = x14.1))))) (by rw [hb9]; rfl)
                        exact s_nil ⟨hE.cut ⟨rfl, rfl, rfl, rfl, rfl, rfl, rfl, rfl, trivial⟩, hp⟩
                      ·
                        refine s_val (wk1 hE rfl rfl rfl hb9) rfl rfl hE hp (v := (.int .i64 x3.1)) (ex_move rfl hE rfl) ?_
                        intro a hE
                        refine s_val (wk1 hE rfl rfl rfl hb9) rfl rfl hE hp (v := (.int .i64 x14.1)) (ex_move rfl hE rfl) ?_
                        intro a hE
                        refine s_val (wk1 hE rfl rfl rfl hb9) rfl rfl hE hp (v := (.bool (!decide (x3.1 = x14.1)))) (ex_neq rfl hE rfl rfl) ?_
                        intro a hE
                        refine s_val (wk0 rfl) rfl rfl hE hp (v := (.bool (!decide (x3.1 = x14.1)))) (ex_pick0 rfl hE rfl hb9 rfl) ?_
                        intro a hE
                        have hE := hE.eqv (v' := (.bool ((((((!decide (x3.2 = 0)) || (!decide (x4.2 = 0))) || (!decide (x14.2 = 0))) || (!decide (x15.2 = 0))) || (decide (x3.1 < x4.1))) || (!decide (x3.1 = x14.1))))) (by rw [hb9]; rfl)
                        exact s_nil ⟨hE.cut ⟨rfl, rfl, rfl, rfl, rfl, rfl, rfl, rfl, trivial⟩, hp⟩
                    · rintro a w ⟨hE, hp⟩
                      refine s_val (wk0 rfl) rfl rfl hE hp (v := (.bool ((((((!decide (x3.2 = 0)) || (!decide (x4.2 = 0))) || (!decide (x14.2 = 0))) || (!decide (x15.2 = 0))) || (decide (x3.1 < x4.1))) || (!decide (x3.1 = x14.1))))) (ex_move rfl hE rfl) ?_
                      intro a hE
                      refine s_cut [_, _, _, _, _, _, _, _, _] (fun a w => Env 163 [(132, (.bool (((((((!decide (x3.2 = 0)) || (!decide (x4.2 = 0))) || (!decide (x14.2 = 0))) || (!decide (x15.2 = 0))) || (decide (x3.1 < x4.1))) || (!decide (x3.1 = x14.1))) || ((!decide (p0.kind = 1)) && (!decide (x4.1 = x15.1)))))), (1, vp1), (2, (.int .i64 p2)), (5, (.pointer (some ⟨b1, 0, none⟩))), (11, (.pointer (some ⟨b2, 0, none⟩))), (12, (.int .i64 x3.1))] a ∧ Hp Z ρ (OwnSl 38 v1 ((x5.set x7.toNat (Att.mk x12.num x12.tick x10.pts)).set x9.toNat (Att.mk x13.num x13.tick x11.pts)) :: Pt b2 (.cells #[(.int .i64 0), (.int .i64 p0.most), (.int .i64 p0.pause), (.int .i64 0)] 23 (0, 0)) :: Pt b1 (.cells #[(.int .i64 p0.kind), (.int .i64 p0.most), (.int .i64 p0.pause), (.int .i64 p0.keep)] 23 (0, 0)) :: L) w) ?_ ?_
                      · rcases Bool.eq_false_or_eq_true ((((((!decide (x3.2 = 0)) || (!decide (x4.2 = 0))) || (!decide (x14.2 = 0))) || (!decide (x15.2 = 0))) || (decide (x3.1 < x4.1))) || (!decide (x3.1 = x14.1))) with hb10 | hb10
                        ·
                          refine s_skip (wk2 hE rfl rfl rfl hb10) rfl rfl hE ?_
                          intro a hE
                          refine s_skip (wk2 hE rfl rfl rfl hb10) rfl rfl hE ?_
                          intro a hE
                          refine s_skip (wk2 hE rfl rfl rfl hb10) rfl rfl hE ?_
                          intro a hE
                          refine s_skip (wk2 hE rfl rfl rfl hb10) rfl rfl hE ?_
                          intro a hE
                          refine s_skip (wk3 hE rfl rfl rfl) rfl rfl hE ?_
                          intro a hE
                          refine s_skip (wk3 hE rfl rfl rfl) rfl rfl hE ?_
                          intro a hE
                          refine s_skip (wk3 hE rfl rfl rfl) rfl rfl hE ?_
                          intro a hE
                          refine s_skip (wk2 hE rfl rfl rfl hb10) rfl rfl hE ?_
                          intro a hE
                          refine s_val (wk0 rfl) rfl rfl hE hp (v := (.bool true)) (ex_pick1 rfl hE rfl hb10 rfl) ?_
                          intro a hE
                          have hE := hE.eqv (v' := (.bool (((((((!decide (x3.2 = 0)) || (!decide (x4.2 = 0))) || (!decide (x14.2 = 0))) || (!decide (x15.2 = 0))) || (decide (x3.1 < x4.1))) || (!decide (x3.1 = x14.1))) || ((!decide (p0.kind = 1)) && (!decide (x4.1 = x15.1)))))) (by rw [hb10]; rfl)
                          exact s_nil ⟨hE.cut ⟨rfl, rfl, rfl, rfl, rfl, rfl, trivial⟩, hp⟩
                        ·
                          refine s_val (wk1 hE rfl rfl rfl hb10) rfl rfl hE hp (v := (.pointer (some ⟨b1, 0, none⟩))) (ex_field rfl hE rfl (fldty23_0 _ _)) ?_
                          intro a hE
                          refine s_val (wk1 hE rfl rfl rfl hb10) rfl rfl hE hp (v := (.int .i64 p0.kind)) (ex_load rfl hE rfl (fun w hw => run_ld1 varty3 (Hp.c 2 rfl 0 rfl w hw))) ?_
                          intro a hE
                          refine s_val (wk1 hE rfl rfl rfl hb10) rfl rfl hE hp (v := (.bool (!decide (p0.kind = 1)))) (ex_neq rfl hE rfl rfl) ?_
                          intro a hE
                          refine s_val (wk1 hE rfl rfl rfl hb10) rfl rfl hE hp (v := (.bool (!decide (p0.kind = 1)))) (ex_move rfl hE rfl) ?_
                          intro a hE
                          refine s_cut [_, _, _, _] (fun a w => Env 163 [(131, (.bool ((!decide (p0.kind = 1)) && (!decide (x4.1 = x15.1))))), (1, vp1), (2, (.int .i64 p2)), (5, (.pointer (some ⟨b1, 0, none⟩))), (11, (.pointer (some ⟨b2, 0, none⟩))), (12, (.int .i64 x3.1)), (123, (.bool ((((((!decide (x3.2 = 0)) || (!decide (x4.2 = 0))) || (!decide (x14.2 = 0))) || (!decide (x15.2 = 0))) || (decide (x3.1 < x4.1))) || (!decide (x3.1 = x14.1)))))] a ∧ Hp Z ρ (OwnSl 38 v1 ((x5.set x7.toNat (Att.mk x12.num x12.tick x10.pts)).set x9.toNat (Att.mk x13.num x13.tick x11.pts)) :: Pt b2 (.cells #[(.int .i64 0), (.int .i64 p0.most), (.int .i64 p0.pause), (.int .i64 0)] 23 (0, 0)) :: Pt b1 (.cells #[(.int .i64 p0.kind), (.int .i64 p0.most), (.int .i64 p0.pause), (.int .i64 p0.keep)] 23 (0, 0)) :: L) w) ?_ ?_
                          · rcases Bool.eq_false_or_eq_true (!decide (p0.kind = 1)) with hb11 | hb11
                            ·
                              refine s_val (wk1 hE rfl rfl rfl hb11) rfl rfl hE hp (v := (.int .i64 x4.1)) (ex_move rfl hE rfl) ?_
                              intro a hE
                              refine s_val (wk1 hE rfl rfl rfl hb11) rfl rfl hE hp (v := (.int .i64 x15.1)) (ex_move rfl hE rfl) ?_
                              intro a hE
                              refine s_val (wk1 hE rfl rfl rfl hb11) rfl rfl hE hp (v := (.bool (!decide (x4.1 = x15.1)))) (ex_neq rfl hE rfl rfl) ?_
                              intro a hE
                              refine s_val (wk1 hE rfl rfl rfl hb10) rfl rfl hE hp (v := (.bool (!decide (x4.1 = x15.1)))) (ex_pick1 rfl hE rfl hb11 rfl) ?_
                              intro a hE
                              have hE := hE.eqv (v' := (.bool ((!decide (p0.kind = 1)) && (!decide (x4.1 = x15.1))))) (by rw [hb11]; rfl)
                              exact s_nil ⟨hE.cut ⟨rfl, rfl, rfl, rfl, rfl, rfl, rfl, trivial⟩, hp⟩
                            ·
                              refine s_skip (wk2 hE rfl rfl rfl hb11) rfl rfl hE ?_
                              intro a hE
                              refine s_skip (wk2 hE rfl rfl rfl hb11) rfl rfl hE ?_
                              intro a hE
                              refine s_skip (wk2 hE rfl rfl rfl hb11) rfl rfl hE ?_
                              intro a hE
                              refine s_val (wk1 hE rfl rfl rfl hb10) rfl rfl hE hp (v := (.bool false)) (ex_pick0 rfl hE rfl hb11 rfl) ?_
                              intro a hE
                              have hE := hE.eqv (v' := (.bool ((!decide (p0.kind = 1)) && (!decide (x4.1 = x15.1))))) (by rw [hb11]; rfl)
                              exact s_nil ⟨hE.cut ⟨rfl, rfl, rfl, rfl, rfl, rfl, rfl, trivial⟩, hp⟩
                          · rintro a w ⟨hE, hp⟩
                            refine s_val (wk0 rfl) rfl rfl hE hp (v := (.bool ((!decide (p0.kind = 1)) && (!decide (x4.1 = x15.1))))) (ex_pick0 rfl hE rfl hb10 rfl) ?_
                            intro a hE
                            have hE := hE.eqv (v' := (.bool (((((((!decide (x3.2 = 0)) || (!decide (x4.2 = 0))) || (!decide (x14.2 = 0))) || (!decide (x15.2 = 0))) || (decide (x3.1 < x4.1))) || (!decide (x3.1 = x14.1))) || ((!decide (p0.kind = 1)) && (!decide (x4.1 = x15.1)))))) (by rw [hb10]; rfl)
                            exact s_nil ⟨hE.cut ⟨rfl, rfl, rfl, rfl, rfl, rfl, trivial⟩, hp⟩
                      · rintro a w ⟨hE, hp⟩
                        refine s_nil ?_
                        refine k_if hE rfl (fun hb12 => ?_) (fun hb12 => ?_)
                        · replace hm := (it hb12).symm.trans hm
                          refine k_seq ?_
                          refine k_region ?_
                          refine s_val (wk0 rfl) rfl rfl hE hp (v := (.bool false)) (ex_asn rfl hE rfl) ?_
                          intro a hE
                          refine s_nil ?_
                          refine k_ret ?_
                          obtain rfl := Option.some.inj hm
                          exact ret1 hE rfl rfl ⟨_, rfl, rfl, (((((hp.get 2 rfl).drop).get 1 rfl).drop).drop)⟩
                        · replace hm := (ie hb12).symm.trans hm
                          refine k_skip ?_
                          refine k_seq ?_
                          refine k_seq ?_
                          refine k_region ?_
                          refine s_val (wk0 rfl) rfl rfl hE hp (v := vp1) (ex_move rfl hE rfl) ?_
                          intro a hE
                          refine s_val (wk0 rfl) rfl rfl hE hp (v := (.int .i64 (p1.length : Int))) (ex_len rfl hE rfl (RoSl.len hp1 slty24)) ?_
                          intro a hE
                          refine s_val (wk0 rfl) rfl rfl hE hp (v := (.pointer (some ⟨b1, 1, none⟩))) (ex_field rfl hE rfl (fldty23_1 _ _)) ?_
                          intro a hE
                          refine s_val (wk0 rfl) rfl rfl hE hp (v := (.int .i64 p0.most)) (ex_load rfl hE rfl (fun w hw => run_ld1 varty3 (Hp.c 2 rfl 1 rfl w hw))) ?_
                          intro a hE
                          refine s_val (wk0 rfl) rfl rfl hE hp (v := (.bool (decide ((p1.length : Int) = p0.most)))) (ex_eql rfl hE rfl rfl) ?_
                          intro a hE
                          refine s_val (wk0 rfl) rfl rfl hE hp (v := (.bool (decide ((p1.length : Int) = p0.most)))) (ex_move rfl hE rfl) ?_
                          intro a hE
                          refine s_cut [_, _, _] (fun a w => Env 163 [(141, (.bool ((decide ((p1.length : Int) = p0.most)) || (decide (p2 < 0))))), (1, vp1), (2, (.int .i64 p2)), (11, (.pointer (some ⟨b2, 0, none⟩))), (12, (.int .i64 x3.1))] a ∧ Hp Z ρ (OwnSl 38 v1 ((x5.set x7.toNat (Att.mk x12.num x12.tick x10.pts)).set x9.toNat (Att.mk x13.num x13.tick x11.pts)) :: Pt b2 (.cells #[(.int .i64 0), (.int .i64 p0.most), (.int .i64 p0.pause), (.int .i64 0)] 23 (0, 0)) :: Pt b1 (.cells #[(.int .i64 p0.kind), (.int .i64 p0.most), (.int .i64 p0.pause), (.int .i64 p0.keep)] 23 (0, 0)) :: L) w) ?_ ?_
                          · rcases Bool.eq_false_or_eq_true (decide ((p1.length : Int) = p0.most)) with hb13 | hb13
                            ·
                              refine s_skip (wk2 hE rfl rfl rfl hb13) rfl rfl hE ?_
                              intro a hE
                              refine s_skip (wk2 hE rfl rfl rfl hb13) rfl rfl hE ?_
                              intro a hE
                              refine s_val (wk0 rfl) rfl rfl hE hp (v := (.bool true)) (ex_pick1 rfl hE rfl hb13 rfl) ?_
                              intro a hE
                              have hE := hE.eqv (v' := (.bool ((decide ((p1.length : Int) = p0.most)) || (decide (p2 < 0))))) (by rw [hb13]; rfl)
                              exact s_nil ⟨hE.cut ⟨rfl, rfl, rfl, rfl, rfl, trivial⟩, hp⟩
                            ·
                              refine s_val (wk1 hE rfl rfl rfl hb13) rfl rfl hE hp (v := (.int .i64 p2)) (ex_move rfl hE rfl) ?_
                              intro a hE
                              refine s_val (wk1 hE rfl rfl rfl hb13) rfl rfl hE hp (v := (.bool (decide (p2 < 0)))) (ex_lss rfl hE rfl rfl) ?_
                              intro a hE
                              refine s_val (wk0 rfl) rfl rfl hE hp (v := (.bool (decide (p2 < 0)))) (ex_pick0 rfl hE rfl hb13 rfl) ?_
                              intro a hE
                              have hE := hE.eqv (v' := (.bool ((decide ((p1.length : Int) = p0.most)) || (decide (p2 < 0))))) (by rw [hb13]; rfl)
                              exact s_nil ⟨hE.cut ⟨rfl, rfl, rfl, rfl, rfl, trivial⟩, hp⟩
                          · rintro a w ⟨hE, hp⟩
                            refine s_val (wk0 rfl) rfl rfl hE hp (v := (.bool ((decide ((p1.length : Int) = p0.most)) || (decide (p2 < 0))))) (ex_move rfl hE rfl) ?_
                            intro a hE
                            refine s_cut [_, _, _] (fun a w => Env 163 [(145, (.bool (((decide ((p1.length : Int) = p0.most)) || (decide (p2 < 0))) || (decide (100000000 < p2))))), (1, vp1), (2, (.int .i64 p2)), (11, (.pointer (some ⟨b2, 0, none⟩))), (12, (.int .i64 x3.1))] a ∧ Hp Z ρ (OwnSl 38 v1 ((x5.set x7.toNat (Att.mk x12.num x12.tick x10.pts)).set x9.toNat (Att.mk x13.num x13.tick x11.pts)) :: Pt b2 (.cells #[(.int .i64 0), (.int .i64 p0.most), (.int .i64 p0.pause), (.int .i64 0)] 23 (0, 0)) :: Pt b1 (.cells #[(.int .i64 p0.kind), (.int .i64 p0.most), (.int .i64 p0.pause), (.int .i64 p0.keep)] 23 (0, 0)) :: L) w) ?_ ?_
                            · rcases Bool.eq_false_or_eq_true ((decide ((p1.length : Int) = p0.most)) || (decide (p2 < 0))) with hb14 | hb14
                              ·
                                refine s_skip (wk2 hE rfl rfl rfl hb14) rfl rfl hE ?_
                                intro a hE
                                refine s_skip (wk2 hE rfl rfl rfl hb14) rfl rfl hE ?_
                                intro a hE
                                refine s_val (wk0 rfl) rfl rfl hE hp (v := (.bool true)) (ex_pick1 rfl hE rfl hb14 rfl) ?_
                                intro a hE
                                have hE := hE.eqv (v' := (.bool (((decide ((p1.length : Int) = p0.most)) || (decide (p2 < 0))) || (decide (100000000 < p2))))) (by rw [hb14]; rfl)
                                exact s_nil ⟨hE.cut ⟨rfl, rfl, rfl, rfl, rfl, trivial⟩, hp⟩
                              ·
                                refine s_val (wk1 hE rfl rfl rfl hb14) rfl rfl hE hp (v := (.int .i64 p2)) (ex_move rfl hE rfl) ?_
                                intro a hE
                                refine s_val (wk1 hE rfl rfl rfl hb14) rfl rfl hE hp (v := (.bool (decide (100000000 < p2)))) (ex_gtr rfl hE rfl rfl) ?_
                                intro a hE
                                refine s_val (wk0 rfl) rfl rfl hE hp (v := (.bool (decide (100000000 < p2)))) (ex_pick0 rfl hE rfl hb14 rfl) ?_
                                intro a hE
                                have hE := hE.eqv (v' := (.bool (((decide ((p1.length : Int) = p0.most)) || (decide (p2 < 0))) || (decide (100000000 < p2))))) (by rw [hb14]; rfl)
                                exact s_nil ⟨hE.cut ⟨rfl, rfl, rfl, rfl, rfl, trivial⟩, hp⟩
                            · rintro a w ⟨hE, hp⟩
                              refine s_nil ?_
                              refine k_if hE rfl (fun hb15 => ?_) (fun hb15 => ?_)
                              · replace hm := (it hb15).symm.trans hm
                                refine k_seq ?_
                                refine k_region ?_
                                refine s_val (wk0 rfl) rfl rfl hE hp (v := (.bool true)) (ex_asn rfl hE rfl) ?_
                                intro a hE
                                refine s_nil ?_
                                refine k_ret ?_
                                obtain rfl := Option.some.inj hm
                                exact ret1 hE rfl rfl ⟨_, rfl, rfl, (((((hp.get 2 rfl).drop).get 1 rfl).drop).drop)⟩
                              · replace hm := (ie hb15).symm.trans hm
                                refine k_skip ?_
                                refine k_seq ?_
                                obtain ⟨x16, ex16, hm⟩ := bnd hm
                                obtain ⟨x17, ex17, hm⟩ := bnd hm
                                refine k_held (Z := Z) (ρ := ρ) (OwnSl 38 v1 ((x5.set x7.toNat (Att.mk x12.num x12.tick x10.pts)).set x9.toNat (Att.mk x13.num x13.tick x11.pts)) :: Pt b2 (.cells #[(.int .i64 0), (.int .i64 p0.most), (.int .i64 p0.pause), (.int .i64 0)] 23 (0, 0)) :: Pt b1 (.cells #[(.int .i64 p0.kind), (.int .i64 p0.most), (.int .i64 p0.pause), (.int .i64 p0.keep)] 23 (0, 0)) :: L) (fun a w => ∃ y4 : Value, Env 163 [(2, (.int .i64 p2)), (12, (.int .i64 x3.1)), (13, (.int .i64 x17.2)), (23, (.int .i64 x17.1))] a ∧ Hp Z ρ (OwnSl 38 y4 x16 :: OwnSl 38 v1 ((x5.set x7.toNat (Att.mk x12.num x12.tick x10.pts)).set x9.toNat (Att.mk x13.num x13.tick x11.pts)) :: Pt b2 (.cells #[(.int .i64 0), (.int .i64 p0.most), (.int .i64 p0.pause), (.int .i64 0)] 23 (0, 0)) :: Pt b1 (.cells #[(.int .i64 p0.kind), (.int .i64 p0.most), (.int .i64 p0.pause), (.int .i64 p0.keep)] 23 (0, 0)) :: L) w) (by kernel_rfl) ?_ ?_
                                ·
                                  have hp := hp.drew
                                  have hS : Hp Z ρ (OwnSl 38 v1 ((x5.set x7.toNat (Att.mk x12.num x12.tick x10.pts)).set x9.toNat (Att.mk x13.num x13.tick x11.pts)) :: Pt b2 (.cells #[(.int .i64 0), (.int .i64 p0.most), (.int .i64 p0.pause), (.int .i64 0)] 23 (0, 0)) :: Pt b1 (.cells #[(.int .i64 p0.kind), (.int .i64 p0.most), (.int .i64 p0.pause), (.int .i64 p0.keep)] 23 (0, 0)) :: L) w.drew := hp
                                  refine h_take 0 (wk0 rfl) rfl rfl rfl hE (by kernel_rfl) (by kernel_rfl) (by kernel_rfl) hS (v := (.agg #[(.int .i64 0), (.int .i64 p0.most), (.int .i64 p0.pause), (.int .i64 0)])) (ex_load rfl hE rfl (fun w hw => run_ldN (cs := [(.int .i64 0), (.int .i64 p0.most), (.int .i64 p0.pause), (.int .i64 0)]) varty23 (Hp.cN 1 rfl 0 _ (sub_all rfl) w hw))) ?_
                                  intro a hE
                                  refine h_take 1 (wk0 rfl) rfl rfl rfl hE (by kernel_rfl) (by kernel_rfl) (by kernel_rfl) hS (v := vp1) (ex_move rfl hE rfl) ?_
                                  intro a hE
                                  refine h_take 2 (wk0 rfl) rfl rfl rfl hE (by kernel_rfl) (by kernel_rfl) (by kernel_rfl) hS (v := (.int .i64 p2)) (ex_move rfl hE rfl) ?_
                                  intro a hE
                                  refine h_all [3] (by kernel_rfl) rfl ?_
                                  refine List.forall_mem_cons.2 ⟨?_, fun _ h => absurd h (by simp)⟩
                                  ·
                                    refine h_op rfl ?_
                                    refine s_call (wk0 rfl) rfl rfl hE rfl [vp1, (.int .i64 p2)] ⟨rfl, rfl, trivial⟩ ent20 (c_assessorlaw52_next p1 vp1 hp1 p2 hp x16 ex16) Ret.ret ?_
                                    intro v3 a w hR hE
                                    obtain ⟨u, hu, hp⟩ := Ret.of hR
                                    rw [← hu] at hp
                                    have hp : Hp Z ρ (OwnSl 38 v3 x16 :: OwnSl 38 v1 ((x5.set x7.toNat (Att.mk x12.num x12.tick x10.pts)).set x9.toNat (Att.mk x13.num x13.tick x11.pts)) :: Pt b2 (.cells #[(.int .i64 0), (.int .i64 p0.most), (.int .i64 p0.pause), (.int .i64 0)] 23 (0, 0)) :: Pt b1 (.cells #[(.int .i64 p0.kind), (.int .i64 p0.most), (.int .i64 p0.pause), (.int .i64 p0.keep)] 23 (0, 0)) :: L) w := hp
                                    refine s_nil ⟨(hp.drop), ?_⟩
                                    have hS := (hp.drop)
                                    refine h_all [4] (by kernel_rfl) rfl ?_
                                    refine List.forall_mem_cons.2 ⟨?_, fun _ h => absurd h (by simp)⟩
                                    ·
                                      refine h_op rfl ?_
                                      obtain ⟨k4, k4a, k4d, k4h⟩ := (hp.get 0 rfl).lend
                                      refine s_call (wk0 rfl) rfl rfl hE rfl [(.agg #[(.int .i64 0), (.int .i64 p0.most), (.int .i64 p0.pause), (.int .i64 0)]), v3] ⟨rfl, rfl, trivial⟩ ent11 (c_attempts_Final (Rule.mk 0 p0.most p0.pause 0) x16 v3 (OwnSl.ro k4d k4a) k4h x17 ex17) Ret.ret ?_
                                      intro v a w hR hE
                                      obtain ⟨rfl, hp⟩ := Ret.of hR
                                      have hp := Hp.back k4a k4d hp
                                      have hp : Hp Z ρ (OwnSl 38 v3 x16 :: OwnSl 38 v1 ((x5.set x7.toNat (Att.mk x12.num x12.tick x10.pts)).set x9.toNat (Att.mk x13.num x13.tick x11.pts)) :: Pt b2 (.cells #[(.int .i64 0), (.int .i64 p0.most), (.int .i64 p0.pause), (.int .i64 0)] 23 (0, 0)) :: Pt b1 (.cells #[(.int .i64 p0.kind), (.int .i64 p0.most), (.int .i64 p0.pause), (.int .i64 p0.keep)] 23 (0, 0)) :: L) w := hp
                                      have hp : Hp Z ρ (OwnSl 38 v3 x16 :: OwnSl 38 v1 ((x5.set x7.toNat (Att.mk x12.num x12.tick x10.pts)).set x9.toNat (Att.mk x13.num x13.tick x11.pts)) :: Pt b2 (.cells #[(.int .i64 0), (.int .i64 p0.most), (.int .i64 p0.pause), (.int .i64 0)] 23 (0, 0)) :: Pt b1 (.cells #[(.int .i64 p0.kind), (.int .i64 p0.most), (.int .i64 p0.pause), (.int .i64 p0.keep)] 23 (0, 0)) :: L) w := hp
                                      refine s_nil ⟨(hp.drop), ?_⟩
                                      have hS := (hp.drop)
                                      refine h_take 5 (wk0 rfl) rfl rfl rfl hE (by kernel_rfl) (by kernel_rfl) (by kernel_rfl) hS (v := (.tuple #[(.int .i64 x17.1), (.int .i64 x17.2)])) (ex_move rfl hE rfl) ?_
                                      intro a hE
                                      refine h_take 6 (wk0 rfl) rfl rfl rfl hE (by kernel_rfl) (by kernel_rfl) (by kernel_rfl) hS (v := (.int .i64 x17.1)) (ex_extract rfl hE rfl rfl) ?_
                                      intro a hE
                                      refine h_take 7 (wk0 rfl) rfl rfl rfl hE (by kernel_rfl) (by kernel_rfl) (by kernel_rfl) hS (v := (.int .i64 x17.2)) (ex_extract rfl hE rfl rfl) ?_
                                      intro a hE
                                      refine h_take 8 (wk0 rfl) rfl rfl rfl hE (by kernel_rfl) (by kernel_rfl) (by kernel_rfl) hS (v := (.int .i64 x17.1)) (ex_asn rfl hE rfl) ?_
                                      intro a hE
                                      refine h_take 9 (wk0 rfl) rfl rfl rfl hE (by kernel_rfl) (by kernel_rfl) (by kernel_rfl) hS (v := (.int .i64 x17.2)) (ex_asn rfl hE rfl) ?_
                                      intro a hE
                                      exact h_done (by kernel_rfl) ⟨_, hE.cut ⟨rfl, rfl, rfl, rfl, trivial⟩, hp⟩
                                · rintro a w ⟨y4, hE, hp⟩
                                  refine k_seq ?_
                                  refine k_region ?_
                                  refine s_val (wk0 rfl) rfl rfl hE hp (v := (.int .i64 x17.2)) (ex_move rfl hE rfl) ?_
                                  intro a hE
                                  refine s_val (wk0 rfl) rfl rfl hE hp (v := (.bool (decide (x17.2 = 0)))) (ex_eql rfl hE rfl rfl) ?_
                                  intro a hE
                                  refine s_val (wk0 rfl) rfl rfl hE hp (v := (.bool (decide (x17.2 = 0)))) (ex_move rfl hE rfl) ?_
                                  intro a hE
                                  refine s_cut [_, _, _, _, _, _] (fun a w => Env 163 [(162, (.bool ((decide (x17.2 = 0)) && (decide (x17.1 = (max x3.1 p2))))))] a ∧ Hp Z ρ (OwnSl 38 y4 x16 :: OwnSl 38 v1 ((x5.set x7.toNat (Att.mk x12.num x12.tick x10.pts)).set x9.toNat (Att.mk x13.num x13.tick x11.pts)) :: Pt b2 (.cells #[(.int .i64 0), (.int .i64 p0.most), (.int .i64 p0.pause), (.int .i64 0)] 23 (0, 0)) :: Pt b1 (.cells #[(.int .i64 p0.kind), (.int .i64 p0.most), (.int .i64 p0.pause), (.int .i64 p0.keep)] 23 (0, 0)) :: L) w) ?_ ?_
                                  · rcases Bool.eq_false_or_eq_true (decide (x17.2 = 0)) with hb16 | hb16
                                    ·
                                      refine s_val (wk1 hE rfl rfl rfl hb16) rfl rfl hE hp (v := (.int .i64 x17.1)) (ex_move rfl hE rfl) ?_
                                      intro a hE
                                      refine s_val (wk1 hE rfl rfl rfl hb16) rfl rfl hE hp (v := (.int .i64 x3.1)) (ex_move rfl hE rfl) ?_
                                      intro a hE
                                      refine s_val (wk1 hE rfl rfl rfl hb16) rfl rfl hE hp (v := (.int .i64 p2)) (ex_move rfl hE rfl) ?_
                                      intro a hE
                                      refine s_val (wk1 hE rfl rfl rfl hb16) rfl rfl hE hp (v := (.int .i64 (max x3.1 p2))) (ex_max rfl hE rfl rfl) ?_
                                      intro a hE
                                      refine s_val (wk1 hE rfl rfl rfl hb16) rfl rfl hE hp (v := (.bool (decide (x17.1 = (max x3.1 p2))))) (ex_eql rfl hE rfl rfl) ?_
                                      intro a hE
                                      refine s_val (wk0 rfl) rfl rfl hE hp (v := (.bool (decide (x17.1 = (max x3.1 p2))))) (ex_pick1 rfl hE rfl hb16 rfl) ?_
                                      intro a hE
                                      have hE := hE.eqv (v' := (.bool ((decide (x17.2 = 0)) && (decide (x17.1 = (max x3.1 p2)))))) (by rw [hb16]; rfl)
                                      exact s_nil ⟨hE.cut ⟨rfl, trivial⟩, hp⟩
                                    ·
                                      refine s_skip (wk2 hE rfl rfl rfl hb16) rfl rfl hE ?_
                                      intro a hE
                                      refine s_skip (wk2 hE rfl rfl rfl hb16) rfl rfl hE ?_
                                      intro a hE
                                      refine s_skip (wk2 hE rfl rfl rfl hb16) rfl rfl hE ?_
                                      intro a hE
                                      refine s_skip (wk2 hE rfl rfl rfl hb16) rfl rfl hE ?_
                                      intro a hE
                                      refine s_skip (wk2 hE rfl rfl rfl hb16) rfl rfl hE ?_
                                      intro a hE
                                      refine s_val (wk0 rfl) rfl rfl hE hp (v := (.bool false)) (ex_pick0 rfl hE rfl hb16 rfl) ?_
                                      intro a hE
                                      have hE := hE.eqv (v' := (.bool ((decide (x17.2 = 0)) && (decide (x17.1 = (max x3.1 p2)))))) (by rw [hb16]; rfl)
                                      exact s_nil ⟨hE.cut ⟨rfl, trivial⟩, hp⟩
                                  · rintro a w ⟨hE, hp⟩
                                    refine s_val (wk0 rfl) rfl rfl hE hp (v := (.bool ((decide (x17.2 = 0)) && (decide (x17.1 = (max x3.1 p2)))))) (ex_asn rfl hE rfl) ?_
                                    intro a hE
                                    refine s_nil ?_
                                    refine k_ret ?_
                                    obtain rfl := Option.some.inj hm
                                    exact ret1 hE rfl rfl ⟨_, rfl, rfl, (((((((hp.get 3 rfl).drop).get 2 rfl).drop).get 1 rfl).drop).drop)⟩
end Go.Proofs.Ytmjmoogldbejoaa

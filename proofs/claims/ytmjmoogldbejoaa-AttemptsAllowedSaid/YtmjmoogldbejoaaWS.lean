/-
  The code goes as its model: assessor/assessorlaw52.awake, assessor/assessorlaw52.next. (Printed by wip/sp/gen.py.)
-/
import Derived.Test.YtmjmoogldbejoaaWM
import Derived.Test.YtmjmoogldbejoaaFct
import Derived.Test.YtmjmoogldbejoaaNS
set_option linter.unusedVariables false
set_option linter.unusedSimpArgs false
namespace Go.Proofs.Ytmjmoogldbejoaa
open Go.RowKit

/- assessor/assessorlaw52.awake -/
set_option maxRecDepth 100000 in
set_option maxHeartbeats 4000000 in
theorem c_assessorlaw52_awake {Z : World} {ρ : PH} {L : List Atom} {w : World}  (hp : Hp Z ρ (L) w) (r : Bool) (hm : m_assessorlaw52_awake  = some r) :
    Calls Try.prog 10 #[] w (Ret fun v w' => v = (.bool r) ∧ Hp Z ρ (L) w') := by
  refine enter (N := 44) Try.func10 rfl rfl [] rfl (argsIn_mem trivial) fun a hE => ?_
  unfold m_assessorlaw52_awake at hm
  refine k_seq ?_
  refine k_region ?_
  refine s_val (wk0 rfl) rfl rfl hE hp (v := (.bool false)) (ex_asn rfl hE rfl) ?_
  intro a hE
  refine s_nil ?_
  refine k_seq ?_
  refine k_region ?_
  refine s_val (wk0 rfl) rfl rfl hE hp (v := (.agg #[(.int .i64 2), (.int .i64 5), (.int .i64 0), (.int .i64 2)])) (ex_bld rfl hE [(0, (.int .i64 2)), (1, (.int .i64 5)), (3, (.int .i64 2))] (by exact ⟨⟨rfl, rfl⟩, ⟨rfl, rfl⟩, ⟨rfl, rfl⟩, trivial⟩) (fun w => by simp [Instr.build, Instr.fill, Value.cells, go_sem])) ?_
  intro a hE
  refine s_new (wk0 rfl) rfl rfl hE hp rfl [(.int .i64 0), (.int .i64 0), (.int .i64 0), (.int .i64 0)] (fun w => by simp [Instr.alloc, go_sem]) ?_
  intro a w b1 hE hp
  have hp : Hp Z ρ (Pt b1 (.cells #[(.int .i64 0), (.int .i64 0), (.int .i64 0), (.int .i64 0)] 23 (0, 0)) :: L) w := hp
  refine s_store (wk0 rfl) rfl hE hp rfl rfl rfl 0 rfl varty23.size_ rfl (by simp [Value.cells, Value.oneCell']) [(.int .i64 2), (.int .i64 5), (.int .i64 0), (.int .i64 2)] rfl ?_
  intro w hp
  have hp : Hp Z ρ (Pt b1 (.cells #[(.int .i64 2), (.int .i64 5), (.int .i64 0), (.int .i64 2)] 23 (0, 0)) :: L) w := hp
  refine s_nil ?_
  refine k_seq ?_
  refine k_region ?_
  refine s_val (wk0 rfl) rfl rfl hE hp (v := (.agg #[(.int .i64 1), (.int .i64 0), (.int .i64 50)])) (ex_bld rfl hE [(0, (.int .i64 1)), (2, (.int .i64 50))] (by exact ⟨⟨rfl, rfl⟩, ⟨rfl, rfl⟩, trivial⟩) (fun w => by simp [Instr.build, Instr.fill, Value.cells, go_sem])) ?_
  intro a hE
  refine s_val (wk0 rfl) rfl rfl hE hp (v := (.agg #[(.int .i64 2), (.int .i64 0), (.int .i64 80)])) (ex_bld rfl hE [(0, (.int .i64 2)), (2, (.int .i64 80))] (by exact ⟨⟨rfl, rfl⟩, ⟨rfl, rfl⟩, trivial⟩) (fun w => by simp [Instr.build, Instr.fill, Value.cells, go_sem])) ?_
  intro a hE
  refine s_val (wk0 rfl) rfl rfl hE hp (v := (.agg #[(.int .i64 3), (.int .i64 0), (.int .i64 71)])) (ex_bld rfl hE [(0, (.int .i64 3)), (2, (.int .i64 71))] (by exact ⟨⟨rfl, rfl⟩, ⟨rfl, rfl⟩, trivial⟩) (fun w => by simp [Instr.build, Instr.fill, Value.cells, go_sem])) ?_
  intro a hE
  refine s_lit (wk0 rfl) rfl rfl hE hp rfl [(0, (.agg #[(.int .i64 1), (.int .i64 0), (.int .i64 50)])), (1, (.agg #[(.int .i64 2), (.int .i64 0), (.int .i64 80)])), (2, (.agg #[(.int .i64 3), (.int .i64 0), (.int .i64 71)]))] ⟨⟨rfl, rfl⟩, ⟨rfl, rfl⟩, ⟨rfl, rfl⟩, trivial⟩ [(.int .i64 1), (.int .i64 0), (.int .i64 50), (.int .i64 2), (.int .i64 0), (.int .i64 80), (.int .i64 3), (.int .i64 0), (.int .i64 71)] 38 (fun w => by simp [Instr.buildSlice, Instr.fill, Value.cells, go_sem]) ?_
  intro a w b2 hE hp
  have hp : Hp Z ρ (Pt b2 (.cells #[(.int .i64 1), (.int .i64 0), (.int .i64 50), (.int .i64 2), (.int .i64 0), (.int .i64 80), (.int .i64 3), (.int .i64 0), (.int .i64 71)] 38 (0, 0)) :: Pt b1 (.cells #[(.int .i64 2), (.int .i64 5), (.int .i64 0), (.int .i64 2)] 23 (0, 0)) :: L) w := hp
  refine s_val (wk0 rfl) rfl rfl hE hp (v := (.slice (some ⟨b2, 0, none⟩) 3 3)) (ex_asn rfl hE rfl) ?_
  intro a hE
  refine s_nil ?_
  refine k_seq ?_
  refine k_region ?_
  refine s_val (wk0 rfl) rfl rfl hE hp (v := (.agg #[(.int .i64 2), (.int .i64 5), (.int .i64 0), (.int .i64 2)])) (ex_load rfl hE rfl (fun w hw => run_ldN (cs := [(.int .i64 2), (.int .i64 5), (.int .i64 0), (.int .i64 2)]) varty23 (Hp.cN 1 rfl 0 _ (sub_all rfl) w hw))) ?_
  intro a hE
  refine s_val (wk0 rfl) rfl rfl hE hp (v := (.slice (some ⟨b2, 0, none⟩) 3 3)) (ex_move rfl hE rfl) ?_
  intro a hE
  have hp := (hp.get 0 rfl).imp (own_of_pt (l := (([(Att.mk 1 0 50), (Att.mk 2 0 80), (Att.mk 3 0 71)] : List Att) : List Att)) (n := 3) rfl (by decide) rfl)
  have hp : Hp Z ρ (OwnSl 38 (.slice (some ⟨b2, 0, none⟩) 3 3) ([(Att.mk 1 0 50), (Att.mk 2 0 80), (Att.mk 3 0 71)] : List Att) :: Pt b1 (.cells #[(.int .i64 2), (.int .i64 5), (.int .i64 0), (.int .i64 2)] 23 (0, 0)) :: L) w := hp
  obtain ⟨k1, k1a, k1d, k1h⟩ := (hp.get 0 rfl).lend
  obtain ⟨x1, ex1, hm⟩ := bnd hm
  refine s_call (wk0 rfl) rfl rfl hE rfl [(.agg #[(.int .i64 2), (.int .i64 5), (.int .i64 0), (.int .i64 2)]), (.slice (some ⟨b2, 0, none⟩) 3 3)] ⟨rfl, rfl, trivial⟩ ent11 (c_attempts_Final (Rule.mk 2 5 0 2) ([(Att.mk 1 0 50), (Att.mk 2 0 80), (Att.mk 3 0 71)] : List Att) (.slice (some ⟨b2, 0, none⟩) 3 3) (OwnSl.ro k1d k1a) k1h x1 ex1) Ret.ret ?_
  intro v a w hR hE
  obtain ⟨rfl, hp⟩ := Ret.of hR
  have hp := Hp.back k1a k1d hp
  have hp : Hp Z ρ (OwnSl 38 (.slice (some ⟨b2, 0, none⟩) 3 3) ([(Att.mk 1 0 50), (Att.mk 2 0 80), (Att.mk 3 0 71)] : List Att) :: Pt b1 (.cells #[(.int .i64 2), (.int .i64 5), (.int .i64 0), (.int .i64 2)] 23 (0, 0)) :: L) w := hp
  have hp : Hp Z ρ (OwnSl 38 (.slice (some ⟨b2, 0, none⟩) 3 3) ([(Att.mk 1 0 50), (Att.mk 2 0 80), (Att.mk 3 0 71)] : List Att) :: Pt b1 (.cells #[(.int .i64 2), (.int .i64 5), (.int .i64 0), (.int .i64 2)] 23 (0, 0)) :: L) w := hp
  refine s_val (wk0 rfl) rfl rfl hE hp (v := (.tuple #[(.int .i64 x1.1), (.int .i64 x1.2)])) (ex_move rfl hE rfl) ?_
  intro a hE
  refine s_val (wk0 rfl) rfl rfl hE hp (v := (.int .i64 x1.1)) (ex_extract rfl hE rfl rfl) ?_
  intro a hE
  refine s_val (wk0 rfl) rfl rfl hE hp (v := (.int .i64 x1.2)) (ex_extract rfl hE rfl rfl) ?_
  intro a hE
  refine s_val (wk0 rfl) rfl rfl hE hp (v := (.int .i64 x1.1)) (ex_asn rfl hE rfl) ?_
  intro a hE
  refine s_val (wk0 rfl) rfl rfl hE hp (v := (.int .i64 x1.2)) (ex_asn rfl hE rfl) ?_
  intro a hE
  refine s_nil ?_
  refine k_seq ?_
  refine k_region ?_
  refine s_val (wk0 rfl) rfl rfl hE hp (v := (.agg #[(.int .i64 2), (.int .i64 5), (.int .i64 0), (.int .i64 2)])) (ex_load rfl hE rfl (fun w hw => run_ldN (cs := [(.int .i64 2), (.int .i64 5), (.int .i64 0), (.int .i64 2)]) varty23 (Hp.cN 1 rfl 0 _ (sub_all rfl) w hw))) ?_
  intro a hE
  refine s_val (wk0 rfl) rfl rfl hE hp (v := (.slice (some ⟨b2, 0, none⟩) 3 3)) (ex_move rfl hE rfl) ?_
  intro a hE
  obtain ⟨k2, k2a, k2d, k2h⟩ := (hp.get 0 rfl).lend
  obtain ⟨x2, ex2, hm⟩ := bnd hm
  refine s_call (wk0 rfl) rfl rfl hE rfl [(.agg #[(.int .i64 2), (.int .i64 5), (.int .i64 0), (.int .i64 2)]), (.slice (some ⟨b2, 0, none⟩) 3 3), (.int .i64 85)] ⟨rfl, rfl, rfl, trivial⟩ ent13 (c_attempts_Needed (Rule.mk 2 5 0 2) ([(Att.mk 1 0 50), (Att.mk 2 0 80), (Att.mk 3 0 71)] : List Att) (.slice (some ⟨b2, 0, none⟩) 3 3) (OwnSl.ro k2d k2a) 85 k2h x2 ex2) Ret.ret ?_
  intro v a w hR hE
  obtain ⟨rfl, hp⟩ := Ret.of hR
  have hp := Hp.back k2a k2d hp
  have hp : Hp Z ρ (OwnSl 38 (.slice (some ⟨b2, 0, none⟩) 3 3) ([(Att.mk 1 0 50), (Att.mk 2 0 80), (Att.mk 3 0 71)] : List Att) :: Pt b1 (.cells #[(.int .i64 2), (.int .i64 5), (.int .i64 0), (.int .i64 2)] 23 (0, 0)) :: L) w := hp
  have hp : Hp Z ρ (OwnSl 38 (.slice (some ⟨b2, 0, none⟩) 3 3) ([(Att.mk 1 0 50), (Att.mk 2 0 80), (Att.mk 3 0 71)] : List Att) :: Pt b1 (.cells #[(.int .i64 2), (.int .i64 5), (.int .i64 0), (.int .i64 2)] 23 (0, 0)) :: L) w := hp
  refine s_val (wk0 rfl) rfl rfl hE hp (v := (.tuple #[(.int .i64 x2.1), (.bool x2.2)])) (ex_move rfl hE rfl) ?_
  intro a hE
  refine s_val (wk0 rfl) rfl rfl hE hp (v := (.int .i64 x2.1)) (ex_extract rfl hE rfl rfl) ?_
  intro a hE
  refine s_val (wk0 rfl) rfl rfl hE hp (v := (.bool x2.2)) (ex_extract rfl hE rfl rfl) ?_
  intro a hE
  refine s_val (wk0 rfl) rfl rfl hE hp (v := (.int .i64 x2.1)) (ex_asn rfl hE rfl) ?_
  intro a hE
  refine s_val (wk0 rfl) rfl rfl hE hp (v := (.bool x2.2)) (ex_asn rfl hE rfl) ?_
  intro a hE
  refine s_nil ?_
  refine k_seq ?_
  refine k_region ?_
  refine s_val (wk0 rfl) rfl rfl hE hp (v := (.agg #[(.int .i64 2), (.int .i64 5), (.int .i64 0), (.int .i64 2)])) (ex_load rfl hE rfl (fun w hw => run_ldN (cs := [(.int .i64 2), (.int .i64 5), (.int .i64 0), (.int .i64 2)]) varty23 (Hp.cN 1 rfl 0 _ (sub_all rfl) w hw))) ?_
  intro a hE
  refine s_val (wk0 rfl) rfl rfl hE hp (v := (.slice (some ⟨b2, 0, none⟩) 3 3)) (ex_move rfl hE rfl) ?_
  intro a hE
  obtain ⟨k3, k3a, k3d, k3h⟩ := (hp.get 0 rfl).lend
  obtain ⟨x3, ex3, hm⟩ := bnd hm
  refine s_call (wk0 rfl) rfl rfl hE rfl [(.agg #[(.int .i64 2), (.int .i64 5), (.int .i64 0), (.int .i64 2)]), (.slice (some ⟨b2, 0, none⟩) 3 3)] ⟨rfl, rfl, trivial⟩ ent16 (c_attempts_Counting (Rule.mk 2 5 0 2) ([(Att.mk 1 0 50), (Att.mk 2 0 80), (Att.mk 3 0 71)] : List Att) (.slice (some ⟨b2, 0, none⟩) 3 3) (OwnSl.ro k3d k3a) k3h x3 ex3) Ret.ret ?_
  intro v1 a w hR hE
  obtain ⟨u, hu, hp⟩ := Ret.of hR
  rw [← hu] at hp
  have hp := Hp.back k3a k3d hp
  have hp : Hp Z ρ (OwnSl 38 (.slice (some ⟨b2, 0, none⟩) 3 3) ([(Att.mk 1 0 50), (Att.mk 2 0 80), (Att.mk 3 0 71)] : List Att) :: OwnSl 3 v1 x3 :: Pt b1 (.cells #[(.int .i64 2), (.int .i64 5), (.int .i64 0), (.int .i64 2)] 23 (0, 0)) :: L) w := hp
  have hp : Hp Z ρ (OwnSl 38 (.slice (some ⟨b2, 0, none⟩) 3 3) ([(Att.mk 1 0 50), (Att.mk 2 0 80), (Att.mk 3 0 71)] : List Att) :: OwnSl 3 v1 x3 :: Pt b1 (.cells #[(.int .i64 2), (.int .i64 5), (.int .i64 0), (.int .i64 2)] 23 (0, 0)) :: L) w := hp
  refine s_lit (wk0 rfl) rfl rfl hE hp rfl [(0, (.int .i64 2)), (1, (.int .i64 3))] ⟨⟨rfl, rfl⟩, ⟨rfl, rfl⟩, trivial⟩ [(.int .i64 2), (.int .i64 3)] 3 (fun w => by simp [Instr.buildSlice, Instr.fill, Value.cells, go_sem]) ?_
  intro a w b3 hE hp
  have hp : Hp Z ρ (Pt b3 (.cells #[(.int .i64 2), (.int .i64 3)] 3 (0, 0)) :: OwnSl 38 (.slice (some ⟨b2, 0, none⟩) 3 3) ([(Att.mk 1 0 50), (Att.mk 2 0 80), (Att.mk 3 0 71)] : List Att) :: OwnSl 3 v1 x3 :: Pt b1 (.cells #[(.int .i64 2), (.int .i64 5), (.int .i64 0), (.int .i64 2)] 23 (0, 0)) :: L) w := hp
  have hp := (hp.get 0 rfl).imp (own_of_pt (l := (([2, 3] : List Int) : List Int)) (n := 2) rfl (by decide) rfl)
  have hp : Hp Z ρ (OwnSl 3 (.slice (some ⟨b3, 0, none⟩) 2 2) ([2, 3] : List Int) :: OwnSl 38 (.slice (some ⟨b2, 0, none⟩) 3 3) ([(Att.mk 1 0 50), (Att.mk 2 0 80), (Att.mk 3 0 71)] : List Att) :: OwnSl 3 v1 x3 :: Pt b1 (.cells #[(.int .i64 2), (.int .i64 5), (.int .i64 0), (.int .i64 2)] 23 (0, 0)) :: L) w := hp
  obtain ⟨k4, k4a, k4d, k4h⟩ := (hp.get 2 rfl).lend
  obtain ⟨k5, k5a, k5d, k5h⟩ := (k4h.get 0 rfl).lend
  obtain ⟨x4, ex4, hm⟩ := bnd hm
  refine s_call (wk0 rfl) rfl rfl hE rfl [v1, (.slice (some ⟨b3, 0, none⟩) 2 2)] ⟨rfl, rfl, trivial⟩ ent27 (c_equalI x3 v1 (RoSl.mono (OwnSl.ro k4d k4a) (PH.le_un _ _)) ([2, 3] : List Int) (.slice (some ⟨b3, 0, none⟩) 2 2) (OwnSl.ro k5d k5a) k5h x4 ex4) Ret.ret ?_
  intro v a w hR hE
  obtain ⟨rfl, hp⟩ := Ret.of hR
  have hp := Hp.back k5a k5d hp
  have hp := Hp.back k4a k4d hp
  have hp : Hp Z ρ (OwnSl 3 v1 x3 :: OwnSl 3 (.slice (some ⟨b3, 0, none⟩) 2 2) ([2, 3] : List Int) :: OwnSl 38 (.slice (some ⟨b2, 0, none⟩) 3 3) ([(Att.mk 1 0 50), (Att.mk 2 0 80), (Att.mk 3 0 71)] : List Att) :: Pt b1 (.cells #[(.int .i64 2), (.int .i64 5), (.int .i64 0), (.int .i64 2)] 23 (0, 0)) :: L) w := hp
  have hp : Hp Z ρ (OwnSl 3 v1 x3 :: OwnSl 3 (.slice (some ⟨b3, 0, none⟩) 2 2) ([2, 3] : List Int) :: OwnSl 38 (.slice (some ⟨b2, 0, none⟩) 3 3) ([(Att.mk 1 0 50), (Att.mk 2 0 80), (Att.mk 3 0 71)] : List Att) :: Pt b1 (.cells #[(.int .i64 2), (.int .i64 5), (.int .i64 0), (.int .i64 2)] 23 (0, 0)) :: L) w := hp
  refine s_val (wk0 rfl) rfl rfl hE hp (v := (.bool x4)) (ex_move rfl hE rfl) ?_
  intro a hE
  refine s_cut [_, _, _] (fun a w => Env 44 [(32, (.bool (x4 && (decide (x1.1 = 76))))), (4, (.int .i64 x1.2)), (5, (.int .i64 x2.1)), (6, (.bool x2.2))] a ∧ Hp Z ρ (OwnSl 3 v1 x3 :: OwnSl 3 (.slice (some ⟨b3, 0, none⟩) 2 2) ([2, 3] : List Int) :: OwnSl 38 (.slice (some ⟨b2, 0, none⟩) 3 3) ([(Att.mk 1 0 50), (Att.mk 2 0 80), (Att.mk 3 0 71)] : List Att) :: Pt b1 (.cells #[(.int .i64 2), (.int .i64 5), (.int .i64 0), (.int .i64 2)] 23 (0, 0)) :: L) w) ?_ ?_
  · rcases Bool.eq_false_or_eq_true x4 with hb1 | hb1
    ·
      refine s_val (wk1 hE rfl rfl rfl hb1) rfl rfl hE hp (v := (.int .i64 x1.1)) (ex_move rfl hE rfl) ?_
      intro a hE
      refine s_val (wk1 hE rfl rfl rfl hb1) rfl rfl hE hp (v := (.bool (decide (x1.1 = 76)))) (ex_eql rfl hE rfl rfl) ?_
      intro a hE
      refine s_val (wk0 rfl) rfl rfl hE hp (v := (.bool (decide (x1.1 = 76)))) (ex_pick1 rfl hE rfl hb1 rfl) ?_
      intro a hE
      have hE := hE.eqv (v' := (.bool (x4 && (decide (x1.1 = 76))))) (by rw [hb1]; rfl)
      exact s_nil ⟨hE.cut ⟨rfl, rfl, rfl, rfl, trivial⟩, hp⟩
    ·
      refine s_skip (wk2 hE rfl rfl rfl hb1) rfl rfl hE ?_
      intro a hE
      refine s_skip (wk2 hE rfl rfl rfl hb1) rfl rfl hE ?_
      intro a hE
      refine s_val (wk0 rfl) rfl rfl hE hp (v := (.bool false)) (ex_pick0 rfl hE rfl hb1 rfl) ?_
      intro a hE
      have hE := hE.eqv (v' := (.bool (x4 && (decide (x1.1 = 76))))) (by rw [hb1]; rfl)
      exact s_nil ⟨hE.cut ⟨rfl, rfl, rfl, rfl, trivial⟩, hp⟩
  · rintro a w ⟨hE, hp⟩
    refine s_val (wk0 rfl) rfl rfl hE hp (v := (.bool (x4 && (decide (x1.1 = 76))))) (ex_move rfl hE rfl) ?_
    intro a hE
    refine s_cut [_, _, _] (fun a w => Env 44 [(36, (.bool ((x4 && (decide (x1.1 = 76))) && (decide (x1.2 = 0))))), (5, (.int .i64 x2.1)), (6, (.bool x2.2))] a ∧ Hp Z ρ (OwnSl 3 v1 x3 :: OwnSl 3 (.slice (some ⟨b3, 0, none⟩) 2 2) ([2, 3] : List Int) :: OwnSl 38 (.slice (some ⟨b2, 0, none⟩) 3 3) ([(Att.mk 1 0 50), (Att.mk 2 0 80), (Att.mk 3 0 71)] : List Att) :: Pt b1 (.cells #[(.int .i64 2), (.int .i64 5), (.int .i64 0), (.int .i64 2)] 23 (0, 0)) :: L) w) ?_ ?_
    · rcases Bool.eq_false_or_eq_true (x4 && (decide (x1.1 = 76))) with hb2 | hb2
      ·
        refine s_val (wk1 hE rfl rfl rfl hb2) rfl rfl hE hp (v := (.int .i64 x1.2)) (ex_move rfl hE rfl) ?_
        intro a hE
        refine s_val (wk1 hE rfl rfl rfl hb2) rfl rfl hE hp (v := (.bool (decide (x1.2 = 0)))) (ex_eql rfl hE rfl rfl) ?_
        intro a hE
        refine s_val (wk0 rfl) rfl rfl hE hp (v := (.bool (decide (x1.2 = 0)))) (ex_pick1 rfl hE rfl hb2 rfl) ?_
        intro a hE
        have hE := hE.eqv (v' := (.bool ((x4 && (decide (x1.1 = 76))) && (decide (x1.2 = 0))))) (by rw [hb2]; rfl)
        exact s_nil ⟨hE.cut ⟨rfl, rfl, rfl, trivial⟩, hp⟩
      ·
        refine s_skip (wk2 hE rfl rfl rfl hb2) rfl rfl hE ?_
        intro a hE
        refine s_skip (wk2 hE rfl rfl rfl hb2) rfl rfl hE ?_
        intro a hE
        refine s_val (wk0 rfl) rfl rfl hE hp (v := (.bool false)) (ex_pick0 rfl hE rfl hb2 rfl) ?_
        intro a hE
        have hE := hE.eqv (v' := (.bool ((x4 && (decide (x1.1 = 76))) && (decide (x1.2 = 0))))) (by rw [hb2]; rfl)
        exact s_nil ⟨hE.cut ⟨rfl, rfl, rfl, trivial⟩, hp⟩
    · rintro a w ⟨hE, hp⟩
      refine s_val (wk0 rfl) rfl rfl hE hp (v := (.bool ((x4 && (decide (x1.1 = 76))) && (decide (x1.2 = 0))))) (ex_move rfl hE rfl) ?_
      intro a hE
      refine s_cut [_, _] (fun a w => Env 44 [(39, (.bool (((x4 && (decide (x1.1 = 76))) && (decide (x1.2 = 0))) && x2.2))), (5, (.int .i64 x2.1))] a ∧ Hp Z ρ (OwnSl 3 v1 x3 :: OwnSl 3 (.slice (some ⟨b3, 0, none⟩) 2 2) ([2, 3] : List Int) :: OwnSl 38 (.slice (some ⟨b2, 0, none⟩) 3 3) ([(Att.mk 1 0 50), (Att.mk 2 0 80), (Att.mk 3 0 71)] : List Att) :: Pt b1 (.cells #[(.int .i64 2), (.int .i64 5), (.int .i64 0), (.int .i64 2)] 23 (0, 0)) :: L) w) ?_ ?_
      · rcases Bool.eq_false_or_eq_true ((x4 && (decide (x1.1 = 76))) && (decide (x1.2 = 0))) with hb3 | hb3
        ·
          refine s_val (wk1 hE rfl rfl rfl hb3) rfl rfl hE hp (v := (.bool x2.2)) (ex_move rfl hE rfl) ?_
          intro a hE
          refine s_val (wk0 rfl) rfl rfl hE hp (v := (.bool x2.2)) (ex_pick1 rfl hE rfl hb3 rfl) ?_
          intro a hE
          have hE := hE.eqv (v' := (.bool (((x4 && (decide (x1.1 = 76))) && (decide (x1.2 = 0))) && x2.2))) (by rw [hb3]; rfl)
          exact s_nil ⟨hE.cut ⟨rfl, rfl, trivial⟩, hp⟩
        ·
          refine s_skip (wk2 hE rfl rfl rfl hb3) rfl rfl hE ?_
          intro a hE
          refine s_val (wk0 rfl) rfl rfl hE hp (v := (.bool false)) (ex_pick0 rfl hE rfl hb3 rfl) ?_
          intro a hE
          have hE := hE.eqv (v' := (.bool (((x4 && (decide (x1.1 = 76))) && (decide (x1.2 = 0))) && x2.2))) (by rw [hb3]; rfl)
          exact s_nil ⟨hE.cut ⟨rfl, rfl, trivial⟩, hp⟩
      · rintro a w ⟨hE, hp⟩
        refine s_val (wk0 rfl) rfl rfl hE hp (v := (.bool (((x4 && (decide (x1.1 = 76))) && (decide (x1.2 = 0))) && x2.2))) (ex_move rfl hE rfl) ?_
        intro a hE
        refine s_cut [_, _, _] (fun a w => Env 44 [(43, (.bool ((((x4 && (decide (x1.1 = 76))) && (decide (x1.2 = 0))) && x2.2) && (decide (x2.1 = 89)))))] a ∧ Hp Z ρ (OwnSl 3 v1 x3 :: OwnSl 3 (.slice (some ⟨b3, 0, none⟩) 2 2) ([2, 3] : List Int) :: OwnSl 38 (.slice (some ⟨b2, 0, none⟩) 3 3) ([(Att.mk 1 0 50), (Att.mk 2 0 80), (Att.mk 3 0 71)] : List Att) :: Pt b1 (.cells #[(.int .i64 2), (.int .i64 5), (.int .i64 0), (.int .i64 2)] 23 (0, 0)) :: L) w) ?_ ?_
        · rcases Bool.eq_false_or_eq_true (((x4 && (decide (x1.1 = 76))) && (decide (x1.2 = 0))) && x2.2) with hb4 | hb4
          ·
            refine s_val (wk1 hE rfl rfl rfl hb4) rfl rfl hE hp (v := (.int .i64 x2.1)) (ex_move rfl hE rfl) ?_
            intro a hE
            refine s_val (wk1 hE rfl rfl rfl hb4) rfl rfl hE hp (v := (.bool (decide (x2.1 = 89)))) (ex_eql rfl hE rfl rfl) ?_
            intro a hE
            refine s_val (wk0 rfl) rfl rfl hE hp (v := (.bool (decide (x2.1 = 89)))) (ex_pick1 rfl hE rfl hb4 rfl) ?_
            intro a hE
            have hE := hE.eqv (v' := (.bool ((((x4 && (decide (x1.1 = 76))) && (decide (x1.2 = 0))) && x2.2) && (decide (x2.1 = 89))))) (by rw [hb4]; rfl)
            exact s_nil ⟨hE.cut ⟨rfl, trivial⟩, hp⟩
          ·
            refine s_skip (wk2 hE rfl rfl rfl hb4) rfl rfl hE ?_
            intro a hE
            refine s_skip (wk2 hE rfl rfl rfl hb4) rfl rfl hE ?_
            intro a hE
            refine s_val (wk0 rfl) rfl rfl hE hp (v := (.bool false)) (ex_pick0 rfl hE rfl hb4 rfl) ?_
            intro a hE
            have hE := hE.eqv (v' := (.bool ((((x4 && (decide (x1.1 = 76))) && (decide (x1.2 = 0))) && x2.2) && (decide (x2.1 = 89))))) (by rw [hb4]; rfl)
            exact s_nil ⟨hE.cut ⟨rfl, trivial⟩, hp⟩
        · rintro a w ⟨hE, hp⟩
          refine s_val (wk0 rfl) rfl rfl hE hp (v := (.bool ((((x4 && (decide (x1.1 = 76))) && (decide (x1.2 = 0))) && x2.2) && (decide (x2.1 = 89))))) (ex_asn rfl hE rfl) ?_
          intro a hE
          refine s_nil ?_
          refine k_ret ?_
          obtain rfl := Option.some.inj hm
          exact ret1 hE rfl rfl ⟨_, rfl, rfl, (((((((hp.get 3 rfl).drop).get 2 rfl).drop).get 1 rfl).drop).drop)⟩
/- assessor/assessorlaw52.next -/
set_option maxRecDepth 100000 in
set_option maxHeartbeats 4000000 in
theorem c_assessorlaw52_next {Z : World} {ρ : PH} {L : List Atom} {w : World} (p0 : (List Att)) (vp0 : Value) (hp0 : RoSl ρ vp0 p0) (p1 : Int) (hp : Hp Z ρ (L) w) (r : (List Att)) (hm : m_assessorlaw52_next p0 p1 = some r) :
    Calls Try.prog 20 #[vp0, (.int .i64 p1)] w (Ret fun v w' => ∃ v1, v = v1 ∧ Hp Z ρ (OwnSl 38 v1 r :: L) w') := by
  refine enter (N := 27) Try.func20 rfl rfl [(0, vp0), (1, (.int .i64 p1))] rfl (argsIn_mem ⟨rfl, rfl, trivial⟩) fun a hE => ?_
  unfold m_assessorlaw52_next at hm
  refine k_seq ?_
  refine k_region ?_
  refine s_val (wk0 rfl) rfl rfl hE hp (v := (.slice none 0 0)) (ex_asn rfl hE rfl) ?_
  intro a hE
  refine s_nil ?_
  refine k_seq ?_
  refine k_region ?_
  refine s_val (wk0 rfl) rfl rfl hE hp (v := vp0) (ex_move rfl hE rfl) ?_
  intro a hE
  refine s_val (wk0 rfl) rfl rfl hE hp (v := (.int .i64 (p0.length : Int))) (ex_len rfl hE rfl (RoSl.len hp0 slty24)) ?_
  intro a hE
  obtain ⟨x1, ex1, hm⟩ := bnd hm
  refine s_val (wk0 rfl) rfl rfl hE hp (v := (.int .i64 x1)) (ex_add rfl hE rfl rfl (inK_some ex1)) ?_
  intro a hE
  refine s_val (wk0 rfl) rfl rfl hE hp (v := (.int .i64 p1)) (ex_move rfl hE rfl) ?_
  intro a hE
  refine s_val (wk0 rfl) rfl rfl hE hp (v := (.agg #[(.int .i64 x1), (.int .i64 0), (.int .i64 p1)])) (ex_bld rfl hE [(0, (.int .i64 x1)), (2, (.int .i64 p1))] (by exact ⟨⟨rfl, rfl⟩, ⟨rfl, rfl⟩, trivial⟩) (fun w => by simp [Instr.build, Instr.fill, Value.cells, go_sem])) ?_
  intro a hE
  refine s_new (wk0 rfl) rfl rfl hE hp rfl [(.int .i64 0), (.int .i64 0), (.int .i64 0)] (fun w => by simp [Instr.alloc, go_sem]) ?_
  intro a w b1 hE hp
  have hp : Hp Z ρ (Pt b1 (.cells #[(.int .i64 0), (.int .i64 0), (.int .i64 0)] 38 (0, 0)) :: L) w := hp
  refine s_store (wk0 rfl) rfl hE hp rfl rfl rfl 0 rfl varty38.size_ rfl (by simp [Value.cells, Value.oneCell']) [(.int .i64 x1), (.int .i64 0), (.int .i64 p1)] rfl ?_
  intro w hp
  have hp : Hp Z ρ (Pt b1 (.cells #[(.int .i64 x1), (.int .i64 0), (.int .i64 p1)] 38 (0, 0)) :: L) w := hp
  refine s_nil ?_
  refine k_seq ?_
  refine k_seq ?_
  refine k_region ?_
  refine s_val (wk0 rfl) rfl rfl hE hp (v := vp0) (ex_move rfl hE rfl) ?_
  intro a hE
  refine s_val (wk0 rfl) rfl rfl hE hp (v := (.int .i64 (p0.length : Int))) (ex_len rfl hE rfl (RoSl.len hp0 slty24)) ?_
  intro a hE
  refine s_val (wk0 rfl) rfl rfl hE hp (v := (.bool (decide (0 < (p0.length : Int))))) (ex_gtr rfl hE rfl rfl) ?_
  intro a hE
  refine s_nil ?_
  obtain ⟨j1, hj1, hm⟩ := bnd hm
  refine k_cut (fun a w => Env 27 [(0, vp0), (5, (.pointer (some ⟨b1, 0, none⟩)))] a ∧ Hp Z ρ (Pt b1 (.cells #[(.int .i64 x1), (.int .i64 j1), (.int .i64 p1)] 38 (0, 0)) :: L) w) ?_ ?_
  ·
    refine k_if hE rfl (fun hb1 => ?_) (fun hb1 => ?_)
    · replace hj1 := (it hb1).symm.trans hj1
      refine k_region ?_
      refine s_val (wk0 rfl) rfl rfl hE hp (v := vp0) (ex_move rfl hE rfl) ?_
      intro a hE
      refine s_val (wk0 rfl) rfl rfl hE hp (v := vp0) (ex_move rfl hE rfl) ?_
      intro a hE
      refine s_val (wk0 rfl) rfl rfl hE hp (v := (.int .i64 (p0.length : Int))) (ex_len rfl hE rfl (RoSl.len hp0 slty24)) ?_
      intro a hE
      obtain ⟨x2, ex2, hj1⟩ := bnd hj1
      refine s_val (wk0 rfl) rfl rfl hE hp (v := (.int .i64 x2)) (ex_sub rfl hE rfl rfl (inK_some ex2)) ?_
      intro a hE
      obtain ⟨x3, ex3, hj1⟩ := bnd hj1
      obtain ⟨b2, b2o, b2c, b2r, b2k, b2f⟩ := RoSl.at hp0 slty24 ex3
      obtain rfl : b2c = Enc.enc x3 := b2k
      have b2f : AtP ρ b2 b2o [(.int .i64 x3.num), (.int .i64 x3.tick), (.int .i64 x3.pts)] := b2f
      refine s_val (wk0 rfl) rfl rfl hE hp (v := (.pointer (some ⟨b2, b2o, none⟩))) (ex_index rfl hE rfl rfl b2r) ?_
      intro a hE
      refine s_val (wk0 rfl) rfl rfl hE hp (v := (.pointer (some ⟨b2, b2o + 1, none⟩))) (ex_field rfl hE rfl (fldty38_1 _ _)) ?_
      intro a hE
      refine s_val (wk0 rfl) rfl rfl hE hp (v := (.int .i64 x3.tick)) (ex_load rfl hE rfl (fun w hw => run_ld1 varty3 (b2f.c 1 rfl w hw))) ?_
      intro a hE
      refine s_val (wk0 rfl) rfl rfl hE hp (v := (.pointer (some ⟨b1, 1, none⟩))) (ex_field rfl hE rfl (fldty38_1 _ _)) ?_
      intro a hE
      refine s_store (wk0 rfl) rfl hE hp rfl rfl rfl 0 rfl varty3.size_ rfl (by simp [Value.cells, Value.oneCell']) [(.int .i64 x1), (.int .i64 x3.tick), (.int .i64 p1)] rfl ?_
      intro w hp
      have hp : Hp Z ρ (Pt b1 (.cells #[(.int .i64 x1), (.int .i64 x3.tick), (.int .i64 p1)] 38 (0, 0)) :: L) w := hp
      refine s_nil ?_
      have hE := hE.cut (E' := [(0, vp0), (5, (.pointer (some ⟨b1, 0, none⟩)))]) ⟨rfl, rfl, trivial⟩
      obtain rfl := Option.some.inj hj1
      exact ⟨hE.cut ⟨rfl, rfl, trivial⟩, hp⟩
    · replace hj1 := (ie hb1).symm.trans hj1
      refine k_skip ?_
      obtain rfl := Option.some.inj hj1
      exact ⟨hE.cut ⟨rfl, rfl, trivial⟩, hp⟩
  · rintro a w ⟨hE, hp⟩
    refine k_seq ?_
    obtain ⟨x4, ex4, hm⟩ := bnd hm
    obtain ⟨x5, ex5, hm⟩ := bnd hm
    refine k_held (Z := Z) (ρ := ρ) (Pt b1 (.cells #[(.int .i64 x1), (.int .i64 j1), (.int .i64 p1)] 38 (0, 0)) :: L) (fun a w => ∃ y3 : Nat, ∃ y2 : Value, Env 27 [(4, y2)] a ∧ Hp Z ρ (Pt y3 (.cells #[(.int .i64 x1), (.int .i64 j1), (.int .i64 p1)] 38 (0, 0)) :: OwnSl 38 y2 x5 :: Pt b1 (.cells #[(.int .i64 x1), (.int .i64 j1), (.int .i64 p1)] 38 (0, 0)) :: L) w) (by kernel_rfl) ?_ ?_
    ·
      have hp := hp.drew
      have hS : Hp Z ρ (Pt b1 (.cells #[(.int .i64 x1), (.int .i64 j1), (.int .i64 p1)] 38 (0, 0)) :: L) w.drew := hp
      refine h_take 0 (wk0 rfl) rfl rfl rfl hE (by kernel_rfl) (by kernel_rfl) (by kernel_rfl) hS (v := vp0) (ex_move rfl hE rfl) ?_
      intro a hE
      refine h_take 2 (wk0 rfl) rfl rfl rfl hE (by kernel_rfl) (by kernel_rfl) (by kernel_rfl) hS (v := (.agg #[(.int .i64 x1), (.int .i64 j1), (.int .i64 p1)])) (ex_load rfl hE rfl (fun w hw => run_ldN (cs := [(.int .i64 x1), (.int .i64 j1), (.int .i64 p1)]) varty38 (Hp.cN 0 rfl 0 _ (sub_all rfl) w hw))) ?_
      intro a hE
      refine h_all [1, 3] (by kernel_rfl) rfl ?_
      refine List.forall_mem_cons.2 ⟨?_, List.forall_mem_cons.2 ⟨?_, fun _ h => absurd h (by simp)⟩⟩
      ·
        refine h_op rfl ?_
        refine s_call (wk0 rfl) rfl rfl hE rfl [vp0] ⟨rfl, trivial⟩ ent19 (c_clone19 p0 vp0 hp0 hp x4 ex4) Ret.ret ?_
        intro v3 a w hR hE
        obtain ⟨u, hu, hp⟩ := Ret.of hR
        rw [← hu] at hp
        have hp : Hp Z ρ (OwnSl 38 v3 x4 :: Pt b1 (.cells #[(.int .i64 x1), (.int .i64 j1), (.int .i64 p1)] 38 (0, 0)) :: L) w := hp
        refine s_nil ⟨(hp.drop), ?_⟩
        have hS := (hp.drop)
        refine h_all [3] (by kernel_rfl) rfl ?_
        refine List.forall_mem_cons.2 ⟨?_, fun _ h => absurd h (by simp)⟩
        ·
          refine h_op rfl ?_
          refine s_lit (wk0 rfl) rfl rfl hE hp rfl [(0, (.agg #[(.int .i64 x1), (.int .i64 j1), (.int .i64 p1)]))] ⟨⟨rfl, rfl⟩, trivial⟩ [(.int .i64 x1), (.int .i64 j1), (.int .i64 p1)] 38 (fun w => by simp [Instr.buildSlice, Instr.fill, Value.cells, go_sem]) ?_
          intro a w b4 hE hp
          have hp : Hp Z ρ (Pt b4 (.cells #[(.int .i64 x1), (.int .i64 j1), (.int .i64 p1)] 38 (0, 0)) :: OwnSl 38 v3 x4 :: Pt b1 (.cells #[(.int .i64 x1), (.int .i64 j1), (.int .i64 p1)] 38 (0, 0)) :: L) w := hp
          refine s_nil ⟨(((hp.get 1 rfl).drop).drop), ?_⟩
          have hS := (((hp.get 1 rfl).drop).drop)
          refine h_all [4] (by kernel_rfl) rfl ?_
          refine List.forall_mem_cons.2 ⟨?_, fun _ h => absurd h (by simp)⟩
          ·
            refine h_op rfl ?_
            refine s_app (wk0 rfl) rfl rfl hE hp rfl slty24 rfl rfl 1 rfl rfl (l2 := [(Att.mk x1 j1 p1)]) rfl (fun j u hj => by have := Hp.cN 0 rfl 0 _ (sub_all rfl) w hp j u hj; simpa using this) ex5 ?_
            intro v4 a w hE hp
            have hp : Hp Z ρ (Pt b4 (.cells #[(.int .i64 x1), (.int .i64 j1), (.int .i64 p1)] 38 (0, 0)) :: OwnSl 38 v4 x5 :: Pt b1 (.cells #[(.int .i64 x1), (.int .i64 j1), (.int .i64 p1)] 38 (0, 0)) :: L) w := hp
            refine s_nil ⟨(((hp.get 1 rfl).drop).drop), ?_⟩
            have hS := (((hp.get 1 rfl).drop).drop)
            refine h_take 5 (wk0 rfl) rfl rfl rfl hE (by kernel_rfl) (by kernel_rfl) (by kernel_rfl) hS (v := v4) (ex_asn rfl hE rfl) ?_
            intro a hE
            exact h_done (by kernel_rfl) ⟨_, _, hE.cut ⟨rfl, trivial⟩, hp⟩
      ·
        refine h_op rfl ?_
        refine s_lit (wk0 rfl) rfl rfl hE hp rfl [(0, (.agg #[(.int .i64 x1), (.int .i64 j1), (.int .i64 p1)]))] ⟨⟨rfl, rfl⟩, trivial⟩ [(.int .i64 x1), (.int .i64 j1), (.int .i64 p1)] 38 (fun w => by simp [Instr.buildSlice, Instr.fill, Value.cells, go_sem]) ?_
        intro a w b5 hE hp
        have hp : Hp Z ρ (Pt b5 (.cells #[(.int .i64 x1), (.int .i64 j1), (.int .i64 p1)] 38 (0, 0)) :: Pt b1 (.cells #[(.int .i64 x1), (.int .i64 j1), (.int .i64 p1)] 38 (0, 0)) :: L) w := hp
        refine s_nil ⟨(hp.drop), ?_⟩
        have hS := (hp.drop)
        refine h_all [1] (by kernel_rfl) rfl ?_
        refine List.forall_mem_cons.2 ⟨?_, fun _ h => absurd h (by simp)⟩
        ·
          refine h_op rfl ?_
          refine s_call (wk0 rfl) rfl rfl hE rfl [vp0] ⟨rfl, trivial⟩ ent19 (c_clone19 p0 vp0 hp0 hp x4 ex4) Ret.ret ?_
          intro v5 a w hR hE
          obtain ⟨u, hu, hp⟩ := Ret.of hR
          rw [← hu] at hp
          have hp : Hp Z ρ (OwnSl 38 v5 x4 :: Pt b5 (.cells #[(.int .i64 x1), (.int .i64 j1), (.int .i64 p1)] 38 (0, 0)) :: Pt b1 (.cells #[(.int .i64 x1), (.int .i64 j1), (.int .i64 p1)] 38 (0, 0)) :: L) w := hp
          refine s_nil ⟨(((hp.get 1 rfl).drop).drop), ?_⟩
          have hS := (((hp.get 1 rfl).drop).drop)
          refine h_all [4] (by kernel_rfl) rfl ?_
          refine List.forall_mem_cons.2 ⟨?_, fun _ h => absurd h (by simp)⟩
          ·
            refine h_op rfl ?_
            refine s_app (wk0 rfl) rfl rfl hE hp rfl slty24 rfl rfl 0 rfl rfl (l2 := [(Att.mk x1 j1 p1)]) rfl (fun j u hj => by have := Hp.cN 1 rfl 0 _ (sub_all rfl) w hp j u hj; simpa using this) ex5 ?_
            intro v6 a w hE hp
            have hp : Hp Z ρ (OwnSl 38 v6 x5 :: Pt b5 (.cells #[(.int .i64 x1), (.int .i64 j1), (.int .i64 p1)] 38 (0, 0)) :: Pt b1 (.cells #[(.int .i64 x1), (.int .i64 j1), (.int .i64 p1)] 38 (0, 0)) :: L) w := hp
            refine s_nil ⟨(((hp.get 1 rfl).drop).drop), ?_⟩
            have hS := (((hp.get 1 rfl).drop).drop)
            refine h_take 5 (wk0 rfl) rfl rfl rfl hE (by kernel_rfl) (by kernel_rfl) (by kernel_rfl) hS (v := v6) (ex_asn rfl hE rfl) ?_
            intro a hE
            exact h_done (by kernel_rfl) ⟨_, _, hE.cut ⟨rfl, trivial⟩, (((hp.get 2 rfl).get 1 rfl).get 2 rfl)⟩
    · rintro a w ⟨y3, y2, hE, hp⟩
      refine k_ret ?_
      obtain rfl := Option.some.inj hm
      exact ret1 hE rfl rfl ⟨_, rfl, _, rfl, (((hp.get 2 rfl).drop).drop)⟩
end Go.Proofs.Ytmjmoogldbejoaa

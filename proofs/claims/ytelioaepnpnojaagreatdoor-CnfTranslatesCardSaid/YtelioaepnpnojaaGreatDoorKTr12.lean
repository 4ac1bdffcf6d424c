/- The code goes as its model: assessor/assessorlaw26.awake. (Printed by wip/sp/gen.py.) -/
import Derived.Test.YtelioaepnpnojaaGreatDoorKTr4
import Derived.Test.YtelioaepnpnojaaGreatDoorKTr6
import Derived.Test.YtelioaepnpnojaaGreatDoorKTr7
import Derived.Test.YtelioaepnpnojaaGreatDoorKTr8
import Derived.Test.YtelioaepnpnojaaGreatDoorKTr9
import Derived.Test.YtelioaepnpnojaaGreatDoorKTr10
import Derived.Test.YtelioaepnpnojaaGreatDoorKTr11
import Derived.Test.YtelioaepnpnojaaGreatDoorKTr3
import Derived.Test.YtelioaepnpnojaaGreatDoorKTr2
set_option linter.unusedVariables false
set_option linter.unusedSimpArgs false
namespace Go.Proofs.YtelioaepnpnojaaGreatDoor
open Go.RowKit
set_option maxRecDepth 100000 in
set_option maxHeartbeats 4000000 in
theorem c_assessorlaw26_awake {Z : World} {ρ : PH} {L : List Atom} {w : World} (hT : Tabs ρ) (hp : Hp Z ρ (L) w) (r : Bool) (hm : m_assessorlaw26_awake  = some r) :
    Calls Tryz.prog 10 #[] w (Ret fun v w' => v = (.bool r) ∧ Hp Z ρ (L) w') := by
  refine enter (N := 94) Tryz.func10 rfl rfl [] rfl (argsIn_mem trivial) fun a hE => ?_
  unfold m_assessorlaw26_awake at hm
  refine k_seq ?_
  refine k_region ?_
  refine s_val (wk0 rfl) rfl rfl hE hp (v := (.bool false)) (ex_asn rfl hE rfl) ?_
  intro a hE
  refine s_nil ?_
  refine k_seq ?_
  refine k_region ?_
  refine s_val (wk0 rfl) rfl rfl hE hp (v := (.agg #[(.int .i64 2), (.int .i64 5)])) (ex_bld rfl hE [(0, (.int .i64 2)), (1, (.int .i64 5))] (by exact ⟨⟨rfl, rfl⟩, ⟨rfl, rfl⟩, trivial⟩) (fun w => by simp [Instr.build, Instr.fill, Value.cells, go_sem])) ?_
  intro a hE
  refine s_lit (wk0 rfl) rfl rfl hE hp rfl [(0, (.agg #[(.int .i64 2), (.int .i64 5)]))] ⟨⟨rfl, rfl⟩, trivial⟩ [(.int .i64 2), (.int .i64 5)] 62 (fun w => by simp [Instr.buildSlice, Instr.fill, Value.cells, go_sem]) ?_
  intro a w b1 hE hp
  have hp : Hp Z ρ (Pt b1 (.cells #[(.int .i64 2), (.int .i64 5)] 62 (0, 0)) :: L) w := hp
  have hp := (hp.get 0 rfl).imp (own_of_pt (l := (([(Arr2.mk 2 5)] : List Arr2) : List Arr2)) (n := 1) rfl (by decide) rfl)
  have hp : Hp Z ρ (OwnSl 62 (.slice (some ⟨b1, 0, none⟩) 1 1) ([(Arr2.mk 2 5)] : List Arr2) :: L) w := hp
  obtain ⟨k1, k1a, k1d, hp⟩ := (hp.get 0 rfl).lend
  have f1 : RoSl (ρ.un k1) (.slice (some ⟨b1, 0, none⟩) 1 1) ([(Arr2.mk 2 5)] : List Arr2) := OwnSl.ro k1d k1a
  have hp : Hp Z (ρ.un k1) (L) w := hp
  refine s_val (wk0 rfl) rfl rfl hE hp (v := (.agg #[(.int .i64 2), (.slice (some ⟨b1, 0, none⟩) 1 1)])) (ex_bld rfl hE [(0, (.int .i64 2)), (1, (.slice (some ⟨b1, 0, none⟩) 1 1))] (by exact ⟨⟨rfl, rfl⟩, ⟨rfl, rfl⟩, trivial⟩) (fun w => by have hc0 := RoSl.cells f1; simp only [Value.cells] at hc0; simp [Instr.build, Instr.fill, Value.cells, hc0, go_sem])) ?_
  intro a hE
  refine s_lit (wk0 rfl) rfl rfl hE hp rfl [(0, (.int .i64 6))] ⟨⟨rfl, rfl⟩, trivial⟩ [(.int .i64 6)] 3 (fun w => by simp [Instr.buildSlice, Instr.fill, Value.cells, go_sem]) ?_
  intro a w b2 hE hp
  have hp : Hp Z (ρ.un k1) (Pt b2 (.cells #[(.int .i64 6)] 3 (0, 0)) :: L) w := hp
  have hp := (hp.get 0 rfl).imp (own_of_pt (l := (([6] : List Int) : List Int)) (n := 1) rfl (by decide) rfl)
  have hp : Hp Z (ρ.un k1) (OwnSl 3 (.slice (some ⟨b2, 0, none⟩) 1 1) ([6] : List Int) :: L) w := hp
  obtain ⟨k2, k2a, k2d, k2h⟩ := (hp.get 0 rfl).lend
  obtain ⟨x1, ex1, hm⟩ := bnd hm
  refine s_call (wk0 rfl) rfl rfl hE rfl [(.agg #[(.int .i64 2), (.slice (some ⟨b1, 0, none⟩) 1 1)]), (.slice (some ⟨b2, 0, none⟩) 1 1)] ⟨rfl, rfl, trivial⟩ ent21 (c_cnf_Translate (Tabs.mono (Tabs.mono hT (PH.le_un _ k1)) (PH.le_un _ k2)) (Gates.mk 2 ([(Arr2.mk 2 5)] : List Arr2)) (.slice (some ⟨b1, 0, none⟩) 1 1) (RoSl.mono f1 (PH.le_un _ _)) ([6] : List Int) (.slice (some ⟨b2, 0, none⟩) 1 1) (OwnSl.ro k2d k2a) k2h x1 ex1) Ret.ret ?_
  intro v a w hR hE
  obtain ⟨vr1_clauses, usr1_clauses, rfl, hp⟩ := Ret.of hR
  have hp := Hp.back k2a k2d hp
  have hp : Hp Z (ρ.un k1) (_ :: TblA 25 3 vr1_clauses usr1_clauses (x1.1.clauses : (List (List Int))) :: L) w := hp
  refine s_val (wk0 rfl) rfl rfl hE hp (v := (.tuple #[(.agg #[(.int .i64 x1.1.vars), vr1_clauses]), (.int .i64 x1.2)])) (ex_move rfl hE rfl) ?_
  intro a hE
  refine s_val (wk0 rfl) rfl rfl hE hp (v := (.agg #[(.int .i64 x1.1.vars), vr1_clauses])) (ex_extract rfl hE rfl rfl) ?_
  intro a hE
  refine s_val (wk0 rfl) rfl rfl hE hp (v := (.int .i64 x1.2)) (ex_extract rfl hE rfl rfl) ?_
  intro a hE
  refine s_new (wk0 rfl) rfl rfl hE hp rfl [(.int .i64 0), (.slice none 0 0)] (fun w => by simp [Instr.alloc, go_sem] <;> rfl) ?_
  intro a w b3 hE hp
  have hp : Hp Z (ρ.un k1) (Pt b3 (.cells #[(.int .i64 0), (.slice none 0 0)] 24 (0, 0)) :: _ :: _ :: L) w := hp
  refine s_store (wk0 rfl) rfl hE hp rfl rfl rfl 0 rfl varty24.size_ rfl (allOne_mem ⟨rfl, (TblA.one hp 2 rfl), trivial⟩) [(.int .i64 x1.1.vars), vr1_clauses] rfl ?_
  intro w hp
  have hp : Hp Z (ρ.un k1) (Pt b3 (.cells #[(.int .i64 x1.1.vars), vr1_clauses] 24 (0, 0)) :: _ :: _ :: L) w := hp
  refine s_val (wk0 rfl) rfl rfl hE hp (v := (.int .i64 x1.2)) (ex_asn rfl hE rfl) ?_
  intro a hE
  refine s_nil ?_
  refine k_seq ?_
  refine k_region ?_
  refine s_val (wk0 rfl) rfl rfl hE hp (v := (.agg #[(.int .i64 x1.1.vars), vr1_clauses])) (ex_load rfl hE rfl (fun w hw => run_ldN (cs := [(.int .i64 x1.1.vars), vr1_clauses]) varty24 (Hp.cN 0 rfl 0 _ (sub_all rfl) w hw))) ?_
  intro a hE
  refine s_lit (wk0 rfl) rfl rfl hE hp rfl [(0, (.int .i64 2)), (1, (.int .i64 (-3)))] ⟨⟨rfl, rfl⟩, ⟨rfl, rfl⟩, trivial⟩ [(.int .i64 2), (.int .i64 (-3))] 3 (fun w => by simp [Instr.buildSlice, Instr.fill, Value.cells, go_sem]) ?_
  intro a w b4 hE hp
  have hp : Hp Z (ρ.un k1) (Pt b4 (.cells #[(.int .i64 2), (.int .i64 (-3))] 3 (0, 0)) :: _ :: _ :: _ :: L) w := hp
  have hp := (hp.get 0 rfl).imp (own_of_pt (l := (([2, (-3)] : List Int) : List Int)) (n := 2) rfl (by decide) rfl)
  have hp : Hp Z (ρ.un k1) (OwnSl 3 (.slice (some ⟨b4, 0, none⟩) 2 2) ([2, (-3)] : List Int) :: _ :: _ :: _ :: L) w := hp
  obtain ⟨k3, k3a, k3d, k3h⟩ := (hp.get 3 rfl).lend
  obtain ⟨k4, k4a, k4d, k4h⟩ := (k3h.get 0 rfl).lend
  obtain ⟨x2, ex2, hm⟩ := bnd hm
  refine s_call (wk0 rfl) rfl rfl hE rfl [(.agg #[(.int .i64 x1.1.vars), vr1_clauses]), (.slice (some ⟨b4, 0, none⟩) 2 2)] ⟨rfl, rfl, trivial⟩ ent24 (c_cnf_Propagate (Tabs.mono (Tabs.mono (Tabs.mono hT (PH.le_un _ k1)) (PH.le_un _ k3)) (PH.le_un _ k4)) x1.1 vr1_clauses (RoSl.mono (TblA.ro k3d k3a) (PH.le_un _ _)) ([2, (-3)] : List Int) (.slice (some ⟨b4, 0, none⟩) 2 2) (OwnSl.ro k4d k4a) k4h x2 ex2) Ret.ret ?_
  intro v a w hR hE
  obtain ⟨vr3, rfl, hp⟩ := Ret.of hR
  have hp := Hp.back k4a k4d hp
  have hp := Hp.back k3a k3d hp
  have hp : Hp Z (ρ.un k1) (_ :: _ :: OwnSl 3 vr3 x2.1 :: _ :: _ :: L) w := hp
  refine s_val (wk0 rfl) rfl rfl hE hp (v := (.tuple #[vr3, (.bool x2.2.1), (.int .i64 x2.2.2)])) (ex_move rfl hE rfl) ?_
  intro a hE
  refine s_val (wk0 rfl) rfl rfl hE hp (v := vr3) (ex_extract rfl hE rfl rfl) ?_
  intro a hE
  refine s_val (wk0 rfl) rfl rfl hE hp (v := (.bool x2.2.1)) (ex_extract rfl hE rfl rfl) ?_
  intro a hE
  refine s_val (wk0 rfl) rfl rfl hE hp (v := (.int .i64 x2.2.2)) (ex_extract rfl hE rfl rfl) ?_
  intro a hE
  refine s_val (wk0 rfl) rfl rfl hE hp (v := vr3) (ex_asn rfl hE rfl) ?_
  intro a hE
  refine s_val (wk0 rfl) rfl rfl hE hp (v := (.bool x2.2.1)) (ex_asn rfl hE rfl) ?_
  intro a hE
  refine s_val (wk0 rfl) rfl rfl hE hp (v := (.int .i64 x2.2.2)) (ex_asn rfl hE rfl) ?_
  intro a hE
  refine s_nil ?_
  refine k_seq ?_
  refine k_region ?_
  refine s_lit (wk0 rfl) rfl rfl hE hp rfl [(0, (.int .i64 3)), (1, (.int .i64 (-2))), (2, (.int .i64 3))] ⟨⟨rfl, rfl⟩, ⟨rfl, rfl⟩, ⟨rfl, rfl⟩, trivial⟩ [(.int .i64 3), (.int .i64 (-2)), (.int .i64 3)] 3 (fun w => by simp [Instr.buildSlice, Instr.fill, Value.cells, go_sem]) ?_
  intro a w b5 hE hp
  have hp : Hp Z (ρ.un k1) (Pt b5 (.cells #[(.int .i64 3), (.int .i64 (-2)), (.int .i64 3)] 3 (0, 0)) :: _ :: _ :: _ :: _ :: _ :: L) w := hp
  have hp := (hp.get 0 rfl).imp (own_of_pt (l := (([3, (-2), 3] : List Int) : List Int)) (n := 3) rfl (by decide) rfl)
  have hp : Hp Z (ρ.un k1) (OwnSl 3 (.slice (some ⟨b5, 0, none⟩) 3 3) ([3, (-2), 3] : List Int) :: _ :: _ :: _ :: _ :: _ :: L) w := hp
  obtain ⟨k5, k5a, k5d, k5h⟩ := (hp.get 0 rfl).lend
  obtain ⟨x3, ex3, hm⟩ := bnd hm
  refine s_call (wk0 rfl) rfl rfl hE rfl [(.slice (some ⟨b5, 0, none⟩) 3 3)] ⟨rfl, trivial⟩ ent12 (c_cnf_Normal (Tabs.mono (Tabs.mono hT (PH.le_un _ k1)) (PH.le_un _ k5)) ([3, (-2), 3] : List Int) (.slice (some ⟨b5, 0, none⟩) 3 3) (OwnSl.ro k5d k5a) k5h x3 ex3) Ret.ret ?_
  intro v a w hR hE
  obtain ⟨vr6, rfl, hp⟩ := Ret.of hR
  have hp := Hp.back k5a k5d hp
  have hp : Hp Z (ρ.un k1) (_ :: OwnSl 3 vr6 x3.1 :: _ :: _ :: _ :: _ :: _ :: L) w := hp
  refine s_val (wk0 rfl) rfl rfl hE hp (v := (.tuple #[vr6, (.bool x3.2)])) (ex_move rfl hE rfl) ?_
  intro a hE
  refine s_val (wk0 rfl) rfl rfl hE hp (v := vr6) (ex_extract rfl hE rfl rfl) ?_
  intro a hE
  refine s_val (wk0 rfl) rfl rfl hE hp (v := (.bool x3.2)) (ex_extract rfl hE rfl rfl) ?_
  intro a hE
  refine s_val (wk0 rfl) rfl rfl hE hp (v := vr6) (ex_asn rfl hE rfl) ?_
  intro a hE
  refine s_val (wk0 rfl) rfl rfl hE hp (v := (.bool x3.2)) (ex_asn rfl hE rfl) ?_
  intro a hE
  refine s_nil ?_
  have hE := hE.cut (E' := [(1, (.pointer (some ⟨b3, 0, none⟩))), (2, (.int .i64 x1.2)), (3, vr3), (4, (.bool x2.2.1)), (5, (.int .i64 x2.2.2)), (6, vr6), (7, (.bool x3.2))]) ⟨rfl, rfl, rfl, rfl, rfl, rfl, rfl, trivial⟩
  refine k_seq ?_
  refine k_region ?_
  obtain ⟨x4, ex4, hm⟩ := bnd hm
  refine s_call (wk0 rfl) rfl rfl hE rfl [(.string (ByteArray.mk #[112, 32, 99, 110, 102, 32, 50, 32, 49, 10, 49, 32, 45, 50, 32, 48, 10]))] ⟨rfl, trivial⟩ ent26 (c_cnf_Parse (Tabs.mono hT (PH.le_un _ k1)) (ByteArray.mk #[112, 32, 99, 110, 102, 32, 50, 32, 49, 10, 49, 32, 45, 50, 32, 48, 10]) hp x4 ex4) Ret.ret ?_
  intro v a w hR hE
  obtain ⟨vr8_clauses, usr8_clauses, rfl, hp⟩ := Ret.of hR
  have hp : Hp Z (ρ.un k1) (TblA 25 3 vr8_clauses usr8_clauses (x4.1.clauses : (List (List Int))) :: _ :: _ :: _ :: _ :: _ :: _ :: _ :: L) w := hp
  refine s_val (wk0 rfl) rfl rfl hE hp (v := (.tuple #[(.agg #[(.int .i64 x4.1.vars), vr8_clauses]), (.int .i64 x4.2)])) (ex_move rfl hE rfl) ?_
  intro a hE
  refine s_val (wk0 rfl) rfl rfl hE hp (v := (.agg #[(.int .i64 x4.1.vars), vr8_clauses])) (ex_extract rfl hE rfl rfl) ?_
  intro a hE
  refine s_val (wk0 rfl) rfl rfl hE hp (v := (.int .i64 x4.2)) (ex_extract rfl hE rfl rfl) ?_
  intro a hE
  refine s_new (wk0 rfl) rfl rfl hE hp rfl [(.int .i64 0), (.slice none 0 0)] (fun w => by simp [Instr.alloc, go_sem] <;> rfl) ?_
  intro a w b6 hE hp
  have hp : Hp Z (ρ.un k1) (Pt b6 (.cells #[(.int .i64 0), (.slice none 0 0)] 24 (0, 0)) :: _ :: _ :: _ :: _ :: _ :: _ :: _ :: _ :: L) w := hp
  refine s_store (wk0 rfl) rfl hE hp rfl rfl rfl 0 rfl varty24.size_ rfl (allOne_mem ⟨rfl, (TblA.one hp 1 rfl), trivial⟩) [(.int .i64 x4.1.vars), vr8_clauses] rfl ?_
  intro w hp
  have hp : Hp Z (ρ.un k1) (Pt b6 (.cells #[(.int .i64 x4.1.vars), vr8_clauses] 24 (0, 0)) :: _ :: _ :: _ :: _ :: _ :: _ :: _ :: _ :: L) w := hp
  refine s_val (wk0 rfl) rfl rfl hE hp (v := (.int .i64 x4.2)) (ex_asn rfl hE rfl) ?_
  intro a hE
  refine s_nil ?_
  refine k_seq ?_
  refine k_region ?_
  refine s_val (wk0 rfl) rfl rfl hE hp (v := (.int .i64 x1.2)) (ex_move rfl hE rfl) ?_
  intro a hE
  refine s_val (wk0 rfl) rfl rfl hE hp (v := (.bool (decide (x1.2 = 0)))) (ex_eql rfl hE rfl rfl) ?_
  intro a hE
  refine s_val (wk0 rfl) rfl rfl hE hp (v := (.bool (decide (x1.2 = 0)))) (ex_move rfl hE rfl) ?_
  intro a hE
  refine s_cut [_, _, _, _] (fun a w => Env 94 [(40, (.bool ((decide (x1.2 = 0)) && (decide (x1.1.vars = 4))))), (1, (.pointer (some ⟨b3, 0, none⟩))), (3, vr3), (4, (.bool x2.2.1)), (5, (.int .i64 x2.2.2)), (6, vr6), (7, (.bool x3.2)), (8, (.pointer (some ⟨b6, 0, none⟩))), (9, (.int .i64 x4.2))] a ∧ Hp Z (ρ.un k1) (Pt b6 (.cells #[(.int .i64 x4.1.vars), vr8_clauses] 24 (0, 0)) :: TblA 25 3 vr8_clauses usr8_clauses (x4.1.clauses : (List (List Int))) :: OwnSl 3 (.slice (some ⟨b5, 0, none⟩) 3 3) ([3, (-2), 3] : List Int) :: OwnSl 3 vr6 x3.1 :: TblA 25 3 vr1_clauses usr1_clauses (x1.1.clauses : (List (List Int))) :: OwnSl 3 (.slice (some ⟨b4, 0, none⟩) 2 2) ([2, (-3)] : List Int) :: OwnSl 3 vr3 x2.1 :: Pt b3 (.cells #[(.int .i64 x1.1.vars), vr1_clauses] 24 (0, 0)) :: OwnSl 3 (.slice (some ⟨b2, 0, none⟩) 1 1) ([6] : List Int) :: L) w) ?_ ?_
  · rcases Bool.eq_false_or_eq_true (decide (x1.2 = 0)) with hc1 | hc1
    ·
      refine s_val (wk1 hE rfl rfl rfl hc1) rfl rfl hE hp (v := (.pointer (some ⟨b3, 0, none⟩))) (ex_field rfl hE rfl (fldty24_0 _ _)) ?_
      intro a hE
      refine s_val (wk1 hE rfl rfl rfl hc1) rfl rfl hE hp (v := (.int .i64 x1.1.vars)) (ex_load rfl hE rfl (fun w hw => run_ld1 varty3 (Hp.c 7 rfl 0 rfl w hw))) ?_
      intro a hE
      refine s_val (wk1 hE rfl rfl rfl hc1) rfl rfl hE hp (v := (.bool (decide (x1.1.vars = 4)))) (ex_eql rfl hE rfl rfl) ?_
      intro a hE
      refine s_val (wk0 rfl) rfl rfl hE hp (v := (.bool (decide (x1.1.vars = 4)))) (ex_pick1 rfl hE rfl hc1 rfl) ?_
      intro a hE
      have hE := hE.eqv (v' := (.bool ((decide (x1.2 = 0)) && (decide (x1.1.vars = 4))))) (by rw [hc1]; rfl)
      exact s_nil ⟨hE.cut ⟨rfl, rfl, rfl, rfl, rfl, rfl, rfl, rfl, rfl, trivial⟩, hp⟩
    ·
      refine s_skip (wk2 hE rfl rfl rfl hc1) rfl rfl hE ?_
      intro a hE
      refine s_skip (wk2 hE rfl rfl rfl hc1) rfl rfl hE ?_
      intro a hE
      refine s_skip (wk2 hE rfl rfl rfl hc1) rfl rfl hE ?_
      intro a hE
      refine s_val (wk0 rfl) rfl rfl hE hp (v := (.bool false)) (ex_pick0 rfl hE rfl hc1 rfl) ?_
      intro a hE
      have hE := hE.eqv (v' := (.bool ((decide (x1.2 = 0)) && (decide (x1.1.vars = 4))))) (by rw [hc1]; rfl)
      exact s_nil ⟨hE.cut ⟨rfl, rfl, rfl, rfl, rfl, rfl, rfl, rfl, rfl, trivial⟩, hp⟩
  · rintro a w ⟨hE, hp⟩
    refine s_val (wk0 rfl) rfl rfl hE hp (v := (.bool ((decide (x1.2 = 0)) && (decide (x1.1.vars = 4))))) (ex_move rfl hE rfl) ?_
    intro a hE
    obtain ⟨m1, hg1, hm⟩ := bnd hm
    refine s_cut [_, _, _, _, _, _, _, _, _, _] (fun a w => Env 94 [(51, (.bool m1)), (1, (.pointer (some ⟨b3, 0, none⟩))), (3, vr3), (4, (.bool x2.2.1)), (5, (.int .i64 x2.2.2)), (6, vr6), (7, (.bool x3.2)), (8, (.pointer (some ⟨b6, 0, none⟩))), (9, (.int .i64 x4.2))] a ∧ Hp Z (ρ.un k1) (Pt b6 (.cells #[(.int .i64 x4.1.vars), vr8_clauses] 24 (0, 0)) :: TblA 25 3 vr8_clauses usr8_clauses (x4.1.clauses : (List (List Int))) :: OwnSl 3 (.slice (some ⟨b5, 0, none⟩) 3 3) ([3, (-2), 3] : List Int) :: OwnSl 3 vr6 x3.1 :: TblA 25 3 vr1_clauses usr1_clauses (x1.1.clauses : (List (List Int))) :: OwnSl 3 (.slice (some ⟨b4, 0, none⟩) 2 2) ([2, (-3)] : List Int) :: OwnSl 3 vr3 x2.1 :: Pt b3 (.cells #[(.int .i64 x1.1.vars), vr1_clauses] 24 (0, 0)) :: OwnSl 3 (.slice (some ⟨b2, 0, none⟩) 1 1) ([6] : List Int) :: L) w) ?_ ?_
    · rcases Bool.eq_false_or_eq_true ((decide (x1.2 = 0)) && (decide (x1.1.vars = 4))) with hc2 | hc2
      ·
        replace hg1 := (it hc2).symm.trans hg1
        refine s_val (wk1 hE rfl rfl rfl hc2) rfl rfl hE hp (v := (.pointer (some ⟨b3, 1, none⟩))) (ex_field rfl hE rfl (fldty24_1 _ _)) ?_
        intro a hE
        refine s_val (wk1 hE rfl rfl rfl hc2) rfl rfl hE hp (v := vr1_clauses) (ex_load rfl hE rfl (fun w hw => run_ld1 varty22 (Hp.c 7 rfl 1 rfl w hw))) ?_
        intro a hE
        refine s_lit (wk1 hE rfl rfl rfl hc2) rfl rfl hE hp rfl [(0, (.int .i64 (-1)))] ⟨⟨rfl, rfl⟩, trivial⟩ [(.int .i64 (-1))] 3 (fun w => by simp [Instr.buildSlice, Instr.fill, Value.cells, go_sem]) ?_
        intro a w b7 hE hp
        have hp : Hp Z (ρ.un k1) (Pt b7 (.cells #[(.int .i64 (-1))] 3 (0, 0)) :: _ :: _ :: _ :: _ :: _ :: _ :: _ :: _ :: _ :: L) w := hp
        refine s_lit (wk1 hE rfl rfl rfl hc2) rfl rfl hE hp rfl [(0, (.int .i64 2)), (1, (.int .i64 (-4)))] ⟨⟨rfl, rfl⟩, ⟨rfl, rfl⟩, trivial⟩ [(.int .i64 2), (.int .i64 (-4))] 3 (fun w => by simp [Instr.buildSlice, Instr.fill, Value.cells, go_sem]) ?_
        intro a w b8 hE hp
        have hp : Hp Z (ρ.un k1) (Pt b8 (.cells #[(.int .i64 2), (.int .i64 (-4))] 3 (0, 0)) :: _ :: _ :: _ :: _ :: _ :: _ :: _ :: _ :: _ :: _ :: L) w := hp
        refine s_lit (wk1 hE rfl rfl rfl hc2) rfl rfl hE hp rfl [(0, (.int .i64 (-3))), (1, (.int .i64 (-4)))] ⟨⟨rfl, rfl⟩, ⟨rfl, rfl⟩, trivial⟩ [(.int .i64 (-3)), (.int .i64 (-4))] 3 (fun w => by simp [Instr.buildSlice, Instr.fill, Value.cells, go_sem]) ?_
        intro a w b9 hE hp
        have hp : Hp Z (ρ.un k1) (Pt b9 (.cells #[(.int .i64 (-3)), (.int .i64 (-4))] 3 (0, 0)) :: _ :: _ :: _ :: _ :: _ :: _ :: _ :: _ :: _ :: _ :: _ :: L) w := hp
        refine s_lit (wk1 hE rfl rfl rfl hc2) rfl rfl hE hp rfl [(0, (.int .i64 (-2))), (1, (.int .i64 3)), (2, (.int .i64 4))] ⟨⟨rfl, rfl⟩, ⟨rfl, rfl⟩, ⟨rfl, rfl⟩, trivial⟩ [(.int .i64 (-2)), (.int .i64 3), (.int .i64 4)] 3 (fun w => by simp [Instr.buildSlice, Instr.fill, Value.cells, go_sem]) ?_
        intro a w b10 hE hp
        have hp : Hp Z (ρ.un k1) (Pt b10 (.cells #[(.int .i64 (-2)), (.int .i64 3), (.int .i64 4)] 3 (0, 0)) :: _ :: _ :: _ :: _ :: _ :: _ :: _ :: _ :: _ :: _ :: _ :: _ :: L) w := hp
        refine s_lit (wk1 hE rfl rfl rfl hc2) rfl rfl hE hp rfl [(0, (.int .i64 4))] ⟨⟨rfl, rfl⟩, trivial⟩ [(.int .i64 4)] 3 (fun w => by simp [Instr.buildSlice, Instr.fill, Value.cells, go_sem]) ?_
        intro a w b11 hE hp
        have hp : Hp Z (ρ.un k1) (Pt b11 (.cells #[(.int .i64 4)] 3 (0, 0)) :: _ :: _ :: _ :: _ :: _ :: _ :: _ :: _ :: _ :: _ :: _ :: _ :: _ :: L) w := hp
        refine s_lit (wk1 hE rfl rfl rfl hc2) rfl rfl hE hp rfl [(0, (.slice (some ⟨b7, 0, none⟩) 1 1)), (1, (.slice (some ⟨b8, 0, none⟩) 2 2)), (2, (.slice (some ⟨b9, 0, none⟩) 2 2)), (3, (.slice (some ⟨b10, 0, none⟩) 3 3)), (4, (.slice (some ⟨b11, 0, none⟩) 1 1))] ⟨⟨rfl, rfl⟩, ⟨rfl, rfl⟩, ⟨rfl, rfl⟩, ⟨rfl, rfl⟩, ⟨rfl, rfl⟩, trivial⟩ [(.slice (some ⟨b7, 0, none⟩) 1 1), (.slice (some ⟨b8, 0, none⟩) 2 2), (.slice (some ⟨b9, 0, none⟩) 2 2), (.slice (some ⟨b10, 0, none⟩) 3 3), (.slice (some ⟨b11, 0, none⟩) 1 1)] 25 (fun w => by simp [Instr.buildSlice, Instr.fill, Value.cells, go_sem]) ?_
        intro a w b12 hE hp
        have hp : Hp Z (ρ.un k1) (Pt b12 (.cells #[(.slice (some ⟨b7, 0, none⟩) 1 1), (.slice (some ⟨b8, 0, none⟩) 2 2), (.slice (some ⟨b9, 0, none⟩) 2 2), (.slice (some ⟨b10, 0, none⟩) 3 3), (.slice (some ⟨b11, 0, none⟩) 1 1)] 25 (0, 0)) :: _ :: _ :: _ :: _ :: _ :: _ :: _ :: _ :: _ :: _ :: _ :: _ :: _ :: _ :: L) w := hp
        have hp := (hp.get 5 rfl).imp (own_of_pt (l := (([(-1)] : List Int) : List Int)) (n := 1) rfl (by decide) rfl)
        have hp : Hp Z (ρ.un k1) (OwnSl 3 (.slice (some ⟨b7, 0, none⟩) 1 1) ([(-1)] : List Int) :: _ :: _ :: _ :: _ :: _ :: _ :: _ :: _ :: _ :: _ :: _ :: _ :: _ :: _ :: L) w := hp
        obtain ⟨k6, k6a, k6d, hp⟩ := (hp.get 0 rfl).lend
        have f2 : RoSl ((ρ.un k1).un k6) (.slice (some ⟨b7, 0, none⟩) 1 1) ([(-1)] : List Int) := OwnSl.ro k6d k6a
        have hp : Hp Z ((ρ.un k1).un k6) (_ :: _ :: _ :: _ :: _ :: _ :: _ :: _ :: _ :: _ :: _ :: _ :: _ :: _ :: L) w := hp
        have hp := (hp.get 4 rfl).imp (own_of_pt (l := (([2, (-4)] : List Int) : List Int)) (n := 2) rfl (by decide) rfl)
        have hp : Hp Z ((ρ.un k1).un k6) (OwnSl 3 (.slice (some ⟨b8, 0, none⟩) 2 2) ([2, (-4)] : List Int) :: _ :: _ :: _ :: _ :: _ :: _ :: _ :: _ :: _ :: _ :: _ :: _ :: _ :: L) w := hp
        obtain ⟨k7, k7a, k7d, hp⟩ := (hp.get 0 rfl).lend
        have f3 : RoSl (((ρ.un k1).un k6).un k7) (.slice (some ⟨b8, 0, none⟩) 2 2) ([2, (-4)] : List Int) := OwnSl.ro k7d k7a
        have hp : Hp Z (((ρ.un k1).un k6).un k7) (_ :: _ :: _ :: _ :: _ :: _ :: _ :: _ :: _ :: _ :: _ :: _ :: _ :: L) w := hp
        have hp := (hp.get 3 rfl).imp (own_of_pt (l := (([(-3), (-4)] : List Int) : List Int)) (n := 2) rfl (by decide) rfl)
        have hp : Hp Z (((ρ.un k1).un k6).un k7) (OwnSl 3 (.slice (some ⟨b9, 0, none⟩) 2 2) ([(-3), (-4)] : List Int) :: _ :: _ :: _ :: _ :: _ :: _ :: _ :: _ :: _ :: _ :: _ :: _ :: L) w := hp
        obtain ⟨k8, k8a, k8d, hp⟩ := (hp.get 0 rfl).lend
        have f4 : RoSl ((((ρ.un k1).un k6).un k7).un k8) (.slice (some ⟨b9, 0, none⟩) 2 2) ([(-3), (-4)] : List Int) := OwnSl.ro k8d k8a
        have hp : Hp Z ((((ρ.un k1).un k6).un k7).un k8) (_ :: _ :: _ :: _ :: _ :: _ :: _ :: _ :: _ :: _ :: _ :: _ :: L) w := hp
        have hp := (hp.get 2 rfl).imp (own_of_pt (l := (([(-2), 3, 4] : List Int) : List Int)) (n := 3) rfl (by decide) rfl)
        have hp : Hp Z ((((ρ.un k1).un k6).un k7).un k8) (OwnSl 3 (.slice (some ⟨b10, 0, none⟩) 3 3) ([(-2), 3, 4] : List Int) :: _ :: _ :: _ :: _ :: _ :: _ :: _ :: _ :: _ :: _ :: _ :: L) w := hp
        obtain ⟨k9, k9a, k9d, hp⟩ := (hp.get 0 rfl).lend
        have f5 : RoSl (((((ρ.un k1).un k6).un k7).un k8).un k9) (.slice (some ⟨b10, 0, none⟩) 3 3) ([(-2), 3, 4] : List Int) := OwnSl.ro k9d k9a
        have hp : Hp Z (((((ρ.un k1).un k6).un k7).un k8).un k9) (_ :: _ :: _ :: _ :: _ :: _ :: _ :: _ :: _ :: _ :: _ :: L) w := hp
        have hp := (hp.get 1 rfl).imp (own_of_pt (l := (([4] : List Int) : List Int)) (n := 1) rfl (by decide) rfl)
        have hp : Hp Z (((((ρ.un k1).un k6).un k7).un k8).un k9) (OwnSl 3 (.slice (some ⟨b11, 0, none⟩) 1 1) ([4] : List Int) :: _ :: _ :: _ :: _ :: _ :: _ :: _ :: _ :: _ :: _ :: L) w := hp
        obtain ⟨k10, k10a, k10d, hp⟩ := (hp.get 0 rfl).lend
        have f6 : RoSl ((((((ρ.un k1).un k6).un k7).un k8).un k9).un k10) (.slice (some ⟨b11, 0, none⟩) 1 1) ([4] : List Int) := OwnSl.ro k10d k10a
        have hp : Hp Z ((((((ρ.un k1).un k6).un k7).un k8).un k9).un k10) (_ :: _ :: _ :: _ :: _ :: _ :: _ :: _ :: _ :: _ :: L) w := hp
        obtain ⟨k11, k11a, k11d, hp⟩ := (hp.get 0 rfl).lend
        have f7 : RoSl (((((((ρ.un k1).un k6).un k7).un k8).un k9).un k10).un k11) (.slice (some ⟨b12, 0, none⟩) 5 5) ([([(-1)] : List Int), ([2, (-4)] : List Int), ([(-3), (-4)] : List Int), ([(-2), 3, 4] : List Int), ([4] : List Int)] : List (List Int)) := RoSl.of_all (l := (([([(-1)] : List Int), ([2, (-4)] : List Int), ([(-3), (-4)] : List Int), ([(-2), 3, 4] : List Int), ([4] : List Int)] : List (List Int)))) k11d k11a ⟨_, _, rfl, ⟨_, rfl, ((RoSl.mono (RoSl.mono (RoSl.mono (RoSl.mono (RoSl.mono f2 (PH.le_un _ k7)) (PH.le_un _ k8)) (PH.le_un _ k9)) (PH.le_un _ k10)) (PH.le_un _ k11)))⟩, ⟨_, _, rfl, ⟨_, rfl, ((RoSl.mono (RoSl.mono (RoSl.mono (RoSl.mono f3 (PH.le_un _ k8)) (PH.le_un _ k9)) (PH.le_un _ k10)) (PH.le_un _ k11)))⟩, ⟨_, _, rfl, ⟨_, rfl, ((RoSl.mono (RoSl.mono (RoSl.mono f4 (PH.le_un _ k9)) (PH.le_un _ k10)) (PH.le_un _ k11)))⟩, ⟨_, _, rfl, ⟨_, rfl, ((RoSl.mono (RoSl.mono f5 (PH.le_un _ k10)) (PH.le_un _ k11)))⟩, ⟨_, _, rfl, ⟨_, rfl, ((RoSl.mono f6 (PH.le_un _ k11)))⟩, rfl⟩⟩⟩⟩⟩
        have hp : Hp Z (((((((ρ.un k1).un k6).un k7).un k8).un k9).un k10).un k11) (_ :: _ :: _ :: _ :: _ :: _ :: _ :: _ :: _ :: L) w := hp
        obtain ⟨k12, k12a, k12d, k12h⟩ := (hp.get 4 rfl).lend
        obtain ⟨x5, ex5, hg1⟩ := bnd hg1
        refine s_call (wk1 hE rfl rfl rfl hc2) rfl rfl hE rfl [vr1_clauses, (.slice (some ⟨b12, 0, none⟩) 5 5)] ⟨rfl, rfl, trivial⟩ ent40 (c_assessorref26_Clauses (Tabs.mono (Tabs.mono (Tabs.mono (Tabs.mono (Tabs.mono (Tabs.mono (Tabs.mono (Tabs.mono hT (PH.le_un _ k1)) (PH.le_un _ k6)) (PH.le_un _ k7)) (PH.le_un _ k8)) (PH.le_un _ k9)) (PH.le_un _ k10)) (PH.le_un _ k11)) (PH.le_un _ k12)) x1.1.clauses vr1_clauses (TblA.ro k12d k12a) ([([(-1)] : List Int), ([2, (-4)] : List Int), ([(-3), (-4)] : List Int), ([(-2), 3, 4] : List Int), ([4] : List Int)] : List (List Int)) (.slice (some ⟨b12, 0, none⟩) 5 5) (RoSl.mono f7 (PH.le_un _ _)) k12h x5 ex5) Ret.ret ?_
        intro v a w hR hE
        obtain ⟨rfl, hp⟩ := Ret.of hR
        have hp := Hp.back k12a k12d hp
        have hp : Hp Z (((((((ρ.un k1).un k6).un k7).un k8).un k9).un k10).un k11) (_ :: _ :: _ :: _ :: _ :: _ :: _ :: _ :: _ :: L) w := hp
        refine s_val (wk0 rfl) rfl rfl hE hp (v := (.bool x5)) (ex_pick1 rfl hE rfl hc2 rfl) ?_
        intro a hE
        obtain rfl := Option.some.inj hg1
        exact s_nil ⟨hE.cut ⟨rfl, rfl, rfl, rfl, rfl, rfl, rfl, rfl, rfl, trivial⟩, (((((((((((((((hp.get 8 rfl).get 8 rfl).get 8 rfl).get 8 rfl).get 4 rfl).get 8 rfl).get 8 rfl).get 8 rfl).get 8 rfl).less (PH.le_un _ k11)).less (PH.le_un _ k10)).less (PH.le_un _ k9)).less (PH.le_un _ k8)).less (PH.le_un _ k7)).less (PH.le_un _ k6))⟩
      ·
        replace hg1 := (ie hc2).symm.trans hg1
        refine s_skip (wk2 hE rfl rfl rfl hc2) rfl rfl hE ?_
        intro a hE
        refine s_skip (wk2 hE rfl rfl rfl hc2) rfl rfl hE ?_
        intro a hE
        refine s_skip (wk2 hE rfl rfl rfl hc2) rfl rfl hE ?_
        intro a hE
        refine s_skip (wk2 hE rfl rfl rfl hc2) rfl rfl hE ?_
        intro a hE
        refine s_skip (wk2 hE rfl rfl rfl hc2) rfl rfl hE ?_
        intro a hE
        refine s_skip (wk2 hE rfl rfl rfl hc2) rfl rfl hE ?_
        intro a hE
        refine s_skip (wk2 hE rfl rfl rfl hc2) rfl rfl hE ?_
        intro a hE
        refine s_skip (wk2 hE rfl rfl rfl hc2) rfl rfl hE ?_
        intro a hE
        refine s_skip (wk2 hE rfl rfl rfl hc2) rfl rfl hE ?_
        intro a hE
        refine s_val (wk0 rfl) rfl rfl hE hp (v := (.bool false)) (ex_pick0 rfl hE rfl hc2 rfl) ?_
        intro a hE
        obtain rfl := Option.some.inj hg1
        exact s_nil ⟨hE.cut ⟨rfl, rfl, rfl, rfl, rfl, rfl, rfl, rfl, rfl, trivial⟩, hp⟩
    · rintro a w ⟨hE, hp⟩
      refine s_val (wk0 rfl) rfl rfl hE hp (v := (.bool m1)) (ex_move rfl hE rfl) ?_
      intro a hE
      obtain ⟨m2, hg2, hm⟩ := bnd hm
      refine s_cut [_, _, _, _] (fun a w => Env 94 [(56, (.bool m2)), (1, (.pointer (some ⟨b3, 0, none⟩))), (4, (.bool x2.2.1)), (5, (.int .i64 x2.2.2)), (6, vr6), (7, (.bool x3.2)), (8, (.pointer (some ⟨b6, 0, none⟩))), (9, (.int .i64 x4.2))] a ∧ Hp Z (ρ.un k1) (Pt b6 (.cells #[(.int .i64 x4.1.vars), vr8_clauses] 24 (0, 0)) :: TblA 25 3 vr8_clauses usr8_clauses (x4.1.clauses : (List (List Int))) :: OwnSl 3 (.slice (some ⟨b5, 0, none⟩) 3 3) ([3, (-2), 3] : List Int) :: OwnSl 3 vr6 x3.1 :: TblA 25 3 vr1_clauses usr1_clauses (x1.1.clauses : (List (List Int))) :: OwnSl 3 (.slice (some ⟨b4, 0, none⟩) 2 2) ([2, (-3)] : List Int) :: OwnSl 3 vr3 x2.1 :: Pt b3 (.cells #[(.int .i64 x1.1.vars), vr1_clauses] 24 (0, 0)) :: OwnSl 3 (.slice (some ⟨b2, 0, none⟩) 1 1) ([6] : List Int) :: L) w) ?_ ?_
      · rcases Bool.eq_false_or_eq_true m1 with hc3 | hc3
        ·
          replace hg2 := (it hc3).symm.trans hg2
          refine s_val (wk1 hE rfl rfl rfl hc3) rfl rfl hE hp (v := vr3) (ex_move rfl hE rfl) ?_
          intro a hE
          refine s_lit (wk1 hE rfl rfl rfl hc3) rfl rfl hE hp rfl [(0, (.int .i64 (-1))), (1, (.int .i64 2)), (2, (.int .i64 (-3))), (3, (.int .i64 4))] ⟨⟨rfl, rfl⟩, ⟨rfl, rfl⟩, ⟨rfl, rfl⟩, ⟨rfl, rfl⟩, trivial⟩ [(.int .i64 (-1)), (.int .i64 2), (.int .i64 (-3)), (.int .i64 4)] 3 (fun w => by simp [Instr.buildSlice, Instr.fill, Value.cells, go_sem]) ?_
          intro a w b13 hE hp
          have hp : Hp Z (ρ.un k1) (Pt b13 (.cells #[(.int .i64 (-1)), (.int .i64 2), (.int .i64 (-3)), (.int .i64 4)] 3 (0, 0)) :: _ :: _ :: _ :: _ :: _ :: _ :: _ :: _ :: _ :: L) w := hp
          have hp := (hp.get 0 rfl).imp (own_of_pt (l := (([(-1), 2, (-3), 4] : List Int) : List Int)) (n := 4) rfl (by decide) rfl)
          have hp : Hp Z (ρ.un k1) (OwnSl 3 (.slice (some ⟨b13, 0, none⟩) 4 4) ([(-1), 2, (-3), 4] : List Int) :: _ :: _ :: _ :: _ :: _ :: _ :: _ :: _ :: _ :: L) w := hp
          obtain ⟨k13, k13a, k13d, k13h⟩ := (hp.get 7 rfl).lend
          obtain ⟨k14, k14a, k14d, k14h⟩ := (k13h.get 0 rfl).lend
          obtain ⟨x6, ex6, hg2⟩ := bnd hg2
          refine s_call (wk1 hE rfl rfl rfl hc3) rfl rfl hE rfl [vr3, (.slice (some ⟨b13, 0, none⟩) 4 4)] ⟨rfl, rfl, trivial⟩ ent14 (c_slices_Equal_int_int_ (Tabs.mono (Tabs.mono (Tabs.mono hT (PH.le_un _ k1)) (PH.le_un _ k13)) (PH.le_un _ k14)) x2.1 vr3 (RoSl.mono (OwnSl.ro k13d k13a) (PH.le_un _ _)) ([(-1), 2, (-3), 4] : List Int) (.slice (some ⟨b13, 0, none⟩) 4 4) (OwnSl.ro k14d k14a) k14h x6 ex6) Ret.ret ?_
          intro v a w hR hE
          obtain ⟨rfl, hp⟩ := Ret.of hR
          have hp := Hp.back k14a k14d hp
          have hp := Hp.back k13a k13d hp
          have hp : Hp Z (ρ.un k1) (_ :: _ :: _ :: _ :: _ :: _ :: _ :: _ :: _ :: _ :: L) w := hp
          refine s_val (wk0 rfl) rfl rfl hE hp (v := (.bool x6)) (ex_pick1 rfl hE rfl hc3 rfl) ?_
          intro a hE
          obtain rfl := Option.some.inj hg2
          exact s_nil ⟨hE.cut ⟨rfl, rfl, rfl, rfl, rfl, rfl, rfl, rfl, trivial⟩, (((((((((((hp.get 9 rfl).get 9 rfl).get 2 rfl).get 9 rfl).get 9 rfl).get 9 rfl).get 9 rfl).get 9 rfl).get 9 rfl).get 9 rfl).drop)⟩
        ·
          replace hg2 := (ie hc3).symm.trans hg2
          refine s_skip (wk2 hE rfl rfl rfl hc3) rfl rfl hE ?_
          intro a hE
          refine s_skip (wk2 hE rfl rfl rfl hc3) rfl rfl hE ?_
          intro a hE
          refine s_skip (wk2 hE rfl rfl rfl hc3) rfl rfl hE ?_
          intro a hE
          refine s_val (wk0 rfl) rfl rfl hE hp (v := (.bool false)) (ex_pick0 rfl hE rfl hc3 rfl) ?_
          intro a hE
          obtain rfl := Option.some.inj hg2
          exact s_nil ⟨hE.cut ⟨rfl, rfl, rfl, rfl, rfl, rfl, rfl, rfl, trivial⟩, hp⟩
      · rintro a w ⟨hE, hp⟩
        refine s_val (wk0 rfl) rfl rfl hE hp (v := (.bool m2)) (ex_move rfl hE rfl) ?_
        intro a hE
        refine s_cut [_, _] (fun a w => Env 94 [(59, (.bool (m2 && x2.2.1))), (1, (.pointer (some ⟨b3, 0, none⟩))), (5, (.int .i64 x2.2.2)), (6, vr6), (7, (.bool x3.2)), (8, (.pointer (some ⟨b6, 0, none⟩))), (9, (.int .i64 x4.2))] a ∧ Hp Z (ρ.un k1) (Pt b6 (.cells #[(.int .i64 x4.1.vars), vr8_clauses] 24 (0, 0)) :: TblA 25 3 vr8_clauses usr8_clauses (x4.1.clauses : (List (List Int))) :: OwnSl 3 (.slice (some ⟨b5, 0, none⟩) 3 3) ([3, (-2), 3] : List Int) :: OwnSl 3 vr6 x3.1 :: TblA 25 3 vr1_clauses usr1_clauses (x1.1.clauses : (List (List Int))) :: OwnSl 3 (.slice (some ⟨b4, 0, none⟩) 2 2) ([2, (-3)] : List Int) :: OwnSl 3 vr3 x2.1 :: Pt b3 (.cells #[(.int .i64 x1.1.vars), vr1_clauses] 24 (0, 0)) :: OwnSl 3 (.slice (some ⟨b2, 0, none⟩) 1 1) ([6] : List Int) :: L) w) ?_ ?_
        · rcases Bool.eq_false_or_eq_true m2 with hc4 | hc4
          ·
            refine s_val (wk1 hE rfl rfl rfl hc4) rfl rfl hE hp (v := (.bool x2.2.1)) (ex_move rfl hE rfl) ?_
            intro a hE
            refine s_val (wk0 rfl) rfl rfl hE hp (v := (.bool x2.2.1)) (ex_pick1 rfl hE rfl hc4 rfl) ?_
            intro a hE
            have hE := hE.eqv (v' := (.bool (m2 && x2.2.1))) (by rw [hc4]; rfl)
            exact s_nil ⟨hE.cut ⟨rfl, rfl, rfl, rfl, rfl, rfl, rfl, trivial⟩, hp⟩
          ·
            refine s_skip (wk2 hE rfl rfl rfl hc4) rfl rfl hE ?_
            intro a hE
            refine s_val (wk0 rfl) rfl rfl hE hp (v := (.bool false)) (ex_pick0 rfl hE rfl hc4 rfl) ?_
            intro a hE
            have hE := hE.eqv (v' := (.bool (m2 && x2.2.1))) (by rw [hc4]; rfl)
            exact s_nil ⟨hE.cut ⟨rfl, rfl, rfl, rfl, rfl, rfl, rfl, trivial⟩, hp⟩
        · rintro a w ⟨hE, hp⟩
          refine s_val (wk0 rfl) rfl rfl hE hp (v := (.bool (m2 && x2.2.1))) (ex_move rfl hE rfl) ?_
          intro a hE
          refine s_cut [_, _, _] (fun a w => Env 94 [(63, (.bool ((m2 && x2.2.1) && (decide (x2.2.2 = 0))))), (1, (.pointer (some ⟨b3, 0, none⟩))), (6, vr6), (7, (.bool x3.2)), (8, (.pointer (some ⟨b6, 0, none⟩))), (9, (.int .i64 x4.2))] a ∧ Hp Z (ρ.un k1) (Pt b6 (.cells #[(.int .i64 x4.1.vars), vr8_clauses] 24 (0, 0)) :: TblA 25 3 vr8_clauses usr8_clauses (x4.1.clauses : (List (List Int))) :: OwnSl 3 (.slice (some ⟨b5, 0, none⟩) 3 3) ([3, (-2), 3] : List Int) :: OwnSl 3 vr6 x3.1 :: TblA 25 3 vr1_clauses usr1_clauses (x1.1.clauses : (List (List Int))) :: OwnSl 3 (.slice (some ⟨b4, 0, none⟩) 2 2) ([2, (-3)] : List Int) :: OwnSl 3 vr3 x2.1 :: Pt b3 (.cells #[(.int .i64 x1.1.vars), vr1_clauses] 24 (0, 0)) :: OwnSl 3 (.slice (some ⟨b2, 0, none⟩) 1 1) ([6] : List Int) :: L) w) ?_ ?_
          · rcases Bool.eq_false_or_eq_true (m2 && x2.2.1) with hc5 | hc5
            ·
              refine s_val (wk1 hE rfl rfl rfl hc5) rfl rfl hE hp (v := (.int .i64 x2.2.2)) (ex_move rfl hE rfl) ?_
              intro a hE
              refine s_val (wk1 hE rfl rfl rfl hc5) rfl rfl hE hp (v := (.bool (decide (x2.2.2 = 0)))) (ex_eql rfl hE rfl rfl) ?_
              intro a hE
              refine s_val (wk0 rfl) rfl rfl hE hp (v := (.bool (decide (x2.2.2 = 0)))) (ex_pick1 rfl hE rfl hc5 rfl) ?_
              intro a hE
              have hE := hE.eqv (v' := (.bool ((m2 && x2.2.1) && (decide (x2.2.2 = 0))))) (by rw [hc5]; rfl)
              exact s_nil ⟨hE.cut ⟨rfl, rfl, rfl, rfl, rfl, rfl, trivial⟩, hp⟩
            ·
              refine s_skip (wk2 hE rfl rfl rfl hc5) rfl rfl hE ?_
              intro a hE
              refine s_skip (wk2 hE rfl rfl rfl hc5) rfl rfl hE ?_
              intro a hE
              refine s_val (wk0 rfl) rfl rfl hE hp (v := (.bool false)) (ex_pick0 rfl hE rfl hc5 rfl) ?_
              intro a hE
              have hE := hE.eqv (v' := (.bool ((m2 && x2.2.1) && (decide (x2.2.2 = 0))))) (by rw [hc5]; rfl)
              exact s_nil ⟨hE.cut ⟨rfl, rfl, rfl, rfl, rfl, rfl, trivial⟩, hp⟩
          · rintro a w ⟨hE, hp⟩
            refine s_val (wk0 rfl) rfl rfl hE hp (v := (.bool ((m2 && x2.2.1) && (decide (x2.2.2 = 0))))) (ex_move rfl hE rfl) ?_
            intro a hE
            refine s_cut [_, _] (fun a w => Env 94 [(66, (.bool (((m2 && x2.2.1) && (decide (x2.2.2 = 0))) && x3.2))), (1, (.pointer (some ⟨b3, 0, none⟩))), (6, vr6), (8, (.pointer (some ⟨b6, 0, none⟩))), (9, (.int .i64 x4.2))] a ∧ Hp Z (ρ.un k1) (Pt b6 (.cells #[(.int .i64 x4.1.vars), vr8_clauses] 24 (0, 0)) :: TblA 25 3 vr8_clauses usr8_clauses (x4.1.clauses : (List (List Int))) :: OwnSl 3 (.slice (some ⟨b5, 0, none⟩) 3 3) ([3, (-2), 3] : List Int) :: OwnSl 3 vr6 x3.1 :: TblA 25 3 vr1_clauses usr1_clauses (x1.1.clauses : (List (List Int))) :: OwnSl 3 (.slice (some ⟨b4, 0, none⟩) 2 2) ([2, (-3)] : List Int) :: OwnSl 3 vr3 x2.1 :: Pt b3 (.cells #[(.int .i64 x1.1.vars), vr1_clauses] 24 (0, 0)) :: OwnSl 3 (.slice (some ⟨b2, 0, none⟩) 1 1) ([6] : List Int) :: L) w) ?_ ?_
            · rcases Bool.eq_false_or_eq_true ((m2 && x2.2.1) && (decide (x2.2.2 = 0))) with hc6 | hc6
              ·
                refine s_val (wk1 hE rfl rfl rfl hc6) rfl rfl hE hp (v := (.bool x3.2)) (ex_move rfl hE rfl) ?_
                intro a hE
                refine s_val (wk0 rfl) rfl rfl hE hp (v := (.bool x3.2)) (ex_pick1 rfl hE rfl hc6 rfl) ?_
                intro a hE
                have hE := hE.eqv (v' := (.bool (((m2 && x2.2.1) && (decide (x2.2.2 = 0))) && x3.2))) (by rw [hc6]; rfl)
                exact s_nil ⟨hE.cut ⟨rfl, rfl, rfl, rfl, rfl, trivial⟩, hp⟩
              ·
                refine s_skip (wk2 hE rfl rfl rfl hc6) rfl rfl hE ?_
                intro a hE
                refine s_val (wk0 rfl) rfl rfl hE hp (v := (.bool false)) (ex_pick0 rfl hE rfl hc6 rfl) ?_
                intro a hE
                have hE := hE.eqv (v' := (.bool (((m2 && x2.2.1) && (decide (x2.2.2 = 0))) && x3.2))) (by rw [hc6]; rfl)
                exact s_nil ⟨hE.cut ⟨rfl, rfl, rfl, rfl, rfl, trivial⟩, hp⟩
            · rintro a w ⟨hE, hp⟩
              refine s_val (wk0 rfl) rfl rfl hE hp (v := (.bool (((m2 && x2.2.1) && (decide (x2.2.2 = 0))) && x3.2))) (ex_move rfl hE rfl) ?_
              intro a hE
              obtain ⟨m3, hg3, hm⟩ := bnd hm
              refine s_cut [_, _, _, _] (fun a w => Env 94 [(71, (.bool m3)), (1, (.pointer (some ⟨b3, 0, none⟩))), (8, (.pointer (some ⟨b6, 0, none⟩))), (9, (.int .i64 x4.2))] a ∧ Hp Z (ρ.un k1) (Pt b6 (.cells #[(.int .i64 x4.1.vars), vr8_clauses] 24 (0, 0)) :: TblA 25 3 vr8_clauses usr8_clauses (x4.1.clauses : (List (List Int))) :: OwnSl 3 (.slice (some ⟨b5, 0, none⟩) 3 3) ([3, (-2), 3] : List Int) :: OwnSl 3 vr6 x3.1 :: TblA 25 3 vr1_clauses usr1_clauses (x1.1.clauses : (List (List Int))) :: OwnSl 3 (.slice (some ⟨b4, 0, none⟩) 2 2) ([2, (-3)] : List Int) :: OwnSl 3 vr3 x2.1 :: Pt b3 (.cells #[(.int .i64 x1.1.vars), vr1_clauses] 24 (0, 0)) :: OwnSl 3 (.slice (some ⟨b2, 0, none⟩) 1 1) ([6] : List Int) :: L) w) ?_ ?_
              · rcases Bool.eq_false_or_eq_true (((m2 && x2.2.1) && (decide (x2.2.2 = 0))) && x3.2) with hc7 | hc7
                ·
                  replace hg3 := (it hc7).symm.trans hg3
                  refine s_val (wk1 hE rfl rfl rfl hc7) rfl rfl hE hp (v := vr6) (ex_move rfl hE rfl) ?_
                  intro a hE
                  refine s_lit (wk1 hE rfl rfl rfl hc7) rfl rfl hE hp rfl [(0, (.int .i64 (-2))), (1, (.int .i64 3))] ⟨⟨rfl, rfl⟩, ⟨rfl, rfl⟩, trivial⟩ [(.int .i64 (-2)), (.int .i64 3)] 3 (fun w => by simp [Instr.buildSlice, Instr.fill, Value.cells, go_sem]) ?_
                  intro a w b14 hE hp
                  have hp : Hp Z (ρ.un k1) (Pt b14 (.cells #[(.int .i64 (-2)), (.int .i64 3)] 3 (0, 0)) :: _ :: _ :: _ :: _ :: _ :: _ :: _ :: _ :: _ :: L) w := hp
                  have hp := (hp.get 0 rfl).imp (own_of_pt (l := (([(-2), 3] : List Int) : List Int)) (n := 2) rfl (by decide) rfl)
                  have hp : Hp Z (ρ.un k1) (OwnSl 3 (.slice (some ⟨b14, 0, none⟩) 2 2) ([(-2), 3] : List Int) :: _ :: _ :: _ :: _ :: _ :: _ :: _ :: _ :: _ :: L) w := hp
                  obtain ⟨k15, k15a, k15d, k15h⟩ := (hp.get 4 rfl).lend
                  obtain ⟨k16, k16a, k16d, k16h⟩ := (k15h.get 0 rfl).lend
                  obtain ⟨x7, ex7, hg3⟩ := bnd hg3
                  refine s_call (wk1 hE rfl rfl rfl hc7) rfl rfl hE rfl [vr6, (.slice (some ⟨b14, 0, none⟩) 2 2)] ⟨rfl, rfl, trivial⟩ ent14 (c_slices_Equal_int_int_ (Tabs.mono (Tabs.mono (Tabs.mono hT (PH.le_un _ k1)) (PH.le_un _ k15)) (PH.le_un _ k16)) x3.1 vr6 (RoSl.mono (OwnSl.ro k15d k15a) (PH.le_un _ _)) ([(-2), 3] : List Int) (.slice (some ⟨b14, 0, none⟩) 2 2) (OwnSl.ro k16d k16a) k16h x7 ex7) Ret.ret ?_
                  intro v a w hR hE
                  obtain ⟨rfl, hp⟩ := Ret.of hR
                  have hp := Hp.back k16a k16d hp
                  have hp := Hp.back k15a k15d hp
                  have hp : Hp Z (ρ.un k1) (_ :: _ :: _ :: _ :: _ :: _ :: _ :: _ :: _ :: _ :: L) w := hp
                  refine s_val (wk0 rfl) rfl rfl hE hp (v := (.bool x7)) (ex_pick1 rfl hE rfl hc7 rfl) ?_
                  intro a hE
                  obtain rfl := Option.some.inj hg3
                  exact s_nil ⟨hE.cut ⟨rfl, rfl, rfl, rfl, trivial⟩, (((((((((((hp.get 9 rfl).get 9 rfl).get 9 rfl).get 9 rfl).get 9 rfl).get 5 rfl).get 9 rfl).get 9 rfl).get 9 rfl).get 9 rfl).drop)⟩
                ·
                  replace hg3 := (ie hc7).symm.trans hg3
                  refine s_skip (wk2 hE rfl rfl rfl hc7) rfl rfl hE ?_
                  intro a hE
                  refine s_skip (wk2 hE rfl rfl rfl hc7) rfl rfl hE ?_
                  intro a hE
                  refine s_skip (wk2 hE rfl rfl rfl hc7) rfl rfl hE ?_
                  intro a hE
                  refine s_val (wk0 rfl) rfl rfl hE hp (v := (.bool false)) (ex_pick0 rfl hE rfl hc7 rfl) ?_
                  intro a hE
                  obtain rfl := Option.some.inj hg3
                  exact s_nil ⟨hE.cut ⟨rfl, rfl, rfl, rfl, trivial⟩, hp⟩
              · rintro a w ⟨hE, hp⟩
                refine s_val (wk0 rfl) rfl rfl hE hp (v := (.bool m3)) (ex_move rfl hE rfl) ?_
                intro a hE
                refine s_cut [_, _, _] (fun a w => Env 94 [(75, (.bool (m3 && (decide (x4.2 = 0))))), (1, (.pointer (some ⟨b3, 0, none⟩))), (8, (.pointer (some ⟨b6, 0, none⟩)))] a ∧ Hp Z (ρ.un k1) (Pt b6 (.cells #[(.int .i64 x4.1.vars), vr8_clauses] 24 (0, 0)) :: TblA 25 3 vr8_clauses usr8_clauses (x4.1.clauses : (List (List Int))) :: OwnSl 3 (.slice (some ⟨b5, 0, none⟩) 3 3) ([3, (-2), 3] : List Int) :: OwnSl 3 vr6 x3.1 :: TblA 25 3 vr1_clauses usr1_clauses (x1.1.clauses : (List (List Int))) :: OwnSl 3 (.slice (some ⟨b4, 0, none⟩) 2 2) ([2, (-3)] : List Int) :: OwnSl 3 vr3 x2.1 :: Pt b3 (.cells #[(.int .i64 x1.1.vars), vr1_clauses] 24 (0, 0)) :: OwnSl 3 (.slice (some ⟨b2, 0, none⟩) 1 1) ([6] : List Int) :: L) w) ?_ ?_
                · rcases Bool.eq_false_or_eq_true m3 with hc8 | hc8
                  ·
                    refine s_val (wk1 hE rfl rfl rfl hc8) rfl rfl hE hp (v := (.int .i64 x4.2)) (ex_move rfl hE rfl) ?_
                    intro a hE
                    refine s_val (wk1 hE rfl rfl rfl hc8) rfl rfl hE hp (v := (.bool (decide (x4.2 = 0)))) (ex_eql rfl hE rfl rfl) ?_
                    intro a hE
                    refine s_val (wk0 rfl) rfl rfl hE hp (v := (.bool (decide (x4.2 = 0)))) (ex_pick1 rfl hE rfl hc8 rfl) ?_
                    intro a hE
                    have hE := hE.eqv (v' := (.bool (m3 && (decide (x4.2 = 0))))) (by rw [hc8]; rfl)
                    exact s_nil ⟨hE.cut ⟨rfl, rfl, rfl, trivial⟩, hp⟩
                  ·
                    refine s_skip (wk2 hE rfl rfl rfl hc8) rfl rfl hE ?_
                    intro a hE
                    refine s_skip (wk2 hE rfl rfl rfl hc8) rfl rfl hE ?_
                    intro a hE
                    refine s_val (wk0 rfl) rfl rfl hE hp (v := (.bool false)) (ex_pick0 rfl hE rfl hc8 rfl) ?_
                    intro a hE
                    have hE := hE.eqv (v' := (.bool (m3 && (decide (x4.2 = 0))))) (by rw [hc8]; rfl)
                    exact s_nil ⟨hE.cut ⟨rfl, rfl, rfl, trivial⟩, hp⟩
                · rintro a w ⟨hE, hp⟩
                  refine s_val (wk0 rfl) rfl rfl hE hp (v := (.bool (m3 && (decide (x4.2 = 0))))) (ex_move rfl hE rfl) ?_
                  intro a hE
                  obtain ⟨m4, hg4, hm⟩ := bnd hm
                  refine s_cut [_, _, _, _] (fun a w => Env 94 [(80, (.bool m4)), (1, (.pointer (some ⟨b3, 0, none⟩)))] a ∧ Hp Z (ρ.un k1) (Pt b6 (.cells #[(.int .i64 x4.1.vars), vr8_clauses] 24 (0, 0)) :: TblA 25 3 vr8_clauses usr8_clauses (x4.1.clauses : (List (List Int))) :: OwnSl 3 (.slice (some ⟨b5, 0, none⟩) 3 3) ([3, (-2), 3] : List Int) :: OwnSl 3 vr6 x3.1 :: TblA 25 3 vr1_clauses usr1_clauses (x1.1.clauses : (List (List Int))) :: OwnSl 3 (.slice (some ⟨b4, 0, none⟩) 2 2) ([2, (-3)] : List Int) :: OwnSl 3 vr3 x2.1 :: Pt b3 (.cells #[(.int .i64 x1.1.vars), vr1_clauses] 24 (0, 0)) :: OwnSl 3 (.slice (some ⟨b2, 0, none⟩) 1 1) ([6] : List Int) :: L) w) ?_ ?_
                  · rcases Bool.eq_false_or_eq_true (m3 && (decide (x4.2 = 0))) with hc9 | hc9
                    ·
                      replace hg4 := (it hc9).symm.trans hg4
                      refine s_val (wk1 hE rfl rfl rfl hc9) rfl rfl hE hp (v := (.agg #[(.int .i64 x4.1.vars), vr8_clauses])) (ex_load rfl hE rfl (fun w hw => run_ldN (cs := [(.int .i64 x4.1.vars), vr8_clauses]) varty24 (Hp.cN 0 rfl 0 _ (sub_all rfl) w hw))) ?_
                      intro a hE
                      obtain ⟨k17, k17a, k17d, k17h⟩ := (hp.get 1 rfl).lend
                      obtain ⟨x8, ex8, hg4⟩ := bnd hg4
                      refine s_call (wk1 hE rfl rfl rfl hc9) rfl rfl hE rfl [(.agg #[(.int .i64 x4.1.vars), vr8_clauses])] ⟨rfl, trivial⟩ ent28 (c_cnf_Format (Tabs.mono (Tabs.mono hT (PH.le_un _ k1)) (PH.le_un _ k17)) x4.1 vr8_clauses (TblA.ro k17d k17a) k17h x8 ex8) Ret.ret ?_
                      intro v a w hR hE
                      obtain ⟨rfl, hp⟩ := Ret.of hR
                      have hp := Hp.back k17a k17d hp
                      have hp : Hp Z (ρ.un k1) (_ :: _ :: _ :: _ :: _ :: _ :: _ :: _ :: _ :: L) w := hp
                      refine s_val (wk1 hE rfl rfl rfl hc9) rfl rfl hE hp (v := (.bool (decide (x8 = (ByteArray.mk #[112, 32, 99, 110, 102, 32, 50, 32, 49, 10, 49, 32, 45, 50, 32, 48, 10]))))) (ex_seql rfl hE rfl rfl) ?_
                      intro a hE
                      refine s_val (wk0 rfl) rfl rfl hE hp (v := (.bool (decide (x8 = (ByteArray.mk #[112, 32, 99, 110, 102, 32, 50, 32, 49, 10, 49, 32, 45, 50, 32, 48, 10]))))) (ex_pick1 rfl hE rfl hc9 rfl) ?_
                      intro a hE
                      obtain rfl := Option.some.inj hg4
                      exact s_nil ⟨hE.cut ⟨rfl, rfl, trivial⟩, (((((((((hp.get 8 rfl).get 8 rfl).get 8 rfl).get 8 rfl).get 8 rfl).get 8 rfl).get 8 rfl).get 7 rfl).get 8 rfl)⟩
                    ·
                      replace hg4 := (ie hc9).symm.trans hg4
                      refine s_skip (wk2 hE rfl rfl rfl hc9) rfl rfl hE ?_
                      intro a hE
                      refine s_skip (wk2 hE rfl rfl rfl hc9) rfl rfl hE ?_
                      intro a hE
                      refine s_skip (wk2 hE rfl rfl rfl hc9) rfl rfl hE ?_
                      intro a hE
                      refine s_val (wk0 rfl) rfl rfl hE hp (v := (.bool false)) (ex_pick0 rfl hE rfl hc9 rfl) ?_
                      intro a hE
                      obtain rfl := Option.some.inj hg4
                      exact s_nil ⟨hE.cut ⟨rfl, rfl, trivial⟩, hp⟩
                  · rintro a w ⟨hE, hp⟩
                    refine s_val (wk0 rfl) rfl rfl hE hp (v := (.bool m4)) (ex_move rfl hE rfl) ?_
                    intro a hE
                    obtain ⟨m5, hg5, hm⟩ := bnd hm
                    refine s_cut [_, _, _] (fun a w => Env 94 [(84, (.bool m5)), (1, (.pointer (some ⟨b3, 0, none⟩)))] a ∧ Hp Z (ρ.un k1) (Pt b6 (.cells #[(.int .i64 x4.1.vars), vr8_clauses] 24 (0, 0)) :: TblA 25 3 vr8_clauses usr8_clauses (x4.1.clauses : (List (List Int))) :: OwnSl 3 (.slice (some ⟨b5, 0, none⟩) 3 3) ([3, (-2), 3] : List Int) :: OwnSl 3 vr6 x3.1 :: TblA 25 3 vr1_clauses usr1_clauses (x1.1.clauses : (List (List Int))) :: OwnSl 3 (.slice (some ⟨b4, 0, none⟩) 2 2) ([2, (-3)] : List Int) :: OwnSl 3 vr3 x2.1 :: Pt b3 (.cells #[(.int .i64 x1.1.vars), vr1_clauses] 24 (0, 0)) :: OwnSl 3 (.slice (some ⟨b2, 0, none⟩) 1 1) ([6] : List Int) :: L) w) ?_ ?_
                    · rcases Bool.eq_false_or_eq_true m4 with hc10 | hc10
                      ·
                        replace hg5 := (it hc10).symm.trans hg5
                        refine s_val (wk1 hE rfl rfl rfl hc10) rfl rfl hE hp (v := (.agg #[(.int .i64 x1.1.vars), vr1_clauses])) (ex_load rfl hE rfl (fun w hw => run_ldN (cs := [(.int .i64 x1.1.vars), vr1_clauses]) varty24 (Hp.cN 7 rfl 0 _ (sub_all rfl) w hw))) ?_
                        intro a hE
                        obtain ⟨k18, k18a, k18d, k18h⟩ := (hp.get 4 rfl).lend
                        obtain ⟨x9, ex9, hg5⟩ := bnd hg5
                        refine s_call (wk1 hE rfl rfl rfl hc10) rfl rfl hE rfl [(.agg #[(.int .i64 x1.1.vars), vr1_clauses])] ⟨rfl, trivial⟩ ent15 (c_cnf_Valid (Tabs.mono (Tabs.mono hT (PH.le_un _ k1)) (PH.le_un _ k18)) x1.1 vr1_clauses (TblA.ro k18d k18a) k18h x9 ex9) Ret.ret ?_
                        intro v a w hR hE
                        obtain ⟨rfl, hp⟩ := Ret.of hR
                        have hp := Hp.back k18a k18d hp
                        have hp : Hp Z (ρ.un k1) (_ :: _ :: _ :: _ :: _ :: _ :: _ :: _ :: _ :: L) w := hp
                        refine s_val (wk0 rfl) rfl rfl hE hp (v := (.bool x9)) (ex_pick1 rfl hE rfl hc10 rfl) ?_
                        intro a hE
                        obtain rfl := Option.some.inj hg5
                        exact s_nil ⟨hE.cut ⟨rfl, rfl, trivial⟩, (((((((((hp.get 8 rfl).get 8 rfl).get 8 rfl).get 8 rfl).get 4 rfl).get 8 rfl).get 8 rfl).get 8 rfl).get 8 rfl)⟩
                      ·
                        replace hg5 := (ie hc10).symm.trans hg5
                        refine s_skip (wk2 hE rfl rfl rfl hc10) rfl rfl hE ?_
                        intro a hE
                        refine s_skip (wk2 hE rfl rfl rfl hc10) rfl rfl hE ?_
                        intro a hE
                        refine s_val (wk0 rfl) rfl rfl hE hp (v := (.bool false)) (ex_pick0 rfl hE rfl hc10 rfl) ?_
                        intro a hE
                        obtain rfl := Option.some.inj hg5
                        exact s_nil ⟨hE.cut ⟨rfl, rfl, trivial⟩, hp⟩
                    · rintro a w ⟨hE, hp⟩
                      refine s_val (wk0 rfl) rfl rfl hE hp (v := (.bool m5)) (ex_move rfl hE rfl) ?_
                      intro a hE
                      obtain ⟨m6, hg6, hm⟩ := bnd hm
                      refine s_cut [_, _, _, _] (fun a w => Env 94 [(89, (.bool m6))] a ∧ Hp Z (ρ.un k1) (Pt b6 (.cells #[(.int .i64 x4.1.vars), vr8_clauses] 24 (0, 0)) :: TblA 25 3 vr8_clauses usr8_clauses (x4.1.clauses : (List (List Int))) :: OwnSl 3 (.slice (some ⟨b5, 0, none⟩) 3 3) ([3, (-2), 3] : List Int) :: OwnSl 3 vr6 x3.1 :: TblA 25 3 vr1_clauses usr1_clauses (x1.1.clauses : (List (List Int))) :: OwnSl 3 (.slice (some ⟨b4, 0, none⟩) 2 2) ([2, (-3)] : List Int) :: OwnSl 3 vr3 x2.1 :: Pt b3 (.cells #[(.int .i64 x1.1.vars), vr1_clauses] 24 (0, 0)) :: OwnSl 3 (.slice (some ⟨b2, 0, none⟩) 1 1) ([6] : List Int) :: L) w) ?_ ?_
                      · rcases Bool.eq_false_or_eq_true m5 with hc11 | hc11
                        ·
                          replace hg6 := (it hc11).symm.trans hg6
                          refine s_val (wk1 hE rfl rfl rfl hc11) rfl rfl hE hp (v := (.agg #[(.int .i64 x1.1.vars), vr1_clauses])) (ex_load rfl hE rfl (fun w hw => run_ldN (cs := [(.int .i64 x1.1.vars), vr1_clauses]) varty24 (Hp.cN 7 rfl 0 _ (sub_all rfl) w hw))) ?_
                          intro a hE
                          refine s_lit (wk1 hE rfl rfl rfl hc11) rfl rfl hE hp rfl [(0, (.int .i64 (-1))), (1, (.int .i64 2)), (2, (.int .i64 (-3))), (3, (.int .i64 4))] ⟨⟨rfl, rfl⟩, ⟨rfl, rfl⟩, ⟨rfl, rfl⟩, ⟨rfl, rfl⟩, trivial⟩ [(.int .i64 (-1)), (.int .i64 2), (.int .i64 (-3)), (.int .i64 4)] 3 (fun w => by simp [Instr.buildSlice, Instr.fill, Value.cells, go_sem]) ?_
                          intro a w b15 hE hp
                          have hp : Hp Z (ρ.un k1) (Pt b15 (.cells #[(.int .i64 (-1)), (.int .i64 2), (.int .i64 (-3)), (.int .i64 4)] 3 (0, 0)) :: _ :: _ :: _ :: _ :: _ :: _ :: _ :: _ :: _ :: L) w := hp
                          have hp := (hp.get 0 rfl).imp (own_of_pt (l := (([(-1), 2, (-3), 4] : List Int) : List Int)) (n := 4) rfl (by decide) rfl)
                          have hp : Hp Z (ρ.un k1) (OwnSl 3 (.slice (some ⟨b15, 0, none⟩) 4 4) ([(-1), 2, (-3), 4] : List Int) :: _ :: _ :: _ :: _ :: _ :: _ :: _ :: _ :: _ :: L) w := hp
                          obtain ⟨k19, k19a, k19d, k19h⟩ := (hp.get 5 rfl).lend
                          obtain ⟨k20, k20a, k20d, k20h⟩ := (k19h.get 0 rfl).lend
                          obtain ⟨x10, ex10, hg6⟩ := bnd hg6
                          refine s_call (wk1 hE rfl rfl rfl hc11) rfl rfl hE rfl [(.agg #[(.int .i64 x1.1.vars), vr1_clauses]), (.slice (some ⟨b15, 0, none⟩) 4 4)] ⟨rfl, rfl, trivial⟩ ent17 (c_cnf_Holds (Tabs.mono (Tabs.mono (Tabs.mono hT (PH.le_un _ k1)) (PH.le_un _ k19)) (PH.le_un _ k20)) x1.1 vr1_clauses (RoSl.mono (TblA.ro k19d k19a) (PH.le_un _ _)) ([(-1), 2, (-3), 4] : List Int) (.slice (some ⟨b15, 0, none⟩) 4 4) (OwnSl.ro k20d k20a) k20h x10 ex10) Ret.ret ?_
                          intro v a w hR hE
                          obtain ⟨rfl, hp⟩ := Ret.of hR
                          have hp := Hp.back k20a k20d hp
                          have hp := Hp.back k19a k19d hp
                          have hp : Hp Z (ρ.un k1) (_ :: _ :: _ :: _ :: _ :: _ :: _ :: _ :: _ :: _ :: L) w := hp
                          refine s_val (wk0 rfl) rfl rfl hE hp (v := (.bool x10)) (ex_pick1 rfl hE rfl hc11 rfl) ?_
                          intro a hE
                          obtain rfl := Option.some.inj hg6
                          exact s_nil ⟨hE.cut ⟨rfl, trivial⟩, (((((((((((hp.get 9 rfl).get 9 rfl).get 9 rfl).get 9 rfl).get 4 rfl).get 9 rfl).get 9 rfl).get 9 rfl).get 9 rfl).get 9 rfl).drop)⟩
                        ·
                          replace hg6 := (ie hc11).symm.trans hg6
                          refine s_skip (wk2 hE rfl rfl rfl hc11) rfl rfl hE ?_
                          intro a hE
                          refine s_skip (wk2 hE rfl rfl rfl hc11) rfl rfl hE ?_
                          intro a hE
                          refine s_skip (wk2 hE rfl rfl rfl hc11) rfl rfl hE ?_
                          intro a hE
                          refine s_val (wk0 rfl) rfl rfl hE hp (v := (.bool false)) (ex_pick0 rfl hE rfl hc11 rfl) ?_
                          intro a hE
                          obtain rfl := Option.some.inj hg6
                          exact s_nil ⟨hE.cut ⟨rfl, trivial⟩, hp⟩
                      · rintro a w ⟨hE, hp⟩
                        refine s_val (wk0 rfl) rfl rfl hE hp (v := (.bool m6)) (ex_move rfl hE rfl) ?_
                        intro a hE
                        obtain ⟨m7, hg7, hm⟩ := bnd hm
                        refine s_cut [_, _, _] (fun a w => Env 94 [(93, (.bool m7))] a ∧ Hp Z (ρ.un k1) (Pt b6 (.cells #[(.int .i64 x4.1.vars), vr8_clauses] 24 (0, 0)) :: TblA 25 3 vr8_clauses usr8_clauses (x4.1.clauses : (List (List Int))) :: OwnSl 3 (.slice (some ⟨b5, 0, none⟩) 3 3) ([3, (-2), 3] : List Int) :: OwnSl 3 vr6 x3.1 :: TblA 25 3 vr1_clauses usr1_clauses (x1.1.clauses : (List (List Int))) :: OwnSl 3 (.slice (some ⟨b4, 0, none⟩) 2 2) ([2, (-3)] : List Int) :: OwnSl 3 vr3 x2.1 :: Pt b3 (.cells #[(.int .i64 x1.1.vars), vr1_clauses] 24 (0, 0)) :: OwnSl 3 (.slice (some ⟨b2, 0, none⟩) 1 1) ([6] : List Int) :: L) w) ?_ ?_
                        · rcases Bool.eq_false_or_eq_true m6 with hc12 | hc12
                          ·
                            replace hg7 := (it hc12).symm.trans hg7
                            obtain ⟨x11, ex11, hg7⟩ := bnd hg7
                            refine s_call (wk1 hE rfl rfl rfl hc12) rfl rfl hE rfl [(.int .i64 5)] ⟨rfl, trivial⟩ ent19 (c_cnf_Literal (Tabs.mono hT (PH.le_un _ k1)) 5 hp x11 ex11) Ret.ret ?_
                            intro v a w hR hE
                            obtain ⟨rfl, hp⟩ := Ret.of hR
                            have hp : Hp Z (ρ.un k1) (_ :: _ :: _ :: _ :: _ :: _ :: _ :: _ :: _ :: L) w := hp
                            refine s_val (wk1 hE rfl rfl rfl hc12) rfl rfl hE hp (v := (.bool (decide (x11 = (-3))))) (ex_eql rfl hE rfl rfl) ?_
                            intro a hE
                            refine s_val (wk0 rfl) rfl rfl hE hp (v := (.bool (decide (x11 = (-3))))) (ex_pick1 rfl hE rfl hc12 rfl) ?_
                            intro a hE
                            obtain rfl := Option.some.inj hg7
                            exact s_nil ⟨hE.cut ⟨rfl, trivial⟩, hp⟩
                          ·
                            replace hg7 := (ie hc12).symm.trans hg7
                            refine s_skip (wk2 hE rfl rfl rfl hc12) rfl rfl hE ?_
                            intro a hE
                            refine s_skip (wk2 hE rfl rfl rfl hc12) rfl rfl hE ?_
                            intro a hE
                            refine s_val (wk0 rfl) rfl rfl hE hp (v := (.bool false)) (ex_pick0 rfl hE rfl hc12 rfl) ?_
                            intro a hE
                            obtain rfl := Option.some.inj hg7
                            exact s_nil ⟨hE.cut ⟨rfl, trivial⟩, hp⟩
                        · rintro a w ⟨hE, hp⟩
                          refine s_val (wk0 rfl) rfl rfl hE hp (v := (.bool m7)) (ex_asn rfl hE rfl) ?_
                          intro a hE
                          refine s_nil ?_
                          refine k_ret ?_
                          obtain rfl := Option.some.inj hm
                          exact ret1 hE rfl rfl ⟨_, rfl, rfl, ((((((((((((((((((hp.get 8 rfl).drop).get 7 rfl).drop).get 6 rfl).drop).get 5 rfl).drop).get 4 rfl).drop).get 3 rfl).drop).get 2 rfl).drop).get 1 rfl).drop).drop).less (PH.le_un _ k1))⟩
end Go.Proofs.YtelioaepnpnojaaGreatDoor

/- The code goes as its model: assessor/assessorlaw26.CnfTranslates. (Printed by wip/sp/gen.py.) -/
set_option linter.unusedVariables false
set_option linter.unusedSimpArgs false
namespace Go.Proofs.YtelioaepnpnojaaGreatDoor
open Go.RowKit
set_option maxRecDepth 100000 in
set_option maxHeartbeats 4000000 in
theorem c_assessorlaw26_CnfTranslates {Z : World} {ρ : PH} {L : List Atom} {w : World} (hT : Tabs ρ) (p0 : Gates) (vp0_gates : Value) (hp0_gates : RoSl ρ vp0_gates p0.gates) (p1 : (List Int)) (vp1 : Value) (hp1 : RoSl ρ vp1 p1) (hp : Hp Z ρ (L) w) (r : Bool) (hm : m_assessorlaw26_CnfTranslates p0 p1 = some r) :
    Calls Tryz.prog 4 #[(.agg #[(.int .i64 p0.inputs), vp0_gates]), vp1] w (Ret fun v w' => v = (.bool r) ∧ Hp Z ρ (L) w') := by
  refine enter (N := 40) Tryz.func4 rfl rfl [(0, (.agg #[(.int .i64 p0.inputs), vp0_gates])), (1, vp1)] rfl (argsIn_mem ⟨rfl, rfl, trivial⟩) fun a hE => ?_
  unfold m_assessorlaw26_CnfTranslates at hm
  refine k_seq ?_
  refine k_region ?_
  refine s_box (wk0 rfl) rfl rfl hE hp rfl (v := (.agg #[(.int .i64 p0.inputs), vp0_gates])) rfl ?_
  intro a w b1 hE hp
  have hp : Hp Z ρ (Pt b1 (.cells #[(.int .i64 p0.inputs), vp0_gates] 38 (0, 0)) :: L) w := hp
  refine s_val (wk0 rfl) rfl rfl hE hp (v := (.bool false)) (ex_asn rfl hE rfl) ?_
  intro a hE
  refine s_nil ?_
  refine k_seq ?_
  refine k_seq ?_
  refine k_region ?_
  obtain ⟨x1, ex1, hm⟩ := bnd hm
  refine s_call (wk0 rfl) rfl rfl hE rfl [] trivial ent10 (c_assessorlaw26_awake hT hp x1 ex1) Ret.ret ?_
  intro v a w hR hE
  obtain ⟨rfl, hp⟩ := Ret.of hR
  have hp : Hp Z ρ (_ :: L) w := hp
  refine s_val (wk0 rfl) rfl rfl hE hp (v := (.bool (!x1))) (ex_not rfl hE rfl) ?_
  intro a hE
  refine s_nil ?_
  refine k_if hE rfl (fun hc1 => ?_) (fun hc1 => ?_)
  · replace hm := (it hc1).symm.trans hm
    refine k_seq ?_
    refine k_region ?_
    refine s_val (wk0 rfl) rfl rfl hE hp (v := (.bool false)) (ex_asn rfl hE rfl) ?_
    intro a hE
    refine s_nil ?_
    refine k_ret ?_
    obtain rfl := Option.some.inj hm
    exact ret1 hE rfl rfl ⟨_, rfl, rfl, (hp.drop)⟩
  · replace hm := (ie hc1).symm.trans hm
    refine k_skip ?_
    refine k_seq ?_
    refine k_seq ?_
    refine k_region ?_
    refine s_val (wk0 rfl) rfl rfl hE hp (v := (.pointer (some ⟨b1, 1, none⟩))) (ex_field rfl hE rfl (fldty38_1 _ _)) ?_
    intro a hE
    refine s_val (wk0 rfl) rfl rfl hE hp (v := vp0_gates) (ex_load rfl hE rfl (fun w hw => run_ld1 varty36 (Hp.c 0 rfl 1 rfl w hw))) ?_
    intro a hE
    refine s_val (wk0 rfl) rfl rfl hE hp (v := (.int .i64 (p0.gates.length : Int))) (ex_len rfl hE rfl (RoSl.len hp0_gates slty36)) ?_
    intro a hE
    refine s_val (wk0 rfl) rfl rfl hE hp (v := (.bool (decide (40 < (p0.gates.length : Int))))) (ex_gtr rfl hE rfl rfl) ?_
    intro a hE
    refine s_val (wk0 rfl) rfl rfl hE hp (v := (.bool (decide (40 < (p0.gates.length : Int))))) (ex_move rfl hE rfl) ?_
    intro a hE
    refine s_cut [_, _, _, _] (fun a w => Env 40 [(19, (.bool ((decide (40 < (p0.gates.length : Int))) || (decide (40 < (p1.length : Int)))))), (1, vp1), (2, (.pointer (some ⟨b1, 0, none⟩)))] a ∧ Hp Z ρ (Pt b1 (.cells #[(.int .i64 p0.inputs), vp0_gates] 38 (0, 0)) :: L) w) ?_ ?_
    · rcases Bool.eq_false_or_eq_true (decide (40 < (p0.gates.length : Int))) with hc2 | hc2
      ·
        refine s_skip (wk2 hE rfl rfl rfl hc2) rfl rfl hE ?_
        intro a hE
        refine s_skip (wk2 hE rfl rfl rfl hc2) rfl rfl hE ?_
        intro a hE
        refine s_skip (wk2 hE rfl rfl rfl hc2) rfl rfl hE ?_
        intro a hE
        refine s_val (wk0 rfl) rfl rfl hE hp (v := (.bool true)) (ex_pick1 rfl hE rfl hc2 rfl) ?_
        intro a hE
        have hE := hE.eqv (v' := (.bool ((decide (40 < (p0.gates.length : Int))) || (decide (40 < (p1.length : Int)))))) (by rw [hc2]; rfl)
        exact s_nil ⟨hE.cut ⟨rfl, rfl, rfl, trivial⟩, hp⟩
      ·
        refine s_val (wk1 hE rfl rfl rfl hc2) rfl rfl hE hp (v := vp1) (ex_move rfl hE rfl) ?_
        intro a hE
        refine s_val (wk1 hE rfl rfl rfl hc2) rfl rfl hE hp (v := (.int .i64 (p1.length : Int))) (ex_len rfl hE rfl (RoSl.len hp1 slty25)) ?_
        intro a hE
        refine s_val (wk1 hE rfl rfl rfl hc2) rfl rfl hE hp (v := (.bool (decide (40 < (p1.length : Int))))) (ex_gtr rfl hE rfl rfl) ?_
        intro a hE
        refine s_val (wk0 rfl) rfl rfl hE hp (v := (.bool (decide (40 < (p1.length : Int))))) (ex_pick0 rfl hE rfl hc2 rfl) ?_
        intro a hE
        have hE := hE.eqv (v' := (.bool ((decide (40 < (p0.gates.length : Int))) || (decide (40 < (p1.length : Int)))))) (by rw [hc2]; rfl)
        exact s_nil ⟨hE.cut ⟨rfl, rfl, rfl, trivial⟩, hp⟩
    · rintro a w ⟨hE, hp⟩
      refine s_nil ?_
      refine k_if hE rfl (fun hc3 => ?_) (fun hc3 => ?_)
      · replace hm := (it hc3).symm.trans hm
        refine k_seq ?_
        refine k_region ?_
        refine s_val (wk0 rfl) rfl rfl hE hp (v := (.bool true)) (ex_asn rfl hE rfl) ?_
        intro a hE
        refine s_nil ?_
        refine k_ret ?_
        obtain rfl := Option.some.inj hm
        exact ret1 hE rfl rfl ⟨_, rfl, rfl, (hp.drop)⟩
      · replace hm := (ie hc3).symm.trans hm
        refine k_skip ?_
        refine k_seq ?_
        refine k_region ?_
        refine s_val (wk0 rfl) rfl rfl hE hp (v := (.agg #[(.int .i64 p0.inputs), vp0_gates])) (ex_load rfl hE rfl (fun w hw => run_ldN (cs := [(.int .i64 p0.inputs), vp0_gates]) varty38 (Hp.cN 0 rfl 0 _ (sub_all rfl) w hw))) ?_
        intro a hE
        refine s_val (wk0 rfl) rfl rfl hE hp (v := vp1) (ex_move rfl hE rfl) ?_
        intro a hE
        obtain ⟨x2, ex2, hm⟩ := bnd hm
        refine s_call (wk0 rfl) rfl rfl hE rfl [(.agg #[(.int .i64 p0.inputs), vp0_gates]), vp1] ⟨rfl, rfl, trivial⟩ ent21 (c_cnf_Translate hT p0 vp0_gates hp0_gates p1 vp1 hp1 hp x2 ex2) Ret.ret ?_
        intro v a w hR hE
        obtain ⟨vr2_clauses, usr2_clauses, rfl, hp⟩ := Ret.of hR
        have hp : Hp Z ρ (TblA 25 3 vr2_clauses usr2_clauses (x2.1.clauses : (List (List Int))) :: _ :: L) w := hp
        refine s_val (wk0 rfl) rfl rfl hE hp (v := (.tuple #[(.agg #[(.int .i64 x2.1.vars), vr2_clauses]), (.int .i64 x2.2)])) (ex_move rfl hE rfl) ?_
        intro a hE
        refine s_val (wk0 rfl) rfl rfl hE hp (v := (.agg #[(.int .i64 x2.1.vars), vr2_clauses])) (ex_extract rfl hE rfl rfl) ?_
        intro a hE
        refine s_val (wk0 rfl) rfl rfl hE hp (v := (.int .i64 x2.2)) (ex_extract rfl hE rfl rfl) ?_
        intro a hE
        refine s_new (wk0 rfl) rfl rfl hE hp rfl [(.int .i64 0), (.slice none 0 0)] (fun w => by simp [Instr.alloc, go_sem] <;> rfl) ?_
        intro a w b2 hE hp
        have hp : Hp Z ρ (Pt b2 (.cells #[(.int .i64 0), (.slice none 0 0)] 24 (0, 0)) :: _ :: _ :: L) w := hp
        refine s_store (wk0 rfl) rfl hE hp rfl rfl rfl 0 rfl varty24.size_ rfl (allOne_mem ⟨rfl, (TblA.one hp 1 rfl), trivial⟩) [(.int .i64 x2.1.vars), vr2_clauses] rfl ?_
        intro w hp
        have hp : Hp Z ρ (Pt b2 (.cells #[(.int .i64 x2.1.vars), vr2_clauses] 24 (0, 0)) :: _ :: _ :: L) w := hp
        refine s_val (wk0 rfl) rfl rfl hE hp (v := (.int .i64 x2.2)) (ex_asn rfl hE rfl) ?_
        intro a hE
        refine s_nil ?_
        refine k_seq ?_
        refine k_region ?_
        refine s_val (wk0 rfl) rfl rfl hE hp (v := (.agg #[(.int .i64 p0.inputs), vp0_gates])) (ex_load rfl hE rfl (fun w hw => run_ldN (cs := [(.int .i64 p0.inputs), vp0_gates]) varty38 (Hp.cN 2 rfl 0 _ (sub_all rfl) w hw))) ?_
        intro a hE
        refine s_val (wk0 rfl) rfl rfl hE hp (v := vp1) (ex_move rfl hE rfl) ?_
        intro a hE
        obtain ⟨x3, ex3, hm⟩ := bnd hm
        refine s_call (wk0 rfl) rfl rfl hE rfl [(.agg #[(.int .i64 p0.inputs), vp0_gates]), vp1] ⟨rfl, rfl, trivial⟩ ent22 (c_assessorref26_Translate hT p0 vp0_gates hp0_gates p1 vp1 hp1 hp x3 ex3) Ret.ret ?_
        intro v a w hR hE
        obtain ⟨vr4_clauses, usr4_clauses, rfl, hp⟩ := Ret.of hR
        have hp : Hp Z ρ (TblA 25 3 vr4_clauses usr4_clauses (x3.1.clauses : (List (List Int))) :: _ :: _ :: _ :: L) w := hp
        refine s_val (wk0 rfl) rfl rfl hE hp (v := (.tuple #[(.agg #[(.int .i64 x3.1.vars), vr4_clauses]), (.int .i64 x3.2)])) (ex_move rfl hE rfl) ?_
        intro a hE
        refine s_val (wk0 rfl) rfl rfl hE hp (v := (.agg #[(.int .i64 x3.1.vars), vr4_clauses])) (ex_extract rfl hE rfl rfl) ?_
        intro a hE
        refine s_val (wk0 rfl) rfl rfl hE hp (v := (.int .i64 x3.2)) (ex_extract rfl hE rfl rfl) ?_
        intro a hE
        refine s_new (wk0 rfl) rfl rfl hE hp rfl [(.int .i64 0), (.slice none 0 0)] (fun w => by simp [Instr.alloc, go_sem] <;> rfl) ?_
        intro a w b3 hE hp
        have hp : Hp Z ρ (Pt b3 (.cells #[(.int .i64 0), (.slice none 0 0)] 24 (0, 0)) :: _ :: _ :: _ :: _ :: L) w := hp
        refine s_store (wk0 rfl) rfl hE hp rfl rfl rfl 0 rfl varty24.size_ rfl (allOne_mem ⟨rfl, (TblA.one hp 1 rfl), trivial⟩) [(.int .i64 x3.1.vars), vr4_clauses] rfl ?_
        intro w hp
        have hp : Hp Z ρ (Pt b3 (.cells #[(.int .i64 x3.1.vars), vr4_clauses] 24 (0, 0)) :: _ :: _ :: _ :: _ :: L) w := hp
        refine s_val (wk0 rfl) rfl rfl hE hp (v := (.int .i64 x3.2)) (ex_asn rfl hE rfl) ?_
        intro a hE
        refine s_nil ?_
        refine k_seq ?_
        refine k_region ?_
        refine s_val (wk0 rfl) rfl rfl hE hp (v := (.agg #[(.int .i64 x2.1.vars), vr2_clauses])) (ex_load rfl hE rfl (fun w hw => run_ldN (cs := [(.int .i64 x2.1.vars), vr2_clauses]) varty24 (Hp.cN 2 rfl 0 _ (sub_all rfl) w hw))) ?_
        intro a hE
        refine s_val (wk0 rfl) rfl rfl hE hp (v := (.agg #[(.int .i64 x3.1.vars), vr4_clauses])) (ex_load rfl hE rfl (fun w hw => run_ldN (cs := [(.int .i64 x3.1.vars), vr4_clauses]) varty24 (Hp.cN 0 rfl 0 _ (sub_all rfl) w hw))) ?_
        intro a hE
        obtain ⟨k1, k1a, k1d, k1h⟩ := (hp.get 3 rfl).lend
        obtain ⟨k2, k2a, k2d, k2h⟩ := (k1h.get 1 rfl).lend
        obtain ⟨x4, ex4, hm⟩ := bnd hm
        refine s_call (wk0 rfl) rfl rfl hE rfl [(.agg #[(.int .i64 x2.1.vars), vr2_clauses]), (.agg #[(.int .i64 x3.1.vars), vr4_clauses])] ⟨rfl, rfl, trivial⟩ ent23 (c_assessorref26_Same (Tabs.mono (Tabs.mono hT (PH.le_un _ k1)) (PH.le_un _ k2)) x2.1 vr2_clauses (RoSl.mono (TblA.ro k1d k1a) (PH.le_un _ _)) x3.1 vr4_clauses (TblA.ro k2d k2a) k2h x4 ex4) Ret.ret ?_
        intro v a w hR hE
        obtain ⟨rfl, hp⟩ := Ret.of hR
        have hp := Hp.back k2a k2d hp
        have hp := Hp.back k1a k1d hp
        have hp : Hp Z ρ (_ :: _ :: _ :: _ :: _ :: L) w := hp
        refine s_val (wk0 rfl) rfl rfl hE hp (v := (.bool x4)) (ex_move rfl hE rfl) ?_
        intro a hE
        refine s_cut [_, _, _, _] (fun a w => Env 40 [(39, (.bool (x4 && (decide (x2.2 = x3.2)))))] a ∧ Hp Z ρ (TblA 25 3 vr2_clauses usr2_clauses (x2.1.clauses : (List (List Int))) :: TblA 25 3 vr4_clauses usr4_clauses (x3.1.clauses : (List (List Int))) :: Pt b3 (.cells #[(.int .i64 x3.1.vars), vr4_clauses] 24 (0, 0)) :: Pt b2 (.cells #[(.int .i64 x2.1.vars), vr2_clauses] 24 (0, 0)) :: Pt b1 (.cells #[(.int .i64 p0.inputs), vp0_gates] 38 (0, 0)) :: L) w) ?_ ?_
        · rcases Bool.eq_false_or_eq_true x4 with hc4 | hc4
          ·
            refine s_val (wk1 hE rfl rfl rfl hc4) rfl rfl hE hp (v := (.int .i64 x2.2)) (ex_move rfl hE rfl) ?_
            intro a hE
            refine s_val (wk1 hE rfl rfl rfl hc4) rfl rfl hE hp (v := (.int .i64 x3.2)) (ex_move rfl hE rfl) ?_
            intro a hE
            refine s_val (wk1 hE rfl rfl rfl hc4) rfl rfl hE hp (v := (.bool (decide (x2.2 = x3.2)))) (ex_eql rfl hE rfl rfl) ?_
            intro a hE
            refine s_val (wk0 rfl) rfl rfl hE hp (v := (.bool (decide (x2.2 = x3.2)))) (ex_pick1 rfl hE rfl hc4 rfl) ?_
            intro a hE
            have hE := hE.eqv (v' := (.bool (x4 && (decide (x2.2 = x3.2))))) (by rw [hc4]; rfl)
            exact s_nil ⟨hE.cut ⟨rfl, trivial⟩, hp⟩
          ·
            refine s_skip (wk2 hE rfl rfl rfl hc4) rfl rfl hE ?_
            intro a hE
            refine s_skip (wk2 hE rfl rfl rfl hc4) rfl rfl hE ?_
            intro a hE
            refine s_skip (wk2 hE rfl rfl rfl hc4) rfl rfl hE ?_
            intro a hE
            refine s_val (wk0 rfl) rfl rfl hE hp (v := (.bool false)) (ex_pick0 rfl hE rfl hc4 rfl) ?_
            intro a hE
            have hE := hE.eqv (v' := (.bool (x4 && (decide (x2.2 = x3.2))))) (by rw [hc4]; rfl)
            exact s_nil ⟨hE.cut ⟨rfl, trivial⟩, hp⟩
        · rintro a w ⟨hE, hp⟩
          refine s_val (wk0 rfl) rfl rfl hE hp (v := (.bool (x4 && (decide (x2.2 = x3.2))))) (ex_asn rfl hE rfl) ?_
          intro a hE
          refine s_nil ?_
          refine k_ret ?_
          obtain rfl := Option.some.inj hm
          exact ret1 hE rfl rfl ⟨_, rfl, rfl, (((((((((hp.get 4 rfl).drop).get 3 rfl).drop).get 2 rfl).drop).get 1 rfl).drop).drop)⟩
end Go.Proofs.YtelioaepnpnojaaGreatDoor

/- Maps from integers whose entries are told in the order of the keys, wherever they lie. Plain theorems over any program. -/
set_option linter.unusedVariables false
set_option linter.unusedSimpArgs false
namespace Go.Proofs.YtelioaepnpnojaaGreatDoor
open Vl (vl)
open Go.RowKit
section
variable {β : Type}
end
def MapU {β : Type} [Vl β] (b : Nat) (l : List (Int × β)) : Atom := fun h => ∃ l', MapA b l' h ∧ l'.Perm l
section
variable {Rn : Option Nat} {P : Program} {ops : Array Oper} {Q : Exit → Act → World → Prop} {rest : List Oper} {o : Oper} {a : Act} {w : World} {Df : List Deferred} {N : Nat} {E : Ent} {d : Nat} {Z : World} {ρ : PH} {L : List Atom}
variable {β : Type} [Vl β] {b : Nat} {l : List (Int × β)}
theorem MapU.of (h : Hp Z ρ (MapA b l :: L) w) : Hp Z ρ (MapU b l :: L) w := h.imp fun _ k => ⟨l, k, List.Perm.refl _⟩
theorem MapU.shut {l' : List (Int × β)} (h : Hp Z ρ (MapA b l' :: L) w) (hp : l'.Perm l) : Hp Z ρ (MapU b l :: L) w := h.imp fun _ k => ⟨l', k, hp⟩
end
end Go.Proofs.YtelioaepnpnojaaGreatDoor

/- Words for plain laws: loops that count, part steps that do not fail, sorted lists. No program is named. -/
set_option linter.unusedVariables false
set_option linter.unusedSimpArgs false
namespace Go.Proofs.YtelioaepnpnojaaGreatDoor
open Go.RowKit
theorem loop_at {σ β : Type} {body : σ → Option (Step σ β)} {b : β} (S : Nat → σ) : ∀ (n : Nat), (∀ k, k < n → body (S k) = some (.next (S (k + 1)))) → body (S n) = some (.done b) → loopM body (S 0) = some b
  | 0, _, h => loopM_done h
  | n + 1, h1, h2 => by
    rw [loopM_next (h1 0 (by omega))]
    exact loop_at (fun k => S (k + 1)) n (fun k hk => h1 (k + 1) (by omega)) h2
theorem loop_from {σ β : Type} {body : σ → Option (Step σ β)} {b : β} {s : σ} (S : Nat → σ) (n : Nat) (h0 : s = S 0) (h1 : ∀ k, k < n → body (S k) = some (.next (S (k + 1)))) (h2 : body (S n) = some (.done b)) : loopM body s = some b := by
  rw [h0]; exact loop_at S n h1 h2
theorem inK_eq {n : Int} (h : -9223372036854775808 ≤ n ∧ n ≤ 9223372036854775807) : inK .i64 n = some n := inK_ok n h.1 h.2
theorem idx_nat {α : Type} {l : List α} {k : Nat} {a : α} (h : l[k]? = some a) : idx l (k : Int) = some a := by
  unfold idx; rw [if_pos (by omega)]; simpa using h
theorem idx_of {α : Type} {l : List α} {i : Int} {a : α} (h0 : 0 ≤ i) (h : l[i.toNat]? = some a) : idx l i = some a := by
  unfold idx; rw [if_pos h0, h]
theorem get_of_lt {α : Type} {l : List α} {k : Nat} (h : k < l.length) : ∃ a, l[k]? = some a := ⟨_, List.getElem?_eq_getElem h⟩
theorem app_ok {α : Type} {l m : List α} (h : l.length + m.length ≤ 4294967296) : app l m = some (l ++ m) := by unfold app; rw [if_pos h]
theorem sub_ok {α : Type} {l : List α} {i j : Int} (h0 : 0 ≤ i) (h1 : i ≤ j) (h2 : j ≤ l.length) : sub l i j = some ((l.take j.toNat).drop i.toNat) := by unfold sub; rw [if_pos ⟨h0, h1, h2⟩]
theorem remK_pos {m n : Int} (hm : 0 ≤ m) (hn : 0 < n) : remK m n = some (m % n) := by
  unfold remK
  rw [if_pos (by omega), Int.tmod_eq_emod_of_nonneg hm]
theorem quoK_pos {m n : Int} (hm : 0 ≤ m) (hn : 0 < n) (h : m ≤ 9223372036854775807) : quoK .i64 m n = some (m / n) := by
  unfold quoK
  have h1 : m.tdiv n = m / n := Int.tdiv_eq_ediv_of_nonneg hm
  have h2 : 0 ≤ m / n := Int.ediv_nonneg hm (by omega)
  have h3 : m / n ≤ m := Int.ediv_le_self n hm
  rw [h1, if_pos ⟨by omega, by rw [IntKind.wrap_i64]; omega⟩]
theorem mkc_ok {α : Type} {n c : Int} {z : α} (h : 0 ≤ n ∧ n ≤ c ∧ c ≤ 4294967296) : mkc n c z = some (List.replicate n.toNat z) := by unfold mkc; rw [if_pos h]
theorem catK_ok {a b : ByteArray} (h : a.size + b.size ≤ 4294967296) : catK a b = some (a ++ b) := by unfold catK; rw [if_pos h]
theorem I64.r {n : Int} (h : (Lit.int .i64 n).wf = true) : -9223372036854775808 ≤ n ∧ n ≤ 9223372036854775807 := by
  simp [Lit.wf, IntKind.min, IntKind.max, IntKind.signed, IntKind.bits] at h
  exact ⟨by omega, by omega⟩
theorem U8.r {n : Int} (h : (Lit.int .u8 n).wf = true) : 0 ≤ n ∧ n ≤ 255 := by
  simp [Lit.wf, IntKind.min, IntKind.max, IntKind.signed, IntKind.bits] at h
  omega
theorem first_or {α : Type} (p : α → Bool) : ∀ (l : List α), (∃ k a, l[k]? = some a ∧ p a = true ∧ (∀ j b, j < k → l[j]? = some b → p b = false) ∧ l.any p = true ∧ l.findIdx p = k) ∨ ((∀ a ∈ l, p a = false) ∧ l.any p = false ∧ l.findIdx p = l.length)
  | [] => Or.inr ⟨by simp, rfl, rfl⟩
  | x :: l => by
    cases hx : p x with
    | true => exact Or.inl ⟨0, x, rfl, hx, fun j b hj => by omega, by simp [hx], by simp [List.findIdx_cons, hx]⟩
    | false =>
      rcases first_or p l with ⟨k, a, h1, h2, h3, h4, h5⟩ | ⟨h1, h2, h3⟩
      · refine Or.inl ⟨k + 1, a, by simpa using h1, h2, fun j b hj hb => ?_, by simp [hx, h4], by simp [List.findIdx_cons, hx, h5]⟩
        cases j with
        | zero => simp at hb; subst hb; exact hx
        | succ j => exact h3 j b (by omega) (by simpa using hb)
      · refine Or.inr ⟨fun a ha => ?_, by simp [hx, h2], by simp [List.findIdx_cons, hx, h3]⟩
        rcases List.mem_cons.1 ha with rfl | ha
        · exact hx
        · exact h1 a ha
theorem scan_loop {α β : Type} {body : Int → Option (Step Int β)} (l : List α) (p : α → Bool) (hit : Nat → α → β) (miss : β)
    (h1 : ∀ (k : Nat) a, l[k]? = some a → body k = some (if p a = true then .done (hit k a) else .next ((k + 1 : Nat) : Int))) (h2 : body (l.length : Int) = some (.done miss)) :
    (∃ k a, l[k]? = some a ∧ p a = true ∧ (∀ j b, j < k → l[j]? = some b → p b = false) ∧ l.any p = true ∧ l.findIdx p = k ∧ loopM body 0 = some (hit k a)) ∨ ((∀ a ∈ l, p a = false) ∧ l.any p = false ∧ l.findIdx p = l.length ∧ loopM body 0 = some miss) := by
  rcases first_or p l with ⟨k, a, a1, a2, a3, a4, a5⟩ | ⟨a1, a2, a3⟩
  · refine Or.inl ⟨k, a, a1, a2, a3, a4, a5, loop_from (fun j => (j : Int)) k rfl (fun j hj => ?_) ?_⟩
    · obtain ⟨b, hb⟩ := get_of_lt (show j < l.length by have := (List.getElem?_eq_some_iff.1 a1).1; omega)
      rw [h1 j b hb, a3 j b hj hb]; rfl
    · rw [h1 k a a1, a2]; rfl
  · refine Or.inr ⟨a1, a2, a3, loop_from (fun j => (j : Int)) l.length rfl (fun j hj => ?_) h2⟩
    obtain ⟨b, hb⟩ := get_of_lt hj
    rw [h1 j b hb, a1 b (List.mem_of_getElem? hb)]; rfl
theorem any_loop {α β : Type} {body : Int → Option (Step Int β)} (l : List α) (p : α → Bool) (hit miss : β)
    (h1 : ∀ (k : Nat) a, l[k]? = some a → body k = some (if p a = true then .done hit else .next ((k + 1 : Nat) : Int))) (h2 : body (l.length : Int) = some (.done miss)) : loopM body 0 = some (if l.any p = true then hit else miss) := by
  rcases scan_loop l p (fun _ _ => hit) miss h1 h2 with ⟨k, a, _, _, _, h, _, e⟩ | ⟨_, h, _, e⟩
  · rw [e, h]; rfl
  · rw [e, h]; rfl
theorem same_loop {α β : Type} [DecidableEq α] {body : Int → Option (Step Int β)} {a b : List α} (hl : a.length = b.length) (hit miss : β)
    (h1 : ∀ (k : Nat) x y, a[k]? = some x → b[k]? = some y → body k = some (if x = y then .next ((k + 1 : Nat) : Int) else .done hit)) (h2 : body (a.length : Int) = some (.done miss)) : loopM body 0 = some (if a = b then miss else hit) := by
  have hzl : (a.zip b).length = a.length := by rw [List.length_zip]; omega
  have hz : (a.zip b).any (fun p => decide (p.1 ≠ p.2)) = decide (a ≠ b) := by
    clear h1 h2 hzl
    induction a generalizing b with
    | nil => cases b with
      | nil => simp
      | cons y b => simp at hl
    | cons x a ih => cases b with
      | nil => simp at hl
      | cons y b =>
        simp only [List.length_cons, Nat.add_right_cancel_iff] at hl
        simp only [List.zip_cons_cons, List.any_cons, ih hl, ne_eq, List.cons.injEq]
        by_cases hx : x = y <;> by_cases hb : a = b <;> simp [hx, hb]
  have := any_loop (body := body) (a.zip b) (fun p => decide (p.1 ≠ p.2)) hit miss (fun k p hp => by
    obtain ⟨x, y⟩ := p
    have hk := (List.getElem?_eq_some_iff.1 hp).1
    rw [hzl] at hk
    obtain ⟨x', hx⟩ := get_of_lt hk
    obtain ⟨y', hy⟩ := get_of_lt (show k < b.length by omega)
    rw [List.getElem?_zip_eq_some] at hp
    rw [h1 k x y hp.1 hp.2]
    by_cases h : x = y <;> simp [h]) (by rw [hzl]; exact h2)
  rw [this, hz]
  by_cases h : a = b <;> simp [h]
theorem bind_any {α β γ : Type} {body : Int → Option (Step Int β)} {f : β → Option γ} {r : Option γ} (l : List α) (p : α → Bool) (hit miss : β)
    (h1 : ∀ (k : Nat) a, l[k]? = some a → body k = some (if p a = true then .done hit else .next ((k + 1 : Nat) : Int))) (h2 : body (l.length : Int) = some (.done miss)) (hf : f (if l.any p = true then hit else miss) = r) : (loopM body 0).bind f = r := by
  rw [any_loop l p hit miss h1 h2]; exact hf
theorem bind_same {α β γ : Type} [DecidableEq α] {body : Int → Option (Step Int β)} {f : β → Option γ} {r : Option γ} {a b : List α} (hl : a.length = b.length) (hit miss : β)
    (h1 : ∀ (k : Nat) x y, a[k]? = some x → b[k]? = some y → body k = some (if x = y then .next ((k + 1 : Nat) : Int) else .done hit)) (h2 : body (a.length : Int) = some (.done miss)) (hf : f (if a = b then miss else hit) = r) : (loopM body 0).bind f = r := by
  rw [same_loop hl hit miss h1 h2]; exact hf
theorem drop_cons_of {α : Type} {l : List α} {k : Nat} {a : α} (h : l[k]? = some a) : l.drop k = a :: l.drop (k + 1) := by
  obtain ⟨h1, h2⟩ := List.getElem?_eq_some_iff.1 h
  rw [← h2]; exact List.drop_eq_getElem_cons h1
theorem take_snoc_of {α : Type} {l : List α} {k : Nat} {a : α} (h : l[k]? = some a) : l.take (k + 1) = l.take k ++ [a] := by
  obtain ⟨h1, h2⟩ := List.getElem?_eq_some_iff.1 h
  rw [← h2]; exact List.take_succ_eq_append_getElem h1
theorem rising_ext {α : Type} {r : α → α → Prop} (irr : ∀ a, ¬ r a a) (tr : ∀ a b c, r a b → r b c → r a c) : ∀ {l m : List α}, l.Pairwise r → m.Pairwise r → (∀ x, x ∈ l ↔ x ∈ m) → l = m
  | [], [], _, _, _ => rfl
  | [], b :: m, _, _, h => by have := (h b).2 (List.mem_cons_self ..); simp at this
  | a :: l, [], _, _, h => by have := (h a).1 (List.mem_cons_self ..); simp at this
  | a :: l, b :: m, hl, hm, h => by
    obtain ⟨l1, l2⟩ := List.pairwise_cons.1 hl
    obtain ⟨m1, m2⟩ := List.pairwise_cons.1 hm
    have e : a = b := by
      rcases List.mem_cons.1 ((h a).1 (List.mem_cons_self ..)) with e | h1
      · exact e
      · rcases List.mem_cons.1 ((h b).2 (List.mem_cons_self ..)) with e | h2
        · exact e.symm
        · exact absurd (tr _ _ _ (m1 a h1) (l1 b h2)) (irr b)
    subst e
    congr 1
    refine rising_ext irr tr l2 m2 fun x => ?_
    constructor
    · intro hx
      rcases List.mem_cons.1 ((h x).1 (List.mem_cons_of_mem _ hx)) with e | h1
      · subst e; exact absurd (l1 x hx) (irr x)
      · exact h1
    · intro hx
      rcases List.mem_cons.1 ((h x).2 (List.mem_cons_of_mem _ hx)) with e | h1
      · subst e; exact absurd (m1 x hx) (irr x)
      · exact h1
theorem mget_mput {κ β : Type} [DecidableEq κ] (l : List (κ × β)) (k x : κ) (v : β) : mget (mput l k v) x = if x = k then some v else mget l x := by
  induction l with
  | nil => by_cases h : k = x <;> simp [mput, mget, h, eq_comm]
  | cons p l ih =>
    unfold mput
    by_cases h : p.1 = k
    · rw [if_pos h]
      by_cases hx : x = k
      · subst hx; simp [mget]
      · have h1 : ¬ k = x := fun e => hx e.symm
        have h2 : ¬ p.1 = x := fun e => hx (e.symm.trans h)
        simp [mget, List.find?_cons, hx, h1, h2]
    · rw [if_neg h]
      by_cases hx : p.1 = x
      · have h3 : ¬ x = k := fun e => h (hx.trans e)
        simp [mget, List.find?_cons, hx, h3]
      · unfold mget at ih ⊢
        rw [List.find?_cons_of_neg (by simpa using hx), List.find?_cons_of_neg (by simpa using hx)]
        exact ih
end Go.Proofs.YtelioaepnpnojaaGreatDoor

/- Loops over lists with a state, and small words for plain laws. No program is named. -/
set_option linter.unusedVariables false
set_option linter.unusedSimpArgs false
namespace Go.Proofs.YtelioaepnpnojaaGreatDoor
open Go.RowKit
def runL {α τ β : Type} (f : α → τ → Step τ β) (g : τ → β) : List α → τ → β
  | [], t => g t
  | a :: l, t => match f a t with
    | .next t' => runL f g l t'
    | .done b => b
theorem loopL {α τ S β : Type} {body : S → Option (Step S β)} {s0 : S} (l : List α) (E : Nat → τ → S) (f : α → τ → Step τ β) (g : τ → β) (I : Nat → τ → Prop) {t0 : τ} (hs0 : s0 = E 0 t0) (h0 : I 0 t0)
    (hs : ∀ k a t, l[k]? = some a → I k t → body (E k t) = some (match f a t with | .next t' => .next (E (k + 1) t') | .done b => .done b) ∧ (∀ t', f a t = .next t' → I (k + 1) t'))
    (he : ∀ t, I l.length t → body (E l.length t) = some (.done (g t))) : loopM body s0 = some (runL f g l t0) := by
  have key : ∀ (m k : Nat) (t : τ), k + m = l.length → I k t → loopM body (E k t) = some (runL f g (l.drop k) t) := by
    intro m
    induction m with
    | zero =>
      intro k t hk hi
      have hk : k = l.length := by omega
      subst hk
      rw [loopM_done (he t hi), List.drop_length]; rfl
    | succ m ih =>
      intro k t hk hi
      obtain ⟨a, ha⟩ := get_of_lt (show k < l.length by omega)
      obtain ⟨h1, h2⟩ := hs k a t ha hi
      rw [drop_cons_of ha]
      unfold runL
      cases hf : f a t with
      | next t' =>
        rw [hf] at h1
        rw [loopM_next h1]
        exact ih (k + 1) t' (by omega) (h2 t' hf)
      | done b =>
        rw [hf] at h1
        exact loopM_done h1
  rw [hs0]
  simpa using key l.length 0 t0 (by omega) h0
theorem loopN {τ S β : Type} {body : S → Option (Step S β)} {s0 : S} (n : Nat) (E : Nat → τ → S) (I : Nat → τ → Prop) (Post : β → Prop) {t0 : τ} (hs0 : s0 = E 0 t0) (h0 : I 0 t0)
    (hs : ∀ k t, k < n → I k t → (∃ t', body (E k t) = some (.next (E (k + 1) t')) ∧ I (k + 1) t') ∨ (∃ b, body (E k t) = some (.done b) ∧ Post b))
    (he : ∀ t, I n t → ∃ b, body (E n t) = some (.done b) ∧ Post b) : ∃ b, loopM body s0 = some b ∧ Post b := by
  have key : ∀ (m k : Nat) (t : τ), k + m = n → I k t → ∃ b, loopM body (E k t) = some b ∧ Post b := by
    intro m
    induction m with
    | zero =>
      intro k t hk hi
      obtain rfl : k = n := by omega
      obtain ⟨b, h1, h2⟩ := he t hi
      exact ⟨b, loopM_done h1, h2⟩
    | succ m ih =>
      intro k t hk hi
      rcases hs k t (by omega) hi with ⟨t', h1, h2⟩ | ⟨b, h1, h2⟩
      · obtain ⟨b, h3, h4⟩ := ih (k + 1) t' (by omega) h2
        exact ⟨b, by rw [loopM_next h1]; exact h3, h4⟩
      · exact ⟨b, loopM_done h1, h2⟩
  rw [hs0]
  exact key n 0 t0 (by omega) h0
theorem bsm {α β : Type} (a : α) (f : α → Option β) : (some a).bind f = f a := Eq.trans (congrArg (fun x => Option.bind x f) (Eq.refl (some a))) rfl
theorem len_lt {α : Type} {l : List α} {k : Nat} {a : α} (h : l[k]? = some a) : k < l.length := (List.getElem?_eq_some_iff.1 h).1
theorem mem_get {α : Type} {l : List α} {k : Nat} {a : α} (h : l[k]? = some a) : a ∈ l := List.mem_of_getElem? h
theorem inK_up {k : Nat} {n : Nat} (h : k < n) (hn : n ≤ 9223372036854775807) : inK .i64 ((k : Int) + 1) = some ((k + 1 : Nat) : Int) := by
  rw [inK_eq ⟨by omega, by omega⟩]; rfl
theorem inK_at {n m : Int} (e : n = m) (h : -9223372036854775808 ≤ m ∧ m ≤ 9223372036854775807) : inK .i64 n = some m := by rw [e]; exact inK_eq h
theorem ltB {k n : Nat} (h : k < n) : (decide ((k : Int) < (n : Int))) = true := by simpa using h
theorem ltB' {n : Nat} : ¬ (decide ((n : Int) < (n : Int))) = true := by simp
theorem vr_nn (l : Int) : 0 ≤ vr l := by unfold vr; omega
theorem vr_neg (l : Int) : vr (-l) = vr l := by unfold vr; omega
theorem vr_eq {l m : Int} : vr l = vr m ↔ l = m ∨ l = -m := by unfold vr; omega
theorem vr_le {l v : Int} : vr l ≤ v ↔ -v ≤ l ∧ l ≤ v := by unfold vr; omega
def clF (v : Int) : Int → List Int → Bool
  | _, [] => true
  | last, l :: r => decide (-v ≤ l) && decide (l ≤ v) && decide (last < vr l) && clF v (vr l) r
end Go.Proofs.YtelioaepnpnojaaGreatDoor

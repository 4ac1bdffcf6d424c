/- The code goes as its model: assessor/assessorlaw27.awake, assessor/assessorlaw27.small. (Printed by wip/sp/gen.py.) -/
import Derived.Test.YtfajmelamonolaaGreatDoorKNe4
import Derived.Test.YtfajmelamonolaaGreatDoorKNe8
import Derived.Test.YtfajmelamonolaaGreatDoorKNe9
set_option linter.unusedVariables false
set_option linter.unusedSimpArgs false
namespace Go.Proofs.YtfajmelamonolaaGreatDoor
open Go.RowKit
set_option maxRecDepth 100000 in
set_option maxHeartbeats 4000000 in
theorem c_assessorlaw27_awake {Z : World} {ρ : PH} {L : List Atom} {w : World} (hT : Tabs ρ) (hp : Hp Z ρ (L) w) (r : Bool) (hm : m_assessorlaw27_awake  = some r) :
    Calls Tryz.prog 5 #[] w (Ret fun v w' => v = (.bool r) ∧ Hp Z ρ (L) w') := by
  refine enter (N := 91) Tryz.func5 rfl rfl [] rfl (argsIn_mem trivial) fun a hE => ?_
  unfold m_assessorlaw27_awake at hm
  refine k_seq ?_
  refine k_region ?_
  refine s_val (wk0 rfl) rfl rfl hE hp (v := (.bool false)) (ex_asn rfl hE rfl) ?_
  intro a hE
  refine s_nil ?_
  refine k_seq ?_
  refine k_region ?_
  refine s_lit (wk0 rfl) rfl rfl hE hp rfl [(0, (.int .i64 1)), (1, (.int .i64 2))] ⟨⟨rfl, rfl⟩, ⟨rfl, rfl⟩, trivial⟩ [(.int .i64 1), (.int .i64 2)] 3 (fun w => by simp [Instr.buildSlice, Instr.fill, Value.cells, go_sem]) ?_
  intro a w b1 hE hp
  have hp : Hp Z ρ (Pt b1 (.cells #[(.int .i64 1), (.int .i64 2)] 3 (0, 0)) :: L) w := hp
  refine s_lit (wk0 rfl) rfl rfl hE hp rfl [(0, (.int .i64 1)), (1, (.int .i64 (-2)))] ⟨⟨rfl, rfl⟩, ⟨rfl, rfl⟩, trivial⟩ [(.int .i64 1), (.int .i64 (-2))] 3 (fun w => by simp [Instr.buildSlice, Instr.fill, Value.cells, go_sem]) ?_
  intro a w b2 hE hp
  have hp : Hp Z ρ (Pt b2 (.cells #[(.int .i64 1), (.int .i64 (-2))] 3 (0, 0)) :: _ :: L) w := hp
  refine s_lit (wk0 rfl) rfl rfl hE hp rfl [(0, (.int .i64 (-1))), (1, (.int .i64 2))] ⟨⟨rfl, rfl⟩, ⟨rfl, rfl⟩, trivial⟩ [(.int .i64 (-1)), (.int .i64 2)] 3 (fun w => by simp [Instr.buildSlice, Instr.fill, Value.cells, go_sem]) ?_
  intro a w b3 hE hp
  have hp : Hp Z ρ (Pt b3 (.cells #[(.int .i64 (-1)), (.int .i64 2)] 3 (0, 0)) :: _ :: _ :: L) w := hp
  refine s_lit (wk0 rfl) rfl rfl hE hp rfl [(0, (.int .i64 (-1))), (1, (.int .i64 (-2)))] ⟨⟨rfl, rfl⟩, ⟨rfl, rfl⟩, trivial⟩ [(.int .i64 (-1)), (.int .i64 (-2))] 3 (fun w => by simp [Instr.buildSlice, Instr.fill, Value.cells, go_sem]) ?_
  intro a w b4 hE hp
  have hp : Hp Z ρ (Pt b4 (.cells #[(.int .i64 (-1)), (.int .i64 (-2))] 3 (0, 0)) :: _ :: _ :: _ :: L) w := hp
  refine s_lit (wk0 rfl) rfl rfl hE hp rfl [(0, (.slice (some ⟨b1, 0, none⟩) 2 2)), (1, (.slice (some ⟨b2, 0, none⟩) 2 2)), (2, (.slice (some ⟨b3, 0, none⟩) 2 2)), (3, (.slice (some ⟨b4, 0, none⟩) 2 2))] ⟨⟨rfl, rfl⟩, ⟨rfl, rfl⟩, ⟨rfl, rfl⟩, ⟨rfl, rfl⟩, trivial⟩ [(.slice (some ⟨b1, 0, none⟩) 2 2), (.slice (some ⟨b2, 0, none⟩) 2 2), (.slice (some ⟨b3, 0, none⟩) 2 2), (.slice (some ⟨b4, 0, none⟩) 2 2)] 25 (fun w => by simp [Instr.buildSlice, Instr.fill, Value.cells, go_sem]) ?_
  intro a w b5 hE hp
  have hp : Hp Z ρ (Pt b5 (.cells #[(.slice (some ⟨b1, 0, none⟩) 2 2), (.slice (some ⟨b2, 0, none⟩) 2 2), (.slice (some ⟨b3, 0, none⟩) 2 2), (.slice (some ⟨b4, 0, none⟩) 2 2)] 25 (0, 0)) :: _ :: _ :: _ :: _ :: L) w := hp
  have hp := (hp.get 4 rfl).imp (own_of_pt (l := (([1, 2] : List Int) : List Int)) (n := 2) rfl (by decide) rfl)
  have hp : Hp Z ρ (OwnSl 3 (.slice (some ⟨b1, 0, none⟩) 2 2) ([1, 2] : List Int) :: _ :: _ :: _ :: _ :: L) w := hp
  have hp : Hp Z ρ (_ :: _ :: _ :: _ :: _ :: L) w := hp
  have hp := (hp.get 4 rfl).imp (own_of_pt (l := (([1, (-2)] : List Int) : List Int)) (n := 2) rfl (by decide) rfl)
  have hp : Hp Z ρ (OwnSl 3 (.slice (some ⟨b2, 0, none⟩) 2 2) ([1, (-2)] : List Int) :: _ :: _ :: _ :: _ :: L) w := hp
  have hp : Hp Z ρ (_ :: _ :: _ :: _ :: _ :: L) w := hp
  have hp := (hp.get 4 rfl).imp (own_of_pt (l := (([(-1), 2] : List Int) : List Int)) (n := 2) rfl (by decide) rfl)
  have hp : Hp Z ρ (OwnSl 3 (.slice (some ⟨b3, 0, none⟩) 2 2) ([(-1), 2] : List Int) :: _ :: _ :: _ :: _ :: L) w := hp
  have hp : Hp Z ρ (_ :: _ :: _ :: _ :: _ :: L) w := hp
  have hp := (hp.get 4 rfl).imp (own_of_pt (l := (([(-1), (-2)] : List Int) : List Int)) (n := 2) rfl (by decide) rfl)
  have hp : Hp Z ρ (OwnSl 3 (.slice (some ⟨b4, 0, none⟩) 2 2) ([(-1), (-2)] : List Int) :: _ :: _ :: _ :: _ :: L) w := hp
  have hp : Hp Z ρ (_ :: _ :: _ :: _ :: _ :: L) w := hp
  obtain ⟨sl1, sl1e⟩ := OwnSl.toSl hp 3 rfl
  obtain ⟨sl2, sl2e⟩ := OwnSl.toSl hp 2 rfl
  obtain ⟨sl3, sl3e⟩ := OwnSl.toSl hp 1 rfl
  obtain ⟨sl4, sl4e⟩ := OwnSl.toSl hp 0 rfl
  have hp := Hp.rowsNil (α := Int) 3 hp
  have hp := Hp.rowsCons sl4e (hp.get 1 rfl)
  have hp := Hp.rowsCons sl3e (hp.get 1 rfl)
  have hp := Hp.rowsCons sl2e (hp.get 1 rfl)
  have hp := Hp.rowsCons sl1e (hp.get 1 rfl)
  have hp : Hp Z ρ (RowsA 3 [sl1, sl2, sl3, sl4] ([([1, 2] : List Int), ([1, (-2)] : List Int), ([(-1), 2] : List Int), ([(-1), (-2)] : List Int)] : List (List Int)) :: _ :: L) w := hp
  have hp := Hp.tblShut (hp.front2 0 rfl (own_of_pt (α := Sl) (l := [sl1, sl2, sl3, sl4]) (n := 4) rfl (by decide) (by simp [flat, Enc.enc, sl1e, sl2e, sl3e, sl4e])))
  have hp : Hp Z ρ (TblA 25 3 (.slice (some ⟨b5, 0, none⟩) 4 4) ([sl1, sl2, sl3, sl4]) ([([1, 2] : List Int), ([1, (-2)] : List Int), ([(-1), 2] : List Int), ([(-1), (-2)] : List Int)] : (List (List Int))) :: L) w := hp
  refine s_val (wk0 rfl) rfl rfl hE hp (v := (.agg #[(.int .i64 2), (.slice (some ⟨b5, 0, none⟩) 4 4)])) (ex_bld rfl hE [(0, (.int .i64 2)), (1, (.slice (some ⟨b5, 0, none⟩) 4 4))] (by exact ⟨⟨rfl, rfl⟩, ⟨rfl, rfl⟩, trivial⟩) (fun w => by have hc0 := TblA.cells hp 0 rfl; simp only [Value.cells] at hc0; simp [Instr.build, Instr.fill, Value.cells, hc0, go_sem])) ?_
  intro a hE
  refine s_new (wk0 rfl) rfl rfl hE hp rfl [(.int .i64 0), (.slice none 0 0)] (fun w => by simp [Instr.alloc, go_sem] <;> rfl) ?_
  intro a w b6 hE hp
  have hp : Hp Z ρ (Pt b6 (.cells #[(.int .i64 0), (.slice none 0 0)] 24 (0, 0)) :: _ :: L) w := hp
  refine s_store (wk0 rfl) rfl hE hp rfl rfl rfl 0 rfl varty24.size_ rfl (allOne_mem ⟨rfl, (TblA.one hp 1 rfl), trivial⟩) [(.int .i64 2), (.slice (some ⟨b5, 0, none⟩) 4 4)] rfl ?_
  intro w hp
  have hp : Hp Z ρ (Pt b6 (.cells #[(.int .i64 2), (.slice (some ⟨b5, 0, none⟩) 4 4)] 24 (0, 0)) :: _ :: L) w := hp
  refine s_nil ?_
  refine k_seq ?_
  refine k_region ?_
  refine s_lit (wk0 rfl) rfl rfl hE hp rfl [(0, (.int .i64 1))] ⟨⟨rfl, rfl⟩, trivial⟩ [(.int .i64 1)] 3 (fun w => by simp [Instr.buildSlice, Instr.fill, Value.cells, go_sem]) ?_
  intro a w b7 hE hp
  have hp : Hp Z ρ (Pt b7 (.cells #[(.int .i64 1)] 3 (0, 0)) :: _ :: _ :: L) w := hp
  refine s_lit (wk0 rfl) rfl rfl hE hp rfl [] trivial [] 3 (fun w => by simp [Instr.buildSlice, Instr.fill, Value.cells, go_sem]) ?_
  intro a w b8 hE hp
  have hp : Hp Z ρ (Pt b8 (.cells #[] 3 (0, 0)) :: _ :: _ :: _ :: L) w := hp
  refine s_lit (wk0 rfl) rfl rfl hE hp rfl [(0, (.slice (some ⟨b7, 0, none⟩) 1 1)), (1, (.slice (some ⟨b8, 0, none⟩) 0 0))] ⟨⟨rfl, rfl⟩, ⟨rfl, rfl⟩, trivial⟩ [(.slice (some ⟨b7, 0, none⟩) 1 1), (.slice (some ⟨b8, 0, none⟩) 0 0)] 25 (fun w => by simp [Instr.buildSlice, Instr.fill, Value.cells, go_sem]) ?_
  intro a w b9 hE hp
  have hp : Hp Z ρ (Pt b9 (.cells #[(.slice (some ⟨b7, 0, none⟩) 1 1), (.slice (some ⟨b8, 0, none⟩) 0 0)] 25 (0, 0)) :: _ :: _ :: _ :: _ :: L) w := hp
  refine s_val (wk0 rfl) rfl rfl hE hp (v := (.slice (some ⟨b9, 0, none⟩) 2 2)) (ex_asn rfl hE rfl) ?_
  intro a hE
  refine s_nil ?_
  refine k_seq ?_
  refine k_region ?_
  refine s_val (wk0 rfl) rfl rfl hE hp (v := (.agg #[(.int .i64 2), (.slice (some ⟨b5, 0, none⟩) 4 4)])) (ex_load rfl hE rfl (fun w hw => run_ldN (cs := [(.int .i64 2), (.slice (some ⟨b5, 0, none⟩) 4 4)]) varty24 (Hp.cN 3 rfl 0 _ (sub_all rfl) w hw))) ?_
  intro a hE
  refine s_val (wk0 rfl) rfl rfl hE hp (v := (.slice (some ⟨b9, 0, none⟩) 2 2)) (ex_move rfl hE rfl) ?_
  intro a hE
  obtain ⟨k1, k1a, k1d, hp⟩ := (hp.get 4 rfl).lend
  have f1 : RoSl (ρ.un k1) (.slice (some ⟨b5, 0, none⟩) 4 4) ([([1, 2] : List Int), ([1, (-2)] : List Int), ([(-1), 2] : List Int), ([(-1), (-2)] : List Int)] : (List (List Int))) := TblA.ro k1d k1a
  have hp : Hp Z (ρ.un k1) (_ :: _ :: _ :: _ :: L) w := hp
  have hp := (hp.get 2 rfl).imp (own_of_pt (l := (([1] : List Int) : List Int)) (n := 1) rfl (by decide) rfl)
  have hp : Hp Z (ρ.un k1) (OwnSl 3 (.slice (some ⟨b7, 0, none⟩) 1 1) ([1] : List Int) :: _ :: _ :: _ :: L) w := hp
  obtain ⟨k2, k2a, k2d, hp⟩ := (hp.get 0 rfl).lend
  have f2 : RoSl ((ρ.un k1).un k2) (.slice (some ⟨b7, 0, none⟩) 1 1) ([1] : List Int) := OwnSl.ro k2d k2a
  have hp : Hp Z ((ρ.un k1).un k2) (_ :: _ :: _ :: L) w := hp
  have hp := (hp.get 1 rfl).imp (own_of_pt (l := (([] : List Int) : List Int)) (n := 0) rfl (by decide) rfl)
  have hp : Hp Z ((ρ.un k1).un k2) (OwnSl 3 (.slice (some ⟨b8, 0, none⟩) 0 0) ([] : List Int) :: _ :: _ :: L) w := hp
  obtain ⟨k3, k3a, k3d, hp⟩ := (hp.get 0 rfl).lend
  have f3 : RoSl (((ρ.un k1).un k2).un k3) (.slice (some ⟨b8, 0, none⟩) 0 0) ([] : List Int) := OwnSl.ro k3d k3a
  have hp : Hp Z (((ρ.un k1).un k2).un k3) (_ :: _ :: L) w := hp
  obtain ⟨k4, k4a, k4d, hp⟩ := (hp.get 0 rfl).lend
  have f4 : RoSl ((((ρ.un k1).un k2).un k3).un k4) (.slice (some ⟨b9, 0, none⟩) 2 2) ([([1] : List Int), ([] : List Int)] : List (List Int)) := RoSl.of_all (l := (([([1] : List Int), ([] : List Int)] : List (List Int)))) k4d k4a ⟨_, _, rfl, ⟨_, rfl, ((RoSl.mono (RoSl.mono f2 (PH.le_un _ k3)) (PH.le_un _ k4)))⟩, ⟨_, _, rfl, ⟨_, rfl, ((RoSl.mono f3 (PH.le_un _ k4)))⟩, rfl⟩⟩
  have hp : Hp Z ((((ρ.un k1).un k2).un k3).un k4) (_ :: L) w := hp
  obtain ⟨x1, ex1, hm⟩ := bnd hm
  refine s_call (wk0 rfl) rfl rfl hE rfl [(.agg #[(.int .i64 2), (.slice (some ⟨b5, 0, none⟩) 4 4)]), (.slice (some ⟨b9, 0, none⟩) 2 2)] ⟨rfl, rfl, trivial⟩ ent9 (c_proof_Trim (Tabs.mono (Tabs.mono (Tabs.mono (Tabs.mono hT (PH.le_un _ k1)) (PH.le_un _ k2)) (PH.le_un _ k3)) (PH.le_un _ k4)) (Formula.mk 2 ([([1, 2] : List Int), ([1, (-2)] : List Int), ([(-1), 2] : List Int), ([(-1), (-2)] : List Int)])) (.slice (some ⟨b5, 0, none⟩) 4 4) (RoSl.mono (RoSl.mono (RoSl.mono f1 (PH.le_un _ k2)) (PH.le_un _ k3)) (PH.le_un _ k4)) ([([1] : List Int), ([] : List Int)] : List (List Int)) (.slice (some ⟨b9, 0, none⟩) 2 2) f4 hp x1 ex1) Ret.ret ?_
  intro v a w hR hE
  obtain ⟨ρ1, vr1, hle1, rfl, hr1, hp⟩ := Ret.of hR
  have hp : Hp Z ρ1 (_ :: L) w := hp
  refine s_val (wk0 rfl) rfl rfl hE hp (v := (.tuple #[vr1, (.int .i64 x1.2)])) (ex_move rfl hE rfl) ?_
  intro a hE
  refine s_val (wk0 rfl) rfl rfl hE hp (v := vr1) (ex_extract rfl hE rfl rfl) ?_
  intro a hE
  refine s_val (wk0 rfl) rfl rfl hE hp (v := (.int .i64 x1.2)) (ex_extract rfl hE rfl rfl) ?_
  intro a hE
  refine s_val (wk0 rfl) rfl rfl hE hp (v := vr1) (ex_asn rfl hE rfl) ?_
  intro a hE
  refine s_val (wk0 rfl) rfl rfl hE hp (v := (.int .i64 x1.2)) (ex_asn rfl hE rfl) ?_
  intro a hE
  refine s_nil ?_
  refine k_seq ?_
  refine k_region ?_
  refine s_val (wk0 rfl) rfl rfl hE hp (v := (.agg #[(.int .i64 2), (.slice (some ⟨b5, 0, none⟩) 4 4)])) (ex_load rfl hE rfl (fun w hw => run_ldN (cs := [(.int .i64 2), (.slice (some ⟨b5, 0, none⟩) 4 4)]) varty24 (Hp.cN 0 rfl 0 _ (sub_all rfl) w hw))) ?_
  intro a hE
  refine s_val (wk0 rfl) rfl rfl hE hp (v := (.slice (some ⟨b9, 0, none⟩) 2 2)) (ex_move rfl hE rfl) ?_
  intro a hE
  obtain ⟨x2, ex2, hm⟩ := bnd hm
  refine s_call (wk0 rfl) rfl rfl hE rfl [(.agg #[(.int .i64 2), (.slice (some ⟨b5, 0, none⟩) 4 4)]), (.slice (some ⟨b9, 0, none⟩) 2 2)] ⟨rfl, rfl, trivial⟩ ent10 (c_proof_Core (Tabs.mono (Tabs.mono (Tabs.mono (Tabs.mono (Tabs.mono hT (PH.le_un _ k1)) (PH.le_un _ k2)) (PH.le_un _ k3)) (PH.le_un _ k4)) hle1) (Formula.mk 2 ([([1, 2] : List Int), ([1, (-2)] : List Int), ([(-1), 2] : List Int), ([(-1), (-2)] : List Int)])) (.slice (some ⟨b5, 0, none⟩) 4 4) (RoSl.mono (RoSl.mono (RoSl.mono (RoSl.mono f1 (PH.le_un _ k2)) (PH.le_un _ k3)) (PH.le_un _ k4)) hle1) ([([1] : List Int), ([] : List Int)] : List (List Int)) (.slice (some ⟨b9, 0, none⟩) 2 2) (RoSl.mono f4 hle1) hp x2 ex2) Ret.ret ?_
  intro v a w hR hE
  obtain ⟨vr3, rfl, hp⟩ := Ret.of hR
  have hp : Hp Z ρ1 (OwnSl 3 vr3 x2.1 :: _ :: L) w := hp
  refine s_val (wk0 rfl) rfl rfl hE hp (v := (.tuple #[vr3, (.int .i64 x2.2)])) (ex_move rfl hE rfl) ?_
  intro a hE
  refine s_val (wk0 rfl) rfl rfl hE hp (v := vr3) (ex_extract rfl hE rfl rfl) ?_
  intro a hE
  refine s_val (wk0 rfl) rfl rfl hE hp (v := (.int .i64 x2.2)) (ex_extract rfl hE rfl rfl) ?_
  intro a hE
  refine s_val (wk0 rfl) rfl rfl hE hp (v := vr3) (ex_asn rfl hE rfl) ?_
  intro a hE
  refine s_val (wk0 rfl) rfl rfl hE hp (v := (.int .i64 x2.2)) (ex_asn rfl hE rfl) ?_
  intro a hE
  refine s_nil ?_
  have hE := hE.cut (E' := [(1, (.pointer (some ⟨b6, 0, none⟩))), (2, (.slice (some ⟨b9, 0, none⟩) 2 2)), (3, vr1), (4, (.int .i64 x1.2)), (5, vr3), (6, (.int .i64 x2.2))]) ⟨rfl, rfl, rfl, rfl, rfl, rfl, trivial⟩
  refine k_seq ?_
  refine k_region ?_
  refine s_val (wk0 rfl) rfl rfl hE hp (v := (.agg #[(.int .i64 2), (.slice (some ⟨b5, 0, none⟩) 4 4)])) (ex_load rfl hE rfl (fun w hw => run_ldN (cs := [(.int .i64 2), (.slice (some ⟨b5, 0, none⟩) 4 4)]) varty24 (Hp.cN 1 rfl 0 _ (sub_all rfl) w hw))) ?_
  intro a hE
  refine s_lit (wk0 rfl) rfl rfl hE hp rfl [(0, (.int .i64 1))] ⟨⟨rfl, rfl⟩, trivial⟩ [(.int .i64 1)] 3 (fun w => by simp [Instr.buildSlice, Instr.fill, Value.cells, go_sem]) ?_
  intro a w b10 hE hp
  have hp : Hp Z ρ1 (Pt b10 (.cells #[(.int .i64 1)] 3 (0, 0)) :: _ :: _ :: L) w := hp
  have hp := (hp.get 0 rfl).imp (own_of_pt (l := (([1] : List Int) : List Int)) (n := 1) rfl (by decide) rfl)
  have hp : Hp Z ρ1 (OwnSl 3 (.slice (some ⟨b10, 0, none⟩) 1 1) ([1] : List Int) :: _ :: _ :: L) w := hp
  obtain ⟨k5, k5a, k5d, k5h⟩ := (hp.get 0 rfl).lend
  obtain ⟨x3, ex3, hm⟩ := bnd hm
  refine s_call (wk0 rfl) rfl rfl hE rfl [(.agg #[(.int .i64 2), (.slice (some ⟨b5, 0, none⟩) 4 4)]), (.slice (some ⟨b10, 0, none⟩) 1 1)] ⟨rfl, rfl, trivial⟩ ent19 (c_proof_Follows (Tabs.mono (Tabs.mono (Tabs.mono (Tabs.mono (Tabs.mono (Tabs.mono hT (PH.le_un _ k1)) (PH.le_un _ k2)) (PH.le_un _ k3)) (PH.le_un _ k4)) hle1) (PH.le_un _ k5)) (Formula.mk 2 ([([1, 2] : List Int), ([1, (-2)] : List Int), ([(-1), 2] : List Int), ([(-1), (-2)] : List Int)])) (.slice (some ⟨b5, 0, none⟩) 4 4) (RoSl.mono (RoSl.mono (RoSl.mono (RoSl.mono (RoSl.mono f1 (PH.le_un _ k2)) (PH.le_un _ k3)) (PH.le_un _ k4)) hle1) (PH.le_un _ _)) ([1] : List Int) (.slice (some ⟨b10, 0, none⟩) 1 1) (OwnSl.ro k5d k5a) k5h x3 ex3) Ret.ret ?_
  intro v a w hR hE
  obtain ⟨rfl, hp⟩ := Ret.of hR
  have hp := Hp.back k5a k5d hp
  have hp : Hp Z ρ1 (_ :: _ :: _ :: L) w := hp
  refine s_val (wk0 rfl) rfl rfl hE hp (v := (.tuple #[(.bool x3.1), (.int .i64 x3.2)])) (ex_move rfl hE rfl) ?_
  intro a hE
  refine s_val (wk0 rfl) rfl rfl hE hp (v := (.bool x3.1)) (ex_extract rfl hE rfl rfl) ?_
  intro a hE
  refine s_val (wk0 rfl) rfl rfl hE hp (v := (.int .i64 x3.2)) (ex_extract rfl hE rfl rfl) ?_
  intro a hE
  refine s_val (wk0 rfl) rfl rfl hE hp (v := (.bool x3.1)) (ex_asn rfl hE rfl) ?_
  intro a hE
  refine s_val (wk0 rfl) rfl rfl hE hp (v := (.int .i64 x3.2)) (ex_asn rfl hE rfl) ?_
  intro a hE
  refine s_nil ?_
  refine k_seq ?_
  refine k_region ?_
  obtain ⟨x4, ex4, hm⟩ := bnd hm
  refine s_call (wk0 rfl) rfl rfl hE rfl [(.string (ByteArray.mk #[49, 32, 48, 10, 48, 10]))] ⟨rfl, trivial⟩ ent26 (c_proof_Parse (Tabs.mono (Tabs.mono (Tabs.mono (Tabs.mono (Tabs.mono hT (PH.le_un _ k1)) (PH.le_un _ k2)) (PH.le_un _ k3)) (PH.le_un _ k4)) hle1) (ByteArray.mk #[49, 32, 48, 10, 48, 10]) hp x4 ex4) Ret.ret ?_
  intro v a w hR hE
  obtain ⟨vr7, usr7, rfl, hp⟩ := Ret.of hR
  have hp : Hp Z ρ1 (TblA 25 3 vr7 usr7 (x4.1 : (List (List Int))) :: _ :: _ :: _ :: L) w := hp
  refine s_val (wk0 rfl) rfl rfl hE hp (v := (.tuple #[vr7, (.int .i64 x4.2)])) (ex_move rfl hE rfl) ?_
  intro a hE
  refine s_val (wk0 rfl) rfl rfl hE hp (v := vr7) (ex_extract rfl hE rfl rfl) ?_
  intro a hE
  refine s_val (wk0 rfl) rfl rfl hE hp (v := (.int .i64 x4.2)) (ex_extract rfl hE rfl rfl) ?_
  intro a hE
  refine s_val (wk0 rfl) rfl rfl hE hp (v := vr7) (ex_asn rfl hE rfl) ?_
  intro a hE
  refine s_val (wk0 rfl) rfl rfl hE hp (v := (.int .i64 x4.2)) (ex_asn rfl hE rfl) ?_
  intro a hE
  refine s_nil ?_
  refine k_seq ?_
  obtain ⟨x5, ex5, hm⟩ := bnd hm
  obtain ⟨m1, hg1, hm⟩ := bnd hm
  obtain ⟨m2, hg2, hm⟩ := bnd hm
  obtain ⟨m3, hg3, hm⟩ := bnd hm
  obtain ⟨m4, hg4, hm⟩ := bnd hm
  obtain ⟨m5, hg5, hm⟩ := bnd hm
  have hp := hp.drew
  refine k_heldV ([([], At0 Z ρ1), ([], At1 Z ρ1 (Pt b6 (.cells #[(.int .i64 2), (.slice (some ⟨b5, 0, none⟩) 4 4)] 24 (0, 0))))] : Facts) (fun a w => Env 91 [(0, (.bool m5))] a ∧ Hp Z ρ1 (TblA 25 3 vr7 usr7 (x4.1 : (List (List Int))) :: OwnSl 3 (.slice (some ⟨b10, 0, none⟩) 1 1) ([1] : List Int) :: OwnSl 3 vr3 x2.1 :: Pt b6 (.cells #[(.int .i64 2), (.slice (some ⟨b5, 0, none⟩) 4 4)] 24 (0, 0)) :: L) w) (by kernel_rfl) ⟨fun _ => ⟨_, hp⟩, fun _ => ⟨_, (hp.get 3 rfl)⟩, trivial⟩ (fun hS => ?_) ?_
  ·
    generalize w.drew = w at hS hp ⊢
    refine v_take1 0 1 (wk0 rfl) rfl rfl rfl hE (by kernel_rfl) (by kernel_rfl) (by kernel_rfl) rfl (by kernel_rfl) hS (v := (.agg #[(.int .i64 2), (.slice (some ⟨b5, 0, none⟩) 4 4)])) (fun _ => ex_load rfl hE rfl (fun w hw => run_ldN (cs := [(.int .i64 2), (.slice (some ⟨b5, 0, none⟩) 4 4)]) varty24 (Hp.cN 0 rfl 0 _ (sub_all rfl) w hw))) ?_
    intro a hE hS
    refine v_take0 1 (wk0 rfl) rfl rfl rfl hE (by kernel_rfl) (by kernel_rfl) (by kernel_rfl) rfl (by kernel_rfl) hS (v := (.slice (some ⟨b9, 0, none⟩) 2 2)) (fun _ => ex_move rfl hE rfl) ?_
    intro a hE hS
    refine v_all [2] (by kernel_rfl) rfl ?_
    refine List.forall_mem_cons.2 ⟨?_, fun _ h => absurd h (by simp)⟩
    ·
      refine h_op rfl ?_
      refine s_call (wk0 rfl) rfl rfl hE rfl [(.agg #[(.int .i64 2), (.slice (some ⟨b5, 0, none⟩) 4 4)]), (.slice (some ⟨b9, 0, none⟩) 2 2)] ⟨rfl, rfl, trivial⟩ ent8 (c_proof_Check (Tabs.mono (Tabs.mono (Tabs.mono (Tabs.mono (Tabs.mono hT (PH.le_un _ k1)) (PH.le_un _ k2)) (PH.le_un _ k3)) (PH.le_un _ k4)) hle1) (Formula.mk 2 ([([1, 2] : List Int), ([1, (-2)] : List Int), ([(-1), 2] : List Int), ([(-1), (-2)] : List Int)])) (.slice (some ⟨b5, 0, none⟩) 4 4) (RoSl.mono (RoSl.mono (RoSl.mono (RoSl.mono f1 (PH.le_un _ k2)) (PH.le_un _ k3)) (PH.le_un _ k4)) hle1) ([([1] : List Int), ([] : List Int)] : List (List Int)) (.slice (some ⟨b9, 0, none⟩) 2 2) (RoSl.mono f4 hle1) hp x5 ex5) Ret.ret ?_
      intro v a w hR hE
      obtain ⟨rfl, hp⟩ := Ret.of hR
      have hp : Hp Z ρ1 (_ :: _ :: _ :: _ :: L) w := hp
      refine s_nil (and_with ⟨fun _ => ⟨_, hp⟩, fun _ => ⟨_, (hp.get 3 rfl)⟩, trivial⟩ fun hS => ?_)
      refine v_take0 3 (wk0 rfl) rfl rfl rfl hE (by kernel_rfl) (by kernel_rfl) (by kernel_rfl) rfl (by kernel_rfl) hS (v := (.bool x5)) (fun _ => ex_move rfl hE rfl) ?_
      intro a hE hS
      rcases Bool.eq_false_or_eq_true x5 with hc11 | hc11
      ·
        have hg1 := (it hc11).symm.trans hg1
        obtain ⟨x6, ex6, hg1⟩ := bnd hg1
        obtain ⟨x7, ex7, hg1⟩ := bnd hg1
        refine v_take1 4 1 (wk1 hE rfl rfl rfl hc11) rfl rfl rfl hE (by kernel_rfl) (by kernel_rfl) (by kernel_rfl) rfl (by kernel_rfl) hS (v := (.agg #[(.int .i64 2), (.slice (some ⟨b5, 0, none⟩) 4 4)])) (fun _ => ex_load rfl hE rfl (fun w hw => run_ldN (cs := [(.int .i64 2), (.slice (some ⟨b5, 0, none⟩) 4 4)]) varty24 (Hp.cN 0 rfl 0 _ (sub_all rfl) w hw))) ?_
        intro a hE hS
        refine v_take0 5 (wk1 hE rfl rfl rfl hc11) rfl rfl rfl hE (by kernel_rfl) (by kernel_rfl) (by kernel_rfl) rfl (by kernel_rfl) hS (v := (.slice (some ⟨b9, 0, none⟩) 2 2)) (fun _ => ex_move rfl hE rfl) ?_
        intro a hE hS
        obtain ⟨v2, v2r, f6⟩ := RoSl.part (RoSl.mono f4 hle1) slty22 (some (.i64, 1)) none rfl rfl ex6
        refine v_take0 6 (wk1 hE rfl rfl rfl hc11) rfl rfl rfl hE (by kernel_rfl) (by kernel_rfl) (by kernel_rfl) rfl (by kernel_rfl) hS (v := v2) (fun _ => ex_sl rfl hE rfl (some (.i64, 1)) none (by exact rfl) (by exact trivial) v2r) ?_
        intro a hE hS
        refine v_all [7] (by kernel_rfl) rfl ?_
        refine List.forall_mem_cons.2 ⟨?_, fun _ h => absurd h (by simp)⟩
        ·
          refine h_op rfl ?_
          refine s_call (wk1 hE rfl rfl rfl hc11) rfl rfl hE rfl [(.agg #[(.int .i64 2), (.slice (some ⟨b5, 0, none⟩) 4 4)]), v2] ⟨rfl, rfl, trivial⟩ ent8 (c_proof_Check (Tabs.mono (Tabs.mono (Tabs.mono (Tabs.mono (Tabs.mono hT (PH.le_un _ k1)) (PH.le_un _ k2)) (PH.le_un _ k3)) (PH.le_un _ k4)) hle1) (Formula.mk 2 ([([1, 2] : List Int), ([1, (-2)] : List Int), ([(-1), 2] : List Int), ([(-1), (-2)] : List Int)])) (.slice (some ⟨b5, 0, none⟩) 4 4) (RoSl.mono (RoSl.mono (RoSl.mono (RoSl.mono f1 (PH.le_un _ k2)) (PH.le_un _ k3)) (PH.le_un _ k4)) hle1) x6 v2 f6 hp x7 ex7) Ret.ret ?_
          intro v a w hR hE
          obtain ⟨rfl, hp⟩ := Ret.of hR
          have hp : Hp Z ρ1 (_ :: _ :: _ :: _ :: L) w := hp
          refine s_nil (and_with ⟨fun _ => ⟨_, hp⟩, fun _ => ⟨_, (hp.get 3 rfl)⟩, trivial⟩ fun hS => ?_)
          refine v_take0 8 (wk1 hE rfl rfl rfl hc11) rfl rfl rfl hE (by kernel_rfl) (by kernel_rfl) (by kernel_rfl) rfl (by kernel_rfl) hS (v := (.bool (!x7))) (fun _ => ex_not rfl hE rfl) ?_
          intro a hE hS
          refine v_take0 9 (wk0 rfl) rfl rfl rfl hE (by kernel_rfl) (by kernel_rfl) (by kernel_rfl) rfl (by kernel_rfl) hS (v := (.bool (!x7))) (fun _ => ex_pick1 rfl hE rfl hc11 rfl) ?_
          intro a hE hS
          have hE := hE.eqv (v' := (.bool m1)) (congrArg Value.bool (Option.some.inj hg1))
          refine v_take0 10 (wk0 rfl) rfl rfl rfl hE (by kernel_rfl) (by kernel_rfl) (by kernel_rfl) rfl (by kernel_rfl) hS (v := (.bool m1)) (fun _ => ex_move rfl hE rfl) ?_
          intro a hE hS
          rcases Bool.eq_false_or_eq_true m1 with hc12 | hc12
          ·
            refine v_take0 11 (wk1 hE rfl rfl rfl hc12) rfl rfl rfl hE (by kernel_rfl) (by kernel_rfl) (by kernel_rfl) rfl (by kernel_rfl) hS (v := (.int .i64 x1.2)) (fun _ => ex_move rfl hE rfl) ?_
            intro a hE hS
            refine v_take0 12 (wk1 hE rfl rfl rfl hc12) rfl rfl rfl hE (by kernel_rfl) (by kernel_rfl) (by kernel_rfl) rfl (by kernel_rfl) hS (v := (.bool (decide (x1.2 = 0)))) (fun _ => ex_eql rfl hE rfl rfl) ?_
            intro a hE hS
            refine v_take0 13 (wk0 rfl) rfl rfl rfl hE (by kernel_rfl) (by kernel_rfl) (by kernel_rfl) rfl (by kernel_rfl) hS (v := (.bool (decide (x1.2 = 0)))) (fun _ => ex_pick1 rfl hE rfl hc12 rfl) ?_
            intro a hE hS
            have hE := hE.eqv (v' := (.bool (m1 && (decide (x1.2 = 0))))) (by rw [hc12]; rfl)
            refine v_take0 14 (wk0 rfl) rfl rfl rfl hE (by kernel_rfl) (by kernel_rfl) (by kernel_rfl) rfl (by kernel_rfl) hS (v := (.bool (m1 && (decide (x1.2 = 0))))) (fun _ => ex_move rfl hE rfl) ?_
            intro a hE hS
            rcases Bool.eq_false_or_eq_true (m1 && (decide (x1.2 = 0))) with hc13 | hc13
            ·
              have hg2 := (it hc13).symm.trans hg2
              obtain ⟨x8, ex8, hg2⟩ := bnd hg2
              refine v_take0 15 (wk1 hE rfl rfl rfl hc13) rfl rfl rfl hE (by kernel_rfl) (by kernel_rfl) (by kernel_rfl) rfl (by kernel_rfl) hS (v := vr1) (fun _ => ex_move rfl hE rfl) ?_
              intro a hE hS
              refine v_take0 16 (wk1 hE rfl rfl rfl hc13) rfl rfl rfl hE (by kernel_rfl) (by kernel_rfl) (by kernel_rfl) rfl (by kernel_rfl) hS (v := (.slice (some ⟨b9, 0, none⟩) 2 2)) (fun _ => ex_move rfl hE rfl) ?_
              intro a hE hS
              refine v_all [17] (by kernel_rfl) rfl ?_
              refine List.forall_mem_cons.2 ⟨?_, fun _ h => absurd h (by simp)⟩
              ·
                refine h_op rfl ?_
                refine s_call (wk1 hE rfl rfl rfl hc13) rfl rfl hE rfl [vr1, (.slice (some ⟨b9, 0, none⟩) 2 2)] ⟨rfl, rfl, trivial⟩ ent11 (c_assessorref26_Clauses (Tabs.mono (Tabs.mono (Tabs.mono (Tabs.mono (Tabs.mono hT (PH.le_un _ k1)) (PH.le_un _ k2)) (PH.le_un _ k3)) (PH.le_un _ k4)) hle1) x1.1 vr1 hr1 ([([1] : List Int), ([] : List Int)] : List (List Int)) (.slice (some ⟨b9, 0, none⟩) 2 2) (RoSl.mono f4 hle1) hp x8 ex8) Ret.ret ?_
                intro v a w hR hE
                obtain ⟨rfl, hp⟩ := Ret.of hR
                have hp : Hp Z ρ1 (_ :: _ :: _ :: _ :: L) w := hp
                refine s_nil (and_with ⟨fun _ => ⟨_, hp⟩, fun _ => ⟨_, (hp.get 3 rfl)⟩, trivial⟩ fun hS => ?_)
                refine v_take0 18 (wk0 rfl) rfl rfl rfl hE (by kernel_rfl) (by kernel_rfl) (by kernel_rfl) rfl (by kernel_rfl) hS (v := (.bool x8)) (fun _ => ex_pick1 rfl hE rfl hc13 rfl) ?_
                intro a hE hS
                have hE := hE.eqv (v' := (.bool m2)) (congrArg Value.bool (Option.some.inj hg2))
                refine v_take0 19 (wk0 rfl) rfl rfl rfl hE (by kernel_rfl) (by kernel_rfl) (by kernel_rfl) rfl (by kernel_rfl) hS (v := (.bool m2)) (fun _ => ex_move rfl hE rfl) ?_
                intro a hE hS
                rcases Bool.eq_false_or_eq_true m2 with hc14 | hc14
                ·
                  refine v_take0 20 (wk1 hE rfl rfl rfl hc14) rfl rfl rfl hE (by kernel_rfl) (by kernel_rfl) (by kernel_rfl) rfl (by kernel_rfl) hS (v := (.int .i64 x2.2)) (fun _ => ex_move rfl hE rfl) ?_
                  intro a hE hS
                  refine v_take0 21 (wk1 hE rfl rfl rfl hc14) rfl rfl rfl hE (by kernel_rfl) (by kernel_rfl) (by kernel_rfl) rfl (by kernel_rfl) hS (v := (.bool (decide (x2.2 = 0)))) (fun _ => ex_eql rfl hE rfl rfl) ?_
                  intro a hE hS
                  refine v_take0 22 (wk0 rfl) rfl rfl rfl hE (by kernel_rfl) (by kernel_rfl) (by kernel_rfl) rfl (by kernel_rfl) hS (v := (.bool (decide (x2.2 = 0)))) (fun _ => ex_pick1 rfl hE rfl hc14 rfl) ?_
                  intro a hE hS
                  have hE := hE.eqv (v' := (.bool (m2 && (decide (x2.2 = 0))))) (by rw [hc14]; rfl)
                  refine v_take0 23 (wk0 rfl) rfl rfl rfl hE (by kernel_rfl) (by kernel_rfl) (by kernel_rfl) rfl (by kernel_rfl) hS (v := (.bool (m2 && (decide (x2.2 = 0))))) (fun _ => ex_move rfl hE rfl) ?_
                  intro a hE hS
                  rcases Bool.eq_false_or_eq_true (m2 && (decide (x2.2 = 0))) with hc15 | hc15
                  ·
                    have hg3 := (it hc15).symm.trans hg3
                    obtain ⟨x9, ex9, hg3⟩ := bnd hg3
                    refine v_take0 24 (wk1 hE rfl rfl rfl hc15) rfl rfl rfl hE (by kernel_rfl) (by kernel_rfl) (by kernel_rfl) rfl (by kernel_rfl) hS (v := vr3) (fun _ => ex_move rfl hE rfl) ?_
                    intro a hE hS
                    refine v_all [25] (by kernel_rfl) rfl ?_
                    refine List.forall_mem_cons.2 ⟨?_, fun _ h => absurd h (by simp)⟩
                    ·
                      refine h_op rfl ?_
                      refine s_lit (wk1 hE rfl rfl rfl hc15) rfl rfl hE hp rfl [(0, (.int .i64 0)), (1, (.int .i64 1)), (2, (.int .i64 2)), (3, (.int .i64 3))] ⟨⟨rfl, rfl⟩, ⟨rfl, rfl⟩, ⟨rfl, rfl⟩, ⟨rfl, rfl⟩, trivial⟩ [(.int .i64 0), (.int .i64 1), (.int .i64 2), (.int .i64 3)] 3 (fun w => by simp [Instr.buildSlice, Instr.fill, Value.cells, go_sem]) ?_
                      intro a w b12 hE hp
                      have hp : Hp Z ρ1 (Pt b12 (.cells #[(.int .i64 0), (.int .i64 1), (.int .i64 2), (.int .i64 3)] 3 (0, 0)) :: _ :: _ :: _ :: _ :: L) w := hp
                      refine s_nil (and_with ⟨fun _ => ⟨_, hp⟩, fun _ => ⟨_, (hp.get 4 rfl)⟩, trivial⟩ fun hS => ?_)
                      refine v_all [26] (by kernel_rfl) rfl ?_
                      refine List.forall_mem_cons.2 ⟨?_, fun _ h => absurd h (by simp)⟩
                      ·
                        refine h_op rfl ?_
                        have hp := (hp.get 0 rfl).imp (own_of_pt (l := (([0, 1, 2, 3] : List Int) : List Int)) (n := 4) rfl (by decide) rfl)
                        have hp : Hp Z ρ1 (OwnSl 3 (.slice (some ⟨b12, 0, none⟩) 4 4) ([0, 1, 2, 3] : List Int) :: _ :: _ :: _ :: _ :: L) w := hp
                        obtain ⟨k9, k9a, k9d, k9h⟩ := (hp.get 3 rfl).lend
                        obtain ⟨k10, k10a, k10d, k10h⟩ := (k9h.get 0 rfl).lend
                        refine s_call (wk1 hE rfl rfl rfl hc15) rfl rfl hE rfl [vr3, (.slice (some ⟨b12, 0, none⟩) 4 4)] ⟨rfl, rfl, trivial⟩ ent12 (c_slices_Equal_int_int_ (Tabs.mono (Tabs.mono (Tabs.mono (Tabs.mono (Tabs.mono (Tabs.mono (Tabs.mono hT (PH.le_un _ k1)) (PH.le_un _ k2)) (PH.le_un _ k3)) (PH.le_un _ k4)) hle1) (PH.le_un _ k9)) (PH.le_un _ k10)) x2.1 vr3 (RoSl.mono (OwnSl.ro k9d k9a) (PH.le_un _ _)) ([0, 1, 2, 3] : List Int) (.slice (some ⟨b12, 0, none⟩) 4 4) (OwnSl.ro k10d k10a) k10h x9 ex9) Ret.ret ?_
                        intro v a w hR hE
                        obtain ⟨rfl, hp⟩ := Ret.of hR
                        have hp := Hp.back k10a k10d hp
                        have hp := Hp.back k9a k9d hp
                        have hp : Hp Z ρ1 (_ :: _ :: _ :: _ :: _ :: L) w := hp
                        refine s_nil (and_with ⟨fun _ => ⟨_, hp⟩, fun _ => ⟨_, (hp.get 4 rfl)⟩, trivial⟩ fun hS => ?_)
                        refine v_take0 27 (wk0 rfl) rfl rfl rfl hE (by kernel_rfl) (by kernel_rfl) (by kernel_rfl) rfl (by kernel_rfl) hS (v := (.bool x9)) (fun _ => ex_pick1 rfl hE rfl hc15 rfl) ?_
                        intro a hE hS
                        have hE := hE.eqv (v' := (.bool m3)) (congrArg Value.bool (Option.some.inj hg3))
                        refine v_take0 28 (wk0 rfl) rfl rfl rfl hE (by kernel_rfl) (by kernel_rfl) (by kernel_rfl) rfl (by kernel_rfl) hS (v := (.bool m3)) (fun _ => ex_move rfl hE rfl) ?_
                        intro a hE hS
                        rcases Bool.eq_false_or_eq_true m3 with hc16 | hc16
                        ·
                          refine v_take0 29 (wk1 hE rfl rfl rfl hc16) rfl rfl rfl hE (by kernel_rfl) (by kernel_rfl) (by kernel_rfl) rfl (by kernel_rfl) hS (v := (.bool x3.1)) (fun _ => ex_move rfl hE rfl) ?_
                          intro a hE hS
                          refine v_take0 30 (wk0 rfl) rfl rfl rfl hE (by kernel_rfl) (by kernel_rfl) (by kernel_rfl) rfl (by kernel_rfl) hS (v := (.bool x3.1)) (fun _ => ex_pick1 rfl hE rfl hc16 rfl) ?_
                          intro a hE hS
                          have hE := hE.eqv (v' := (.bool (m3 && x3.1))) (by rw [hc16]; rfl)
                          refine v_take0 31 (wk0 rfl) rfl rfl rfl hE (by kernel_rfl) (by kernel_rfl) (by kernel_rfl) rfl (by kernel_rfl) hS (v := (.bool (m3 && x3.1))) (fun _ => ex_move rfl hE rfl) ?_
                          intro a hE hS
                          rcases Bool.eq_false_or_eq_true (m3 && x3.1) with hc17 | hc17
                          ·
                            refine v_take0 32 (wk1 hE rfl rfl rfl hc17) rfl rfl rfl hE (by kernel_rfl) (by kernel_rfl) (by kernel_rfl) rfl (by kernel_rfl) hS (v := (.int .i64 x3.2)) (fun _ => ex_move rfl hE rfl) ?_
                            intro a hE hS
                            refine v_take0 33 (wk1 hE rfl rfl rfl hc17) rfl rfl rfl hE (by kernel_rfl) (by kernel_rfl) (by kernel_rfl) rfl (by kernel_rfl) hS (v := (.bool (decide (x3.2 = 0)))) (fun _ => ex_eql rfl hE rfl rfl) ?_
                            intro a hE hS
                            refine v_take0 34 (wk0 rfl) rfl rfl rfl hE (by kernel_rfl) (by kernel_rfl) (by kernel_rfl) rfl (by kernel_rfl) hS (v := (.bool (decide (x3.2 = 0)))) (fun _ => ex_pick1 rfl hE rfl hc17 rfl) ?_
                            intro a hE hS
                            have hE := hE.eqv (v' := (.bool ((m3 && x3.1) && (decide (x3.2 = 0))))) (by rw [hc17]; rfl)
                            refine v_take0 35 (wk0 rfl) rfl rfl rfl hE (by kernel_rfl) (by kernel_rfl) (by kernel_rfl) rfl (by kernel_rfl) hS (v := (.bool ((m3 && x3.1) && (decide (x3.2 = 0))))) (fun _ => ex_move rfl hE rfl) ?_
                            intro a hE hS
                            rcases Bool.eq_false_or_eq_true ((m3 && x3.1) && (decide (x3.2 = 0))) with hc18 | hc18
                            ·
                              refine v_take0 36 (wk1 hE rfl rfl rfl hc18) rfl rfl rfl hE (by kernel_rfl) (by kernel_rfl) (by kernel_rfl) rfl (by kernel_rfl) hS (v := (.int .i64 x4.2)) (fun _ => ex_move rfl hE rfl) ?_
                              intro a hE hS
                              refine v_take0 37 (wk1 hE rfl rfl rfl hc18) rfl rfl rfl hE (by kernel_rfl) (by kernel_rfl) (by kernel_rfl) rfl (by kernel_rfl) hS (v := (.bool (decide (x4.2 = 0)))) (fun _ => ex_eql rfl hE rfl rfl) ?_
                              intro a hE hS
                              refine v_take0 38 (wk0 rfl) rfl rfl rfl hE (by kernel_rfl) (by kernel_rfl) (by kernel_rfl) rfl (by kernel_rfl) hS (v := (.bool (decide (x4.2 = 0)))) (fun _ => ex_pick1 rfl hE rfl hc18 rfl) ?_
                              intro a hE hS
                              have hE := hE.eqv (v' := (.bool (((m3 && x3.1) && (decide (x3.2 = 0))) && (decide (x4.2 = 0))))) (by rw [hc18]; rfl)
                              refine v_take0 39 (wk0 rfl) rfl rfl rfl hE (by kernel_rfl) (by kernel_rfl) (by kernel_rfl) rfl (by kernel_rfl) hS (v := (.bool (((m3 && x3.1) && (decide (x3.2 = 0))) && (decide (x4.2 = 0))))) (fun _ => ex_move rfl hE rfl) ?_
                              intro a hE hS
                              rcases Bool.eq_false_or_eq_true (((m3 && x3.1) && (decide (x3.2 = 0))) && (decide (x4.2 = 0))) with hc19 | hc19
                              ·
                                have hg4 := (it hc19).symm.trans hg4
                                obtain ⟨x10, ex10, hg4⟩ := bnd hg4
                                refine v_take0 40 (wk1 hE rfl rfl rfl hc19) rfl rfl rfl hE (by kernel_rfl) (by kernel_rfl) (by kernel_rfl) rfl (by kernel_rfl) hS (v := (.slice (some ⟨b9, 0, none⟩) 2 2)) (fun _ => ex_move rfl hE rfl) ?_
                                intro a hE hS
                                refine v_take0 41 (wk1 hE rfl rfl rfl hc19) rfl rfl rfl hE (by kernel_rfl) (by kernel_rfl) (by kernel_rfl) rfl (by kernel_rfl) hS (v := vr7) (fun _ => ex_move rfl hE rfl) ?_
                                intro a hE hS
                                refine v_all [42] (by kernel_rfl) rfl ?_
                                refine List.forall_mem_cons.2 ⟨?_, fun _ h => absurd h (by simp)⟩
                                ·
                                  refine h_op rfl ?_
                                  obtain ⟨k11, k11a, k11d, k11h⟩ := (hp.get 2 rfl).lend
                                  refine s_call (wk1 hE rfl rfl rfl hc19) rfl rfl hE rfl [(.slice (some ⟨b9, 0, none⟩) 2 2), vr7] ⟨rfl, rfl, trivial⟩ ent11 (c_assessorref26_Clauses (Tabs.mono (Tabs.mono (Tabs.mono (Tabs.mono (Tabs.mono (Tabs.mono hT (PH.le_un _ k1)) (PH.le_un _ k2)) (PH.le_un _ k3)) (PH.le_un _ k4)) hle1) (PH.le_un _ k11)) ([([1] : List Int), ([] : List Int)] : List (List Int)) (.slice (some ⟨b9, 0, none⟩) 2 2) (RoSl.mono (RoSl.mono f4 hle1) (PH.le_un _ _)) x4.1 vr7 (TblA.ro k11d k11a) k11h x10 ex10) Ret.ret ?_
                                  intro v a w hR hE
                                  obtain ⟨rfl, hp⟩ := Ret.of hR
                                  have hp := Hp.back k11a k11d hp
                                  have hp : Hp Z ρ1 (_ :: _ :: _ :: _ :: _ :: L) w := hp
                                  refine s_nil (and_with ⟨fun _ => ⟨_, hp⟩, fun _ => ⟨_, (hp.get 4 rfl)⟩, trivial⟩ fun hS => ?_)
                                  refine v_take0 43 (wk0 rfl) rfl rfl rfl hE (by kernel_rfl) (by kernel_rfl) (by kernel_rfl) rfl (by kernel_rfl) hS (v := (.bool x10)) (fun _ => ex_pick1 rfl hE rfl hc19 rfl) ?_
                                  intro a hE hS
                                  have hE := hE.eqv (v' := (.bool m4)) (congrArg Value.bool (Option.some.inj hg4))
                                  refine v_take0 44 (wk0 rfl) rfl rfl rfl hE (by kernel_rfl) (by kernel_rfl) (by kernel_rfl) rfl (by kernel_rfl) hS (v := (.bool m4)) (fun _ => ex_move rfl hE rfl) ?_
                                  intro a hE hS
                                  rcases Bool.eq_false_or_eq_true m4 with hc20 | hc20
                                  ·
                                    have hg5 := (it hc20).symm.trans hg5
                                    obtain ⟨x11, ex11, hg5⟩ := bnd hg5
                                    refine v_take0 45 (wk1 hE rfl rfl rfl hc20) rfl rfl rfl hE (by kernel_rfl) (by kernel_rfl) (by kernel_rfl) rfl (by kernel_rfl) hS (v := (.slice (some ⟨b9, 0, none⟩) 2 2)) (fun _ => ex_move rfl hE rfl) ?_
                                    intro a hE hS
                                    refine v_all [46] (by kernel_rfl) rfl ?_
                                    refine List.forall_mem_cons.2 ⟨?_, fun _ h => absurd h (by simp)⟩
                                    ·
                                      refine h_op rfl ?_
                                      refine s_call (wk1 hE rfl rfl rfl hc20) rfl rfl hE rfl [(.slice (some ⟨b9, 0, none⟩) 2 2)] ⟨rfl, trivial⟩ ent27 (c_proof_Format (Tabs.mono (Tabs.mono (Tabs.mono (Tabs.mono (Tabs.mono hT (PH.le_un _ k1)) (PH.le_un _ k2)) (PH.le_un _ k3)) (PH.le_un _ k4)) hle1) ([([1] : List Int), ([] : List Int)] : List (List Int)) (.slice (some ⟨b9, 0, none⟩) 2 2) (RoSl.mono f4 hle1) hp x11 ex11) Ret.ret ?_
                                      intro v a w hR hE
                                      obtain ⟨rfl, hp⟩ := Ret.of hR
                                      have hp : Hp Z ρ1 (_ :: _ :: _ :: _ :: _ :: L) w := hp
                                      refine s_nil (and_with ⟨fun _ => ⟨_, hp⟩, fun _ => ⟨_, (hp.get 4 rfl)⟩, trivial⟩ fun hS => ?_)
                                      refine v_take0 47 (wk1 hE rfl rfl rfl hc20) rfl rfl rfl hE (by kernel_rfl) (by kernel_rfl) (by kernel_rfl) rfl (by kernel_rfl) hS (v := (.bool (decide (x11 = (ByteArray.mk #[49, 32, 48, 10, 48, 10]))))) (fun _ => ex_seql rfl hE rfl rfl) ?_
                                      intro a hE hS
                                      refine v_take0 48 (wk0 rfl) rfl rfl rfl hE (by kernel_rfl) (by kernel_rfl) (by kernel_rfl) rfl (by kernel_rfl) hS (v := (.bool (decide (x11 = (ByteArray.mk #[49, 32, 48, 10, 48, 10]))))) (fun _ => ex_pick1 rfl hE rfl hc20 rfl) ?_
                                      intro a hE hS
                                      have hE := hE.eqv (v' := (.bool m5)) (congrArg Value.bool (Option.some.inj hg5))
                                      refine v_take0 49 (wk0 rfl) rfl rfl rfl hE (by kernel_rfl) (by kernel_rfl) (by kernel_rfl) rfl (by kernel_rfl) hS (v := (.bool m5)) (fun _ => ex_asn rfl hE rfl) ?_
                                      intro a hE hS
                                      exact v_done (by kernel_rfl) ⟨hE.cut ⟨rfl, trivial⟩, ((((((hp.get 4 rfl).get 2 rfl).get 4 rfl).get 3 rfl).get 4 rfl).drop)⟩
                                  ·
                                    have hg5 := (ie hc20).symm.trans hg5
                                    refine v_skip 45 (wk2 hE rfl rfl rfl hc20) rfl rfl rfl hE (by kernel_rfl) (by kernel_rfl) (by kernel_rfl) rfl (by kernel_rfl) hS ?_
                                    intro a hE hS
                                    refine v_skip 46 (wk2 hE rfl rfl rfl hc20) rfl rfl rfl hE (by kernel_rfl) (by kernel_rfl) (by kernel_rfl) rfl (by kernel_rfl) hS ?_
                                    intro a hE hS
                                    refine v_skip 47 (wk2 hE rfl rfl rfl hc20) rfl rfl rfl hE (by kernel_rfl) (by kernel_rfl) (by kernel_rfl) rfl (by kernel_rfl) hS ?_
                                    intro a hE hS
                                    refine v_take0 48 (wk0 rfl) rfl rfl rfl hE (by kernel_rfl) (by kernel_rfl) (by kernel_rfl) rfl (by kernel_rfl) hS (v := (.bool false)) (fun _ => ex_pick0 rfl hE rfl hc20 rfl) ?_
                                    intro a hE hS
                                    have hE := hE.eqv (v' := (.bool m5)) (congrArg Value.bool (Option.some.inj hg5))
                                    refine v_take0 49 (wk0 rfl) rfl rfl rfl hE (by kernel_rfl) (by kernel_rfl) (by kernel_rfl) rfl (by kernel_rfl) hS (v := (.bool m5)) (fun _ => ex_asn rfl hE rfl) ?_
                                    intro a hE hS
                                    exact v_done (by kernel_rfl) ⟨hE.cut ⟨rfl, trivial⟩, ((((((hp.get 4 rfl).get 2 rfl).get 4 rfl).get 3 rfl).get 4 rfl).drop)⟩
                              ·
                                have hg4 := (ie hc19).symm.trans hg4
                                refine v_skip 40 (wk2 hE rfl rfl rfl hc19) rfl rfl rfl hE (by kernel_rfl) (by kernel_rfl) (by kernel_rfl) rfl (by kernel_rfl) hS ?_
                                intro a hE hS
                                refine v_skip 41 (wk2 hE rfl rfl rfl hc19) rfl rfl rfl hE (by kernel_rfl) (by kernel_rfl) (by kernel_rfl) rfl (by kernel_rfl) hS ?_
                                intro a hE hS
                                refine v_skip 42 (wk2 hE rfl rfl rfl hc19) rfl rfl rfl hE (by kernel_rfl) (by kernel_rfl) (by kernel_rfl) rfl (by kernel_rfl) hS ?_
                                intro a hE hS
                                refine v_take0 43 (wk0 rfl) rfl rfl rfl hE (by kernel_rfl) (by kernel_rfl) (by kernel_rfl) rfl (by kernel_rfl) hS (v := (.bool false)) (fun _ => ex_pick0 rfl hE rfl hc19 rfl) ?_
                                intro a hE hS
                                have hE := hE.eqv (v' := (.bool m4)) (congrArg Value.bool (Option.some.inj hg4))
                                refine v_take0 44 (wk0 rfl) rfl rfl rfl hE (by kernel_rfl) (by kernel_rfl) (by kernel_rfl) rfl (by kernel_rfl) hS (v := (.bool m4)) (fun _ => ex_move rfl hE rfl) ?_
                                intro a hE hS
                                have hg5 := (ie (Option.some.inj hg4).symm).symm.trans hg5
                                refine v_skip 45 (wk2 hE rfl rfl rfl (Option.some.inj hg4).symm) rfl rfl rfl hE (by kernel_rfl) (by kernel_rfl) (by kernel_rfl) rfl (by kernel_rfl) hS ?_
                                intro a hE hS
                                refine v_skip 46 (wk2 hE rfl rfl rfl (Option.some.inj hg4).symm) rfl rfl rfl hE (by kernel_rfl) (by kernel_rfl) (by kernel_rfl) rfl (by kernel_rfl) hS ?_
                                intro a hE hS
                                refine v_skip 47 (wk2 hE rfl rfl rfl (Option.some.inj hg4).symm) rfl rfl rfl hE (by kernel_rfl) (by kernel_rfl) (by kernel_rfl) rfl (by kernel_rfl) hS ?_
                                intro a hE hS
                                refine v_take0 48 (wk0 rfl) rfl rfl rfl hE (by kernel_rfl) (by kernel_rfl) (by kernel_rfl) rfl (by kernel_rfl) hS (v := (.bool false)) (fun _ => ex_pick0 rfl hE rfl (Option.some.inj hg4).symm rfl) ?_
                                intro a hE hS
                                have hE := hE.eqv (v' := (.bool m5)) (congrArg Value.bool (Option.some.inj hg5))
                                refine v_take0 49 (wk0 rfl) rfl rfl rfl hE (by kernel_rfl) (by kernel_rfl) (by kernel_rfl) rfl (by kernel_rfl) hS (v := (.bool m5)) (fun _ => ex_asn rfl hE rfl) ?_
                                intro a hE hS
                                exact v_done (by kernel_rfl) ⟨hE.cut ⟨rfl, trivial⟩, ((((((hp.get 4 rfl).get 1 rfl).get 4 rfl).get 4 rfl).get 4 rfl).drop)⟩
                            ·
                              refine v_skip 36 (wk2 hE rfl rfl rfl hc18) rfl rfl rfl hE (by kernel_rfl) (by kernel_rfl) (by kernel_rfl) rfl (by kernel_rfl) hS ?_
                              intro a hE hS
                              refine v_skip 37 (wk2 hE rfl rfl rfl hc18) rfl rfl rfl hE (by kernel_rfl) (by kernel_rfl) (by kernel_rfl) rfl (by kernel_rfl) hS ?_
                              intro a hE hS
                              refine v_take0 38 (wk0 rfl) rfl rfl rfl hE (by kernel_rfl) (by kernel_rfl) (by kernel_rfl) rfl (by kernel_rfl) hS (v := (.bool false)) (fun _ => ex_pick0 rfl hE rfl hc18 rfl) ?_
                              intro a hE hS
                              have hE := hE.eqv (v' := (.bool (((m3 && x3.1) && (decide (x3.2 = 0))) && (decide (x4.2 = 0))))) (by rw [hc18]; rfl)
                              have hk1 : (((m3 && x3.1) && (decide (x3.2 = 0))) && (decide (x4.2 = 0)) : Bool) = false := by rw [hc18]; rfl
                              refine v_take0 39 (wk0 rfl) rfl rfl rfl hE (by kernel_rfl) (by kernel_rfl) (by kernel_rfl) rfl (by kernel_rfl) hS (v := (.bool (((m3 && x3.1) && (decide (x3.2 = 0))) && (decide (x4.2 = 0))))) (fun _ => ex_move rfl hE rfl) ?_
                              intro a hE hS
                              have hg4 := (ie hk1).symm.trans hg4
                              refine v_skip 40 (wk2 hE rfl rfl rfl hk1) rfl rfl rfl hE (by kernel_rfl) (by kernel_rfl) (by kernel_rfl) rfl (by kernel_rfl) hS ?_
                              intro a hE hS
                              refine v_skip 41 (wk2 hE rfl rfl rfl hk1) rfl rfl rfl hE (by kernel_rfl) (by kernel_rfl) (by kernel_rfl) rfl (by kernel_rfl) hS ?_
                              intro a hE hS
                              refine v_skip 42 (wk2 hE rfl rfl rfl hk1) rfl rfl rfl hE (by kernel_rfl) (by kernel_rfl) (by kernel_rfl) rfl (by kernel_rfl) hS ?_
                              intro a hE hS
                              refine v_take0 43 (wk0 rfl) rfl rfl rfl hE (by kernel_rfl) (by kernel_rfl) (by kernel_rfl) rfl (by kernel_rfl) hS (v := (.bool false)) (fun _ => ex_pick0 rfl hE rfl hk1 rfl) ?_
                              intro a hE hS
                              have hE := hE.eqv (v' := (.bool m4)) (congrArg Value.bool (Option.some.inj hg4))
                              refine v_take0 44 (wk0 rfl) rfl rfl rfl hE (by kernel_rfl) (by kernel_rfl) (by kernel_rfl) rfl (by kernel_rfl) hS (v := (.bool m4)) (fun _ => ex_move rfl hE rfl) ?_
                              intro a hE hS
                              have hg5 := (ie (Option.some.inj hg4).symm).symm.trans hg5
                              refine v_skip 45 (wk2 hE rfl rfl rfl (Option.some.inj hg4).symm) rfl rfl rfl hE (by kernel_rfl) (by kernel_rfl) (by kernel_rfl) rfl (by kernel_rfl) hS ?_
                              intro a hE hS
                              refine v_skip 46 (wk2 hE rfl rfl rfl (Option.some.inj hg4).symm) rfl rfl rfl hE (by kernel_rfl) (by kernel_rfl) (by kernel_rfl) rfl (by kernel_rfl) hS ?_
                              intro a hE hS
                              refine v_skip 47 (wk2 hE rfl rfl rfl (Option.some.inj hg4).symm) rfl rfl rfl hE (by kernel_rfl) (by kernel_rfl) (by kernel_rfl) rfl (by kernel_rfl) hS ?_
                              intro a hE hS
                              refine v_take0 48 (wk0 rfl) rfl rfl rfl hE (by kernel_rfl) (by kernel_rfl) (by kernel_rfl) rfl (by kernel_rfl) hS (v := (.bool false)) (fun _ => ex_pick0 rfl hE rfl (Option.some.inj hg4).symm rfl) ?_
                              intro a hE hS
                              have hE := hE.eqv (v' := (.bool m5)) (congrArg Value.bool (Option.some.inj hg5))
                              refine v_take0 49 (wk0 rfl) rfl rfl rfl hE (by kernel_rfl) (by kernel_rfl) (by kernel_rfl) rfl (by kernel_rfl) hS (v := (.bool m5)) (fun _ => ex_asn rfl hE rfl) ?_
                              intro a hE hS
                              exact v_done (by kernel_rfl) ⟨hE.cut ⟨rfl, trivial⟩, ((((((hp.get 4 rfl).get 1 rfl).get 4 rfl).get 4 rfl).get 4 rfl).drop)⟩
                          ·
                            refine v_skip 32 (wk2 hE rfl rfl rfl hc17) rfl rfl rfl hE (by kernel_rfl) (by kernel_rfl) (by kernel_rfl) rfl (by kernel_rfl) hS ?_
                            intro a hE hS
                            refine v_skip 33 (wk2 hE rfl rfl rfl hc17) rfl rfl rfl hE (by kernel_rfl) (by kernel_rfl) (by kernel_rfl) rfl (by kernel_rfl) hS ?_
                            intro a hE hS
                            refine v_take0 34 (wk0 rfl) rfl rfl rfl hE (by kernel_rfl) (by kernel_rfl) (by kernel_rfl) rfl (by kernel_rfl) hS (v := (.bool false)) (fun _ => ex_pick0 rfl hE rfl hc17 rfl) ?_
                            intro a hE hS
                            have hE := hE.eqv (v' := (.bool ((m3 && x3.1) && (decide (x3.2 = 0))))) (by rw [hc17]; rfl)
                            have hk2 : ((m3 && x3.1) && (decide (x3.2 = 0)) : Bool) = false := by rw [hc17]; rfl
                            refine v_take0 35 (wk0 rfl) rfl rfl rfl hE (by kernel_rfl) (by kernel_rfl) (by kernel_rfl) rfl (by kernel_rfl) hS (v := (.bool ((m3 && x3.1) && (decide (x3.2 = 0))))) (fun _ => ex_move rfl hE rfl) ?_
                            intro a hE hS
                            refine v_skip 36 (wk2 hE rfl rfl rfl hk2) rfl rfl rfl hE (by kernel_rfl) (by kernel_rfl) (by kernel_rfl) rfl (by kernel_rfl) hS ?_
                            intro a hE hS
                            refine v_skip 37 (wk2 hE rfl rfl rfl hk2) rfl rfl rfl hE (by kernel_rfl) (by kernel_rfl) (by kernel_rfl) rfl (by kernel_rfl) hS ?_
                            intro a hE hS
                            refine v_take0 38 (wk0 rfl) rfl rfl rfl hE (by kernel_rfl) (by kernel_rfl) (by kernel_rfl) rfl (by kernel_rfl) hS (v := (.bool false)) (fun _ => ex_pick0 rfl hE rfl hk2 rfl) ?_
                            intro a hE hS
                            have hE := hE.eqv (v' := (.bool (((m3 && x3.1) && (decide (x3.2 = 0))) && (decide (x4.2 = 0))))) (by rw [hk2]; rfl)
                            have hk3 : (((m3 && x3.1) && (decide (x3.2 = 0))) && (decide (x4.2 = 0)) : Bool) = false := by rw [hk2]; rfl
                            refine v_take0 39 (wk0 rfl) rfl rfl rfl hE (by kernel_rfl) (by kernel_rfl) (by kernel_rfl) rfl (by kernel_rfl) hS (v := (.bool (((m3 && x3.1) && (decide (x3.2 = 0))) && (decide (x4.2 = 0))))) (fun _ => ex_move rfl hE rfl) ?_
                            intro a hE hS
                            have hg4 := (ie hk3).symm.trans hg4
                            refine v_skip 40 (wk2 hE rfl rfl rfl hk3) rfl rfl rfl hE (by kernel_rfl) (by kernel_rfl) (by kernel_rfl) rfl (by kernel_rfl) hS ?_
                            intro a hE hS
                            refine v_skip 41 (wk2 hE rfl rfl rfl hk3) rfl rfl rfl hE (by kernel_rfl) (by kernel_rfl) (by kernel_rfl) rfl (by kernel_rfl) hS ?_
                            intro a hE hS
                            refine v_skip 42 (wk2 hE rfl rfl rfl hk3) rfl rfl rfl hE (by kernel_rfl) (by kernel_rfl) (by kernel_rfl) rfl (by kernel_rfl) hS ?_
                            intro a hE hS
                            refine v_take0 43 (wk0 rfl) rfl rfl rfl hE (by kernel_rfl) (by kernel_rfl) (by kernel_rfl) rfl (by kernel_rfl) hS (v := (.bool false)) (fun _ => ex_pick0 rfl hE rfl hk3 rfl) ?_
                            intro a hE hS
                            have hE := hE.eqv (v' := (.bool m4)) (congrArg Value.bool (Option.some.inj hg4))
                            refine v_take0 44 (wk0 rfl) rfl rfl rfl hE (by kernel_rfl) (by kernel_rfl) (by kernel_rfl) rfl (by kernel_rfl) hS (v := (.bool m4)) (fun _ => ex_move rfl hE rfl) ?_
                            intro a hE hS
                            have hg5 := (ie (Option.some.inj hg4).symm).symm.trans hg5
                            refine v_skip 45 (wk2 hE rfl rfl rfl (Option.some.inj hg4).symm) rfl rfl rfl hE (by kernel_rfl) (by kernel_rfl) (by kernel_rfl) rfl (by kernel_rfl) hS ?_
                            intro a hE hS
                            refine v_skip 46 (wk2 hE rfl rfl rfl (Option.some.inj hg4).symm) rfl rfl rfl hE (by kernel_rfl) (by kernel_rfl) (by kernel_rfl) rfl (by kernel_rfl) hS ?_
                            intro a hE hS
                            refine v_skip 47 (wk2 hE rfl rfl rfl (Option.some.inj hg4).symm) rfl rfl rfl hE (by kernel_rfl) (by kernel_rfl) (by kernel_rfl) rfl (by kernel_rfl) hS ?_
                            intro a hE hS
                            refine v_take0 48 (wk0 rfl) rfl rfl rfl hE (by kernel_rfl) (by kernel_rfl) (by kernel_rfl) rfl (by kernel_rfl) hS (v := (.bool false)) (fun _ => ex_pick0 rfl hE rfl (Option.some.inj hg4).symm rfl) ?_
                            intro a hE hS
                            have hE := hE.eqv (v' := (.bool m5)) (congrArg Value.bool (Option.some.inj hg5))
                            refine v_take0 49 (wk0 rfl) rfl rfl rfl hE (by kernel_rfl) (by kernel_rfl) (by kernel_rfl) rfl (by kernel_rfl) hS (v := (.bool m5)) (fun _ => ex_asn rfl hE rfl) ?_
                            intro a hE hS
                            exact v_done (by kernel_rfl) ⟨hE.cut ⟨rfl, trivial⟩, ((((((hp.get 4 rfl).get 1 rfl).get 4 rfl).get 4 rfl).get 4 rfl).drop)⟩
                        ·
                          refine v_skip 29 (wk2 hE rfl rfl rfl hc16) rfl rfl rfl hE (by kernel_rfl) (by kernel_rfl) (by kernel_rfl) rfl (by kernel_rfl) hS ?_
                          intro a hE hS
                          refine v_take0 30 (wk0 rfl) rfl rfl rfl hE (by kernel_rfl) (by kernel_rfl) (by kernel_rfl) rfl (by kernel_rfl) hS (v := (.bool false)) (fun _ => ex_pick0 rfl hE rfl hc16 rfl) ?_
                          intro a hE hS
                          have hE := hE.eqv (v' := (.bool (m3 && x3.1))) (by rw [hc16]; rfl)
                          have hk4 : (m3 && x3.1 : Bool) = false := by rw [hc16]; rfl
                          refine v_take0 31 (wk0 rfl) rfl rfl rfl hE (by kernel_rfl) (by kernel_rfl) (by kernel_rfl) rfl (by kernel_rfl) hS (v := (.bool (m3 && x3.1))) (fun _ => ex_move rfl hE rfl) ?_
                          intro a hE hS
                          refine v_skip 32 (wk2 hE rfl rfl rfl hk4) rfl rfl rfl hE (by kernel_rfl) (by kernel_rfl) (by kernel_rfl) rfl (by kernel_rfl) hS ?_
                          intro a hE hS
                          refine v_skip 33 (wk2 hE rfl rfl rfl hk4) rfl rfl rfl hE (by kernel_rfl) (by kernel_rfl) (by kernel_rfl) rfl (by kernel_rfl) hS ?_
                          intro a hE hS
                          refine v_take0 34 (wk0 rfl) rfl rfl rfl hE (by kernel_rfl) (by kernel_rfl) (by kernel_rfl) rfl (by kernel_rfl) hS (v := (.bool false)) (fun _ => ex_pick0 rfl hE rfl hk4 rfl) ?_
                          intro a hE hS
                          have hE := hE.eqv (v' := (.bool ((m3 && x3.1) && (decide (x3.2 = 0))))) (by rw [hk4]; rfl)
                          have hk5 : ((m3 && x3.1) && (decide (x3.2 = 0)) : Bool) = false := by rw [hk4]; rfl
                          refine v_take0 35 (wk0 rfl) rfl rfl rfl hE (by kernel_rfl) (by kernel_rfl) (by kernel_rfl) rfl (by kernel_rfl) hS (v := (.bool ((m3 && x3.1) && (decide (x3.2 = 0))))) (fun _ => ex_move rfl hE rfl) ?_
                          intro a hE hS
                          refine v_skip 36 (wk2 hE rfl rfl rfl hk5) rfl rfl rfl hE (by kernel_rfl) (by kernel_rfl) (by kernel_rfl) rfl (by kernel_rfl) hS ?_
                          intro a hE hS
                          refine v_skip 37 (wk2 hE rfl rfl rfl hk5) rfl rfl rfl hE (by kernel_rfl) (by kernel_rfl) (by kernel_rfl) rfl (by kernel_rfl) hS ?_
                          intro a hE hS
                          refine v_take0 38 (wk0 rfl) rfl rfl rfl hE (by kernel_rfl) (by kernel_rfl) (by kernel_rfl) rfl (by kernel_rfl) hS (v := (.bool false)) (fun _ => ex_pick0 rfl hE rfl hk5 rfl) ?_
                          intro a hE hS
                          have hE := hE.eqv (v' := (.bool (((m3 && x3.1) && (decide (x3.2 = 0))) && (decide (x4.2 = 0))))) (by rw [hk5]; rfl)
                          have hk6 : (((m3 && x3.1) && (decide (x3.2 = 0))) && (decide (x4.2 = 0)) : Bool) = false := by rw [hk5]; rfl
                          refine v_take0 39 (wk0 rfl) rfl rfl rfl hE (by kernel_rfl) (by kernel_rfl) (by kernel_rfl) rfl (by kernel_rfl) hS (v := (.bool (((m3 && x3.1) && (decide (x3.2 = 0))) && (decide (x4.2 = 0))))) (fun _ => ex_move rfl hE rfl) ?_
                          intro a hE hS
                          have hg4 := (ie hk6).symm.trans hg4
                          refine v_skip 40 (wk2 hE rfl rfl rfl hk6) rfl rfl rfl hE (by kernel_rfl) (by kernel_rfl) (by kernel_rfl) rfl (by kernel_rfl) hS ?_
                          intro a hE hS
                          refine v_skip 41 (wk2 hE rfl rfl rfl hk6) rfl rfl rfl hE (by kernel_rfl) (by kernel_rfl) (by kernel_rfl) rfl (by kernel_rfl) hS ?_
                          intro a hE hS
                          refine v_skip 42 (wk2 hE rfl rfl rfl hk6) rfl rfl rfl hE (by kernel_rfl) (by kernel_rfl) (by kernel_rfl) rfl (by kernel_rfl) hS ?_
                          intro a hE hS
                          refine v_take0 43 (wk0 rfl) rfl rfl rfl hE (by kernel_rfl) (by kernel_rfl) (by kernel_rfl) rfl (by kernel_rfl) hS (v := (.bool false)) (fun _ => ex_pick0 rfl hE rfl hk6 rfl) ?_
                          intro a hE hS
                          have hE := hE.eqv (v' := (.bool m4)) (congrArg Value.bool (Option.some.inj hg4))
                          refine v_take0 44 (wk0 rfl) rfl rfl rfl hE (by kernel_rfl) (by kernel_rfl) (by kernel_rfl) rfl (by kernel_rfl) hS (v := (.bool m4)) (fun _ => ex_move rfl hE rfl) ?_
                          intro a hE hS
                          have hg5 := (ie (Option.some.inj hg4).symm).symm.trans hg5
                          refine v_skip 45 (wk2 hE rfl rfl rfl (Option.some.inj hg4).symm) rfl rfl rfl hE (by kernel_rfl) (by kernel_rfl) (by kernel_rfl) rfl (by kernel_rfl) hS ?_
                          intro a hE hS
                          refine v_skip 46 (wk2 hE rfl rfl rfl (Option.some.inj hg4).symm) rfl rfl rfl hE (by kernel_rfl) (by kernel_rfl) (by kernel_rfl) rfl (by kernel_rfl) hS ?_
                          intro a hE hS
                          refine v_skip 47 (wk2 hE rfl rfl rfl (Option.some.inj hg4).symm) rfl rfl rfl hE (by kernel_rfl) (by kernel_rfl) (by kernel_rfl) rfl (by kernel_rfl) hS ?_
                          intro a hE hS
                          refine v_take0 48 (wk0 rfl) rfl rfl rfl hE (by kernel_rfl) (by kernel_rfl) (by kernel_rfl) rfl (by kernel_rfl) hS (v := (.bool false)) (fun _ => ex_pick0 rfl hE rfl (Option.some.inj hg4).symm rfl) ?_
                          intro a hE hS
                          have hE := hE.eqv (v' := (.bool m5)) (congrArg Value.bool (Option.some.inj hg5))
                          refine v_take0 49 (wk0 rfl) rfl rfl rfl hE (by kernel_rfl) (by kernel_rfl) (by kernel_rfl) rfl (by kernel_rfl) hS (v := (.bool m5)) (fun _ => ex_asn rfl hE rfl) ?_
                          intro a hE hS
                          exact v_done (by kernel_rfl) ⟨hE.cut ⟨rfl, trivial⟩, ((((((hp.get 4 rfl).get 1 rfl).get 4 rfl).get 4 rfl).get 4 rfl).drop)⟩
                  ·
                    have hg3 := (ie hc15).symm.trans hg3
                    refine v_skip 24 (wk2 hE rfl rfl rfl hc15) rfl rfl rfl hE (by kernel_rfl) (by kernel_rfl) (by kernel_rfl) rfl (by kernel_rfl) hS ?_
                    intro a hE hS
                    refine v_skip 25 (wk2 hE rfl rfl rfl hc15) rfl rfl rfl hE (by kernel_rfl) (by kernel_rfl) (by kernel_rfl) rfl (by kernel_rfl) hS ?_
                    intro a hE hS
                    refine v_skip 26 (wk2 hE rfl rfl rfl hc15) rfl rfl rfl hE (by kernel_rfl) (by kernel_rfl) (by kernel_rfl) rfl (by kernel_rfl) hS ?_
                    intro a hE hS
                    refine v_take0 27 (wk0 rfl) rfl rfl rfl hE (by kernel_rfl) (by kernel_rfl) (by kernel_rfl) rfl (by kernel_rfl) hS (v := (.bool false)) (fun _ => ex_pick0 rfl hE rfl hc15 rfl) ?_
                    intro a hE hS
                    have hE := hE.eqv (v' := (.bool m3)) (congrArg Value.bool (Option.some.inj hg3))
                    refine v_take0 28 (wk0 rfl) rfl rfl rfl hE (by kernel_rfl) (by kernel_rfl) (by kernel_rfl) rfl (by kernel_rfl) hS (v := (.bool m3)) (fun _ => ex_move rfl hE rfl) ?_
                    intro a hE hS
                    refine v_skip 29 (wk2 hE rfl rfl rfl (Option.some.inj hg3).symm) rfl rfl rfl hE (by kernel_rfl) (by kernel_rfl) (by kernel_rfl) rfl (by kernel_rfl) hS ?_
                    intro a hE hS
                    refine v_take0 30 (wk0 rfl) rfl rfl rfl hE (by kernel_rfl) (by kernel_rfl) (by kernel_rfl) rfl (by kernel_rfl) hS (v := (.bool false)) (fun _ => ex_pick0 rfl hE rfl (Option.some.inj hg3).symm rfl) ?_
                    intro a hE hS
                    have hE := hE.eqv (v' := (.bool (m3 && x3.1))) (by rw [(Option.some.inj hg3).symm]; rfl)
                    have hk7 : (m3 && x3.1 : Bool) = false := by rw [(Option.some.inj hg3).symm]; rfl
                    refine v_take0 31 (wk0 rfl) rfl rfl rfl hE (by kernel_rfl) (by kernel_rfl) (by kernel_rfl) rfl (by kernel_rfl) hS (v := (.bool (m3 && x3.1))) (fun _ => ex_move rfl hE rfl) ?_
                    intro a hE hS
                    refine v_skip 32 (wk2 hE rfl rfl rfl hk7) rfl rfl rfl hE (by kernel_rfl) (by kernel_rfl) (by kernel_rfl) rfl (by kernel_rfl) hS ?_
                    intro a hE hS
                    refine v_skip 33 (wk2 hE rfl rfl rfl hk7) rfl rfl rfl hE (by kernel_rfl) (by kernel_rfl) (by kernel_rfl) rfl (by kernel_rfl) hS ?_
                    intro a hE hS
                    refine v_take0 34 (wk0 rfl) rfl rfl rfl hE (by kernel_rfl) (by kernel_rfl) (by kernel_rfl) rfl (by kernel_rfl) hS (v := (.bool false)) (fun _ => ex_pick0 rfl hE rfl hk7 rfl) ?_
                    intro a hE hS
                    have hE := hE.eqv (v' := (.bool ((m3 && x3.1) && (decide (x3.2 = 0))))) (by rw [hk7]; rfl)
                    have hk8 : ((m3 && x3.1) && (decide (x3.2 = 0)) : Bool) = false := by rw [hk7]; rfl
                    refine v_take0 35 (wk0 rfl) rfl rfl rfl hE (by kernel_rfl) (by kernel_rfl) (by kernel_rfl) rfl (by kernel_rfl) hS (v := (.bool ((m3 && x3.1) && (decide (x3.2 = 0))))) (fun _ => ex_move rfl hE rfl) ?_
                    intro a hE hS
                    refine v_skip 36 (wk2 hE rfl rfl rfl hk8) rfl rfl rfl hE (by kernel_rfl) (by kernel_rfl) (by kernel_rfl) rfl (by kernel_rfl) hS ?_
                    intro a hE hS
                    refine v_skip 37 (wk2 hE rfl rfl rfl hk8) rfl rfl rfl hE (by kernel_rfl) (by kernel_rfl) (by kernel_rfl) rfl (by kernel_rfl) hS ?_
                    intro a hE hS
                    refine v_take0 38 (wk0 rfl) rfl rfl rfl hE (by kernel_rfl) (by kernel_rfl) (by kernel_rfl) rfl (by kernel_rfl) hS (v := (.bool false)) (fun _ => ex_pick0 rfl hE rfl hk8 rfl) ?_
                    intro a hE hS
                    have hE := hE.eqv (v' := (.bool (((m3 && x3.1) && (decide (x3.2 = 0))) && (decide (x4.2 = 0))))) (by rw [hk8]; rfl)
                    have hk9 : (((m3 && x3.1) && (decide (x3.2 = 0))) && (decide (x4.2 = 0)) : Bool) = false := by rw [hk8]; rfl
                    refine v_take0 39 (wk0 rfl) rfl rfl rfl hE (by kernel_rfl) (by kernel_rfl) (by kernel_rfl) rfl (by kernel_rfl) hS (v := (.bool (((m3 && x3.1) && (decide (x3.2 = 0))) && (decide (x4.2 = 0))))) (fun _ => ex_move rfl hE rfl) ?_
                    intro a hE hS
                    have hg4 := (ie hk9).symm.trans hg4
                    refine v_skip 40 (wk2 hE rfl rfl rfl hk9) rfl rfl rfl hE (by kernel_rfl) (by kernel_rfl) (by kernel_rfl) rfl (by kernel_rfl) hS ?_
                    intro a hE hS
                    refine v_skip 41 (wk2 hE rfl rfl rfl hk9) rfl rfl rfl hE (by kernel_rfl) (by kernel_rfl) (by kernel_rfl) rfl (by kernel_rfl) hS ?_
                    intro a hE hS
                    refine v_skip 42 (wk2 hE rfl rfl rfl hk9) rfl rfl rfl hE (by kernel_rfl) (by kernel_rfl) (by kernel_rfl) rfl (by kernel_rfl) hS ?_
                    intro a hE hS
                    refine v_take0 43 (wk0 rfl) rfl rfl rfl hE (by kernel_rfl) (by kernel_rfl) (by kernel_rfl) rfl (by kernel_rfl) hS (v := (.bool false)) (fun _ => ex_pick0 rfl hE rfl hk9 rfl) ?_
                    intro a hE hS
                    have hE := hE.eqv (v' := (.bool m4)) (congrArg Value.bool (Option.some.inj hg4))
                    refine v_take0 44 (wk0 rfl) rfl rfl rfl hE (by kernel_rfl) (by kernel_rfl) (by kernel_rfl) rfl (by kernel_rfl) hS (v := (.bool m4)) (fun _ => ex_move rfl hE rfl) ?_
                    intro a hE hS
                    have hg5 := (ie (Option.some.inj hg4).symm).symm.trans hg5
                    refine v_skip 45 (wk2 hE rfl rfl rfl (Option.some.inj hg4).symm) rfl rfl rfl hE (by kernel_rfl) (by kernel_rfl) (by kernel_rfl) rfl (by kernel_rfl) hS ?_
                    intro a hE hS
                    refine v_skip 46 (wk2 hE rfl rfl rfl (Option.some.inj hg4).symm) rfl rfl rfl hE (by kernel_rfl) (by kernel_rfl) (by kernel_rfl) rfl (by kernel_rfl) hS ?_
                    intro a hE hS
                    refine v_skip 47 (wk2 hE rfl rfl rfl (Option.some.inj hg4).symm) rfl rfl rfl hE (by kernel_rfl) (by kernel_rfl) (by kernel_rfl) rfl (by kernel_rfl) hS ?_
                    intro a hE hS
                    refine v_take0 48 (wk0 rfl) rfl rfl rfl hE (by kernel_rfl) (by kernel_rfl) (by kernel_rfl) rfl (by kernel_rfl) hS (v := (.bool false)) (fun _ => ex_pick0 rfl hE rfl (Option.some.inj hg4).symm rfl) ?_
                    intro a hE hS
                    have hE := hE.eqv (v' := (.bool m5)) (congrArg Value.bool (Option.some.inj hg5))
                    refine v_take0 49 (wk0 rfl) rfl rfl rfl hE (by kernel_rfl) (by kernel_rfl) (by kernel_rfl) rfl (by kernel_rfl) hS (v := (.bool m5)) (fun _ => ex_asn rfl hE rfl) ?_
                    intro a hE hS
                    exact v_done (by kernel_rfl) ⟨hE.cut ⟨rfl, trivial⟩, hp⟩
                ·
                  refine v_skip 20 (wk2 hE rfl rfl rfl hc14) rfl rfl rfl hE (by kernel_rfl) (by kernel_rfl) (by kernel_rfl) rfl (by kernel_rfl) hS ?_
                  intro a hE hS
                  refine v_skip 21 (wk2 hE rfl rfl rfl hc14) rfl rfl rfl hE (by kernel_rfl) (by kernel_rfl) (by kernel_rfl) rfl (by kernel_rfl) hS ?_
                  intro a hE hS
                  refine v_take0 22 (wk0 rfl) rfl rfl rfl hE (by kernel_rfl) (by kernel_rfl) (by kernel_rfl) rfl (by kernel_rfl) hS (v := (.bool false)) (fun _ => ex_pick0 rfl hE rfl hc14 rfl) ?_
                  intro a hE hS
                  have hE := hE.eqv (v' := (.bool (m2 && (decide (x2.2 = 0))))) (by rw [hc14]; rfl)
                  have hk10 : (m2 && (decide (x2.2 = 0)) : Bool) = false := by rw [hc14]; rfl
                  refine v_take0 23 (wk0 rfl) rfl rfl rfl hE (by kernel_rfl) (by kernel_rfl) (by kernel_rfl) rfl (by kernel_rfl) hS (v := (.bool (m2 && (decide (x2.2 = 0))))) (fun _ => ex_move rfl hE rfl) ?_
                  intro a hE hS
                  have hg3 := (ie hk10).symm.trans hg3
                  refine v_skip 24 (wk2 hE rfl rfl rfl hk10) rfl rfl rfl hE (by kernel_rfl) (by kernel_rfl) (by kernel_rfl) rfl (by kernel_rfl) hS ?_
                  intro a hE hS
                  refine v_skip 25 (wk2 hE rfl rfl rfl hk10) rfl rfl rfl hE (by kernel_rfl) (by kernel_rfl) (by kernel_rfl) rfl (by kernel_rfl) hS ?_
                  intro a hE hS
                  refine v_skip 26 (wk2 hE rfl rfl rfl hk10) rfl rfl rfl hE (by kernel_rfl) (by kernel_rfl) (by kernel_rfl) rfl (by kernel_rfl) hS ?_
                  intro a hE hS
                  refine v_take0 27 (wk0 rfl) rfl rfl rfl hE (by kernel_rfl) (by kernel_rfl) (by kernel_rfl) rfl (by kernel_rfl) hS (v := (.bool false)) (fun _ => ex_pick0 rfl hE rfl hk10 rfl) ?_
                  intro a hE hS
                  have hE := hE.eqv (v' := (.bool m3)) (congrArg Value.bool (Option.some.inj hg3))
                  refine v_take0 28 (wk0 rfl) rfl rfl rfl hE (by kernel_rfl) (by kernel_rfl) (by kernel_rfl) rfl (by kernel_rfl) hS (v := (.bool m3)) (fun _ => ex_move rfl hE rfl) ?_
                  intro a hE hS
                  refine v_skip 29 (wk2 hE rfl rfl rfl (Option.some.inj hg3).symm) rfl rfl rfl hE (by kernel_rfl) (by kernel_rfl) (by kernel_rfl) rfl (by kernel_rfl) hS ?_
                  intro a hE hS
                  refine v_take0 30 (wk0 rfl) rfl rfl rfl hE (by kernel_rfl) (by kernel_rfl) (by kernel_rfl) rfl (by kernel_rfl) hS (v := (.bool false)) (fun _ => ex_pick0 rfl hE rfl (Option.some.inj hg3).symm rfl) ?_
                  intro a hE hS
                  have hE := hE.eqv (v' := (.bool (m3 && x3.1))) (by rw [(Option.some.inj hg3).symm]; rfl)
                  have hk11 : (m3 && x3.1 : Bool) = false := by rw [(Option.some.inj hg3).symm]; rfl
                  refine v_take0 31 (wk0 rfl) rfl rfl rfl hE (by kernel_rfl) (by kernel_rfl) (by kernel_rfl) rfl (by kernel_rfl) hS (v := (.bool (m3 && x3.1))) (fun _ => ex_move rfl hE rfl) ?_
                  intro a hE hS
                  refine v_skip 32 (wk2 hE rfl rfl rfl hk11) rfl rfl rfl hE (by kernel_rfl) (by kernel_rfl) (by kernel_rfl) rfl (by kernel_rfl) hS ?_
                  intro a hE hS
                  refine v_skip 33 (wk2 hE rfl rfl rfl hk11) rfl rfl rfl hE (by kernel_rfl) (by kernel_rfl) (by kernel_rfl) rfl (by kernel_rfl) hS ?_
                  intro a hE hS
                  refine v_take0 34 (wk0 rfl) rfl rfl rfl hE (by kernel_rfl) (by kernel_rfl) (by kernel_rfl) rfl (by kernel_rfl) hS (v := (.bool false)) (fun _ => ex_pick0 rfl hE rfl hk11 rfl) ?_
                  intro a hE hS
                  have hE := hE.eqv (v' := (.bool ((m3 && x3.1) && (decide (x3.2 = 0))))) (by rw [hk11]; rfl)
                  have hk12 : ((m3 && x3.1) && (decide (x3.2 = 0)) : Bool) = false := by rw [hk11]; rfl
                  refine v_take0 35 (wk0 rfl) rfl rfl rfl hE (by kernel_rfl) (by kernel_rfl) (by kernel_rfl) rfl (by kernel_rfl) hS (v := (.bool ((m3 && x3.1) && (decide (x3.2 = 0))))) (fun _ => ex_move rfl hE rfl) ?_
                  intro a hE hS
                  refine v_skip 36 (wk2 hE rfl rfl rfl hk12) rfl rfl rfl hE (by kernel_rfl) (by kernel_rfl) (by kernel_rfl) rfl (by kernel_rfl) hS ?_
                  intro a hE hS
                  refine v_skip 37 (wk2 hE rfl rfl rfl hk12) rfl rfl rfl hE (by kernel_rfl) (by kernel_rfl) (by kernel_rfl) rfl (by kernel_rfl) hS ?_
                  intro a hE hS
                  refine v_take0 38 (wk0 rfl) rfl rfl rfl hE (by kernel_rfl) (by kernel_rfl) (by kernel_rfl) rfl (by kernel_rfl) hS (v := (.bool false)) (fun _ => ex_pick0 rfl hE rfl hk12 rfl) ?_
                  intro a hE hS
                  have hE := hE.eqv (v' := (.bool (((m3 && x3.1) && (decide (x3.2 = 0))) && (decide (x4.2 = 0))))) (by rw [hk12]; rfl)
                  have hk13 : (((m3 && x3.1) && (decide (x3.2 = 0))) && (decide (x4.2 = 0)) : Bool) = false := by rw [hk12]; rfl
                  refine v_take0 39 (wk0 rfl) rfl rfl rfl hE (by kernel_rfl) (by kernel_rfl) (by kernel_rfl) rfl (by kernel_rfl) hS (v := (.bool (((m3 && x3.1) && (decide (x3.2 = 0))) && (decide (x4.2 = 0))))) (fun _ => ex_move rfl hE rfl) ?_
                  intro a hE hS
                  have hg4 := (ie hk13).symm.trans hg4
                  refine v_skip 40 (wk2 hE rfl rfl rfl hk13) rfl rfl rfl hE (by kernel_rfl) (by kernel_rfl) (by kernel_rfl) rfl (by kernel_rfl) hS ?_
                  intro a hE hS
                  refine v_skip 41 (wk2 hE rfl rfl rfl hk13) rfl rfl rfl hE (by kernel_rfl) (by kernel_rfl) (by kernel_rfl) rfl (by kernel_rfl) hS ?_
                  intro a hE hS
                  refine v_skip 42 (wk2 hE rfl rfl rfl hk13) rfl rfl rfl hE (by kernel_rfl) (by kernel_rfl) (by kernel_rfl) rfl (by kernel_rfl) hS ?_
                  intro a hE hS
                  refine v_take0 43 (wk0 rfl) rfl rfl rfl hE (by kernel_rfl) (by kernel_rfl) (by kernel_rfl) rfl (by kernel_rfl) hS (v := (.bool false)) (fun _ => ex_pick0 rfl hE rfl hk13 rfl) ?_
                  intro a hE hS
                  have hE := hE.eqv (v' := (.bool m4)) (congrArg Value.bool (Option.some.inj hg4))
                  refine v_take0 44 (wk0 rfl) rfl rfl rfl hE (by kernel_rfl) (by kernel_rfl) (by kernel_rfl) rfl (by kernel_rfl) hS (v := (.bool m4)) (fun _ => ex_move rfl hE rfl) ?_
                  intro a hE hS
                  have hg5 := (ie (Option.some.inj hg4).symm).symm.trans hg5
                  refine v_skip 45 (wk2 hE rfl rfl rfl (Option.some.inj hg4).symm) rfl rfl rfl hE (by kernel_rfl) (by kernel_rfl) (by kernel_rfl) rfl (by kernel_rfl) hS ?_
                  intro a hE hS
                  refine v_skip 46 (wk2 hE rfl rfl rfl (Option.some.inj hg4).symm) rfl rfl rfl hE (by kernel_rfl) (by kernel_rfl) (by kernel_rfl) rfl (by kernel_rfl) hS ?_
                  intro a hE hS
                  refine v_skip 47 (wk2 hE rfl rfl rfl (Option.some.inj hg4).symm) rfl rfl rfl hE (by kernel_rfl) (by kernel_rfl) (by kernel_rfl) rfl (by kernel_rfl) hS ?_
                  intro a hE hS
                  refine v_take0 48 (wk0 rfl) rfl rfl rfl hE (by kernel_rfl) (by kernel_rfl) (by kernel_rfl) rfl (by kernel_rfl) hS (v := (.bool false)) (fun _ => ex_pick0 rfl hE rfl (Option.some.inj hg4).symm rfl) ?_
                  intro a hE hS
                  have hE := hE.eqv (v' := (.bool m5)) (congrArg Value.bool (Option.some.inj hg5))
                  refine v_take0 49 (wk0 rfl) rfl rfl rfl hE (by kernel_rfl) (by kernel_rfl) (by kernel_rfl) rfl (by kernel_rfl) hS (v := (.bool m5)) (fun _ => ex_asn rfl hE rfl) ?_
                  intro a hE hS
                  exact v_done (by kernel_rfl) ⟨hE.cut ⟨rfl, trivial⟩, hp⟩
            ·
              have hg2 := (ie hc13).symm.trans hg2
              refine v_skip 15 (wk2 hE rfl rfl rfl hc13) rfl rfl rfl hE (by kernel_rfl) (by kernel_rfl) (by kernel_rfl) rfl (by kernel_rfl) hS ?_
              intro a hE hS
              refine v_skip 16 (wk2 hE rfl rfl rfl hc13) rfl rfl rfl hE (by kernel_rfl) (by kernel_rfl) (by kernel_rfl) rfl (by kernel_rfl) hS ?_
              intro a hE hS
              refine v_skip 17 (wk2 hE rfl rfl rfl hc13) rfl rfl rfl hE (by kernel_rfl) (by kernel_rfl) (by kernel_rfl) rfl (by kernel_rfl) hS ?_
              intro a hE hS
              refine v_take0 18 (wk0 rfl) rfl rfl rfl hE (by kernel_rfl) (by kernel_rfl) (by kernel_rfl) rfl (by kernel_rfl) hS (v := (.bool false)) (fun _ => ex_pick0 rfl hE rfl hc13 rfl) ?_
              intro a hE hS
              have hE := hE.eqv (v' := (.bool m2)) (congrArg Value.bool (Option.some.inj hg2))
              refine v_take0 19 (wk0 rfl) rfl rfl rfl hE (by kernel_rfl) (by kernel_rfl) (by kernel_rfl) rfl (by kernel_rfl) hS (v := (.bool m2)) (fun _ => ex_move rfl hE rfl) ?_
              intro a hE hS
              refine v_skip 20 (wk2 hE rfl rfl rfl (Option.some.inj hg2).symm) rfl rfl rfl hE (by kernel_rfl) (by kernel_rfl) (by kernel_rfl) rfl (by kernel_rfl) hS ?_
              intro a hE hS
              refine v_skip 21 (wk2 hE rfl rfl rfl (Option.some.inj hg2).symm) rfl rfl rfl hE (by kernel_rfl) (by kernel_rfl) (by kernel_rfl) rfl (by kernel_rfl) hS ?_
              intro a hE hS
              refine v_take0 22 (wk0 rfl) rfl rfl rfl hE (by kernel_rfl) (by kernel_rfl) (by kernel_rfl) rfl (by kernel_rfl) hS (v := (.bool false)) (fun _ => ex_pick0 rfl hE rfl (Option.some.inj hg2).symm rfl) ?_
              intro a hE hS
              have hE := hE.eqv (v' := (.bool (m2 && (decide (x2.2 = 0))))) (by rw [(Option.some.inj hg2).symm]; rfl)
              have hk14 : (m2 && (decide (x2.2 = 0)) : Bool) = false := by rw [(Option.some.inj hg2).symm]; rfl
              refine v_take0 23 (wk0 rfl) rfl rfl rfl hE (by kernel_rfl) (by kernel_rfl) (by kernel_rfl) rfl (by kernel_rfl) hS (v := (.bool (m2 && (decide (x2.2 = 0))))) (fun _ => ex_move rfl hE rfl) ?_
              intro a hE hS
              have hg3 := (ie hk14).symm.trans hg3
              refine v_skip 24 (wk2 hE rfl rfl rfl hk14) rfl rfl rfl hE (by kernel_rfl) (by kernel_rfl) (by kernel_rfl) rfl (by kernel_rfl) hS ?_
              intro a hE hS
              refine v_skip 25 (wk2 hE rfl rfl rfl hk14) rfl rfl rfl hE (by kernel_rfl) (by kernel_rfl) (by kernel_rfl) rfl (by kernel_rfl) hS ?_
              intro a hE hS
              refine v_skip 26 (wk2 hE rfl rfl rfl hk14) rfl rfl rfl hE (by kernel_rfl) (by kernel_rfl) (by kernel_rfl) rfl (by kernel_rfl) hS ?_
              intro a hE hS
              refine v_take0 27 (wk0 rfl) rfl rfl rfl hE (by kernel_rfl) (by kernel_rfl) (by kernel_rfl) rfl (by kernel_rfl) hS (v := (.bool false)) (fun _ => ex_pick0 rfl hE rfl hk14 rfl) ?_
              intro a hE hS
              have hE := hE.eqv (v' := (.bool m3)) (congrArg Value.bool (Option.some.inj hg3))
              refine v_take0 28 (wk0 rfl) rfl rfl rfl hE (by kernel_rfl) (by kernel_rfl) (by kernel_rfl) rfl (by kernel_rfl) hS (v := (.bool m3)) (fun _ => ex_move rfl hE rfl) ?_
              intro a hE hS
              refine v_skip 29 (wk2 hE rfl rfl rfl (Option.some.inj hg3).symm) rfl rfl rfl hE (by kernel_rfl) (by kernel_rfl) (by kernel_rfl) rfl (by kernel_rfl) hS ?_
              intro a hE hS
              refine v_take0 30 (wk0 rfl) rfl rfl rfl hE (by kernel_rfl) (by kernel_rfl) (by kernel_rfl) rfl (by kernel_rfl) hS (v := (.bool false)) (fun _ => ex_pick0 rfl hE rfl (Option.some.inj hg3).symm rfl) ?_
              intro a hE hS
              have hE := hE.eqv (v' := (.bool (m3 && x3.1))) (by rw [(Option.some.inj hg3).symm]; rfl)
              have hk15 : (m3 && x3.1 : Bool) = false := by rw [(Option.some.inj hg3).symm]; rfl
              refine v_take0 31 (wk0 rfl) rfl rfl rfl hE (by kernel_rfl) (by kernel_rfl) (by kernel_rfl) rfl (by kernel_rfl) hS (v := (.bool (m3 && x3.1))) (fun _ => ex_move rfl hE rfl) ?_
              intro a hE hS
              refine v_skip 32 (wk2 hE rfl rfl rfl hk15) rfl rfl rfl hE (by kernel_rfl) (by kernel_rfl) (by kernel_rfl) rfl (by kernel_rfl) hS ?_
              intro a hE hS
              refine v_skip 33 (wk2 hE rfl rfl rfl hk15) rfl rfl rfl hE (by kernel_rfl) (by kernel_rfl) (by kernel_rfl) rfl (by kernel_rfl) hS ?_
              intro a hE hS
              refine v_take0 34 (wk0 rfl) rfl rfl rfl hE (by kernel_rfl) (by kernel_rfl) (by kernel_rfl) rfl (by kernel_rfl) hS (v := (.bool false)) (fun _ => ex_pick0 rfl hE rfl hk15 rfl) ?_
              intro a hE hS
              have hE := hE.eqv (v' := (.bool ((m3 && x3.1) && (decide (x3.2 = 0))))) (by rw [hk15]; rfl)
              have hk16 : ((m3 && x3.1) && (decide (x3.2 = 0)) : Bool) = false := by rw [hk15]; rfl
              refine v_take0 35 (wk0 rfl) rfl rfl rfl hE (by kernel_rfl) (by kernel_rfl) (by kernel_rfl) rfl (by kernel_rfl) hS (v := (.bool ((m3 && x3.1) && (decide (x3.2 = 0))))) (fun _ => ex_move rfl hE rfl) ?_
              intro a hE hS
              refine v_skip 36 (wk2 hE rfl rfl rfl hk16) rfl rfl rfl hE (by kernel_rfl) (by kernel_rfl) (by kernel_rfl) rfl (by kernel_rfl) hS ?_
              intro a hE hS
              refine v_skip 37 (wk2 hE rfl rfl rfl hk16) rfl rfl rfl hE (by kernel_rfl) (by kernel_rfl) (by kernel_rfl) rfl (by kernel_rfl) hS ?_
              intro a hE hS
              refine v_take0 38 (wk0 rfl) rfl rfl rfl hE (by kernel_rfl) (by kernel_rfl) (by kernel_rfl) rfl (by kernel_rfl) hS (v := (.bool false)) (fun _ => ex_pick0 rfl hE rfl hk16 rfl) ?_
              intro a hE hS
              have hE := hE.eqv (v' := (.bool (((m3 && x3.1) && (decide (x3.2 = 0))) && (decide (x4.2 = 0))))) (by rw [hk16]; rfl)
              have hk17 : (((m3 && x3.1) && (decide (x3.2 = 0))) && (decide (x4.2 = 0)) : Bool) = false := by rw [hk16]; rfl
              refine v_take0 39 (wk0 rfl) rfl rfl rfl hE (by kernel_rfl) (by kernel_rfl) (by kernel_rfl) rfl (by kernel_rfl) hS (v := (.bool (((m3 && x3.1) && (decide (x3.2 = 0))) && (decide (x4.2 = 0))))) (fun _ => ex_move rfl hE rfl) ?_
              intro a hE hS
              have hg4 := (ie hk17).symm.trans hg4
              refine v_skip 40 (wk2 hE rfl rfl rfl hk17) rfl rfl rfl hE (by kernel_rfl) (by kernel_rfl) (by kernel_rfl) rfl (by kernel_rfl) hS ?_
              intro a hE hS
              refine v_skip 41 (wk2 hE rfl rfl rfl hk17) rfl rfl rfl hE (by kernel_rfl) (by kernel_rfl) (by kernel_rfl) rfl (by kernel_rfl) hS ?_
              intro a hE hS
              refine v_skip 42 (wk2 hE rfl rfl rfl hk17) rfl rfl rfl hE (by kernel_rfl) (by kernel_rfl) (by kernel_rfl) rfl (by kernel_rfl) hS ?_
              intro a hE hS
              refine v_take0 43 (wk0 rfl) rfl rfl rfl hE (by kernel_rfl) (by kernel_rfl) (by kernel_rfl) rfl (by kernel_rfl) hS (v := (.bool false)) (fun _ => ex_pick0 rfl hE rfl hk17 rfl) ?_
              intro a hE hS
              have hE := hE.eqv (v' := (.bool m4)) (congrArg Value.bool (Option.some.inj hg4))
              refine v_take0 44 (wk0 rfl) rfl rfl rfl hE (by kernel_rfl) (by kernel_rfl) (by kernel_rfl) rfl (by kernel_rfl) hS (v := (.bool m4)) (fun _ => ex_move rfl hE rfl) ?_
              intro a hE hS
              have hg5 := (ie (Option.some.inj hg4).symm).symm.trans hg5
              refine v_skip 45 (wk2 hE rfl rfl rfl (Option.some.inj hg4).symm) rfl rfl rfl hE (by kernel_rfl) (by kernel_rfl) (by kernel_rfl) rfl (by kernel_rfl) hS ?_
              intro a hE hS
              refine v_skip 46 (wk2 hE rfl rfl rfl (Option.some.inj hg4).symm) rfl rfl rfl hE (by kernel_rfl) (by kernel_rfl) (by kernel_rfl) rfl (by kernel_rfl) hS ?_
              intro a hE hS
              refine v_skip 47 (wk2 hE rfl rfl rfl (Option.some.inj hg4).symm) rfl rfl rfl hE (by kernel_rfl) (by kernel_rfl) (by kernel_rfl) rfl (by kernel_rfl) hS ?_
              intro a hE hS
              refine v_take0 48 (wk0 rfl) rfl rfl rfl hE (by kernel_rfl) (by kernel_rfl) (by kernel_rfl) rfl (by kernel_rfl) hS (v := (.bool false)) (fun _ => ex_pick0 rfl hE rfl (Option.some.inj hg4).symm rfl) ?_
              intro a hE hS
              have hE := hE.eqv (v' := (.bool m5)) (congrArg Value.bool (Option.some.inj hg5))
              refine v_take0 49 (wk0 rfl) rfl rfl rfl hE (by kernel_rfl) (by kernel_rfl) (by kernel_rfl) rfl (by kernel_rfl) hS (v := (.bool m5)) (fun _ => ex_asn rfl hE rfl) ?_
              intro a hE hS
              exact v_done (by kernel_rfl) ⟨hE.cut ⟨rfl, trivial⟩, hp⟩
          ·
            refine v_skip 11 (wk2 hE rfl rfl rfl hc12) rfl rfl rfl hE (by kernel_rfl) (by kernel_rfl) (by kernel_rfl) rfl (by kernel_rfl) hS ?_
            intro a hE hS
            refine v_skip 12 (wk2 hE rfl rfl rfl hc12) rfl rfl rfl hE (by kernel_rfl) (by kernel_rfl) (by kernel_rfl) rfl (by kernel_rfl) hS ?_
            intro a hE hS
            refine v_take0 13 (wk0 rfl) rfl rfl rfl hE (by kernel_rfl) (by kernel_rfl) (by kernel_rfl) rfl (by kernel_rfl) hS (v := (.bool false)) (fun _ => ex_pick0 rfl hE rfl hc12 rfl) ?_
            intro a hE hS
            have hE := hE.eqv (v' := (.bool (m1 && (decide (x1.2 = 0))))) (by rw [hc12]; rfl)
            have hk18 : (m1 && (decide (x1.2 = 0)) : Bool) = false := by rw [hc12]; rfl
            refine v_take0 14 (wk0 rfl) rfl rfl rfl hE (by kernel_rfl) (by kernel_rfl) (by kernel_rfl) rfl (by kernel_rfl) hS (v := (.bool (m1 && (decide (x1.2 = 0))))) (fun _ => ex_move rfl hE rfl) ?_
            intro a hE hS
            have hg2 := (ie hk18).symm.trans hg2
            refine v_skip 15 (wk2 hE rfl rfl rfl hk18) rfl rfl rfl hE (by kernel_rfl) (by kernel_rfl) (by kernel_rfl) rfl (by kernel_rfl) hS ?_
            intro a hE hS
            refine v_skip 16 (wk2 hE rfl rfl rfl hk18) rfl rfl rfl hE (by kernel_rfl) (by kernel_rfl) (by kernel_rfl) rfl (by kernel_rfl) hS ?_
            intro a hE hS
            refine v_skip 17 (wk2 hE rfl rfl rfl hk18) rfl rfl rfl hE (by kernel_rfl) (by kernel_rfl) (by kernel_rfl) rfl (by kernel_rfl) hS ?_
            intro a hE hS
            refine v_take0 18 (wk0 rfl) rfl rfl rfl hE (by kernel_rfl) (by kernel_rfl) (by kernel_rfl) rfl (by kernel_rfl) hS (v := (.bool false)) (fun _ => ex_pick0 rfl hE rfl hk18 rfl) ?_
            intro a hE hS
            have hE := hE.eqv (v' := (.bool m2)) (congrArg Value.bool (Option.some.inj hg2))
            refine v_take0 19 (wk0 rfl) rfl rfl rfl hE (by kernel_rfl) (by kernel_rfl) (by kernel_rfl) rfl (by kernel_rfl) hS (v := (.bool m2)) (fun _ => ex_move rfl hE rfl) ?_
            intro a hE hS
            refine v_skip 20 (wk2 hE rfl rfl rfl (Option.some.inj hg2).symm) rfl rfl rfl hE (by kernel_rfl) (by kernel_rfl) (by kernel_rfl) rfl (by kernel_rfl) hS ?_
            intro a hE hS
            refine v_skip 21 (wk2 hE rfl rfl rfl (Option.some.inj hg2).symm) rfl rfl rfl hE (by kernel_rfl) (by kernel_rfl) (by kernel_rfl) rfl (by kernel_rfl) hS ?_
            intro a hE hS
            refine v_take0 22 (wk0 rfl) rfl rfl rfl hE (by kernel_rfl) (by kernel_rfl) (by kernel_rfl) rfl (by kernel_rfl) hS (v := (.bool false)) (fun _ => ex_pick0 rfl hE rfl (Option.some.inj hg2).symm rfl) ?_
            intro a hE hS
            have hE := hE.eqv (v' := (.bool (m2 && (decide (x2.2 = 0))))) (by rw [(Option.some.inj hg2).symm]; rfl)
            have hk19 : (m2 && (decide (x2.2 = 0)) : Bool) = false := by rw [(Option.some.inj hg2).symm]; rfl
            refine v_take0 23 (wk0 rfl) rfl rfl rfl hE (by kernel_rfl) (by kernel_rfl) (by kernel_rfl) rfl (by kernel_rfl) hS (v := (.bool (m2 && (decide (x2.2 = 0))))) (fun _ => ex_move rfl hE rfl) ?_
            intro a hE hS
            have hg3 := (ie hk19).symm.trans hg3
            refine v_skip 24 (wk2 hE rfl rfl rfl hk19) rfl rfl rfl hE (by kernel_rfl) (by kernel_rfl) (by kernel_rfl) rfl (by kernel_rfl) hS ?_
            intro a hE hS
            refine v_skip 25 (wk2 hE rfl rfl rfl hk19) rfl rfl rfl hE (by kernel_rfl) (by kernel_rfl) (by kernel_rfl) rfl (by kernel_rfl) hS ?_
            intro a hE hS
            refine v_skip 26 (wk2 hE rfl rfl rfl hk19) rfl rfl rfl hE (by kernel_rfl) (by kernel_rfl) (by kernel_rfl) rfl (by kernel_rfl) hS ?_
            intro a hE hS
            refine v_take0 27 (wk0 rfl) rfl rfl rfl hE (by kernel_rfl) (by kernel_rfl) (by kernel_rfl) rfl (by kernel_rfl) hS (v := (.bool false)) (fun _ => ex_pick0 rfl hE rfl hk19 rfl) ?_
            intro a hE hS
            have hE := hE.eqv (v' := (.bool m3)) (congrArg Value.bool (Option.some.inj hg3))
            refine v_take0 28 (wk0 rfl) rfl rfl rfl hE (by kernel_rfl) (by kernel_rfl) (by kernel_rfl) rfl (by kernel_rfl) hS (v := (.bool m3)) (fun _ => ex_move rfl hE rfl) ?_
            intro a hE hS
            refine v_skip 29 (wk2 hE rfl rfl rfl (Option.some.inj hg3).symm) rfl rfl rfl hE (by kernel_rfl) (by kernel_rfl) (by kernel_rfl) rfl (by kernel_rfl) hS ?_
            intro a hE hS
            refine v_take0 30 (wk0 rfl) rfl rfl rfl hE (by kernel_rfl) (by kernel_rfl) (by kernel_rfl) rfl (by kernel_rfl) hS (v := (.bool false)) (fun _ => ex_pick0 rfl hE rfl (Option.some.inj hg3).symm rfl) ?_
            intro a hE hS
            have hE := hE.eqv (v' := (.bool (m3 && x3.1))) (by rw [(Option.some.inj hg3).symm]; rfl)
            have hk20 : (m3 && x3.1 : Bool) = false := by rw [(Option.some.inj hg3).symm]; rfl
            refine v_take0 31 (wk0 rfl) rfl rfl rfl hE (by kernel_rfl) (by kernel_rfl) (by kernel_rfl) rfl (by kernel_rfl) hS (v := (.bool (m3 && x3.1))) (fun _ => ex_move rfl hE rfl) ?_
            intro a hE hS
            refine v_skip 32 (wk2 hE rfl rfl rfl hk20) rfl rfl rfl hE (by kernel_rfl) (by kernel_rfl) (by kernel_rfl) rfl (by kernel_rfl) hS ?_
            intro a hE hS
            refine v_skip 33 (wk2 hE rfl rfl rfl hk20) rfl rfl rfl hE (by kernel_rfl) (by kernel_rfl) (by kernel_rfl) rfl (by kernel_rfl) hS ?_
            intro a hE hS
            refine v_take0 34 (wk0 rfl) rfl rfl rfl hE (by kernel_rfl) (by kernel_rfl) (by kernel_rfl) rfl (by kernel_rfl) hS (v := (.bool false)) (fun _ => ex_pick0 rfl hE rfl hk20 rfl) ?_
            intro a hE hS
            have hE := hE.eqv (v' := (.bool ((m3 && x3.1) && (decide (x3.2 = 0))))) (by rw [hk20]; rfl)
            have hk21 : ((m3 && x3.1) && (decide (x3.2 = 0)) : Bool) = false := by rw [hk20]; rfl
            refine v_take0 35 (wk0 rfl) rfl rfl rfl hE (by kernel_rfl) (by kernel_rfl) (by kernel_rfl) rfl (by kernel_rfl) hS (v := (.bool ((m3 && x3.1) && (decide (x3.2 = 0))))) (fun _ => ex_move rfl hE rfl) ?_
            intro a hE hS
            refine v_skip 36 (wk2 hE rfl rfl rfl hk21) rfl rfl rfl hE (by kernel_rfl) (by kernel_rfl) (by kernel_rfl) rfl (by kernel_rfl) hS ?_
            intro a hE hS
            refine v_skip 37 (wk2 hE rfl rfl rfl hk21) rfl rfl rfl hE (by kernel_rfl) (by kernel_rfl) (by kernel_rfl) rfl (by kernel_rfl) hS ?_
            intro a hE hS
            refine v_take0 38 (wk0 rfl) rfl rfl rfl hE (by kernel_rfl) (by kernel_rfl) (by kernel_rfl) rfl (by kernel_rfl) hS (v := (.bool false)) (fun _ => ex_pick0 rfl hE rfl hk21 rfl) ?_
            intro a hE hS
            have hE := hE.eqv (v' := (.bool (((m3 && x3.1) && (decide (x3.2 = 0))) && (decide (x4.2 = 0))))) (by rw [hk21]; rfl)
            have hk22 : (((m3 && x3.1) && (decide (x3.2 = 0))) && (decide (x4.2 = 0)) : Bool) = false := by rw [hk21]; rfl
            refine v_take0 39 (wk0 rfl) rfl rfl rfl hE (by kernel_rfl) (by kernel_rfl) (by kernel_rfl) rfl (by kernel_rfl) hS (v := (.bool (((m3 && x3.1) && (decide (x3.2 = 0))) && (decide (x4.2 = 0))))) (fun _ => ex_move rfl hE rfl) ?_
            intro a hE hS
            have hg4 := (ie hk22).symm.trans hg4
            refine v_skip 40 (wk2 hE rfl rfl rfl hk22) rfl rfl rfl hE (by kernel_rfl) (by kernel_rfl) (by kernel_rfl) rfl (by kernel_rfl) hS ?_
            intro a hE hS
            refine v_skip 41 (wk2 hE rfl rfl rfl hk22) rfl rfl rfl hE (by kernel_rfl) (by kernel_rfl) (by kernel_rfl) rfl (by kernel_rfl) hS ?_
            intro a hE hS
            refine v_skip 42 (wk2 hE rfl rfl rfl hk22) rfl rfl rfl hE (by kernel_rfl) (by kernel_rfl) (by kernel_rfl) rfl (by kernel_rfl) hS ?_
            intro a hE hS
            refine v_take0 43 (wk0 rfl) rfl rfl rfl hE (by kernel_rfl) (by kernel_rfl) (by kernel_rfl) rfl (by kernel_rfl) hS (v := (.bool false)) (fun _ => ex_pick0 rfl hE rfl hk22 rfl) ?_
            intro a hE hS
            have hE := hE.eqv (v' := (.bool m4)) (congrArg Value.bool (Option.some.inj hg4))
            refine v_take0 44 (wk0 rfl) rfl rfl rfl hE (by kernel_rfl) (by kernel_rfl) (by kernel_rfl) rfl (by kernel_rfl) hS (v := (.bool m4)) (fun _ => ex_move rfl hE rfl) ?_
            intro a hE hS
            have hg5 := (ie (Option.some.inj hg4).symm).symm.trans hg5
            refine v_skip 45 (wk2 hE rfl rfl rfl (Option.some.inj hg4).symm) rfl rfl rfl hE (by kernel_rfl) (by kernel_rfl) (by kernel_rfl) rfl (by kernel_rfl) hS ?_
            intro a hE hS
            refine v_skip 46 (wk2 hE rfl rfl rfl (Option.some.inj hg4).symm) rfl rfl rfl hE (by kernel_rfl) (by kernel_rfl) (by kernel_rfl) rfl (by kernel_rfl) hS ?_
            intro a hE hS
            refine v_skip 47 (wk2 hE rfl rfl rfl (Option.some.inj hg4).symm) rfl rfl rfl hE (by kernel_rfl) (by kernel_rfl) (by kernel_rfl) rfl (by kernel_rfl) hS ?_
            intro a hE hS
            refine v_take0 48 (wk0 rfl) rfl rfl rfl hE (by kernel_rfl) (by kernel_rfl) (by kernel_rfl) rfl (by kernel_rfl) hS (v := (.bool false)) (fun _ => ex_pick0 rfl hE rfl (Option.some.inj hg4).symm rfl) ?_
            intro a hE hS
            have hE := hE.eqv (v' := (.bool m5)) (congrArg Value.bool (Option.some.inj hg5))
            refine v_take0 49 (wk0 rfl) rfl rfl rfl hE (by kernel_rfl) (by kernel_rfl) (by kernel_rfl) rfl (by kernel_rfl) hS (v := (.bool m5)) (fun _ => ex_asn rfl hE rfl) ?_
            intro a hE hS
            exact v_done (by kernel_rfl) ⟨hE.cut ⟨rfl, trivial⟩, hp⟩
      ·
        have hg1 := (ie hc11).symm.trans hg1
        refine v_skip 4 (wk2 hE rfl rfl rfl hc11) rfl rfl rfl hE (by kernel_rfl) (by kernel_rfl) (by kernel_rfl) rfl (by kernel_rfl) hS ?_
        intro a hE hS
        refine v_skip 5 (wk2 hE rfl rfl rfl hc11) rfl rfl rfl hE (by kernel_rfl) (by kernel_rfl) (by kernel_rfl) rfl (by kernel_rfl) hS ?_
        intro a hE hS
        refine v_skip 6 (wk2 hE rfl rfl rfl hc11) rfl rfl rfl hE (by kernel_rfl) (by kernel_rfl) (by kernel_rfl) rfl (by kernel_rfl) hS ?_
        intro a hE hS
        refine v_skip 7 (wk2 hE rfl rfl rfl hc11) rfl rfl rfl hE (by kernel_rfl) (by kernel_rfl) (by kernel_rfl) rfl (by kernel_rfl) hS ?_
        intro a hE hS
        refine v_skip 8 (wk2 hE rfl rfl rfl hc11) rfl rfl rfl hE (by kernel_rfl) (by kernel_rfl) (by kernel_rfl) rfl (by kernel_rfl) hS ?_
        intro a hE hS
        refine v_take0 9 (wk0 rfl) rfl rfl rfl hE (by kernel_rfl) (by kernel_rfl) (by kernel_rfl) rfl (by kernel_rfl) hS (v := (.bool false)) (fun _ => ex_pick0 rfl hE rfl hc11 rfl) ?_
        intro a hE hS
        have hE := hE.eqv (v' := (.bool m1)) (congrArg Value.bool (Option.some.inj hg1))
        refine v_take0 10 (wk0 rfl) rfl rfl rfl hE (by kernel_rfl) (by kernel_rfl) (by kernel_rfl) rfl (by kernel_rfl) hS (v := (.bool m1)) (fun _ => ex_move rfl hE rfl) ?_
        intro a hE hS
        refine v_skip 11 (wk2 hE rfl rfl rfl (Option.some.inj hg1).symm) rfl rfl rfl hE (by kernel_rfl) (by kernel_rfl) (by kernel_rfl) rfl (by kernel_rfl) hS ?_
        intro a hE hS
        refine v_skip 12 (wk2 hE rfl rfl rfl (Option.some.inj hg1).symm) rfl rfl rfl hE (by kernel_rfl) (by kernel_rfl) (by kernel_rfl) rfl (by kernel_rfl) hS ?_
        intro a hE hS
        refine v_take0 13 (wk0 rfl) rfl rfl rfl hE (by kernel_rfl) (by kernel_rfl) (by kernel_rfl) rfl (by kernel_rfl) hS (v := (.bool false)) (fun _ => ex_pick0 rfl hE rfl (Option.some.inj hg1).symm rfl) ?_
        intro a hE hS
        have hE := hE.eqv (v' := (.bool (m1 && (decide (x1.2 = 0))))) (by rw [(Option.some.inj hg1).symm]; rfl)
        have hk23 : (m1 && (decide (x1.2 = 0)) : Bool) = false := by rw [(Option.some.inj hg1).symm]; rfl
        refine v_take0 14 (wk0 rfl) rfl rfl rfl hE (by kernel_rfl) (by kernel_rfl) (by kernel_rfl) rfl (by kernel_rfl) hS (v := (.bool (m1 && (decide (x1.2 = 0))))) (fun _ => ex_move rfl hE rfl) ?_
        intro a hE hS
        have hg2 := (ie hk23).symm.trans hg2
        refine v_skip 15 (wk2 hE rfl rfl rfl hk23) rfl rfl rfl hE (by kernel_rfl) (by kernel_rfl) (by kernel_rfl) rfl (by kernel_rfl) hS ?_
        intro a hE hS
        refine v_skip 16 (wk2 hE rfl rfl rfl hk23) rfl rfl rfl hE (by kernel_rfl) (by kernel_rfl) (by kernel_rfl) rfl (by kernel_rfl) hS ?_
        intro a hE hS
        refine v_skip 17 (wk2 hE rfl rfl rfl hk23) rfl rfl rfl hE (by kernel_rfl) (by kernel_rfl) (by kernel_rfl) rfl (by kernel_rfl) hS ?_
        intro a hE hS
        refine v_take0 18 (wk0 rfl) rfl rfl rfl hE (by kernel_rfl) (by kernel_rfl) (by kernel_rfl) rfl (by kernel_rfl) hS (v := (.bool false)) (fun _ => ex_pick0 rfl hE rfl hk23 rfl) ?_
        intro a hE hS
        have hE := hE.eqv (v' := (.bool m2)) (congrArg Value.bool (Option.some.inj hg2))
        refine v_take0 19 (wk0 rfl) rfl rfl rfl hE (by kernel_rfl) (by kernel_rfl) (by kernel_rfl) rfl (by kernel_rfl) hS (v := (.bool m2)) (fun _ => ex_move rfl hE rfl) ?_
        intro a hE hS
        refine v_skip 20 (wk2 hE rfl rfl rfl (Option.some.inj hg2).symm) rfl rfl rfl hE (by kernel_rfl) (by kernel_rfl) (by kernel_rfl) rfl (by kernel_rfl) hS ?_
        intro a hE hS
        refine v_skip 21 (wk2 hE rfl rfl rfl (Option.some.inj hg2).symm) rfl rfl rfl hE (by kernel_rfl) (by kernel_rfl) (by kernel_rfl) rfl (by kernel_rfl) hS ?_
        intro a hE hS
        refine v_take0 22 (wk0 rfl) rfl rfl rfl hE (by kernel_rfl) (by kernel_rfl) (by kernel_rfl) rfl (by kernel_rfl) hS (v := (.bool false)) (fun _ => ex_pick0 rfl hE rfl (Option.some.inj hg2).symm rfl) ?_
        intro a hE hS
        have hE := hE.eqv (v' := (.bool (m2 && (decide (x2.2 = 0))))) (by rw [(Option.some.inj hg2).symm]; rfl)
        have hk24 : (m2 && (decide (x2.2 = 0)) : Bool) = false := by rw [(Option.some.inj hg2).symm]; rfl
        refine v_take0 23 (wk0 rfl) rfl rfl rfl hE (by kernel_rfl) (by kernel_rfl) (by kernel_rfl) rfl (by kernel_rfl) hS (v := (.bool (m2 && (decide (x2.2 = 0))))) (fun _ => ex_move rfl hE rfl) ?_
        intro a hE hS
        have hg3 := (ie hk24).symm.trans hg3
        refine v_skip 24 (wk2 hE rfl rfl rfl hk24) rfl rfl rfl hE (by kernel_rfl) (by kernel_rfl) (by kernel_rfl) rfl (by kernel_rfl) hS ?_
        intro a hE hS
        refine v_skip 25 (wk2 hE rfl rfl rfl hk24) rfl rfl rfl hE (by kernel_rfl) (by kernel_rfl) (by kernel_rfl) rfl (by kernel_rfl) hS ?_
        intro a hE hS
        refine v_skip 26 (wk2 hE rfl rfl rfl hk24) rfl rfl rfl hE (by kernel_rfl) (by kernel_rfl) (by kernel_rfl) rfl (by kernel_rfl) hS ?_
        intro a hE hS
        refine v_take0 27 (wk0 rfl) rfl rfl rfl hE (by kernel_rfl) (by kernel_rfl) (by kernel_rfl) rfl (by kernel_rfl) hS (v := (.bool false)) (fun _ => ex_pick0 rfl hE rfl hk24 rfl) ?_
        intro a hE hS
        have hE := hE.eqv (v' := (.bool m3)) (congrArg Value.bool (Option.some.inj hg3))
        refine v_take0 28 (wk0 rfl) rfl rfl rfl hE (by kernel_rfl) (by kernel_rfl) (by kernel_rfl) rfl (by kernel_rfl) hS (v := (.bool m3)) (fun _ => ex_move rfl hE rfl) ?_
        intro a hE hS
        refine v_skip 29 (wk2 hE rfl rfl rfl (Option.some.inj hg3).symm) rfl rfl rfl hE (by kernel_rfl) (by kernel_rfl) (by kernel_rfl) rfl (by kernel_rfl) hS ?_
        intro a hE hS
        refine v_take0 30 (wk0 rfl) rfl rfl rfl hE (by kernel_rfl) (by kernel_rfl) (by kernel_rfl) rfl (by kernel_rfl) hS (v := (.bool false)) (fun _ => ex_pick0 rfl hE rfl (Option.some.inj hg3).symm rfl) ?_
        intro a hE hS
        have hE := hE.eqv (v' := (.bool (m3 && x3.1))) (by rw [(Option.some.inj hg3).symm]; rfl)
        have hk25 : (m3 && x3.1 : Bool) = false := by rw [(Option.some.inj hg3).symm]; rfl
        refine v_take0 31 (wk0 rfl) rfl rfl rfl hE (by kernel_rfl) (by kernel_rfl) (by kernel_rfl) rfl (by kernel_rfl) hS (v := (.bool (m3 && x3.1))) (fun _ => ex_move rfl hE rfl) ?_
        intro a hE hS
        refine v_skip 32 (wk2 hE rfl rfl rfl hk25) rfl rfl rfl hE (by kernel_rfl) (by kernel_rfl) (by kernel_rfl) rfl (by kernel_rfl) hS ?_
        intro a hE hS
        refine v_skip 33 (wk2 hE rfl rfl rfl hk25) rfl rfl rfl hE (by kernel_rfl) (by kernel_rfl) (by kernel_rfl) rfl (by kernel_rfl) hS ?_
        intro a hE hS
        refine v_take0 34 (wk0 rfl) rfl rfl rfl hE (by kernel_rfl) (by kernel_rfl) (by kernel_rfl) rfl (by kernel_rfl) hS (v := (.bool false)) (fun _ => ex_pick0 rfl hE rfl hk25 rfl) ?_
        intro a hE hS
        have hE := hE.eqv (v' := (.bool ((m3 && x3.1) && (decide (x3.2 = 0))))) (by rw [hk25]; rfl)
        have hk26 : ((m3 && x3.1) && (decide (x3.2 = 0)) : Bool) = false := by rw [hk25]; rfl
        refine v_take0 35 (wk0 rfl) rfl rfl rfl hE (by kernel_rfl) (by kernel_rfl) (by kernel_rfl) rfl (by kernel_rfl) hS (v := (.bool ((m3 && x3.1) && (decide (x3.2 = 0))))) (fun _ => ex_move rfl hE rfl) ?_
        intro a hE hS
        refine v_skip 36 (wk2 hE rfl rfl rfl hk26) rfl rfl rfl hE (by kernel_rfl) (by kernel_rfl) (by kernel_rfl) rfl (by kernel_rfl) hS ?_
        intro a hE hS
        refine v_skip 37 (wk2 hE rfl rfl rfl hk26) rfl rfl rfl hE (by kernel_rfl) (by kernel_rfl) (by kernel_rfl) rfl (by kernel_rfl) hS ?_
        intro a hE hS
        refine v_take0 38 (wk0 rfl) rfl rfl rfl hE (by kernel_rfl) (by kernel_rfl) (by kernel_rfl) rfl (by kernel_rfl) hS (v := (.bool false)) (fun _ => ex_pick0 rfl hE rfl hk26 rfl) ?_
        intro a hE hS
        have hE := hE.eqv (v' := (.bool (((m3 && x3.1) && (decide (x3.2 = 0))) && (decide (x4.2 = 0))))) (by rw [hk26]; rfl)
        have hk27 : (((m3 && x3.1) && (decide (x3.2 = 0))) && (decide (x4.2 = 0)) : Bool) = false := by rw [hk26]; rfl
        refine v_take0 39 (wk0 rfl) rfl rfl rfl hE (by kernel_rfl) (by kernel_rfl) (by kernel_rfl) rfl (by kernel_rfl) hS (v := (.bool (((m3 && x3.1) && (decide (x3.2 = 0))) && (decide (x4.2 = 0))))) (fun _ => ex_move rfl hE rfl) ?_
        intro a hE hS
        have hg4 := (ie hk27).symm.trans hg4
        refine v_skip 40 (wk2 hE rfl rfl rfl hk27) rfl rfl rfl hE (by kernel_rfl) (by kernel_rfl) (by kernel_rfl) rfl (by kernel_rfl) hS ?_
        intro a hE hS
        refine v_skip 41 (wk2 hE rfl rfl rfl hk27) rfl rfl rfl hE (by kernel_rfl) (by kernel_rfl) (by kernel_rfl) rfl (by kernel_rfl) hS ?_
        intro a hE hS
        refine v_skip 42 (wk2 hE rfl rfl rfl hk27) rfl rfl rfl hE (by kernel_rfl) (by kernel_rfl) (by kernel_rfl) rfl (by kernel_rfl) hS ?_
        intro a hE hS
        refine v_take0 43 (wk0 rfl) rfl rfl rfl hE (by kernel_rfl) (by kernel_rfl) (by kernel_rfl) rfl (by kernel_rfl) hS (v := (.bool false)) (fun _ => ex_pick0 rfl hE rfl hk27 rfl) ?_
        intro a hE hS
        have hE := hE.eqv (v' := (.bool m4)) (congrArg Value.bool (Option.some.inj hg4))
        refine v_take0 44 (wk0 rfl) rfl rfl rfl hE (by kernel_rfl) (by kernel_rfl) (by kernel_rfl) rfl (by kernel_rfl) hS (v := (.bool m4)) (fun _ => ex_move rfl hE rfl) ?_
        intro a hE hS
        have hg5 := (ie (Option.some.inj hg4).symm).symm.trans hg5
        refine v_skip 45 (wk2 hE rfl rfl rfl (Option.some.inj hg4).symm) rfl rfl rfl hE (by kernel_rfl) (by kernel_rfl) (by kernel_rfl) rfl (by kernel_rfl) hS ?_
        intro a hE hS
        refine v_skip 46 (wk2 hE rfl rfl rfl (Option.some.inj hg4).symm) rfl rfl rfl hE (by kernel_rfl) (by kernel_rfl) (by kernel_rfl) rfl (by kernel_rfl) hS ?_
        intro a hE hS
        refine v_skip 47 (wk2 hE rfl rfl rfl (Option.some.inj hg4).symm) rfl rfl rfl hE (by kernel_rfl) (by kernel_rfl) (by kernel_rfl) rfl (by kernel_rfl) hS ?_
        intro a hE hS
        refine v_take0 48 (wk0 rfl) rfl rfl rfl hE (by kernel_rfl) (by kernel_rfl) (by kernel_rfl) rfl (by kernel_rfl) hS (v := (.bool false)) (fun _ => ex_pick0 rfl hE rfl (Option.some.inj hg4).symm rfl) ?_
        intro a hE hS
        have hE := hE.eqv (v' := (.bool m5)) (congrArg Value.bool (Option.some.inj hg5))
        refine v_take0 49 (wk0 rfl) rfl rfl rfl hE (by kernel_rfl) (by kernel_rfl) (by kernel_rfl) rfl (by kernel_rfl) hS (v := (.bool m5)) (fun _ => ex_asn rfl hE rfl) ?_
        intro a hE hS
        exact v_done (by kernel_rfl) ⟨hE.cut ⟨rfl, trivial⟩, hp⟩
  · rintro a w ⟨hE, hp⟩
    refine k_ret ?_
    obtain rfl := Option.some.inj hm
    exact ret1 hE rfl rfl ⟨_, rfl, rfl, ((((((((((((hp.get 3 rfl).drop).get 2 rfl).drop).get 1 rfl).drop).drop).less hle1).less (PH.le_un _ k4)).less (PH.le_un _ k3)).less (PH.le_un _ k2)).less (PH.le_un _ k1))⟩
set_option maxRecDepth 100000 in
set_option maxHeartbeats 4000000 in
theorem c_assessorlaw27_small {Z : World} {ρ : PH} {L : List Atom} {w : World} (hT : Tabs ρ) (p0 : (List (List Int))) (vp0 : Value) (hp0 : RoSl ρ vp0 p0) (p1 : Int) (hp : Hp Z ρ (L) w) (r : Bool) (hm : m_assessorlaw27_small p0 p1 = some r) :
    Calls Tryz.prog 7 #[vp0, (.int .i64 p1)] w (Ret fun v w' => v = (.bool r) ∧ Hp Z ρ (L) w') := by
  refine enter (N := 9) Tryz.func7 rfl rfl [(0, vp0), (1, (.int .i64 p1))] rfl (argsIn_mem ⟨rfl, rfl, trivial⟩) fun a hE => ?_
  unfold m_assessorlaw27_small at hm
  refine k_seq ?_
  refine k_region ?_
  refine s_val (wk0 rfl) rfl rfl hE hp (v := (.bool false)) (ex_asn rfl hE rfl) ?_
  intro a hE
  refine s_nil ?_
  refine k_seq ?_
  refine k_region ?_
  refine s_val (wk0 rfl) rfl rfl hE hp (v := vp0) (ex_move rfl hE rfl) ?_
  intro a hE
  refine s_val (wk0 rfl) rfl rfl hE hp (v := (.agg #[(.int .i64 0), vp0])) (ex_bld rfl hE [(1, vp0)] (by exact ⟨⟨rfl, rfl⟩, trivial⟩) (fun w => by have hc0 := RoSl.cells hp0; simp only [Value.cells] at hc0; simp [Instr.build, Instr.fill, Value.cells, hc0, go_sem])) ?_
  intro a hE
  refine s_val (wk0 rfl) rfl rfl hE hp (v := (.int .i64 p1)) (ex_move rfl hE rfl) ?_
  intro a hE
  obtain ⟨x1, ex1, hm⟩ := bnd hm
  refine s_call (wk0 rfl) rfl rfl hE rfl [(.agg #[(.int .i64 0), vp0]), (.int .i64 0), (.int .i64 p1)] ⟨rfl, rfl, rfl, trivial⟩ ent6 (c_assessorref26_Small hT (Formula.mk 0 p0) vp0 hp0 0 p1 hp x1 ex1) Ret.ret ?_
  intro v a w hR hE
  obtain ⟨rfl, hp⟩ := Ret.of hR
  have hp : Hp Z ρ (L) w := hp
  refine s_val (wk0 rfl) rfl rfl hE hp (v := (.bool x1)) (ex_asn rfl hE rfl) ?_
  intro a hE
  refine s_nil ?_
  refine k_ret ?_
  obtain rfl := Option.some.inj hm
  exact ret1 hE rfl rfl ⟨_, rfl, rfl, hp⟩
end Go.Proofs.YtfajmelamonolaaGreatDoor

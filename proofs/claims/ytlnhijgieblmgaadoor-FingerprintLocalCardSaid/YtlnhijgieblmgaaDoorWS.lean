/-
  The code goes as its model: assessor/assessorlaw43.awake. (Printed by wip/sp/gen.py.)
-/
import Derived.Test.YtlnhijgieblmgaaDoorWM
import Derived.Test.YtlnhijgieblmgaaDoorFct
import Derived.Test.YtlnhijgieblmgaaDoorFS
import Derived.Test.YtlnhijgieblmgaaDoorRS
set_option linter.unusedVariables false
set_option linter.unusedSimpArgs false
namespace Go.Proofs.YtlnhijgieblmgaaDoor
open Go.RowKit

/- assessor/assessorlaw43.awake -/
set_option maxRecDepth 100000 in
set_option maxHeartbeats 4000000 in
theorem c_assessorlaw43_awake {Z : World} {ρ : PH} {L : List Atom} {w : World} (hT : Tabs ρ) (hp : Hp Z ρ (L) w) (r : Bool) (hm : m_assessorlaw43_awake  = some r) :
    Calls Tryd.prog 10 #[] w (Ret fun v w' => v = (.bool r) ∧ Hp Z ρ (L) w') := by
  refine enter (N := 93) Tryd.func10 rfl rfl [] rfl (argsIn_mem trivial) fun a hE => ?_
  unfold m_assessorlaw43_awake at hm
  refine k_seq ?_
  refine k_region ?_
  refine s_val (wk0 rfl) rfl rfl hE hp (v := (.bool false)) (ex_asn rfl hE rfl) ?_
  intro a hE
  refine s_nil ?_
  refine k_seq ?_
  refine k_region ?_
  refine s_lit (wk0 rfl) rfl rfl hE hp rfl [(0, (.int .i64 5)), (1, (.int .i64 3)), (2, (.int .i64 9)), (3, (.int .i64 3)), (4, (.int .i64 7))] ⟨⟨rfl, rfl⟩, ⟨rfl, rfl⟩, ⟨rfl, rfl⟩, ⟨rfl, rfl⟩, ⟨rfl, rfl⟩, trivial⟩ [(.int .i64 5), (.int .i64 3), (.int .i64 9), (.int .i64 3), (.int .i64 7)] 3 (fun w => by simp [Instr.buildSlice, Instr.fill, Value.cells, go_sem]) ?_
  intro a w b1 hE hp
  have hp : Hp Z ρ (Pt b1 (.cells #[(.int .i64 5), (.int .i64 3), (.int .i64 9), (.int .i64 3), (.int .i64 7)] 3 (0, 0)) :: L) w := hp
  have hp := (hp.get 0 rfl).imp (own_of_pt (l := (([5, 3, 9, 3, 7] : List Int) : List Int)) (n := 5) rfl (by decide) rfl)
  have hp : Hp Z ρ (OwnSl 3 (.slice (some ⟨b1, 0, none⟩) 5 5) ([5, 3, 9, 3, 7] : List Int) :: L) w := hp
  obtain ⟨k1, k1a, k1d, k1h⟩ := (hp.get 0 rfl).lend
  obtain ⟨x1, ex1, hm⟩ := bnd hm
  refine s_call (wk0 rfl) rfl rfl hE rfl [(.slice (some ⟨b1, 0, none⟩) 5 5), (.int .i64 3)] ⟨rfl, rfl, trivial⟩ ent24 (c_fingerprint_Winnow (Tabs.mono hT (PH.le_un _ _)) ([5, 3, 9, 3, 7] : List Int) (.slice (some ⟨b1, 0, none⟩) 5 5) (OwnSl.ro k1d k1a) 3 k1h x1 ex1) Ret.ret ?_
  intro v a w hR hE
  obtain ⟨v1, rfl, hp⟩ := Ret.of hR
  have hp := Hp.back k1a k1d hp
  have hp : Hp Z ρ (OwnSl 3 (.slice (some ⟨b1, 0, none⟩) 5 5) ([5, 3, 9, 3, 7] : List Int) :: OwnSl 48 v1 x1.1 :: L) w := hp
  have hp : Hp Z ρ (OwnSl 3 (.slice (some ⟨b1, 0, none⟩) 5 5) ([5, 3, 9, 3, 7] : List Int) :: OwnSl 48 v1 x1.1 :: L) w := hp
  refine s_val (wk0 rfl) rfl rfl hE hp (v := (.tuple #[v1, (.int .i64 x1.2)])) (ex_move rfl hE rfl) ?_
  intro a hE
  refine s_val (wk0 rfl) rfl rfl hE hp (v := v1) (ex_extract rfl hE rfl rfl) ?_
  intro a hE
  refine s_val (wk0 rfl) rfl rfl hE hp (v := (.int .i64 x1.2)) (ex_extract rfl hE rfl rfl) ?_
  intro a hE
  refine s_val (wk0 rfl) rfl rfl hE hp (v := v1) (ex_asn rfl hE rfl) ?_
  intro a hE
  refine s_val (wk0 rfl) rfl rfl hE hp (v := (.int .i64 x1.2)) (ex_asn rfl hE rfl) ?_
  intro a hE
  refine s_nil ?_
  refine k_seq ?_
  refine k_region ?_
  refine s_lit (wk0 rfl) rfl rfl hE hp rfl [(0, (.int .i64 1)), (1, (.int .i64 2)), (2, (.int .i64 3))] ⟨⟨rfl, rfl⟩, ⟨rfl, rfl⟩, ⟨rfl, rfl⟩, trivial⟩ [(.int .i64 1), (.int .i64 2), (.int .i64 3)] 3 (fun w => by simp [Instr.buildSlice, Instr.fill, Value.cells, go_sem]) ?_
  intro a w b2 hE hp
  have hp : Hp Z ρ (Pt b2 (.cells #[(.int .i64 1), (.int .i64 2), (.int .i64 3)] 3 (0, 0)) :: OwnSl 3 (.slice (some ⟨b1, 0, none⟩) 5 5) ([5, 3, 9, 3, 7] : List Int) :: OwnSl 48 v1 x1.1 :: L) w := hp
  have hp := (hp.get 0 rfl).imp (own_of_pt (l := (([1, 2, 3] : List Int) : List Int)) (n := 3) rfl (by decide) rfl)
  have hp : Hp Z ρ (OwnSl 3 (.slice (some ⟨b2, 0, none⟩) 3 3) ([1, 2, 3] : List Int) :: OwnSl 3 (.slice (some ⟨b1, 0, none⟩) 5 5) ([5, 3, 9, 3, 7] : List Int) :: OwnSl 48 v1 x1.1 :: L) w := hp
  obtain ⟨k2, k2a, k2d, k2h⟩ := (hp.get 0 rfl).lend
  obtain ⟨x2, ex2, hm⟩ := bnd hm
  refine s_call (wk0 rfl) rfl rfl hE rfl [(.slice (some ⟨b2, 0, none⟩) 3 3), (.int .i64 2)] ⟨rfl, rfl, trivial⟩ ent20 (c_fingerprint_Hashes (Tabs.mono hT (PH.le_un _ _)) ([1, 2, 3] : List Int) (.slice (some ⟨b2, 0, none⟩) 3 3) (OwnSl.ro k2d k2a) 2 k2h x2 ex2) Ret.ret ?_
  intro v a w hR hE
  obtain ⟨v2, rfl, hp⟩ := Ret.of hR
  have hp := Hp.back k2a k2d hp
  have hp : Hp Z ρ (OwnSl 3 (.slice (some ⟨b2, 0, none⟩) 3 3) ([1, 2, 3] : List Int) :: OwnSl 3 v2 x2.1 :: OwnSl 3 (.slice (some ⟨b1, 0, none⟩) 5 5) ([5, 3, 9, 3, 7] : List Int) :: OwnSl 48 v1 x1.1 :: L) w := hp
  have hp : Hp Z ρ (OwnSl 3 (.slice (some ⟨b2, 0, none⟩) 3 3) ([1, 2, 3] : List Int) :: OwnSl 3 v2 x2.1 :: OwnSl 3 (.slice (some ⟨b1, 0, none⟩) 5 5) ([5, 3, 9, 3, 7] : List Int) :: OwnSl 48 v1 x1.1 :: L) w := hp
  refine s_val (wk0 rfl) rfl rfl hE hp (v := (.tuple #[v2, (.int .i64 x2.2)])) (ex_move rfl hE rfl) ?_
  intro a hE
  refine s_val (wk0 rfl) rfl rfl hE hp (v := v2) (ex_extract rfl hE rfl rfl) ?_
  intro a hE
  refine s_val (wk0 rfl) rfl rfl hE hp (v := (.int .i64 x2.2)) (ex_extract rfl hE rfl rfl) ?_
  intro a hE
  refine s_val (wk0 rfl) rfl rfl hE hp (v := v2) (ex_asn rfl hE rfl) ?_
  intro a hE
  refine s_val (wk0 rfl) rfl rfl hE hp (v := (.int .i64 x2.2)) (ex_asn rfl hE rfl) ?_
  intro a hE
  refine s_nil ?_
  refine k_seq ?_
  refine k_region ?_
  obtain ⟨x3, ex3, hm⟩ := bnd hm
  refine s_call (wk0 rfl) rfl rfl hE rfl [(.int .i64 1000005), (.int .i64 1), (.int .i64 3), (.int .i64 2)] ⟨rfl, rfl, rfl, rfl, trivial⟩ ent22 (c_fingerprint_Roll hT 1000005 1 3 2 hp x3 ex3) Ret.ret ?_
  intro v a w hR hE
  obtain ⟨rfl, hp⟩ := Ret.of hR
  have hp : Hp Z ρ (OwnSl 3 (.slice (some ⟨b2, 0, none⟩) 3 3) ([1, 2, 3] : List Int) :: OwnSl 3 v2 x2.1 :: OwnSl 3 (.slice (some ⟨b1, 0, none⟩) 5 5) ([5, 3, 9, 3, 7] : List Int) :: OwnSl 48 v1 x1.1 :: L) w := hp
  refine s_val (wk0 rfl) rfl rfl hE hp (v := (.tuple #[(.int .i64 x3.1), (.int .i64 x3.2)])) (ex_move rfl hE rfl) ?_
  intro a hE
  refine s_val (wk0 rfl) rfl rfl hE hp (v := (.int .i64 x3.1)) (ex_extract rfl hE rfl rfl) ?_
  intro a hE
  refine s_val (wk0 rfl) rfl rfl hE hp (v := (.int .i64 x3.2)) (ex_extract rfl hE rfl rfl) ?_
  intro a hE
  refine s_val (wk0 rfl) rfl rfl hE hp (v := (.int .i64 x3.1)) (ex_asn rfl hE rfl) ?_
  intro a hE
  refine s_val (wk0 rfl) rfl rfl hE hp (v := (.int .i64 x3.2)) (ex_asn rfl hE rfl) ?_
  intro a hE
  refine s_nil ?_
  refine k_seq ?_
  refine k_region ?_
  refine s_val (wk0 rfl) rfl rfl hE hp (v := (.agg #[(.int .i64 20), (.string (ByteArray.mk #[97])), (.int .i64 0), (.int .i64 0), (.slice none 0 0)])) (ex_bld rfl hE [(0, (.int .i64 20)), (1, (.string (ByteArray.mk #[97])))] (by exact ⟨⟨rfl, rfl⟩, ⟨rfl, rfl⟩, trivial⟩) (fun w => by simp [Instr.build, Instr.fill, Value.cells, go_sem])) ?_
  intro a hE
  refine s_lit (wk0 rfl) rfl rfl hE hp rfl [(0, (.agg #[(.int .i64 20), (.string (ByteArray.mk #[97])), (.int .i64 0), (.int .i64 0), (.slice none 0 0)]))] ⟨⟨rfl, rfl⟩, trivial⟩ [(.int .i64 20), (.string (ByteArray.mk #[97])), (.int .i64 0), (.int .i64 0), (.slice none 0 0)] 24 (fun w => by simp [Instr.buildSlice, Instr.fill, Value.cells, go_sem]) ?_
  intro a w b3 hE hp
  have hp : Hp Z ρ (Pt b3 (.cells #[(.int .i64 20), (.string (ByteArray.mk #[97])), (.int .i64 0), (.int .i64 0), (.slice none 0 0)] 24 (0, 0)) :: OwnSl 3 (.slice (some ⟨b2, 0, none⟩) 3 3) ([1, 2, 3] : List Int) :: OwnSl 3 v2 x2.1 :: OwnSl 3 (.slice (some ⟨b1, 0, none⟩) 5 5) ([5, 3, 9, 3, 7] : List Int) :: OwnSl 48 v1 x1.1 :: L) w := hp
  obtain ⟨k3, k3a, k3d, hp⟩ := (hp.get 0 rfl).lend
  have f1 : RoSl (ρ.un k3) (.slice (some ⟨b3, 0, none⟩) 1 1) ([(Node.mk 20 (ByteArray.mk #[97]) 0 0 ([]))] : List Node) := RoSl.of_all (l := (([(Node.mk 20 (ByteArray.mk #[97]) 0 0 ([]))] : List Node))) k3d k3a ⟨_, _, rfl, (NodeAt.shut (RoSl.nil _)), rfl⟩
  have hp : Hp Z (ρ.un k3) (OwnSl 3 (.slice (some ⟨b2, 0, none⟩) 3 3) ([1, 2, 3] : List Int) :: OwnSl 3 v2 x2.1 :: OwnSl 3 (.slice (some ⟨b1, 0, none⟩) 5 5) ([5, 3, 9, 3, 7] : List Int) :: OwnSl 48 v1 x1.1 :: L) w := hp
  refine s_val (wk0 rfl) rfl rfl hE hp (v := (.agg #[(.int .i64 28), (.string (ByteArray.mk #[45])), (.int .i64 0), (.int .i64 0), (.slice (some ⟨b3, 0, none⟩) 1 1)])) (ex_bld rfl hE [(0, (.int .i64 28)), (1, (.string (ByteArray.mk #[45]))), (4, (.slice (some ⟨b3, 0, none⟩) 1 1))] (by exact ⟨⟨rfl, rfl⟩, ⟨rfl, rfl⟩, ⟨rfl, rfl⟩, trivial⟩) (fun w => by simp [Instr.build, Instr.fill, Value.cells, go_sem])) ?_
  intro a hE
  obtain ⟨x4, ex4, hm⟩ := bnd hm
  refine s_call (wk0 rfl) rfl rfl hE rfl [(.agg #[(.int .i64 28), (.string (ByteArray.mk #[45])), (.int .i64 0), (.int .i64 0), (.slice (some ⟨b3, 0, none⟩) 1 1)])] ⟨rfl, trivial⟩ ent15 (c_fingerprint_Symbols (Tabs.mono hT (PH.le_un _ _)) (Node.mk 28 (ByteArray.mk #[45]) 0 0 ([(Node.mk 20 (ByteArray.mk #[97]) 0 0 ([]))] : List Node)) (.slice (some ⟨b3, 0, none⟩) 1 1) f1 hp x4 ex4) Ret.ret ?_
  intro v3 a w hR hE
  obtain ⟨u, hu, hp⟩ := Ret.of hR
  rw [← hu] at hp
  have hp : Hp Z (ρ.un k3) (OwnSl 3 v3 x4 :: OwnSl 3 (.slice (some ⟨b2, 0, none⟩) 3 3) ([1, 2, 3] : List Int) :: OwnSl 3 v2 x2.1 :: OwnSl 3 (.slice (some ⟨b1, 0, none⟩) 5 5) ([5, 3, 9, 3, 7] : List Int) :: OwnSl 48 v1 x1.1 :: L) w := hp
  refine s_val (wk0 rfl) rfl rfl hE hp (v := v3) (ex_asn rfl hE rfl) ?_
  intro a hE
  refine s_nil ?_
  have hE := hE.cut (E' := [(1, v1), (2, (.int .i64 x1.2)), (3, v2), (4, (.int .i64 x2.2)), (5, (.int .i64 x3.1)), (6, (.int .i64 x3.2)), (7, v3)]) ⟨rfl, rfl, rfl, rfl, rfl, rfl, rfl, trivial⟩
  refine k_seq ?_
  refine k_region ?_
  refine s_val (wk0 rfl) rfl rfl hE hp (v := (.agg #[(.int .i64 20), (.string (ByteArray.mk #[97])), (.int .i64 0), (.int .i64 0), (.slice none 0 0)])) (ex_bld rfl hE [(0, (.int .i64 20)), (1, (.string (ByteArray.mk #[97])))] (by exact ⟨⟨rfl, rfl⟩, ⟨rfl, rfl⟩, trivial⟩) (fun w => by simp [Instr.build, Instr.fill, Value.cells, go_sem])) ?_
  intro a hE
  obtain ⟨x5, ex5, hm⟩ := bnd hm
  refine s_call (wk0 rfl) rfl rfl hE rfl [(.agg #[(.int .i64 20), (.string (ByteArray.mk #[97])), (.int .i64 0), (.int .i64 0), (.slice none 0 0)]), (.int .i64 1), (.int .i64 1)] ⟨rfl, rfl, rfl, trivial⟩ ent12 (c_fingerprint_Marks (Tabs.mono hT (PH.le_un _ _)) (Node.mk 20 (ByteArray.mk #[97]) 0 0 ([])) (.slice none 0 0) (RoSl.nil _) 1 1 hp x5 ex5) Ret.ret ?_
  intro v a w hR hE
  obtain ⟨v4, rfl, hp⟩ := Ret.of hR
  have hp : Hp Z (ρ.un k3) (OwnSl 48 v4 x5.1 :: OwnSl 3 v3 x4 :: OwnSl 3 (.slice (some ⟨b2, 0, none⟩) 3 3) ([1, 2, 3] : List Int) :: OwnSl 3 v2 x2.1 :: OwnSl 3 (.slice (some ⟨b1, 0, none⟩) 5 5) ([5, 3, 9, 3, 7] : List Int) :: OwnSl 48 v1 x1.1 :: L) w := hp
  refine s_val (wk0 rfl) rfl rfl hE hp (v := (.tuple #[v4, (.int .i64 x5.2)])) (ex_move rfl hE rfl) ?_
  intro a hE
  refine s_val (wk0 rfl) rfl rfl hE hp (v := v4) (ex_extract rfl hE rfl rfl) ?_
  intro a hE
  refine s_val (wk0 rfl) rfl rfl hE hp (v := (.int .i64 x5.2)) (ex_extract rfl hE rfl rfl) ?_
  intro a hE
  refine s_val (wk0 rfl) rfl rfl hE hp (v := v4) (ex_asn rfl hE rfl) ?_
  intro a hE
  refine s_val (wk0 rfl) rfl rfl hE hp (v := (.int .i64 x5.2)) (ex_asn rfl hE rfl) ?_
  intro a hE
  refine s_nil ?_
  refine k_seq ?_
  refine k_region ?_
  refine s_val (wk0 rfl) rfl rfl hE hp (v := (.int .i64 x1.2)) (ex_move rfl hE rfl) ?_
  intro a hE
  refine s_val (wk0 rfl) rfl rfl hE hp (v := (.bool (decide (x1.2 = 0)))) (ex_eql rfl hE rfl rfl) ?_
  intro a hE
  refine s_val (wk0 rfl) rfl rfl hE hp (v := (.bool (decide (x1.2 = 0)))) (ex_move rfl hE rfl) ?_
  intro a hE
  obtain ⟨m1, hg1, hm⟩ := bnd hm
  refine s_cut [_, _, _, _, _, _] (fun a w => Env 93 [(41, (.bool m1)), (1, v1), (3, v2), (4, (.int .i64 x2.2)), (5, (.int .i64 x3.1)), (6, (.int .i64 x3.2)), (7, v3), (8, v4), (9, (.int .i64 x5.2))] a ∧ Hp Z (ρ.un k3) (OwnSl 48 v4 x5.1 :: OwnSl 3 v3 x4 :: OwnSl 3 (.slice (some ⟨b2, 0, none⟩) 3 3) ([1, 2, 3] : List Int) :: OwnSl 3 v2 x2.1 :: OwnSl 3 (.slice (some ⟨b1, 0, none⟩) 5 5) ([5, 3, 9, 3, 7] : List Int) :: OwnSl 48 v1 x1.1 :: L) w) ?_ ?_
  · rcases Bool.eq_false_or_eq_true (decide (x1.2 = 0)) with hb1 | hb1
    ·
      replace hg1 := (it hb1).symm.trans hg1
      refine s_val (wk1 hE rfl rfl rfl hb1) rfl rfl hE hp (v := v1) (ex_move rfl hE rfl) ?_
      intro a hE
      refine s_val (wk1 hE rfl rfl rfl hb1) rfl rfl hE hp (v := (.agg #[(.int .i64 3), (.int .i64 1)])) (ex_bld rfl hE [(0, (.int .i64 3)), (1, (.int .i64 1))] (by exact ⟨⟨rfl, rfl⟩, ⟨rfl, rfl⟩, trivial⟩) (fun w => by simp [Instr.build, Instr.fill, Value.cells, go_sem])) ?_
      intro a hE
      refine s_val (wk1 hE rfl rfl rfl hb1) rfl rfl hE hp (v := (.agg #[(.int .i64 3), (.int .i64 3)])) (ex_bld rfl hE [(0, (.int .i64 3)), (1, (.int .i64 3))] (by exact ⟨⟨rfl, rfl⟩, ⟨rfl, rfl⟩, trivial⟩) (fun w => by simp [Instr.build, Instr.fill, Value.cells, go_sem])) ?_
      intro a hE
      refine s_lit (wk1 hE rfl rfl rfl hb1) rfl rfl hE hp rfl [(0, (.agg #[(.int .i64 3), (.int .i64 1)])), (1, (.agg #[(.int .i64 3), (.int .i64 3)]))] ⟨⟨rfl, rfl⟩, ⟨rfl, rfl⟩, trivial⟩ [(.int .i64 3), (.int .i64 1), (.int .i64 3), (.int .i64 3)] 48 (fun w => by simp [Instr.buildSlice, Instr.fill, Value.cells, go_sem]) ?_
      intro a w b4 hE hp
      have hp : Hp Z (ρ.un k3) (Pt b4 (.cells #[(.int .i64 3), (.int .i64 1), (.int .i64 3), (.int .i64 3)] 48 (0, 0)) :: OwnSl 48 v4 x5.1 :: OwnSl 3 v3 x4 :: OwnSl 3 (.slice (some ⟨b2, 0, none⟩) 3 3) ([1, 2, 3] : List Int) :: OwnSl 3 v2 x2.1 :: OwnSl 3 (.slice (some ⟨b1, 0, none⟩) 5 5) ([5, 3, 9, 3, 7] : List Int) :: OwnSl 48 v1 x1.1 :: L) w := hp
      have hp := (hp.get 0 rfl).imp (own_of_pt (l := (([(Mark.mk 3 1), (Mark.mk 3 3)] : List Mark) : List Mark)) (n := 2) rfl (by decide) rfl)
      have hp : Hp Z (ρ.un k3) (OwnSl 48 (.slice (some ⟨b4, 0, none⟩) 2 2) ([(Mark.mk 3 1), (Mark.mk 3 3)] : List Mark) :: OwnSl 48 v4 x5.1 :: OwnSl 3 v3 x4 :: OwnSl 3 (.slice (some ⟨b2, 0, none⟩) 3 3) ([1, 2, 3] : List Int) :: OwnSl 3 v2 x2.1 :: OwnSl 3 (.slice (some ⟨b1, 0, none⟩) 5 5) ([5, 3, 9, 3, 7] : List Int) :: OwnSl 48 v1 x1.1 :: L) w := hp
      obtain ⟨k4, k4a, k4d, k4h⟩ := (hp.get 6 rfl).lend
      obtain ⟨k5, k5a, k5d, k5h⟩ := (k4h.get 0 rfl).lend
      obtain ⟨x6, ex6, hg1⟩ := bnd hg1
      refine s_call (wk1 hE rfl rfl rfl hb1) rfl rfl hE rfl [v1, (.slice (some ⟨b4, 0, none⟩) 2 2)] ⟨rfl, rfl, trivial⟩ ent19 (c_assessorref43_Same (Tabs.mono (Tabs.mono (Tabs.mono hT (PH.le_un _ _)) (PH.le_un _ _)) (PH.le_un _ _)) x1.1 v1 (RoSl.mono (OwnSl.ro k4d k4a) (PH.le_un _ _)) ([(Mark.mk 3 1), (Mark.mk 3 3)] : List Mark) (.slice (some ⟨b4, 0, none⟩) 2 2) (OwnSl.ro k5d k5a) k5h x6 ex6) Ret.ret ?_
      intro v a w hR hE
      obtain ⟨rfl, hp⟩ := Ret.of hR
      have hp := Hp.back k5a k5d hp
      have hp := Hp.back k4a k4d hp
      have hp : Hp Z (ρ.un k3) (OwnSl 48 v1 x1.1 :: OwnSl 48 (.slice (some ⟨b4, 0, none⟩) 2 2) ([(Mark.mk 3 1), (Mark.mk 3 3)] : List Mark) :: OwnSl 48 v4 x5.1 :: OwnSl 3 v3 x4 :: OwnSl 3 (.slice (some ⟨b2, 0, none⟩) 3 3) ([1, 2, 3] : List Int) :: OwnSl 3 v2 x2.1 :: OwnSl 3 (.slice (some ⟨b1, 0, none⟩) 5 5) ([5, 3, 9, 3, 7] : List Int) :: L) w := hp
      have hp : Hp Z (ρ.un k3) (OwnSl 48 v1 x1.1 :: OwnSl 48 (.slice (some ⟨b4, 0, none⟩) 2 2) ([(Mark.mk 3 1), (Mark.mk 3 3)] : List Mark) :: OwnSl 48 v4 x5.1 :: OwnSl 3 v3 x4 :: OwnSl 3 (.slice (some ⟨b2, 0, none⟩) 3 3) ([1, 2, 3] : List Int) :: OwnSl 3 v2 x2.1 :: OwnSl 3 (.slice (some ⟨b1, 0, none⟩) 5 5) ([5, 3, 9, 3, 7] : List Int) :: L) w := hp
      refine s_val (wk0 rfl) rfl rfl hE hp (v := (.bool x6)) (ex_pick1 rfl hE rfl hb1 rfl) ?_
      intro a hE
      obtain rfl := Option.some.inj hg1
      exact s_nil ⟨hE.cut ⟨rfl, rfl, rfl, rfl, rfl, rfl, rfl, rfl, rfl, trivial⟩, ((((((((hp.get 0 rfl).get 6 rfl).get 6 rfl).get 6 rfl).get 6 rfl).get 6 rfl).get 6 rfl).drop)⟩
    ·
      replace hg1 := (ie hb1).symm.trans hg1
      refine s_skip (wk2 hE rfl rfl rfl hb1) rfl rfl hE ?_
      intro a hE
      refine s_skip (wk2 hE rfl rfl rfl hb1) rfl rfl hE ?_
      intro a hE
      refine s_skip (wk2 hE rfl rfl rfl hb1) rfl rfl hE ?_
      intro a hE
      refine s_skip (wk2 hE rfl rfl rfl hb1) rfl rfl hE ?_
      intro a hE
      refine s_skip (wk2 hE rfl rfl rfl hb1) rfl rfl hE ?_
      intro a hE
      refine s_val (wk0 rfl) rfl rfl hE hp (v := (.bool false)) (ex_pick0 rfl hE rfl hb1 rfl) ?_
      intro a hE
      obtain rfl := Option.some.inj hg1
      exact s_nil ⟨hE.cut ⟨rfl, rfl, rfl, rfl, rfl, rfl, rfl, rfl, rfl, trivial⟩, hp⟩
  · rintro a w ⟨hE, hp⟩
    refine s_val (wk0 rfl) rfl rfl hE hp (v := (.bool m1)) (ex_move rfl hE rfl) ?_
    intro a hE
    refine s_cut [_, _, _] (fun a w => Env 93 [(45, (.bool (m1 && (decide (x2.2 = 0))))), (1, v1), (3, v2), (5, (.int .i64 x3.1)), (6, (.int .i64 x3.2)), (7, v3), (8, v4), (9, (.int .i64 x5.2))] a ∧ Hp Z (ρ.un k3) (OwnSl 48 v4 x5.1 :: OwnSl 3 v3 x4 :: OwnSl 3 (.slice (some ⟨b2, 0, none⟩) 3 3) ([1, 2, 3] : List Int) :: OwnSl 3 v2 x2.1 :: OwnSl 3 (.slice (some ⟨b1, 0, none⟩) 5 5) ([5, 3, 9, 3, 7] : List Int) :: OwnSl 48 v1 x1.1 :: L) w) ?_ ?_
    · rcases Bool.eq_false_or_eq_true m1 with hb2 | hb2
      ·
        refine s_val (wk1 hE rfl rfl rfl hb2) rfl rfl hE hp (v := (.int .i64 x2.2)) (ex_move rfl hE rfl) ?_
        intro a hE
        refine s_val (wk1 hE rfl rfl rfl hb2) rfl rfl hE hp (v := (.bool (decide (x2.2 = 0)))) (ex_eql rfl hE rfl rfl) ?_
        intro a hE
        refine s_val (wk0 rfl) rfl rfl hE hp (v := (.bool (decide (x2.2 = 0)))) (ex_pick1 rfl hE rfl hb2 rfl) ?_
        intro a hE
        have hE := hE.eqv (v' := (.bool (m1 && (decide (x2.2 = 0))))) (by rw [hb2]; rfl)
        exact s_nil ⟨hE.cut ⟨rfl, rfl, rfl, rfl, rfl, rfl, rfl, rfl, trivial⟩, hp⟩
      ·
        refine s_skip (wk2 hE rfl rfl rfl hb2) rfl rfl hE ?_
        intro a hE
        refine s_skip (wk2 hE rfl rfl rfl hb2) rfl rfl hE ?_
        intro a hE
        refine s_val (wk0 rfl) rfl rfl hE hp (v := (.bool false)) (ex_pick0 rfl hE rfl hb2 rfl) ?_
        intro a hE
        have hE := hE.eqv (v' := (.bool (m1 && (decide (x2.2 = 0))))) (by rw [hb2]; rfl)
        exact s_nil ⟨hE.cut ⟨rfl, rfl, rfl, rfl, rfl, rfl, rfl, rfl, trivial⟩, hp⟩
    · rintro a w ⟨hE, hp⟩
      refine s_val (wk0 rfl) rfl rfl hE hp (v := (.bool (m1 && (decide (x2.2 = 0))))) (ex_move rfl hE rfl) ?_
      intro a hE
      obtain ⟨m2, hg2, hm⟩ := bnd hm
      refine s_cut [_, _, _, _] (fun a w => Env 93 [(50, (.bool m2)), (1, v1), (5, (.int .i64 x3.1)), (6, (.int .i64 x3.2)), (7, v3), (8, v4), (9, (.int .i64 x5.2))] a ∧ Hp Z (ρ.un k3) (OwnSl 48 v4 x5.1 :: OwnSl 3 v3 x4 :: OwnSl 3 (.slice (some ⟨b2, 0, none⟩) 3 3) ([1, 2, 3] : List Int) :: OwnSl 3 v2 x2.1 :: OwnSl 3 (.slice (some ⟨b1, 0, none⟩) 5 5) ([5, 3, 9, 3, 7] : List Int) :: OwnSl 48 v1 x1.1 :: L) w) ?_ ?_
      · rcases Bool.eq_false_or_eq_true (m1 && (decide (x2.2 = 0))) with hb3 | hb3
        ·
          replace hg2 := (it hb3).symm.trans hg2
          refine s_val (wk1 hE rfl rfl rfl hb3) rfl rfl hE hp (v := v2) (ex_move rfl hE rfl) ?_
          intro a hE
          refine s_lit (wk1 hE rfl rfl rfl hb3) rfl rfl hE hp rfl [(0, (.int .i64 1000005)), (1, (.int .i64 2000009))] ⟨⟨rfl, rfl⟩, ⟨rfl, rfl⟩, trivial⟩ [(.int .i64 1000005), (.int .i64 2000009)] 3 (fun w => by simp [Instr.buildSlice, Instr.fill, Value.cells, go_sem]) ?_
          intro a w b5 hE hp
          have hp : Hp Z (ρ.un k3) (Pt b5 (.cells #[(.int .i64 1000005), (.int .i64 2000009)] 3 (0, 0)) :: OwnSl 48 v4 x5.1 :: OwnSl 3 v3 x4 :: OwnSl 3 (.slice (some ⟨b2, 0, none⟩) 3 3) ([1, 2, 3] : List Int) :: OwnSl 3 v2 x2.1 :: OwnSl 3 (.slice (some ⟨b1, 0, none⟩) 5 5) ([5, 3, 9, 3, 7] : List Int) :: OwnSl 48 v1 x1.1 :: L) w := hp
          have hp := (hp.get 0 rfl).imp (own_of_pt (l := (([1000005, 2000009] : List Int) : List Int)) (n := 2) rfl (by decide) rfl)
          have hp : Hp Z (ρ.un k3) (OwnSl 3 (.slice (some ⟨b5, 0, none⟩) 2 2) ([1000005, 2000009] : List Int) :: OwnSl 48 v4 x5.1 :: OwnSl 3 v3 x4 :: OwnSl 3 (.slice (some ⟨b2, 0, none⟩) 3 3) ([1, 2, 3] : List Int) :: OwnSl 3 v2 x2.1 :: OwnSl 3 (.slice (some ⟨b1, 0, none⟩) 5 5) ([5, 3, 9, 3, 7] : List Int) :: OwnSl 48 v1 x1.1 :: L) w := hp
          obtain ⟨k6, k6a, k6d, k6h⟩ := (hp.get 4 rfl).lend
          obtain ⟨k7, k7a, k7d, k7h⟩ := (k6h.get 0 rfl).lend
          obtain ⟨x7, ex7, hg2⟩ := bnd hg2
          refine s_call (wk1 hE rfl rfl rfl hb3) rfl rfl hE rfl [v2, (.slice (some ⟨b5, 0, none⟩) 2 2)] ⟨rfl, rfl, trivial⟩ ent14 (c_assessorref35_Same (Tabs.mono (Tabs.mono (Tabs.mono hT (PH.le_un _ _)) (PH.le_un _ _)) (PH.le_un _ _)) x2.1 v2 (RoSl.mono (OwnSl.ro k6d k6a) (PH.le_un _ _)) ([1000005, 2000009] : List Int) (.slice (some ⟨b5, 0, none⟩) 2 2) (OwnSl.ro k7d k7a) k7h x7 ex7) Ret.ret ?_
          intro v a w hR hE
          obtain ⟨rfl, hp⟩ := Ret.of hR
          have hp := Hp.back k7a k7d hp
          have hp := Hp.back k6a k6d hp
          have hp : Hp Z (ρ.un k3) (OwnSl 3 v2 x2.1 :: OwnSl 3 (.slice (some ⟨b5, 0, none⟩) 2 2) ([1000005, 2000009] : List Int) :: OwnSl 48 v4 x5.1 :: OwnSl 3 v3 x4 :: OwnSl 3 (.slice (some ⟨b2, 0, none⟩) 3 3) ([1, 2, 3] : List Int) :: OwnSl 3 (.slice (some ⟨b1, 0, none⟩) 5 5) ([5, 3, 9, 3, 7] : List Int) :: OwnSl 48 v1 x1.1 :: L) w := hp
          have hp : Hp Z (ρ.un k3) (OwnSl 3 v2 x2.1 :: OwnSl 3 (.slice (some ⟨b5, 0, none⟩) 2 2) ([1000005, 2000009] : List Int) :: OwnSl 48 v4 x5.1 :: OwnSl 3 v3 x4 :: OwnSl 3 (.slice (some ⟨b2, 0, none⟩) 3 3) ([1, 2, 3] : List Int) :: OwnSl 3 (.slice (some ⟨b1, 0, none⟩) 5 5) ([5, 3, 9, 3, 7] : List Int) :: OwnSl 48 v1 x1.1 :: L) w := hp
          refine s_val (wk0 rfl) rfl rfl hE hp (v := (.bool x7)) (ex_pick1 rfl hE rfl hb3 rfl) ?_
          intro a hE
          obtain rfl := Option.some.inj hg2
          exact s_nil ⟨hE.cut ⟨rfl, rfl, rfl, rfl, rfl, rfl, rfl, trivial⟩, ((((((((hp.get 6 rfl).get 6 rfl).get 2 rfl).get 6 rfl).get 6 rfl).get 6 rfl).get 6 rfl).drop)⟩
        ·
          replace hg2 := (ie hb3).symm.trans hg2
          refine s_skip (wk2 hE rfl rfl rfl hb3) rfl rfl hE ?_
          intro a hE
          refine s_skip (wk2 hE rfl rfl rfl hb3) rfl rfl hE ?_
          intro a hE
          refine s_skip (wk2 hE rfl rfl rfl hb3) rfl rfl hE ?_
          intro a hE
          refine s_val (wk0 rfl) rfl rfl hE hp (v := (.bool false)) (ex_pick0 rfl hE rfl hb3 rfl) ?_
          intro a hE
          obtain rfl := Option.some.inj hg2
          exact s_nil ⟨hE.cut ⟨rfl, rfl, rfl, rfl, rfl, rfl, rfl, trivial⟩, hp⟩
      · rintro a w ⟨hE, hp⟩
        refine s_val (wk0 rfl) rfl rfl hE hp (v := (.bool m2)) (ex_move rfl hE rfl) ?_
        intro a hE
        refine s_cut [_, _, _] (fun a w => Env 93 [(54, (.bool (m2 && (decide (x3.2 = 0))))), (1, v1), (5, (.int .i64 x3.1)), (7, v3), (8, v4), (9, (.int .i64 x5.2))] a ∧ Hp Z (ρ.un k3) (OwnSl 48 v4 x5.1 :: OwnSl 3 v3 x4 :: OwnSl 3 (.slice (some ⟨b2, 0, none⟩) 3 3) ([1, 2, 3] : List Int) :: OwnSl 3 v2 x2.1 :: OwnSl 3 (.slice (some ⟨b1, 0, none⟩) 5 5) ([5, 3, 9, 3, 7] : List Int) :: OwnSl 48 v1 x1.1 :: L) w) ?_ ?_
        · rcases Bool.eq_false_or_eq_true m2 with hb4 | hb4
          ·
            refine s_val (wk1 hE rfl rfl rfl hb4) rfl rfl hE hp (v := (.int .i64 x3.2)) (ex_move rfl hE rfl) ?_
            intro a hE
            refine s_val (wk1 hE rfl rfl rfl hb4) rfl rfl hE hp (v := (.bool (decide (x3.2 = 0)))) (ex_eql rfl hE rfl rfl) ?_
            intro a hE
            refine s_val (wk0 rfl) rfl rfl hE hp (v := (.bool (decide (x3.2 = 0)))) (ex_pick1 rfl hE rfl hb4 rfl) ?_
            intro a hE
            have hE := hE.eqv (v' := (.bool (m2 && (decide (x3.2 = 0))))) (by rw [hb4]; rfl)
            exact s_nil ⟨hE.cut ⟨rfl, rfl, rfl, rfl, rfl, rfl, trivial⟩, hp⟩
          ·
            refine s_skip (wk2 hE rfl rfl rfl hb4) rfl rfl hE ?_
            intro a hE
            refine s_skip (wk2 hE rfl rfl rfl hb4) rfl rfl hE ?_
            intro a hE
            refine s_val (wk0 rfl) rfl rfl hE hp (v := (.bool false)) (ex_pick0 rfl hE rfl hb4 rfl) ?_
            intro a hE
            have hE := hE.eqv (v' := (.bool (m2 && (decide (x3.2 = 0))))) (by rw [hb4]; rfl)
            exact s_nil ⟨hE.cut ⟨rfl, rfl, rfl, rfl, rfl, rfl, trivial⟩, hp⟩
        · rintro a w ⟨hE, hp⟩
          refine s_val (wk0 rfl) rfl rfl hE hp (v := (.bool (m2 && (decide (x3.2 = 0))))) (ex_move rfl hE rfl) ?_
          intro a hE
          refine s_cut [_, _, _] (fun a w => Env 93 [(58, (.bool ((m2 && (decide (x3.2 = 0))) && (decide (x3.1 = 2000009))))), (1, v1), (7, v3), (8, v4), (9, (.int .i64 x5.2))] a ∧ Hp Z (ρ.un k3) (OwnSl 48 v4 x5.1 :: OwnSl 3 v3 x4 :: OwnSl 3 (.slice (some ⟨b2, 0, none⟩) 3 3) ([1, 2, 3] : List Int) :: OwnSl 3 v2 x2.1 :: OwnSl 3 (.slice (some ⟨b1, 0, none⟩) 5 5) ([5, 3, 9, 3, 7] : List Int) :: OwnSl 48 v1 x1.1 :: L) w) ?_ ?_
          · rcases Bool.eq_false_or_eq_true (m2 && (decide (x3.2 = 0))) with hb5 | hb5
            ·
              refine s_val (wk1 hE rfl rfl rfl hb5) rfl rfl hE hp (v := (.int .i64 x3.1)) (ex_move rfl hE rfl) ?_
              intro a hE
              refine s_val (wk1 hE rfl rfl rfl hb5) rfl rfl hE hp (v := (.bool (decide (x3.1 = 2000009)))) (ex_eql rfl hE rfl rfl) ?_
              intro a hE
              refine s_val (wk0 rfl) rfl rfl hE hp (v := (.bool (decide (x3.1 = 2000009)))) (ex_pick1 rfl hE rfl hb5 rfl) ?_
              intro a hE
              have hE := hE.eqv (v' := (.bool ((m2 && (decide (x3.2 = 0))) && (decide (x3.1 = 2000009))))) (by rw [hb5]; rfl)
              exact s_nil ⟨hE.cut ⟨rfl, rfl, rfl, rfl, rfl, trivial⟩, hp⟩
            ·
              refine s_skip (wk2 hE rfl rfl rfl hb5) rfl rfl hE ?_
              intro a hE
              refine s_skip (wk2 hE rfl rfl rfl hb5) rfl rfl hE ?_
              intro a hE
              refine s_val (wk0 rfl) rfl rfl hE hp (v := (.bool false)) (ex_pick0 rfl hE rfl hb5 rfl) ?_
              intro a hE
              have hE := hE.eqv (v' := (.bool ((m2 && (decide (x3.2 = 0))) && (decide (x3.1 = 2000009))))) (by rw [hb5]; rfl)
              exact s_nil ⟨hE.cut ⟨rfl, rfl, rfl, rfl, rfl, trivial⟩, hp⟩
          · rintro a w ⟨hE, hp⟩
            refine s_val (wk0 rfl) rfl rfl hE hp (v := (.bool ((m2 && (decide (x3.2 = 0))) && (decide (x3.1 = 2000009))))) (ex_move rfl hE rfl) ?_
            intro a hE
            obtain ⟨m3, hg3, hm⟩ := bnd hm
            refine s_cut [_, _, _, _] (fun a w => Env 93 [(63, (.bool m3)), (1, v1), (7, v3), (8, v4), (9, (.int .i64 x5.2))] a ∧ Hp Z (ρ.un k3) (OwnSl 48 v4 x5.1 :: OwnSl 3 v3 x4 :: OwnSl 3 (.slice (some ⟨b2, 0, none⟩) 3 3) ([1, 2, 3] : List Int) :: OwnSl 3 v2 x2.1 :: OwnSl 3 (.slice (some ⟨b1, 0, none⟩) 5 5) ([5, 3, 9, 3, 7] : List Int) :: OwnSl 48 v1 x1.1 :: L) w) ?_ ?_
            · rcases Bool.eq_false_or_eq_true ((m2 && (decide (x3.2 = 0))) && (decide (x3.1 = 2000009))) with hb6 | hb6
              ·
                replace hg3 := (it hb6).symm.trans hg3
                refine s_lit (wk1 hE rfl rfl rfl hb6) rfl rfl hE hp rfl [(0, (.int .i64 1)), (1, (.int .i64 2))] ⟨⟨rfl, rfl⟩, ⟨rfl, rfl⟩, trivial⟩ [(.int .i64 1), (.int .i64 2)] 3 (fun w => by simp [Instr.buildSlice, Instr.fill, Value.cells, go_sem]) ?_
                intro a w b6 hE hp
                have hp : Hp Z (ρ.un k3) (Pt b6 (.cells #[(.int .i64 1), (.int .i64 2)] 3 (0, 0)) :: OwnSl 48 v4 x5.1 :: OwnSl 3 v3 x4 :: OwnSl 3 (.slice (some ⟨b2, 0, none⟩) 3 3) ([1, 2, 3] : List Int) :: OwnSl 3 v2 x2.1 :: OwnSl 3 (.slice (some ⟨b1, 0, none⟩) 5 5) ([5, 3, 9, 3, 7] : List Int) :: OwnSl 48 v1 x1.1 :: L) w := hp
                have hp := (hp.get 0 rfl).imp (own_of_pt (l := (([1, 2] : List Int) : List Int)) (n := 2) rfl (by decide) rfl)
                have hp : Hp Z (ρ.un k3) (OwnSl 3 (.slice (some ⟨b6, 0, none⟩) 2 2) ([1, 2] : List Int) :: OwnSl 48 v4 x5.1 :: OwnSl 3 v3 x4 :: OwnSl 3 (.slice (some ⟨b2, 0, none⟩) 3 3) ([1, 2, 3] : List Int) :: OwnSl 3 v2 x2.1 :: OwnSl 3 (.slice (some ⟨b1, 0, none⟩) 5 5) ([5, 3, 9, 3, 7] : List Int) :: OwnSl 48 v1 x1.1 :: L) w := hp
                obtain ⟨k8, k8a, k8d, k8h⟩ := (hp.get 0 rfl).lend
                obtain ⟨x8, ex8, hg3⟩ := bnd hg3
                refine s_call (wk1 hE rfl rfl rfl hb6) rfl rfl hE rfl [(.slice (some ⟨b6, 0, none⟩) 2 2)] ⟨rfl, trivial⟩ ent17 (c_fingerprint_Hash (Tabs.mono (Tabs.mono hT (PH.le_un _ _)) (PH.le_un _ _)) ([1, 2] : List Int) (.slice (some ⟨b6, 0, none⟩) 2 2) (OwnSl.ro k8d k8a) k8h x8 ex8) Ret.ret ?_
                intro v a w hR hE
                obtain ⟨rfl, hp⟩ := Ret.of hR
                have hp := Hp.back k8a k8d hp
                have hp : Hp Z (ρ.un k3) (OwnSl 3 (.slice (some ⟨b6, 0, none⟩) 2 2) ([1, 2] : List Int) :: OwnSl 48 v4 x5.1 :: OwnSl 3 v3 x4 :: OwnSl 3 (.slice (some ⟨b2, 0, none⟩) 3 3) ([1, 2, 3] : List Int) :: OwnSl 3 v2 x2.1 :: OwnSl 3 (.slice (some ⟨b1, 0, none⟩) 5 5) ([5, 3, 9, 3, 7] : List Int) :: OwnSl 48 v1 x1.1 :: L) w := hp
                have hp : Hp Z (ρ.un k3) (OwnSl 3 (.slice (some ⟨b6, 0, none⟩) 2 2) ([1, 2] : List Int) :: OwnSl 48 v4 x5.1 :: OwnSl 3 v3 x4 :: OwnSl 3 (.slice (some ⟨b2, 0, none⟩) 3 3) ([1, 2, 3] : List Int) :: OwnSl 3 v2 x2.1 :: OwnSl 3 (.slice (some ⟨b1, 0, none⟩) 5 5) ([5, 3, 9, 3, 7] : List Int) :: OwnSl 48 v1 x1.1 :: L) w := hp
                refine s_val (wk1 hE rfl rfl rfl hb6) rfl rfl hE hp (v := (.bool (decide (x8 = 1000005)))) (ex_eql rfl hE rfl rfl) ?_
                intro a hE
                refine s_val (wk0 rfl) rfl rfl hE hp (v := (.bool (decide (x8 = 1000005)))) (ex_pick1 rfl hE rfl hb6 rfl) ?_
                intro a hE
                obtain rfl := Option.some.inj hg3
                exact s_nil ⟨hE.cut ⟨rfl, rfl, rfl, rfl, rfl, trivial⟩, (hp.drop)⟩
              ·
                replace hg3 := (ie hb6).symm.trans hg3
                refine s_skip (wk2 hE rfl rfl rfl hb6) rfl rfl hE ?_
                intro a hE
                refine s_skip (wk2 hE rfl rfl rfl hb6) rfl rfl hE ?_
                intro a hE
                refine s_skip (wk2 hE rfl rfl rfl hb6) rfl rfl hE ?_
                intro a hE
                refine s_val (wk0 rfl) rfl rfl hE hp (v := (.bool false)) (ex_pick0 rfl hE rfl hb6 rfl) ?_
                intro a hE
                obtain rfl := Option.some.inj hg3
                exact s_nil ⟨hE.cut ⟨rfl, rfl, rfl, rfl, rfl, trivial⟩, hp⟩
            · rintro a w ⟨hE, hp⟩
              refine s_val (wk0 rfl) rfl rfl hE hp (v := (.bool m3)) (ex_move rfl hE rfl) ?_
              intro a hE
              refine s_cut [_, _, _, _] (fun a w => Env 93 [(68, (.bool (m3 && (decide ((x4.length : Int) = 3))))), (1, v1), (7, v3), (8, v4), (9, (.int .i64 x5.2))] a ∧ Hp Z (ρ.un k3) (OwnSl 48 v4 x5.1 :: OwnSl 3 v3 x4 :: OwnSl 3 (.slice (some ⟨b2, 0, none⟩) 3 3) ([1, 2, 3] : List Int) :: OwnSl 3 v2 x2.1 :: OwnSl 3 (.slice (some ⟨b1, 0, none⟩) 5 5) ([5, 3, 9, 3, 7] : List Int) :: OwnSl 48 v1 x1.1 :: L) w) ?_ ?_
              · rcases Bool.eq_false_or_eq_true m3 with hb7 | hb7
                ·
                  refine s_val (wk1 hE rfl rfl rfl hb7) rfl rfl hE hp (v := v3) (ex_move rfl hE rfl) ?_
                  intro a hE
                  refine s_val (wk1 hE rfl rfl rfl hb7) rfl rfl hE hp (v := (.int .i64 (x4.length : Int))) (ex_len rfl hE rfl (OwnSl.len hp 1 rfl slty25)) ?_
                  intro a hE
                  refine s_val (wk1 hE rfl rfl rfl hb7) rfl rfl hE hp (v := (.bool (decide ((x4.length : Int) = 3)))) (ex_eql rfl hE rfl rfl) ?_
                  intro a hE
                  refine s_val (wk0 rfl) rfl rfl hE hp (v := (.bool (decide ((x4.length : Int) = 3)))) (ex_pick1 rfl hE rfl hb7 rfl) ?_
                  intro a hE
                  have hE := hE.eqv (v' := (.bool (m3 && (decide ((x4.length : Int) = 3))))) (by rw [hb7]; rfl)
                  exact s_nil ⟨hE.cut ⟨rfl, rfl, rfl, rfl, rfl, trivial⟩, hp⟩
                ·
                  refine s_skip (wk2 hE rfl rfl rfl hb7) rfl rfl hE ?_
                  intro a hE
                  refine s_skip (wk2 hE rfl rfl rfl hb7) rfl rfl hE ?_
                  intro a hE
                  refine s_skip (wk2 hE rfl rfl rfl hb7) rfl rfl hE ?_
                  intro a hE
                  refine s_val (wk0 rfl) rfl rfl hE hp (v := (.bool false)) (ex_pick0 rfl hE rfl hb7 rfl) ?_
                  intro a hE
                  have hE := hE.eqv (v' := (.bool (m3 && (decide ((x4.length : Int) = 3))))) (by rw [hb7]; rfl)
                  exact s_nil ⟨hE.cut ⟨rfl, rfl, rfl, rfl, rfl, trivial⟩, hp⟩
              · rintro a w ⟨hE, hp⟩
                refine s_val (wk0 rfl) rfl rfl hE hp (v := (.bool (m3 && (decide ((x4.length : Int) = 3))))) (ex_move rfl hE rfl) ?_
                intro a hE
                obtain ⟨m4, hg4, hm⟩ := bnd hm
                refine s_cut [_, _, _, _, _] (fun a w => Env 93 [(74, (.bool m4)), (1, v1), (8, v4), (9, (.int .i64 x5.2))] a ∧ Hp Z (ρ.un k3) (OwnSl 48 v4 x5.1 :: OwnSl 3 v3 x4 :: OwnSl 3 (.slice (some ⟨b2, 0, none⟩) 3 3) ([1, 2, 3] : List Int) :: OwnSl 3 v2 x2.1 :: OwnSl 3 (.slice (some ⟨b1, 0, none⟩) 5 5) ([5, 3, 9, 3, 7] : List Int) :: OwnSl 48 v1 x1.1 :: L) w) ?_ ?_
                · rcases Bool.eq_false_or_eq_true (m3 && (decide ((x4.length : Int) = 3))) with hb8 | hb8
                  ·
                    replace hg4 := (it hb8).symm.trans hg4
                    refine s_val (wk1 hE rfl rfl rfl hb8) rfl rfl hE hp (v := v3) (ex_move rfl hE rfl) ?_
                    intro a hE
                    obtain ⟨x9, ex9, hg4⟩ := bnd hg4
                    obtain ⟨b7, b7o, b7r, b7v, b7f⟩ := OwnSl.at hp 1 rfl slty25 ex9
                    have b7f : ∀ (j : Nat) (u : Value), ([(.int .i64 x9)] : List Value)[j]? = some u → ∀ w, Hp Z (ρ.un k3) (OwnSl 48 v4 x5.1 :: OwnSl 3 v3 x4 :: OwnSl 3 (.slice (some ⟨b2, 0, none⟩) 3 3) ([1, 2, 3] : List Int) :: OwnSl 3 v2 x2.1 :: OwnSl 3 (.slice (some ⟨b1, 0, none⟩) 5 5) ([5, 3, 9, 3, 7] : List Int) :: OwnSl 48 v1 x1.1 :: L) w → w.cell? ⟨b7, b7o + j, none⟩ = some u := b7f
                    refine s_val (wk1 hE rfl rfl rfl hb8) rfl rfl hE hp (v := (.pointer (some ⟨b7, b7o, none⟩))) (ex_index rfl hE rfl rfl b7r) ?_
                    intro a hE
                    refine s_val (wk1 hE rfl rfl rfl hb8) rfl rfl hE hp (v := (.int .i64 x9)) (ex_load rfl hE rfl (fun w hw => run_ld1 varty3 (b7f 0 _ rfl w hw))) ?_
                    intro a hE
                    refine s_val (wk1 hE rfl rfl rfl hb8) rfl rfl hE hp (v := (.bool (decide (x9 = 0)))) (ex_eql rfl hE rfl rfl) ?_
                    intro a hE
                    refine s_val (wk0 rfl) rfl rfl hE hp (v := (.bool (decide (x9 = 0)))) (ex_pick1 rfl hE rfl hb8 rfl) ?_
                    intro a hE
                    obtain rfl := Option.some.inj hg4
                    exact s_nil ⟨hE.cut ⟨rfl, rfl, rfl, rfl, trivial⟩, hp⟩
                  ·
                    replace hg4 := (ie hb8).symm.trans hg4
                    refine s_skip (wk2 hE rfl rfl rfl hb8) rfl rfl hE ?_
                    intro a hE
                    refine s_skip (wk2 hE rfl rfl rfl hb8) rfl rfl hE ?_
                    intro a hE
                    refine s_skip (wk2 hE rfl rfl rfl hb8) rfl rfl hE ?_
                    intro a hE
                    refine s_skip (wk2 hE rfl rfl rfl hb8) rfl rfl hE ?_
                    intro a hE
                    refine s_val (wk0 rfl) rfl rfl hE hp (v := (.bool false)) (ex_pick0 rfl hE rfl hb8 rfl) ?_
                    intro a hE
                    obtain rfl := Option.some.inj hg4
                    exact s_nil ⟨hE.cut ⟨rfl, rfl, rfl, rfl, trivial⟩, hp⟩
                · rintro a w ⟨hE, hp⟩
                  refine s_val (wk0 rfl) rfl rfl hE hp (v := (.bool m4)) (ex_move rfl hE rfl) ?_
                  intro a hE
                  refine s_cut [_, _, _] (fun a w => Env 93 [(78, (.bool (m4 && (decide (x5.2 = 0))))), (1, v1), (8, v4)] a ∧ Hp Z (ρ.un k3) (OwnSl 48 v4 x5.1 :: OwnSl 3 v3 x4 :: OwnSl 3 (.slice (some ⟨b2, 0, none⟩) 3 3) ([1, 2, 3] : List Int) :: OwnSl 3 v2 x2.1 :: OwnSl 3 (.slice (some ⟨b1, 0, none⟩) 5 5) ([5, 3, 9, 3, 7] : List Int) :: OwnSl 48 v1 x1.1 :: L) w) ?_ ?_
                  · rcases Bool.eq_false_or_eq_true m4 with hb9 | hb9
                    ·
                      refine s_val (wk1 hE rfl rfl rfl hb9) rfl rfl hE hp (v := (.int .i64 x5.2)) (ex_move rfl hE rfl) ?_
                      intro a hE
                      refine s_val (wk1 hE rfl rfl rfl hb9) rfl rfl hE hp (v := (.bool (decide (x5.2 = 0)))) (ex_eql rfl hE rfl rfl) ?_
                      intro a hE
                      refine s_val (wk0 rfl) rfl rfl hE hp (v := (.bool (decide (x5.2 = 0)))) (ex_pick1 rfl hE rfl hb9 rfl) ?_
                      intro a hE
                      have hE := hE.eqv (v' := (.bool (m4 && (decide (x5.2 = 0))))) (by rw [hb9]; rfl)
                      exact s_nil ⟨hE.cut ⟨rfl, rfl, rfl, trivial⟩, hp⟩
                    ·
                      refine s_skip (wk2 hE rfl rfl rfl hb9) rfl rfl hE ?_
                      intro a hE
                      refine s_skip (wk2 hE rfl rfl rfl hb9) rfl rfl hE ?_
                      intro a hE
                      refine s_val (wk0 rfl) rfl rfl hE hp (v := (.bool false)) (ex_pick0 rfl hE rfl hb9 rfl) ?_
                      intro a hE
                      have hE := hE.eqv (v' := (.bool (m4 && (decide (x5.2 = 0))))) (by rw [hb9]; rfl)
                      exact s_nil ⟨hE.cut ⟨rfl, rfl, rfl, trivial⟩, hp⟩
                  · rintro a w ⟨hE, hp⟩
                    refine s_val (wk0 rfl) rfl rfl hE hp (v := (.bool (m4 && (decide (x5.2 = 0))))) (ex_move rfl hE rfl) ?_
                    intro a hE
                    refine s_cut [_, _, _, _] (fun a w => Env 93 [(83, (.bool ((m4 && (decide (x5.2 = 0))) && (decide ((x5.1.length : Int) = 1))))), (1, v1)] a ∧ Hp Z (ρ.un k3) (OwnSl 48 v4 x5.1 :: OwnSl 3 v3 x4 :: OwnSl 3 (.slice (some ⟨b2, 0, none⟩) 3 3) ([1, 2, 3] : List Int) :: OwnSl 3 v2 x2.1 :: OwnSl 3 (.slice (some ⟨b1, 0, none⟩) 5 5) ([5, 3, 9, 3, 7] : List Int) :: OwnSl 48 v1 x1.1 :: L) w) ?_ ?_
                    · rcases Bool.eq_false_or_eq_true (m4 && (decide (x5.2 = 0))) with hb10 | hb10
                      ·
                        refine s_val (wk1 hE rfl rfl rfl hb10) rfl rfl hE hp (v := v4) (ex_move rfl hE rfl) ?_
                        intro a hE
                        refine s_val (wk1 hE rfl rfl rfl hb10) rfl rfl hE hp (v := (.int .i64 (x5.1.length : Int))) (ex_len rfl hE rfl (OwnSl.len hp 0 rfl slty28)) ?_
                        intro a hE
                        refine s_val (wk1 hE rfl rfl rfl hb10) rfl rfl hE hp (v := (.bool (decide ((x5.1.length : Int) = 1)))) (ex_eql rfl hE rfl rfl) ?_
                        intro a hE
                        refine s_val (wk0 rfl) rfl rfl hE hp (v := (.bool (decide ((x5.1.length : Int) = 1)))) (ex_pick1 rfl hE rfl hb10 rfl) ?_
                        intro a hE
                        have hE := hE.eqv (v' := (.bool ((m4 && (decide (x5.2 = 0))) && (decide ((x5.1.length : Int) = 1))))) (by rw [hb10]; rfl)
                        exact s_nil ⟨hE.cut ⟨rfl, rfl, trivial⟩, hp⟩
                      ·
                        refine s_skip (wk2 hE rfl rfl rfl hb10) rfl rfl hE ?_
                        intro a hE
                        refine s_skip (wk2 hE rfl rfl rfl hb10) rfl rfl hE ?_
                        intro a hE
                        refine s_skip (wk2 hE rfl rfl rfl hb10) rfl rfl hE ?_
                        intro a hE
                        refine s_val (wk0 rfl) rfl rfl hE hp (v := (.bool false)) (ex_pick0 rfl hE rfl hb10 rfl) ?_
                        intro a hE
                        have hE := hE.eqv (v' := (.bool ((m4 && (decide (x5.2 = 0))) && (decide ((x5.1.length : Int) = 1))))) (by rw [hb10]; rfl)
                        exact s_nil ⟨hE.cut ⟨rfl, rfl, trivial⟩, hp⟩
                    · rintro a w ⟨hE, hp⟩
                      refine s_val (wk0 rfl) rfl rfl hE hp (v := (.bool ((m4 && (decide (x5.2 = 0))) && (decide ((x5.1.length : Int) = 1))))) (ex_move rfl hE rfl) ?_
                      intro a hE
                      obtain ⟨m5, hg5, hm⟩ := bnd hm
                      refine s_cut [_, _, _, _, _, _, _, _] (fun a w => Env 93 [(92, (.bool m5))] a ∧ Hp Z (ρ.un k3) (OwnSl 48 v4 x5.1 :: OwnSl 3 v3 x4 :: OwnSl 3 (.slice (some ⟨b2, 0, none⟩) 3 3) ([1, 2, 3] : List Int) :: OwnSl 3 v2 x2.1 :: OwnSl 3 (.slice (some ⟨b1, 0, none⟩) 5 5) ([5, 3, 9, 3, 7] : List Int) :: OwnSl 48 v1 x1.1 :: L) w) ?_ ?_
                      · rcases Bool.eq_false_or_eq_true ((m4 && (decide (x5.2 = 0))) && (decide ((x5.1.length : Int) = 1))) with hb11 | hb11
                        ·
                          replace hg5 := (it hb11).symm.trans hg5
                          refine s_val (wk1 hE rfl rfl rfl hb11) rfl rfl hE hp (v := v1) (ex_move rfl hE rfl) ?_
                          intro a hE
                          refine s_val (wk1 hE rfl rfl rfl hb11) rfl rfl hE hp (v := (.agg #[(.int .i64 4), (.int .i64 0)])) (ex_bld rfl hE [(0, (.int .i64 4))] (by exact ⟨⟨rfl, rfl⟩, trivial⟩) (fun w => by simp [Instr.build, Instr.fill, Value.cells, go_sem])) ?_
                          intro a hE
                          refine s_val (wk1 hE rfl rfl rfl hb11) rfl rfl hE hp (v := (.agg #[(.int .i64 3), (.int .i64 9)])) (ex_bld rfl hE [(0, (.int .i64 3)), (1, (.int .i64 9))] (by exact ⟨⟨rfl, rfl⟩, ⟨rfl, rfl⟩, trivial⟩) (fun w => by simp [Instr.build, Instr.fill, Value.cells, go_sem])) ?_
                          intro a hE
                          refine s_lit (wk1 hE rfl rfl rfl hb11) rfl rfl hE hp rfl [(0, (.agg #[(.int .i64 4), (.int .i64 0)])), (1, (.agg #[(.int .i64 3), (.int .i64 9)]))] ⟨⟨rfl, rfl⟩, ⟨rfl, rfl⟩, trivial⟩ [(.int .i64 4), (.int .i64 0), (.int .i64 3), (.int .i64 9)] 48 (fun w => by simp [Instr.buildSlice, Instr.fill, Value.cells, go_sem]) ?_
                          intro a w b8 hE hp
                          have hp : Hp Z (ρ.un k3) (Pt b8 (.cells #[(.int .i64 4), (.int .i64 0), (.int .i64 3), (.int .i64 9)] 48 (0, 0)) :: OwnSl 48 v4 x5.1 :: OwnSl 3 v3 x4 :: OwnSl 3 (.slice (some ⟨b2, 0, none⟩) 3 3) ([1, 2, 3] : List Int) :: OwnSl 3 v2 x2.1 :: OwnSl 3 (.slice (some ⟨b1, 0, none⟩) 5 5) ([5, 3, 9, 3, 7] : List Int) :: OwnSl 48 v1 x1.1 :: L) w := hp
                          have hp := (hp.get 0 rfl).imp (own_of_pt (l := (([(Mark.mk 4 0), (Mark.mk 3 9)] : List Mark) : List Mark)) (n := 2) rfl (by decide) rfl)
                          have hp : Hp Z (ρ.un k3) (OwnSl 48 (.slice (some ⟨b8, 0, none⟩) 2 2) ([(Mark.mk 4 0), (Mark.mk 3 9)] : List Mark) :: OwnSl 48 v4 x5.1 :: OwnSl 3 v3 x4 :: OwnSl 3 (.slice (some ⟨b2, 0, none⟩) 3 3) ([1, 2, 3] : List Int) :: OwnSl 3 v2 x2.1 :: OwnSl 3 (.slice (some ⟨b1, 0, none⟩) 5 5) ([5, 3, 9, 3, 7] : List Int) :: OwnSl 48 v1 x1.1 :: L) w := hp
                          obtain ⟨k9, k9a, k9d, k9h⟩ := (hp.get 6 rfl).lend
                          obtain ⟨k10, k10a, k10d, k10h⟩ := (k9h.get 0 rfl).lend
                          obtain ⟨x10, ex10, hg5⟩ := bnd hg5
                          refine s_call (wk1 hE rfl rfl rfl hb11) rfl rfl hE rfl [v1, (.slice (some ⟨b8, 0, none⟩) 2 2)] ⟨rfl, rfl, trivial⟩ ent26 (c_fingerprint_Shared (Tabs.mono (Tabs.mono (Tabs.mono hT (PH.le_un _ _)) (PH.le_un _ _)) (PH.le_un _ _)) x1.1 v1 (RoSl.mono (OwnSl.ro k9d k9a) (PH.le_un _ _)) ([(Mark.mk 4 0), (Mark.mk 3 9)] : List Mark) (.slice (some ⟨b8, 0, none⟩) 2 2) (OwnSl.ro k10d k10a) k10h x10 ex10) Ret.ret ?_
                          intro v5 a w hR hE
                          obtain ⟨u, hu, hp⟩ := Ret.of hR
                          rw [← hu] at hp
                          have hp := Hp.back k10a k10d hp
                          have hp := Hp.back k9a k9d hp
                          have hp : Hp Z (ρ.un k3) (OwnSl 48 v1 x1.1 :: OwnSl 48 (.slice (some ⟨b8, 0, none⟩) 2 2) ([(Mark.mk 4 0), (Mark.mk 3 9)] : List Mark) :: OwnSl 3 v5 x10 :: OwnSl 48 v4 x5.1 :: OwnSl 3 v3 x4 :: OwnSl 3 (.slice (some ⟨b2, 0, none⟩) 3 3) ([1, 2, 3] : List Int) :: OwnSl 3 v2 x2.1 :: OwnSl 3 (.slice (some ⟨b1, 0, none⟩) 5 5) ([5, 3, 9, 3, 7] : List Int) :: L) w := hp
                          have hp : Hp Z (ρ.un k3) (OwnSl 48 v1 x1.1 :: OwnSl 48 (.slice (some ⟨b8, 0, none⟩) 2 2) ([(Mark.mk 4 0), (Mark.mk 3 9)] : List Mark) :: OwnSl 3 v5 x10 :: OwnSl 48 v4 x5.1 :: OwnSl 3 v3 x4 :: OwnSl 3 (.slice (some ⟨b2, 0, none⟩) 3 3) ([1, 2, 3] : List Int) :: OwnSl 3 v2 x2.1 :: OwnSl 3 (.slice (some ⟨b1, 0, none⟩) 5 5) ([5, 3, 9, 3, 7] : List Int) :: L) w := hp
                          refine s_lit (wk1 hE rfl rfl rfl hb11) rfl rfl hE hp rfl [(0, (.int .i64 3))] ⟨⟨rfl, rfl⟩, trivial⟩ [(.int .i64 3)] 3 (fun w => by simp [Instr.buildSlice, Instr.fill, Value.cells, go_sem]) ?_
                          intro a w b9 hE hp
                          have hp : Hp Z (ρ.un k3) (Pt b9 (.cells #[(.int .i64 3)] 3 (0, 0)) :: OwnSl 48 v1 x1.1 :: OwnSl 48 (.slice (some ⟨b8, 0, none⟩) 2 2) ([(Mark.mk 4 0), (Mark.mk 3 9)] : List Mark) :: OwnSl 3 v5 x10 :: OwnSl 48 v4 x5.1 :: OwnSl 3 v3 x4 :: OwnSl 3 (.slice (some ⟨b2, 0, none⟩) 3 3) ([1, 2, 3] : List Int) :: OwnSl 3 v2 x2.1 :: OwnSl 3 (.slice (some ⟨b1, 0, none⟩) 5 5) ([5, 3, 9, 3, 7] : List Int) :: L) w := hp
                          have hp := (hp.get 0 rfl).imp (own_of_pt (l := (([3] : List Int) : List Int)) (n := 1) rfl (by decide) rfl)
                          have hp : Hp Z (ρ.un k3) (OwnSl 3 (.slice (some ⟨b9, 0, none⟩) 1 1) ([3] : List Int) :: OwnSl 48 v1 x1.1 :: OwnSl 48 (.slice (some ⟨b8, 0, none⟩) 2 2) ([(Mark.mk 4 0), (Mark.mk 3 9)] : List Mark) :: OwnSl 3 v5 x10 :: OwnSl 48 v4 x5.1 :: OwnSl 3 v3 x4 :: OwnSl 3 (.slice (some ⟨b2, 0, none⟩) 3 3) ([1, 2, 3] : List Int) :: OwnSl 3 v2 x2.1 :: OwnSl 3 (.slice (some ⟨b1, 0, none⟩) 5 5) ([5, 3, 9, 3, 7] : List Int) :: L) w := hp
                          obtain ⟨k11, k11a, k11d, k11h⟩ := (hp.get 3 rfl).lend
                          obtain ⟨k12, k12a, k12d, k12h⟩ := (k11h.get 0 rfl).lend
                          obtain ⟨x11, ex11, hg5⟩ := bnd hg5
                          refine s_call (wk1 hE rfl rfl rfl hb11) rfl rfl hE rfl [v5, (.slice (some ⟨b9, 0, none⟩) 1 1)] ⟨rfl, rfl, trivial⟩ ent14 (c_assessorref35_Same (Tabs.mono (Tabs.mono (Tabs.mono hT (PH.le_un _ _)) (PH.le_un _ _)) (PH.le_un _ _)) x10 v5 (RoSl.mono (OwnSl.ro k11d k11a) (PH.le_un _ _)) ([3] : List Int) (.slice (some ⟨b9, 0, none⟩) 1 1) (OwnSl.ro k12d k12a) k12h x11 ex11) Ret.ret ?_
                          intro v a w hR hE
                          obtain ⟨rfl, hp⟩ := Ret.of hR
                          have hp := Hp.back k12a k12d hp
                          have hp := Hp.back k11a k11d hp
                          have hp : Hp Z (ρ.un k3) (OwnSl 3 v5 x10 :: OwnSl 3 (.slice (some ⟨b9, 0, none⟩) 1 1) ([3] : List Int) :: OwnSl 48 v1 x1.1 :: OwnSl 48 (.slice (some ⟨b8, 0, none⟩) 2 2) ([(Mark.mk 4 0), (Mark.mk 3 9)] : List Mark) :: OwnSl 48 v4 x5.1 :: OwnSl 3 v3 x4 :: OwnSl 3 (.slice (some ⟨b2, 0, none⟩) 3 3) ([1, 2, 3] : List Int) :: OwnSl 3 v2 x2.1 :: OwnSl 3 (.slice (some ⟨b1, 0, none⟩) 5 5) ([5, 3, 9, 3, 7] : List Int) :: L) w := hp
                          have hp : Hp Z (ρ.un k3) (OwnSl 3 v5 x10 :: OwnSl 3 (.slice (some ⟨b9, 0, none⟩) 1 1) ([3] : List Int) :: OwnSl 48 v1 x1.1 :: OwnSl 48 (.slice (some ⟨b8, 0, none⟩) 2 2) ([(Mark.mk 4 0), (Mark.mk 3 9)] : List Mark) :: OwnSl 48 v4 x5.1 :: OwnSl 3 v3 x4 :: OwnSl 3 (.slice (some ⟨b2, 0, none⟩) 3 3) ([1, 2, 3] : List Int) :: OwnSl 3 v2 x2.1 :: OwnSl 3 (.slice (some ⟨b1, 0, none⟩) 5 5) ([5, 3, 9, 3, 7] : List Int) :: L) w := hp
                          refine s_val (wk0 rfl) rfl rfl hE hp (v := (.bool x11)) (ex_pick1 rfl hE rfl hb11 rfl) ?_
                          intro a hE
                          obtain rfl := Option.some.inj hg5
                          exact s_nil ⟨hE.cut ⟨rfl, trivial⟩, ((((((((((((hp.get 2 rfl).get 8 rfl).get 8 rfl).get 8 rfl).get 8 rfl).get 8 rfl).get 8 rfl).drop).get 7 rfl).drop).get 6 rfl).drop)⟩
                        ·
                          replace hg5 := (ie hb11).symm.trans hg5
                          refine s_skip (wk2 hE rfl rfl rfl hb11) rfl rfl hE ?_
                          intro a hE
                          refine s_skip (wk2 hE rfl rfl rfl hb11) rfl rfl hE ?_
                          intro a hE
                          refine s_skip (wk2 hE rfl rfl rfl hb11) rfl rfl hE ?_
                          intro a hE
                          refine s_skip (wk2 hE rfl rfl rfl hb11) rfl rfl hE ?_
                          intro a hE
                          refine s_skip (wk2 hE rfl rfl rfl hb11) rfl rfl hE ?_
                          intro a hE
                          refine s_skip (wk2 hE rfl rfl rfl hb11) rfl rfl hE ?_
                          intro a hE
                          refine s_skip (wk2 hE rfl rfl rfl hb11) rfl rfl hE ?_
                          intro a hE
                          refine s_val (wk0 rfl) rfl rfl hE hp (v := (.bool false)) (ex_pick0 rfl hE rfl hb11 rfl) ?_
                          intro a hE
                          obtain rfl := Option.some.inj hg5
                          exact s_nil ⟨hE.cut ⟨rfl, trivial⟩, hp⟩
                      · rintro a w ⟨hE, hp⟩
                        refine s_val (wk0 rfl) rfl rfl hE hp (v := (.bool m5)) (ex_asn rfl hE rfl) ?_
                        intro a hE
                        refine s_nil ?_
                        refine k_ret ?_
                        obtain rfl := Option.some.inj hm
                        exact ret1 hE rfl rfl ⟨_, rfl, rfl, ((((((((((((hp.get 5 rfl).drop).get 4 rfl).drop).get 3 rfl).drop).get 2 rfl).drop).get 1 rfl).drop).drop).less (PH.le_un _ _))⟩
end Go.Proofs.YtlnhijgieblmgaaDoor

/- The code goes as its model: slices.Equal[[]int,int], slices.Index[[]int,int], slices.Contains[[]int,int], slices.Index[[]bool,bool], slices.Contains[[]bool,bool -/
import Derived.Test.YtelioaepnpnojaaGreatDoorKTe4
import Derived.Test.YtelioaepnpnojaaGreatDoorKTe6
import Derived.Test.YtelioaepnpnojaaGreatDoorKTe7
import Derived.Test.YtelioaepnpnojaaGreatDoorKTe8
import Derived.Test.YtelioaepnpnojaaGreatDoorKTe9
import Derived.Test.YtelioaepnpnojaaGreatDoorKTe11
import Derived.Test.YtelioaepnpnojaaGreatDoorKTe3
set_option linter.unusedVariables false
set_option linter.unusedSimpArgs false
namespace Go.Proofs.YtelioaepnpnojaaGreatDoor
open Go.RowKit
set_option maxRecDepth 100000 in
set_option maxHeartbeats 4000000 in
theorem c_slices_Equal_int_int_ {Z : World} {ρ : PH} {L : List Atom} {w : World} (hT : Tabs ρ) (p0 : (List Int)) (vp0 : Value) (hp0 : RoSl ρ vp0 p0) (p1 : (List Int)) (vp1 : Value) (hp1 : RoSl ρ vp1 p1) (hp : Hp Z ρ (L) w) (r : Bool) (hm : m_slices_Equal_int_int_ p0 p1 = some r) :
    Calls Tryz.prog 14 #[vp0, vp1] w (Ret fun v w' => v = (.bool r) ∧ Hp Z ρ (L) w') := by
  refine enter (N := 26) Tryz.func14 rfl rfl [(0, vp0), (1, vp1)] rfl (argsIn_mem ⟨rfl, rfl, trivial⟩) fun a hE => ?_
  unfold m_slices_Equal_int_int_ at hm
  refine k_seq ?_
  refine k_region ?_
  refine s_val (wk0 rfl) rfl rfl hE hp (v := (.bool false)) (ex_asn rfl hE rfl) ?_
  intro a hE
  refine s_nil ?_
  refine k_seq ?_
  refine k_seq ?_
  refine k_region ?_
  refine s_val (wk0 rfl) rfl rfl hE hp (v := vp0) (ex_move rfl hE rfl) ?_
  intro a hE
  refine s_val (wk0 rfl) rfl rfl hE hp (v := (.int .i64 (p0.length : Int))) (ex_len rfl hE rfl (RoSl.len hp0 slty25)) ?_
  intro a hE
  refine s_val (wk0 rfl) rfl rfl hE hp (v := vp1) (ex_move rfl hE rfl) ?_
  intro a hE
  refine s_val (wk0 rfl) rfl rfl hE hp (v := (.int .i64 (p1.length : Int))) (ex_len rfl hE rfl (RoSl.len hp1 slty25)) ?_
  intro a hE
  refine s_val (wk0 rfl) rfl rfl hE hp (v := (.bool (!decide ((p0.length : Int) = (p1.length : Int))))) (ex_neq rfl hE rfl rfl) ?_
  intro a hE
  refine s_nil ?_
  refine k_if hE rfl (fun hc1 => ?_) (fun hc1 => ?_)
  · replace hm := (it hc1).symm.trans hm
    refine k_seq ?_
    refine k_region ?_
    refine s_val (wk0 rfl) rfl rfl hE hp (v := (.bool false)) (ex_asn rfl hE rfl) ?_
    intro a hE
    refine s_nil ?_
    refine k_ret ?_
    obtain rfl := Option.some.inj hm
    exact ret1 hE rfl rfl ⟨_, rfl, rfl, hp⟩
  · replace hm := (ie hc1).symm.trans hm
    refine k_skip ?_
    refine k_seq ?_
    refine k_seq ?_
    refine k_region ?_
    refine s_val (wk0 rfl) rfl rfl hE hp (v := vp0) (ex_move rfl hE rfl) ?_
    intro a hE
    refine s_val (wk0 rfl) rfl rfl hE hp (v := (.int .i64 (p0.length : Int))) (ex_len rfl hE rfl (RoSl.len hp0 slty25)) ?_
    intro a hE
    refine s_val (wk0 rfl) rfl rfl hE hp (v := (.int .i64 0)) (ex_move rfl hE rfl) ?_
    intro a hE
    refine s_nil ?_
    obtain ⟨b1, hc2, hm⟩ := bnd hm
    refine k_block (fun a w => ∃ s : Unit, b1 = .brk s ∧ (Env 26 [] a ∧ Hp Z ρ (L) w)) ?_ ?_
    · refine k_loop hc2 (fun s a w => Env 26 [(0, vp0), (1, vp1), (12, (.int .i64 (p0.length : Int))), (13, (.int .i64 s))] a ∧ Hp Z ρ (L) w) ?_ ?_
      · exact ⟨hE.cut ⟨rfl, rfl, rfl, rfl, trivial⟩, hp⟩
      · rintro lp1_0 st a w ⟨hE, hp⟩ hl1
        have hE : Env 26 [(0, vp0), (1, vp1), (12, (.int .i64 (p0.length : Int))), (13, (.int .i64 lp1_0))] a := hE
        have hp : Hp Z ρ (L) w := hp
        replace hl1 : m_slices_Equal_int_int__lp1 p0 p1 lp1_0 = some st := hl1
        unfold m_slices_Equal_int_int__lp1 at hl1
        refine k_seq ?_
        refine k_region ?_
        refine s_val (wk0 rfl) rfl rfl hE hp (v := (.bool (decide (lp1_0 < (p0.length : Int))))) (ex_lss rfl hE rfl rfl) ?_
        intro a hE
        refine s_nil ?_
        refine k_seq ?_
        refine k_if hE rfl (fun hc3 => ?_) (fun hc3 => ?_)
        · replace hl1 := (it hc3).symm.trans hl1
          refine k_skip ?_
          refine k_seq ?_
          refine k_plain ?_
          refine k_seq ?_
          refine k_region ?_
          refine s_val (wk0 rfl) rfl rfl hE hp (v := (.int .i64 lp1_0)) (ex_move rfl hE rfl) ?_
          intro a hE
          refine s_val (wk0 rfl) rfl rfl hE hp (v := (.int .i64 lp1_0)) (ex_asn rfl hE rfl) ?_
          intro a hE
          refine s_nil ?_
          refine k_seq ?_
          refine k_quiet (by kernel_rfl) (by kernel_rfl) hp ?_
          refine q_val (wk0 rfl) rfl rfl hE (v := vp0) (ex_move rfl hE rfl) ?_
          intro a hE
          refine q_val (wk0 rfl) rfl rfl hE (v := (.int .i64 lp1_0)) (ex_move rfl hE rfl) ?_
          intro a hE
          obtain ⟨x1, ex1, hl1⟩ := bnd hl1
          obtain ⟨b2, b2o, b2c, b2r, b2k, b2f⟩ := RoSl.at hp0 slty25 ex1
          obtain rfl : b2c = Enc.enc x1 := b2k
          have b2f : AtP ρ b2 b2o [(.int .i64 x1)] := b2f
          refine q_val (wk0 rfl) rfl rfl hE (v := (.pointer (some ⟨b2, b2o, none⟩))) (ex_index rfl hE rfl rfl b2r) ?_
          intro a hE
          refine q_val (wk0 rfl) rfl rfl hE (v := (.int .i64 x1)) (ex_load rfl hE rfl (fun w hw => run_ld1 varty3 (b2f.c 0 rfl w hw))) ?_
          intro a hE
          refine q_val (wk0 rfl) rfl rfl hE (v := vp1) (ex_move rfl hE rfl) ?_
          intro a hE
          refine q_val (wk0 rfl) rfl rfl hE (v := (.int .i64 lp1_0)) (ex_move rfl hE rfl) ?_
          intro a hE
          obtain ⟨x2, ex2, hl1⟩ := bnd hl1
          obtain ⟨b3, b3o, b3c, b3r, b3k, b3f⟩ := RoSl.at hp1 slty25 ex2
          obtain rfl : b3c = Enc.enc x2 := b3k
          have b3f : AtP ρ b3 b3o [(.int .i64 x2)] := b3f
          refine q_val (wk0 rfl) rfl rfl hE (v := (.pointer (some ⟨b3, b3o, none⟩))) (ex_index rfl hE rfl rfl b3r) ?_
          intro a hE
          refine q_val (wk0 rfl) rfl rfl hE (v := (.int .i64 x2)) (ex_load rfl hE rfl (fun w hw => run_ld1 varty3 (b3f.c 0 rfl w hw))) ?_
          intro a hE
          refine q_val (wk0 rfl) rfl rfl hE (v := (.bool (!decide (x1 = x2)))) (ex_neq rfl hE rfl rfl) ?_
          intro a hE
          refine q_nil fun w hp => ?_
          have hp : Hp Z ρ (L) w := hp
          refine k_if hE rfl (fun hc4 => ?_) (fun hc4 => ?_)
          · replace hl1 := (it hc4).symm.trans hl1
            refine k_seq ?_
            refine k_region ?_
            refine s_val (wk0 rfl) rfl rfl hE hp (v := (.bool false)) (ex_asn rfl hE rfl) ?_
            intro a hE
            refine s_nil ?_
            refine k_ret ?_
            refine ⟨_, (Option.some.inj hl1).symm, fun hb => ?_⟩
            subst hb
            obtain rfl := Option.some.inj hm
            exact ret1 hE rfl rfl ⟨_, rfl, rfl, hp⟩
          · replace hl1 := (ie hc4).symm.trans hl1
            refine k_skip ?_
            refine k_region ?_
            obtain ⟨x3, ex3, hl1⟩ := bnd hl1
            refine s_val (wk0 rfl) rfl rfl hE hp (v := (.int .i64 x3)) (ex_add rfl hE rfl rfl (inK_some ex3)) ?_
            intro a hE
            refine s_val (wk0 rfl) rfl rfl hE hp (v := (.int .i64 x3)) (ex_move rfl hE rfl) ?_
            intro a hE
            refine s_nil ?_
            exact ⟨_, (Option.some.inj hl1).symm, hE.cut ⟨rfl, rfl, rfl, rfl, trivial⟩, hp⟩
        · replace hl1 := (ie hc3).symm.trans hl1
          refine k_exit ?_
          refine ⟨_, (Option.some.inj hl1).symm, fun hbb => ?_⟩
          exact ⟨_, hbb.symm, hE.cut trivial, hp⟩
    · rintro a w ⟨b1s, rfl, hE, hp⟩
      dsimp only at hm
      refine k_seq ?_
      refine k_region ?_
      refine s_val (wk0 rfl) rfl rfl hE hp (v := (.bool true)) (ex_asn rfl hE rfl) ?_
      intro a hE
      refine s_nil ?_
      refine k_ret ?_
      obtain rfl := Option.some.inj hm
      exact ret1 hE rfl rfl ⟨_, rfl, rfl, hp⟩
end Go.Proofs.YtelioaepnpnojaaGreatDoor

/- The code goes as its model: assessor/assessorlaw26.awake. (Printed by wip/sp/gen.py.) -/
set_option linter.unusedVariables false
set_option linter.unusedSimpArgs false
namespace Go.Proofs.YtelioaepnpnojaaGreatDoor
open Go.RowKit
set_option maxRecDepth 100000 in
set_option maxHeartbeats 4000000 in
theorem c_assessorlaw26_awake {Z : World} {ρ : PH} {L : List Atom} {w : World} (hT : Tabs ρ) (hp : Hp Z ρ (L) w) (r : Bool) (hm : m_assessorlaw26_awake  = some r) :
    Calls Tryz.prog 10 #[] w (Ret fun v w' => v = (.bool r) ∧ Hp Z ρ (L) w') := by
  refine enter (N := 94) Tryz.func10 rfl rfl [] rfl (argsIn_mem trivial) fun a hE => ?_
  unfold m_assessorlaw26_awake at hm
  refine k_seq ?_
  refine k_region ?_
  refine s_val (wk0 rfl) rfl rfl hE hp (v := (.bool false)) (ex_asn rfl hE rfl) ?_
  intro a hE
  refine s_nil ?_
  refine k_seq ?_
  refine k_region ?_
  refine s_val (wk0 rfl) rfl rfl hE hp (v := (.agg #[(.int .i64 2), (.int .i64 5)])) (ex_bld rfl hE [(0, (.int .i64 2)), (1, (.int .i64 5))] (by exact ⟨⟨rfl, rfl⟩, ⟨rfl, rfl⟩, trivial⟩) (fun w => by simp [Instr.build, Instr.fill, Value.cells, go_sem])) ?_
  intro a hE
  refine s_lit (wk0 rfl) rfl rfl hE hp rfl [(0, (.agg #[(.int .i64 2), (.int .i64 5)]))] ⟨⟨rfl, rfl⟩, trivial⟩ [(.int .i64 2), (.int .i64 5)] 62 (fun w => by simp [Instr.buildSlice, Instr.fill, Value.cells, go_sem]) ?_
  intro a w b1 hE hp
  have hp : Hp Z ρ (Pt b1 (.cells #[(.int .i64 2), (.int .i64 5)] 62 (0, 0)) :: L) w := hp
  have hp := (hp.get 0 rfl).imp (own_of_pt (l := (([(Arr2.mk 2 5)] : List Arr2) : List Arr2)) (n := 1) rfl (by decide) rfl)
  have hp : Hp Z ρ (OwnSl 62 (.slice (some ⟨b1, 0, none⟩) 1 1) ([(Arr2.mk 2 5)] : List Arr2) :: L) w := hp
  obtain ⟨k1, k1a, k1d, hp⟩ := (hp.get 0 rfl).lend
  have f1 : RoSl (ρ.un k1) (.slice (some ⟨b1, 0, none⟩) 1 1) ([(Arr2.mk 2 5)] : List Arr2) := OwnSl.ro k1d k1a
  have hp : Hp Z (ρ.un k1) (L) w := hp
  refine s_val (wk0 rfl) rfl rfl hE hp (v := (.agg #[(.int .i64 2), (.slice (some ⟨b1, 0, none⟩) 1 1)])) (ex_bld rfl hE [(0, (.int .i64 2)), (1, (.slice (some ⟨b1, 0, none⟩) 1 1))] (by exact ⟨⟨rfl, rfl⟩, ⟨rfl, rfl⟩, trivial⟩) (fun w => by have hc0 := RoSl.cells f1; simp only [Value.cells] at hc0; simp [Instr.build, Instr.fill, Value.cells, hc0, go_sem])) ?_
  intro a hE
  refine s_lit (wk0 rfl) rfl rfl hE hp rfl [(0, (.int .i64 6))] ⟨⟨rfl, rfl⟩, trivial⟩ [(.int .i64 6)] 3 (fun w => by simp [Instr.buildSlice, Instr.fill, Value.cells, go_sem]) ?_
  intro a w b2 hE hp
  have hp : Hp Z (ρ.un k1) (Pt b2 (.cells #[(.int .i64 6)] 3 (0, 0)) :: L) w := hp
  have hp := (hp.get 0 rfl).imp (own_of_pt (l := (([6] : List Int) : List Int)) (n := 1) rfl (by decide) rfl)
  have hp : Hp Z (ρ.un k1) (OwnSl 3 (.slice (some ⟨b2, 0, none⟩) 1 1) ([6] : List Int) :: L) w := hp
  obtain ⟨k2, k2a, k2d, k2h⟩ := (hp.get 0 rfl).lend
  obtain ⟨x1, ex1, hm⟩ := bnd hm
  refine s_call (wk0 rfl) rfl rfl hE rfl [(.agg #[(.int .i64 2), (.slice (some ⟨b1, 0, none⟩) 1 1)]), (.slice (some ⟨b2, 0, none⟩) 1 1)] ⟨rfl, rfl, trivial⟩ ent21 (c_cnf_Translate (Tabs.mono (Tabs.mono hT (PH.le_un _ k1)) (PH.le_un _ k2)) (Gates.mk 2 ([(Arr2.mk 2 5)] : List Arr2)) (.slice (some ⟨b1, 0, none⟩) 1 1) (RoSl.mono f1 (PH.le_un _ _)) ([6] : List Int) (.slice (some ⟨b2, 0, none⟩) 1 1) (OwnSl.ro k2d k2a) k2h x1 ex1) Ret.ret ?_
  intro v a w hR hE
  obtain ⟨vr1_clauses, usr1_clauses, rfl, hp⟩ := Ret.of hR
  have hp := Hp.back k2a k2d hp
  have hp : Hp Z (ρ.un k1) (_ :: TblA 25 3 vr1_clauses usr1_clauses (x1.1.clauses : (List (List Int))) :: L) w := hp
  refine s_val (wk0 rfl) rfl rfl hE hp (v := (.tuple #[(.agg #[(.int .i64 x1.1.vars), vr1_clauses]), (.int .i64 x1.2)])) (ex_move rfl hE rfl) ?_
  intro a hE
  refine s_val (wk0 rfl) rfl rfl hE hp (v := (.agg #[(.int .i64 x1.1.vars), vr1_clauses])) (ex_extract rfl hE rfl rfl) ?_
  intro a hE
  refine s_val (wk0 rfl) rfl rfl hE hp (v := (.int .i64 x1.2)) (ex_extract rfl hE rfl rfl) ?_
  intro a hE
  refine s_new (wk0 rfl) rfl rfl hE hp rfl [(.int .i64 0), (.slice none 0 0)] (fun w => by simp [Instr.alloc, go_sem] <;> rfl) ?_
  intro a w b3 hE hp
  have hp : Hp Z (ρ.un k1) (Pt b3 (.cells #[(.int .i64 0), (.slice none 0 0)] 24 (0, 0)) :: _ :: _ :: L) w := hp
  refine s_store (wk0 rfl) rfl hE hp rfl rfl rfl 0 rfl varty24.size_ rfl (allOne_mem ⟨rfl, (TblA.one hp 2 rfl), trivial⟩) [(.int .i64 x1.1.vars), vr1_clauses] rfl ?_
  intro w hp
  have hp : Hp Z (ρ.un k1) (Pt b3 (.cells #[(.int .i64 x1.1.vars), vr1_clauses] 24 (0, 0)) :: _ :: _ :: L) w := hp
  refine s_val (wk0 rfl) rfl rfl hE hp (v := (.int .i64 x1.2)) (ex_asn rfl hE rfl) ?_
  intro a hE
  refine s_nil ?_
  refine k_seq ?_
  refine k_region ?_
  refine s_val (wk0 rfl) rfl rfl hE hp (v := (.agg #[(.int .i64 x1.1.vars), vr1_clauses])) (ex_load rfl hE rfl (fun w hw => run_ldN (cs := [(.int .i64 x1.1.vars), vr1_clauses]) varty24 (Hp.cN 0 rfl 0 _ (sub_all rfl) w hw))) ?_
  intro a hE
  refine s_lit (wk0 rfl) rfl rfl hE hp rfl [(0, (.int .i64 2)), (1, (.int .i64 (-3)))] ⟨⟨rfl, rfl⟩, ⟨rfl, rfl⟩, trivial⟩ [(.int .i64 2), (.int .i64 (-3))] 3 (fun w => by simp [Instr.buildSlice, Instr.fill, Value.cells, go_sem]) ?_
  intro a w b4 hE hp
  have hp : Hp Z (ρ.un k1) (Pt b4 (.cells #[(.int .i64 2), (.int .i64 (-3))] 3 (0, 0)) :: _ :: _ :: _ :: L) w := hp
  have hp := (hp.get 0 rfl).imp (own_of_pt (l := (([2, (-3)] : List Int) : List Int)) (n := 2) rfl (by decide) rfl)
  have hp : Hp Z (ρ.un k1) (OwnSl 3 (.slice (some ⟨b4, 0, none⟩) 2 2) ([2, (-3)] : List Int) :: _ :: _ :: _ :: L) w := hp
  obtain ⟨k3, k3a, k3d, k3h⟩ := (hp.get 3 rfl).lend
  obtain ⟨k4, k4a, k4d, k4h⟩ := (k3h.get 0 rfl).lend
  obtain ⟨x2, ex2, hm⟩ := bnd hm
  refine s_call (wk0 rfl) rfl rfl hE rfl [(.agg #[(.int .i64 x1.1.vars), vr1_clauses]), (.slice (some ⟨b4, 0, none⟩) 2 2)] ⟨rfl, rfl, trivial⟩ ent24 (c_cnf_Propagate (Tabs.mono (Tabs.mono (Tabs.mono hT (PH.le_un _ k1)) (PH.le_un _ k3)) (PH.le_un _ k4)) x1.1 vr1_clauses (RoSl.mono (TblA.ro k3d k3a) (PH.le_un _ _)) ([2, (-3)] : List Int) (.slice (some ⟨b4, 0, none⟩) 2 2) (OwnSl.ro k4d k4a) k4h x2 ex2) Ret.ret ?_
  intro v a w hR hE
  obtain ⟨vr3, rfl, hp⟩ := Ret.of hR
  have hp := Hp.back k4a k4d hp
  have hp := Hp.back k3a k3d hp
  have hp : Hp Z (ρ.un k1) (_ :: _ :: OwnSl 3 vr3 x2.1 :: _ :: _ :: L) w := hp
  refine s_val (wk0 rfl) rfl rfl hE hp (v := (.tuple #[vr3, (.bool x2.2.1), (.int .i64 x2.2.2)])) (ex_move rfl hE rfl) ?_
  intro a hE
  refine s_val (wk0 rfl) rfl rfl hE hp (v := vr3) (ex_extract rfl hE rfl rfl) ?_
  intro a hE
  refine s_val (wk0 rfl) rfl rfl hE hp (v := (.bool x2.2.1)) (ex_extract rfl hE rfl rfl) ?_
  intro a hE
  refine s_val (wk0 rfl) rfl rfl hE hp (v := (.int .i64 x2.2.2)) (ex_extract rfl hE rfl rfl) ?_
  intro a hE
  refine s_val (wk0 rfl) rfl rfl hE hp (v := vr3) (ex_asn rfl hE rfl) ?_
  intro a hE
  refine s_val (wk0 rfl) rfl rfl hE hp (v := (.bool x2.2.1)) (ex_asn rfl hE rfl) ?_
  intro a hE
  refine s_val (wk0 rfl) rfl rfl hE hp (v := (.int .i64 x2.2.2)) (ex_asn rfl hE rfl) ?_
  intro a hE
  refine s_nil ?_
  refine k_seq ?_
  refine k_region ?_
  refine s_lit (wk0 rfl) rfl rfl hE hp rfl [(0, (.int .i64 3)), (1, (.int .i64 (-2))), (2, (.int .i64 3))] ⟨⟨rfl, rfl⟩, ⟨rfl, rfl⟩, ⟨rfl, rfl⟩, trivial⟩ [(.int .i64 3), (.int .i64 (-2)), (.int .i64 3)] 3 (fun w => by simp [Instr.buildSlice, Instr.fill, Value.cells, go_sem]) ?_
  intro a w b5 hE hp
  have hp : Hp Z (ρ.un k1) (Pt b5 (.cells #[(.int .i64 3), (.int .i64 (-2)), (.int .i64 3)] 3 (0, 0)) :: _ :: _ :: _ :: _ :: _ :: L) w := hp
  have hp := (hp.get 0 rfl).imp (own_of_pt (l := (([3, (-2), 3] : List Int) : List Int)) (n := 3) rfl (by decide) rfl)
  have hp : Hp Z (ρ.un k1) (OwnSl 3 (.slice (some ⟨b5, 0, none⟩) 3 3) ([3, (-2), 3] : List Int) :: _ :: _ :: _ :: _ :: _ :: L) w := hp
  obtain ⟨k5, k5a, k5d, k5h⟩ := (hp.get 0 rfl).lend
  obtain ⟨x3, ex3, hm⟩ := bnd hm
  refine s_call (wk0 rfl) rfl rfl hE rfl [(.slice (some ⟨b5, 0, none⟩) 3 3)] ⟨rfl, trivial⟩ ent12 (c_cnf_Normal (Tabs.mono (Tabs.mono hT (PH.le_un _ k1)) (PH.le_un _ k5)) ([3, (-2), 3] : List Int) (.slice (some ⟨b5, 0, none⟩) 3 3) (OwnSl.ro k5d k5a) k5h x3 ex3) Ret.ret ?_
  intro v a w hR hE
  obtain ⟨vr6, rfl, hp⟩ := Ret.of hR
  have hp := Hp.back k5a k5d hp
  have hp : Hp Z (ρ.un k1) (_ :: OwnSl 3 vr6 x3.1 :: _ :: _ :: _ :: _ :: _ :: L) w := hp
  refine s_val (wk0 rfl) rfl rfl hE hp (v := (.tuple #[vr6, (.bool x3.2)])) (ex_move rfl hE rfl) ?_
  intro a hE
  refine s_val (wk0 rfl) rfl rfl hE hp (v := vr6) (ex_extract rfl hE rfl rfl) ?_
  intro a hE
  refine s_val (wk0 rfl) rfl rfl hE hp (v := (.bool x3.2)) (ex_extract rfl hE rfl rfl) ?_
  intro a hE
  refine s_val (wk0 rfl) rfl rfl hE hp (v := vr6) (ex_asn rfl hE rfl) ?_
  intro a hE
  refine s_val (wk0 rfl) rfl rfl hE hp (v := (.bool x3.2)) (ex_asn rfl hE rfl) ?_
  intro a hE
  refine s_nil ?_
  have hE := hE.cut (E' := [(1, (.pointer (some ⟨b3, 0, none⟩))), (2, (.int .i64 x1.2)), (3, vr3), (4, (.bool x2.2.1)), (5, (.int .i64 x2.2.2)), (6, vr6), (7, (.bool x3.2))]) ⟨rfl, rfl, rfl, rfl, rfl, rfl, rfl, trivial⟩
  refine k_seq ?_
  refine k_region ?_
  obtain ⟨x4, ex4, hm⟩ := bnd hm
  refine s_call (wk0 rfl) rfl rfl hE rfl [(.string (ByteArray.mk #[112, 32, 99, 110, 102, 32, 50, 32, 49, 10, 49, 32, 45, 50, 32, 48, 10]))] ⟨rfl, trivial⟩ ent26 (c_cnf_Parse (Tabs.mono hT (PH.le_un _ k1)) (ByteArray.mk #[112, 32, 99, 110, 102, 32, 50, 32, 49, 10, 49, 32, 45, 50, 32, 48, 10]) hp x4 ex4) Ret.ret ?_
  intro v a w hR hE
  obtain ⟨vr8_clauses, usr8_clauses, rfl, hp⟩ := Ret.of hR
  have hp : Hp Z (ρ.un k1) (TblA 25 3 vr8_clauses usr8_clauses (x4.1.clauses : (List (List Int))) :: _ :: _ :: _ :: _ :: _ :: _ :: _ :: L) w := hp
  refine s_val (wk0 rfl) rfl rfl hE hp (v := (.tuple #[(.agg #[(.int .i64 x4.1.vars), vr8_clauses]), (.int .i64 x4.2)])) (ex_move rfl hE rfl) ?_
  intro a hE
  refine s_val (wk0 rfl) rfl rfl hE hp (v := (.agg #[(.int .i64 x4.1.vars), vr8_clauses])) (ex_extract rfl hE rfl rfl) ?_
  intro a hE
  refine s_val (wk0 rfl) rfl rfl hE hp (v := (.int .i64 x4.2)) (ex_extract rfl hE rfl rfl) ?_
  intro a hE
  refine s_new (wk0 rfl) rfl rfl hE hp rfl [(.int .i64 0), (.slice none 0 0)] (fun w => by simp [Instr.alloc, go_sem] <;> rfl) ?_
  intro a w b6 hE hp
  have hp : Hp Z (ρ.un k1) (Pt b6 (.cells #[(.int .i64 0), (.slice none 0 0)] 24 (0, 0)) :: _ :: _ :: _ :: _ :: _ :: _ :: _ :: _ :: L) w := hp
  refine s_store (wk0 rfl) rfl hE hp rfl rfl rfl 0 rfl varty24.size_ rfl (allOne_mem ⟨rfl, (TblA.one hp 1 rfl), trivial⟩) [(.int .i64 x4.1.vars), vr8_clauses] rfl ?_
  intro w hp
  have hp : Hp Z (ρ.un k1) (Pt b6 (.cells #[(.int .i64 x4.1.vars), vr8_clauses] 24 (0, 0)) :: _ :: _ :: _ :: _ :: _ :: _ :: _ :: _ :: L) w := hp
  refine s_val (wk0 rfl) rfl rfl hE hp (v := (.int .i64 x4.2)) (ex_asn rfl hE rfl) ?_
  intro a hE
  refine s_nil ?_
  refine k_seq ?_
  refine k_region ?_
  refine s_val (wk0 rfl) rfl rfl hE hp (v := (.int .i64 x1.2)) (ex_move rfl hE rfl) ?_
  intro a hE
  refine s_val (wk0 rfl) rfl rfl hE hp (v := (.bool (decide (x1.2 = 0)))) (ex_eql rfl hE rfl rfl) ?_
  intro a hE
  refine s_val (wk0 rfl) rfl rfl hE hp (v := (.bool (decide (x1.2 = 0)))) (ex_move rfl hE rfl) ?_
  intro a hE
  refine s_cut [_, _, _, _] (fun a w => Env 94 [(40, (.bool ((decide (x1.2 = 0)) && (decide (x1.1.vars = 4))))), (1, (.pointer (some ⟨b3, 0, none⟩))), (3, vr3), (4, (.bool x2.2.1)), (5, (.int .i64 x2.2.2)), (6, vr6), (7, (.bool x3.2)), (8, (.pointer (some ⟨b6, 0, none⟩))), (9, (.int .i64 x4.2))] a ∧ Hp Z (ρ.un k1) (Pt b6 (.cells #[(.int .i64 x4.1.vars), vr8_clauses] 24 (0, 0)) :: TblA 25 3 vr8_clauses usr8_clauses (x4.1.clauses : (List (List Int))) :: OwnSl 3 (.slice (some ⟨b5, 0, none⟩) 3 3) ([3, (-2), 3] : List Int) :: OwnSl 3 vr6 x3.1 :: TblA 25 3 vr1_clauses usr1_clauses (x1.1.clauses : (List (List Int))) :: OwnSl 3 (.slice (some ⟨b4, 0, none⟩) 2 2) ([2, (-3)] : List Int) :: OwnSl 3 vr3 x2.1 :: Pt b3 (.cells #[(.int .i64 x1.1.vars), vr1_clauses] 24 (0, 0)) :: OwnSl 3 (.slice (some ⟨b2, 0, none⟩) 1 1) ([6] : List Int) :: L) w) ?_ ?_
  · rcases Bool.eq_false_or_eq_true (decide (x1.2 = 0)) with hc1 | hc1
    ·
      refine s_val (wk1 hE rfl rfl rfl hc1) rfl rfl hE hp (v := (.pointer (some ⟨b3, 0, none⟩))) (ex_field rfl hE rfl (fldty24_0 _ _)) ?_
      intro a hE
      refine s_val (wk1 hE rfl rfl rfl hc1) rfl rfl hE hp (v := (.int .i64 x1.1.vars)) (ex_load rfl hE rfl (fun w hw => run_ld1 varty3 (Hp.c 7 rfl 0 rfl w hw))) ?_
      intro a hE
      refine s_val (wk1 hE rfl rfl rfl hc1) rfl rfl hE hp (v := (.bool (decide (x1.1.vars = 4)))) (ex_eql rfl hE rfl rfl) ?_
      intro a hE
      refine s_val (wk0 rfl) rfl rfl hE hp (v := (.bool (decide (x1.1.vars = 4)))) (ex_pick1 rfl hE rfl hc1 rfl) ?_
      intro a hE
      have hE := hE.eqv (v' := (.bool ((decide (x1.2 = 0)) && (decide (x1.1.vars = 4))))) (by rw [hc1]; rfl)
      exact s_nil ⟨hE.cut ⟨rfl, rfl, rfl, rfl, rfl, rfl, rfl, rfl, rfl, trivial⟩, hp⟩
    ·
      refine s_skip (wk2 hE rfl rfl rfl hc1) rfl rfl hE ?_
      intro a hE
      refine s_skip (wk2 hE rfl rfl rfl hc1) rfl rfl hE ?_
      intro a hE
      refine s_skip (wk2 hE rfl rfl rfl hc1) rfl rfl hE ?_
      intro a hE
      refine s_val (wk0 rfl) rfl rfl hE hp (v := (.bool false)) (ex_pick0 rfl hE rfl hc1 rfl) ?_
      intro a hE
      have hE := hE.eqv (v' := (.bool ((decide (x1.2 = 0)) && (decide (x1.1.vars = 4))))) (by rw [hc1]; rfl)
      exact s_nil ⟨hE.cut ⟨rfl, rfl, rfl, rfl, rfl, rfl, rfl, rfl, rfl, trivial⟩, hp⟩
  · rintro a w ⟨hE, hp⟩
    refine s_val (wk0 rfl) rfl rfl hE hp (v := (.bool ((decide (x1.2 = 0)) && (decide (x1.1.vars = 4))))) (ex_move rfl hE rfl) ?_
    intro a hE
    obtain ⟨m1, hg1, hm⟩ := bnd hm
    refine s_cut [_, _, _, _, _, _, _, _, _, _] (fun a w => Env 94 [(51, (.bool m1)), (1, (.pointer (some ⟨b3, 0, none⟩))), (3, vr3), (4, (.bool x2.2.1)), (5, (.int .i64 x2.2.2)), (6, vr6), (7, (.bool x3.2)), (8, (.pointer (some ⟨b6, 0, none⟩))), (9, (.int .i64 x4.2))] a ∧ Hp Z (ρ.un k1) (Pt b6 (.cells #[(.int .i64 x4.1.vars), vr8_clauses] 24 (0, 0)) :: TblA 25 3 vr8_clauses usr8_clauses (x4.1.clauses : (List (List Int))) :: OwnSl 3 (.slice (some ⟨b5, 0, none⟩) 3 3) ([3, (-2), 3] : List Int) :: OwnSl 3 vr6 x3.1 :: TblA 25 3 vr1_clauses usr1_clauses (x1.1.clauses : (List (List Int))) :: OwnSl 3 (.slice (some ⟨b4, 0, none⟩) 2 2) ([2, (-3)] : List Int) :: OwnSl 3 vr3 x2.1 :: Pt b3 (.cells #[(.int .i64 x1.1.vars), vr1_clauses] 24 (0, 0)) :: OwnSl 3 (.slice (some ⟨b2, 0, none⟩) 1 1) ([6] : List Int) :: L) w) ?_ ?_
    · rcases Bool.eq_false_or_eq_true ((decide (x1.2 = 0)) && (decide (x1.1.vars = 4))) with hc2 | hc2
      ·
        replace hg1 := (it hc2).symm.trans hg1
        refine s_val (wk1 hE rfl rfl rfl hc2) rfl rfl hE hp (v := (.pointer (some ⟨b3, 1, none⟩))) (ex_field rfl hE rfl (fldty24_1 _ _)) ?_
        intro a hE
        refine s_val (wk1 hE rfl rfl rfl hc2) rfl rfl hE hp (v := vr1_clauses) (ex_load rfl hE rfl (fun w hw => run_ld1 varty22 (Hp.c 7 rfl 1 rfl w hw))) ?_
        intro a hE
        refine s_lit (wk1 hE rfl rfl rfl hc2) rfl rfl hE hp rfl [(0, (.int .i64 (-1)))] ⟨⟨rfl, rfl⟩, trivial⟩ [(.int .i64 (-1))] 3 (fun w => by simp [Instr.buildSlice, Instr.fill, Value.cells, go_sem]) ?_
        intro a w b7 hE hp
        have hp : Hp Z (ρ.un k1) (Pt b7 (.cells #[(.int .i64 (-1))] 3 (0, 0)) :: _ :: _ :: _ :: _ :: _ :: _ :: _ :: _ :: _ :: L) w := hp
        refine s_lit (wk1 hE rfl rfl rfl hc2) rfl rfl hE hp rfl [(0, (.int .i64 2)), (1, (.int .i64 (-4)))] ⟨⟨rfl, rfl⟩, ⟨rfl, rfl⟩, trivial⟩ [(.int .i64 2), (.int .i64 (-4))] 3 (fun w => by simp [Instr.buildSlice, Instr.fill, Value.cells, go_sem]) ?_
        intro a w b8 hE hp
        have hp : Hp Z (ρ.un k1) (Pt b8 (.cells #[(.int .i64 2), (.int .i64 (-4))] 3 (0, 0)) :: _ :: _ :: _ :: _ :: _ :: _ :: _ :: _ :: _ :: _ :: L) w := hp
        refine s_lit (wk1 hE rfl rfl rfl hc2) rfl rfl hE hp rfl [(0, (.int .i64 (-3))), (1, (.int .i64 (-4)))] ⟨⟨rfl, rfl⟩, ⟨rfl, rfl⟩, trivial⟩ [(.int .i64 (-3)), (.int .i64 (-4))] 3 (fun w => by simp [Instr.buildSlice, Instr.fill, Value.cells, go_sem]) ?_
        intro a w b9 hE hp
        have hp : Hp Z (ρ.un k1) (Pt b9 (.cells #[(.int .i64 (-3)), (.int .i64 (-4))] 3 (0, 0)) :: _ :: _ :: _ :: _ :: _ :: _ :: _ :: _ :: _ :: _ :: _ :: L) w := hp
        refine s_lit (wk1 hE rfl rfl rfl hc2) rfl rfl hE hp rfl [(0, (.int .i64 (-2))), (1, (.int .i64 3)), (2, (.int .i64 4))] ⟨⟨rfl, rfl⟩, ⟨rfl, rfl⟩, ⟨rfl, rfl⟩, trivial⟩ [(.int .i64 (-2)), (.int .i64 3), (.int .i64 4)] 3 (fun w => by simp [Instr.buildSlice, Instr.fill, Value.cells, go_sem]) ?_
        intro a w b10 hE hp
        have hp : Hp Z (ρ.un k1) (Pt b10 (.cells #[(.int .i64 (-2)), (.int .i64 3), (.int .i64 4)] 3 (0, 0)) :: _ :: _ :: _ :: _ :: _ :: _ :: _ :: _ :: _ :: _ :: _ :: _ :: L) w := hp
        refine s_lit (wk1 hE rfl rfl rfl hc2) rfl rfl hE hp rfl [(0, (.int .i64 4))] ⟨⟨rfl, rfl⟩, trivial⟩ [(.int .i64 4)] 3 (fun w => by simp [Instr.buildSlice, Instr.fill, Value.cells, go_sem]) ?_
        intro a w b11 hE hp
        have hp : Hp Z (ρ.un k1) (Pt b11 (.cells #[(.int .i64 4)] 3 (0, 0)) :: _ :: _ :: _ :: _ :: _ :: _ :: _ :: _ :: _ :: _ :: _ :: _ :: _ :: L) w := hp
        refine s_lit (wk1 hE rfl rfl rfl hc2) rfl rfl hE hp rfl [(0, (.slice (some ⟨b7, 0, none⟩) 1 1)), (1, (.slice (some ⟨b8, 0, none⟩) 2 2)), (2, (.slice (some ⟨b9, 0, none⟩) 2 2)), (3, (.slice (some ⟨b10, 0, none⟩) 3 3)), (4, (.slice (some ⟨b11, 0, none⟩) 1 1))] ⟨⟨rfl, rfl⟩, ⟨rfl, rfl⟩, ⟨rfl, rfl⟩, ⟨rfl, rfl⟩, ⟨rfl, rfl⟩, trivial⟩ [(.slice (some ⟨b7, 0, none⟩) 1 1), (.slice (some ⟨b8, 0, none⟩) 2 2), (.slice (some ⟨b9, 0, none⟩) 2 2), (.slice (some ⟨b10, 0, none⟩) 3 3), (.slice (some ⟨b11, 0, none⟩) 1 1)] 25 (fun w => by simp [Instr.buildSlice, Instr.fill, Value.cells, go_sem]) ?_
        intro a w b12 hE hp
        have hp : Hp Z (ρ.un k1) (Pt b12 (.cells #[(.slice (some ⟨b7, 0, none⟩) 1 1), (.slice (some ⟨b8, 0, none⟩) 2 2), (.slice (some ⟨b9, 0, none⟩) 2 2), (.slice (some ⟨b10, 0, none⟩) 3 3), (.slice (some ⟨b11, 0, none⟩) 1 1)] 25 (0, 0)) :: _ :: _ :: _ :: _ :: _ :: _ :: _ :: _ :: _ :: _ :: _ :: _ :: _ :: _ :: L) w := hp
        have hp := (hp.get 5 rfl).imp (own_of_pt (l := (([(-1)] : List Int) : List Int)) (n := 1) rfl (by decide) rfl)
        have hp : Hp Z (ρ.un k1) (OwnSl 3 (.slice (some ⟨b7, 0, none⟩) 1 1) ([(-1)] : List Int) :: _ :: _ :: _ :: _ :: _ :: _ :: _ :: _ :: _ :: _ :: _ :: _ :: _ :: _ :: L) w := hp
        obtain ⟨k6, k6a, k6d, hp⟩ := (hp.get 0 rfl).lend
        have f2 : RoSl ((ρ.un k1).un k6) (.slice (some ⟨b7, 0, none⟩) 1 1) ([(-1)] : List Int) := OwnSl.ro k6d k6a
        have hp : Hp Z ((ρ.un k1).un k6) (_ :: _ :: _ :: _ :: _ :: _ :: _ :: _ :: _ :: _ :: _ :: _ :: _ :: _ :: L) w := hp
        have hp := (hp.get 4 rfl).imp (own_of_pt (l := (([2, (-4)] : List Int) : List Int)) (n := 2) rfl (by decide) rfl)
        have hp : Hp Z ((ρ.un k1).un k6) (OwnSl 3 (.slice (some ⟨b8, 0, none⟩) 2 2) ([2, (-4)] : List Int) :: _ :: _ :: _ :: _ :: _ :: _ :: _ :: _ :: _ :: _ :: _ :: _ :: _ :: L) w := hp
        obtain ⟨k7, k7a, k7d, hp⟩ := (hp.get 0 rfl).lend
        have f3 : RoSl (((ρ.un k1).un k6).un k7) (.slice (some ⟨b8, 0, none⟩) 2 2) ([2, (-4)] : List Int) := OwnSl.ro k7d k7a
        have hp : Hp Z (((ρ.un k1).un k6).un k7) (_ :: _ :: _ :: _ :: _ :: _ :: _ :: _ :: _ :: _ :: _ :: _ :: _ :: L) w := hp
        have hp := (hp.get 3 rfl).imp (own_of_pt (l := (([(-3), (-4)] : List Int) : List Int)) (n := 2) rfl (by decide) rfl)
        have hp : Hp Z (((ρ.un k1).un k6).un k7) (OwnSl 3 (.slice (some ⟨b9, 0, none⟩) 2 2) ([(-3), (-4)] : List Int) :: _ :: _ :: _ :: _ :: _ :: _ :: _ :: _ :: _ :: _ :: _ :: _ :: L) w := hp
        obtain ⟨k8, k8a, k8d, hp⟩ := (hp.get 0 rfl).lend
        have f4 : RoSl ((((ρ.un k1).un k6).un k7).un k8) (.slice (some ⟨b9, 0, none⟩) 2 2) ([(-3), (-4)] : List Int) := OwnSl.ro k8d k8a
        have hp : Hp Z ((((ρ.un k1).un k6).un k7).un k8) (_ :: _ :: _ :: _ :: _ :: _ :: _ :: _ :: _ :: _ :: _ :: _ :: L) w := hp
        have hp := (hp.get 2 rfl).imp (own_of_pt (l := (([(-2), 3, 4] : List Int) : List Int)) (n := 3) rfl (by decide) rfl)
        have hp : Hp Z ((((ρ.un k1).un k6).un k7).un k8) (OwnSl 3 (.slice (some ⟨b10, 0, none⟩) 3 3) ([(-2), 3, 4] : List Int) :: _ :: _ :: _ :: _ :: _ :: _ :: _ :: _ :: _ :: _ :: _ :: L) w := hp
        obtain ⟨k9, k9a, k9d, hp⟩ := (hp.get 0 rfl).lend
        have f5 : RoSl (((((ρ.un k1).un k6).un k7).un k8).un k9) (.slice (some ⟨b10, 0, none⟩) 3 3) ([(-2), 3, 4] : List Int) := OwnSl.ro k9d k9a
        have hp : Hp Z (((((ρ.un k1).un k6).un k7).un k8).un k9) (_ :: _ :: _ :: _ :: _ :: _ :: _ :: _ :: _ :: _ :: _ :: L) w := hp
        have hp := (hp.get 1 rfl).imp (own_of_pt (l := (([4] : List Int) : List Int)) (n := 1) rfl (by decide) rfl)
        have hp : Hp Z (((((ρ.un k1).un k6).un k7).un k8).un k9) (OwnSl 3 (.slice (some ⟨b11, 0, none⟩) 1 1) ([4] : List Int) :: _ :: _ :: _ :: _ :: _ :: _ :: _ :: _ :: _ :: _ :: L) w := hp
        obtain ⟨k10, k10a, k10d, hp⟩ := (hp.get 0 rfl).lend
        have f6 : RoSl ((((((ρ.un k1).un k6).un k7).un k8).un k9).un k10) (.slice (some ⟨b11, 0, none⟩) 1 1) ([4] : List Int) := OwnSl.ro k10d k10a
        have hp : Hp Z ((((((ρ.un k1).un k6).un k7).un k8).un k9).un k10) (_ :: _ :: _ :: _ :: _ :: _ :: _ :: _ :: _ :: _ :: L) w := hp
        obtain ⟨k11, k11a, k11d, hp⟩ := (hp.get 0 rfl).lend
        have f7 : RoSl (((((((ρ.un k1).un k6).un k7).un k8).un k9).un k10).un k11) (.slice (some ⟨b12, 0, none⟩) 5 5) ([([(-1)] : List Int), ([2, (-4)] : List Int), ([(-3), (-4)] : List Int), ([(-2), 3, 4] : List Int), ([4] : List Int)] : List (List Int)) := RoSl.of_all (l := (([([(-1)] : List Int), ([2, (-4)] : List Int), ([(-3), (-4)] : List Int), ([(-2), 3, 4] : List Int), ([4] : List Int)] : List (List Int)))) k11d k11a ⟨_, _, rfl, ⟨_, rfl, ((RoSl.mono (RoSl.mono (RoSl.mono (RoSl.mono (RoSl.mono f2 (PH.le_un _ k7)) (PH.le_un _ k8)) (PH.le_un _ k9)) (PH.le_un _ k10)) (PH.le_un _ k11)))⟩, ⟨_, _, rfl, ⟨_, rfl, ((RoSl.mono (RoSl.mono (RoSl.mono (RoSl.mono f3 (PH.le_un _ k8)) (PH.le_un _ k9)) (PH.le_un _ k10)) (PH.le_un _ k11)))⟩, ⟨_, _, rfl, ⟨_, rfl, ((RoSl.mono (RoSl.mono (RoSl.mono f4 (PH.le_un _ k9)) (PH.le_un _ k10)) (PH.le_un _ k11)))⟩, ⟨_, _, rfl, ⟨_, rfl, ((RoSl.mono (RoSl.mono f5 (PH.le_un _ k10)) (PH.le_un _ k11)))⟩, ⟨_, _, rfl, ⟨_, rfl, ((RoSl.mono f6 (PH.le_un _ k11)))⟩, rfl⟩⟩⟩⟩⟩
        have hp : Hp Z (((((((ρ.un k1).un k6).un k7).un k8).un k9).un k10).un k11) (_ :: _ :: _ :: _ :: _ :: _ :: _ :: _ :: _ :: L) w := hp
        obtain ⟨k12, k12a, k12d, k12h⟩ := (hp.get 4 rfl).lend
        obtain ⟨x5, ex5, hg1⟩ := bnd hg1
        refine s_call (wk1 hE rfl rfl rfl hc2) rfl rfl hE rfl [vr1_clauses, (.slice (some ⟨b12, 0, none⟩) 5 5)] ⟨rfl, rfl, trivial⟩ ent40 (c_assessorref26_Clauses (Tabs.mono (Tabs.mono (Tabs.mono (Tabs.mono (Tabs.mono (Tabs.mono (Tabs.mono (Tabs.mono hT (PH.le_un _ k1)) (PH.le_un _ k6)) (PH.le_un _ k7)) (PH.le_un _ k8)) (PH.le_un _ k9)) (PH.le_un _ k10)) (PH.le_un _ k11)) (PH.le_un _ k12)) x1.1.clauses vr1_clauses (TblA.ro k12d k12a) ([([(-1)] : List Int), ([2, (-4)] : List Int), ([(-3), (-4)] : List Int), ([(-2), 3, 4] : List Int), ([4] : List Int)] : List (List Int)) (.slice (some ⟨b12, 0, none⟩) 5 5) (RoSl.mono f7 (PH.le_un _ _)) k12h x5 ex5) Ret.ret ?_
        intro v a w hR hE
        obtain ⟨rfl, hp⟩ := Ret.of hR
        have hp := Hp.back k12a k12d hp
        have hp : Hp Z (((((((ρ.un k1).un k6).un k7).un k8).un k9).un k10).un k11) (_ :: _ :: _ :: _ :: _ :: _ :: _ :: _ :: _ :: L) w := hp
        refine s_val (wk0 rfl) rfl rfl hE hp (v := (.bool x5)) (ex_pick1 rfl hE rfl hc2 rfl) ?_
        intro a hE
        obtain rfl := Option.some.inj hg1
        exact s_nil ⟨hE.cut ⟨rfl, rfl, rfl, rfl, rfl, rfl, rfl, rfl, rfl, trivial⟩, (((((((((((((((hp.get 8 rfl).get 8 rfl).get 8 rfl).get 8 rfl).get 4 rfl).get 8 rfl).get 8 rfl).get 8 rfl).get 8 rfl).less (PH.le_un _ k11)).less (PH.le_un _ k10)).less (PH.le_un _ k9)).less (PH.le_un _ k8)).less (PH.le_un _ k7)).less (PH.le_un _ k6))⟩
      ·
        replace hg1 := (ie hc2).symm.trans hg1
        refine s_skip (wk2 hE rfl rfl rfl hc2) rfl rfl hE ?_
        intro a hE
        refine s_skip (wk2 hE rfl rfl rfl hc2) rfl rfl hE ?_
        intro a hE
        refine s_skip (wk2 hE rfl rfl rfl hc2) rfl rfl hE ?_
        intro a hE
        refine s_skip (wk2 hE rfl rfl rfl hc2) rfl rfl hE ?_
        intro a hE
        refine s_skip (wk2 hE rfl rfl rfl hc2) rfl rfl hE ?_
        intro a hE
        refine s_skip (wk2 hE rfl rfl rfl hc2) rfl rfl hE ?_
        intro a hE
        refine s_skip (wk2 hE rfl rfl rfl hc2) rfl rfl hE ?_
        intro a hE
        refine s_skip (wk2 hE rfl rfl rfl hc2) rfl rfl hE ?_
        intro a hE
        refine s_skip (wk2 hE rfl rfl rfl hc2) rfl rfl hE ?_
        intro a hE
        refine s_val (wk0 rfl) rfl rfl hE hp (v := (.bool false)) (ex_pick0 rfl hE rfl hc2 rfl) ?_
        intro a hE
        obtain rfl := Option.some.inj hg1
        exact s_nil ⟨hE.cut ⟨rfl, rfl, rfl, rfl, rfl, rfl, rfl, rfl, rfl, trivial⟩, hp⟩
    · rintro a w ⟨hE, hp⟩
      refine s_val (wk0 rfl) rfl rfl hE hp (v := (.bool m1)) (ex_move rfl hE rfl) ?_
      intro a hE
      obtain ⟨m2, hg2, hm⟩ := bnd hm
      refine s_cut [_, _, _, _] (fun a w => Env 94 [(56, (.bool m2)), (1, (.pointer (some ⟨b3, 0, none⟩))), (4, (.bool x2.2.1)), (5, (.int .i64 x2.2.2)), (6, vr6), (7, (.bool x3.2)), (8, (.pointer (some ⟨b6, 0, none⟩))), (9, (.int .i64 x4.2))] a ∧ Hp Z (ρ.un k1) (Pt b6 (.cells #[(.int .i64 x4.1.vars), vr8_clauses] 24 (0, 0)) :: TblA 25 3 vr8_clauses usr8_clauses (x4.1.clauses : (List (List Int))) :: OwnSl 3 (.slice (some ⟨b5, 0, none⟩) 3 3) ([3, (-2), 3] : List Int) :: OwnSl 3 vr6 x3.1 :: TblA 25 3 vr1_clauses usr1_clauses (x1.1.clauses : (List (List Int))) :: OwnSl 3 (.slice (some ⟨b4, 0, none⟩) 2 2) ([2, (-3)] : List Int) :: OwnSl 3 vr3 x2.1 :: Pt b3 (.cells #[(.int .i64 x1.1.vars), vr1_clauses] 24 (0, 0)) :: OwnSl 3 (.slice (some ⟨b2, 0, none⟩) 1 1) ([6] : List Int) :: L) w) ?_ ?_
      · rcases Bool.eq_false_or_eq_true m1 with hc3 | hc3
        ·
          replace hg2 := (it hc3).symm.trans hg2
          refine s_val (wk1 hE rfl rfl rfl hc3) rfl rfl hE hp (v := vr3) (ex_move rfl hE rfl) ?_
          intro a hE
          refine s_lit (wk1 hE rfl rfl rfl hc3) rfl rfl hE hp rfl [(0, (.int .i64 (-1))), (1, (.int .i64 2)), (2, (.int .i64 (-3))), (3, (.int .i64 4))] ⟨⟨rfl, rfl⟩, ⟨rfl, rfl⟩, ⟨rfl, rfl⟩, ⟨rfl, rfl⟩, trivial⟩ [(.int .i64 (-1)), (.int .i64 2), (.int .i64 (-3)), (.int .i64 4)] 3 (fun w => by simp [Instr.buildSlice, Instr.fill, Value.cells, go_sem]) ?_
          intro a w b13 hE hp
          have hp : Hp Z (ρ.un k1) (Pt b13 (.cells #[(.int .i64 (-1)), (.int .i64 2), (.int .i64 (-3)), (.int .i64 4)] 3 (0, 0)) :: _ :: _ :: _ :: _ :: _ :: _ :: _ :: _ :: _ :: L) w := hp
          have hp := (hp.get 0 rfl).imp (own_of_pt (l := (([(-1), 2, (-3), 4] : List Int) : List Int)) (n := 4) rfl (by decide) rfl)
          have hp : Hp Z (ρ.un k1) (OwnSl 3 (.slice (some ⟨b13, 0, none⟩) 4 4) ([(-1), 2, (-3), 4] : List Int) :: _ :: _ :: _ :: _ :: _ :: _ :: _ :: _ :: _ :: L) w := hp
          obtain ⟨k13, k13a, k13d, k13h⟩ := (hp.get 7 rfl).lend
          obtain ⟨k14, k14a, k14d, k14h⟩ := (k13h.get 0 rfl).lend
          obtain ⟨x6, ex6, hg2⟩ := bnd hg2
          refine s_call (wk1 hE rfl rfl rfl hc3) rfl rfl hE rfl [vr3, (.slice (some ⟨b13, 0, none⟩) 4 4)] ⟨rfl, rfl, trivial⟩ ent14 (c_slices_Equal_int_int_ (Tabs.mono (Tabs.mono (Tabs.mono hT (PH.le_un _ k1)) (PH.le_un _ k13)) (PH.le_un _ k14)) x2.1 vr3 (RoSl.mono (OwnSl.ro k13d k13a) (PH.le_un _ _)) ([(-1), 2, (-3), 4] : List Int) (.slice (some ⟨b13, 0, none⟩) 4 4) (OwnSl.ro k14d k14a) k14h x6 ex6) Ret.ret ?_
          intro v a w hR hE
          obtain ⟨rfl, hp⟩ := Ret.of hR
          have hp := Hp.back k14a k14d hp
          have hp := Hp.back k13a k13d hp
          have hp : Hp Z (ρ.un k1) (_ :: _ :: _ :: _ :: _ :: _ :: _ :: _ :: _ :: _ :: L) w := hp
          refine s_val (wk0 rfl) rfl rfl hE hp (v := (.bool x6)) (ex_pick1 rfl hE rfl hc3 rfl) ?_
          intro a hE
          obtain rfl := Option.some.inj hg2
          exact s_nil ⟨hE.cut ⟨rfl, rfl, rfl, rfl, rfl, rfl, rfl, rfl, trivial⟩, (((((((((((hp.get 9 rfl).get 9 rfl).get 2 rfl).get 9 rfl).get 9 rfl).get 9 rfl).get 9 rfl).get 9 rfl).get 9 rfl).get 9 rfl).drop)⟩
        ·
          replace hg2 := (ie hc3).symm.trans hg2
          refine s_skip (wk2 hE rfl rfl rfl hc3) rfl rfl hE ?_
          intro a hE
          refine s_skip (wk2 hE rfl rfl rfl hc3) rfl rfl hE ?_
          intro a hE
          refine s_skip (wk2 hE rfl rfl rfl hc3) rfl rfl hE ?_
          intro a hE
          refine s_val (wk0 rfl) rfl rfl hE hp (v := (.bool false)) (ex_pick0 rfl hE rfl hc3 rfl) ?_
          intro a hE
          obtain rfl := Option.some.inj hg2
          exact s_nil ⟨hE.cut ⟨rfl, rfl, rfl, rfl, rfl, rfl, rfl, rfl, trivial⟩, hp⟩
      · rintro a w ⟨hE, hp⟩
        refine s_val (wk0 rfl) rfl rfl hE hp (v := (.bool m2)) (ex_move rfl hE rfl) ?_
        intro a hE
        refine s_cut [_, _] (fun a w => Env 94 [(59, (.bool (m2 && x2.2.1))), (1, (.pointer (some ⟨b3, 0, none⟩))), (5, (.int .i64 x2.2.2)), (6, vr6), (7, (.bool x3.2)), (8, (.pointer (some ⟨b6, 0, none⟩))), (9, (.int .i64 x4.2))] a ∧ Hp Z (ρ.un k1) (Pt b6 (.cells #[(.int .i64 x4.1.vars), vr8_clauses] 24 (0, 0)) :: TblA 25 3 vr8_clauses usr8_clauses (x4.1.clauses : (List (List Int))) :: OwnSl 3 (.slice (some ⟨b5, 0, none⟩) 3 3) ([3, (-2), 3] : List Int) :: OwnSl 3 vr6 x3.1 :: TblA 25 3 vr1_clauses usr1_clauses (x1.1.clauses : (List (List Int))) :: OwnSl 3 (.slice (some ⟨b4, 0, none⟩) 2 2) ([2, (-3)] : List Int) :: OwnSl 3 vr3 x2.1 :: Pt b3 (.cells #[(.int .i64 x1.1.vars), vr1_clauses] 24 (0, 0)) :: OwnSl 3 (.slice (some ⟨b2, 0, none⟩) 1 1) ([6] : List Int) :: L) w) ?_ ?_
        · rcases Bool.eq_false_or_eq_true m2 with hc4 | hc4
          ·
            refine s_val (wk1 hE rfl rfl rfl hc4) rfl rfl hE hp (v := (.bool x2.2.1)) (ex_move rfl hE rfl) ?_
            intro a hE
            refine s_val (wk0 rfl) rfl rfl hE hp (v := (.bool x2.2.1)) (ex_pick1 rfl hE rfl hc4 rfl) ?_
            intro a hE
            have hE := hE.eqv (v' := (.bool (m2 && x2.2.1))) (by rw [hc4]; rfl)
            exact s_nil ⟨hE.cut ⟨rfl, rfl, rfl, rfl, rfl, rfl, rfl, trivial⟩, hp⟩
          ·
            refine s_skip (wk2 hE rfl rfl rfl hc4) rfl rfl hE ?_
            intro a hE
            refine s_val (wk0 rfl) rfl rfl hE hp (v := (.bool false)) (ex_pick0 rfl hE rfl hc4 rfl) ?_
            intro a hE
            have hE := hE.eqv (v' := (.bool (m2 && x2.2.1))) (by rw [hc4]; rfl)
            exact s_nil ⟨hE.cut ⟨rfl, rfl, rfl, rfl, rfl, rfl, rfl, trivial⟩, hp⟩
        · rintro a w ⟨hE, hp⟩
          refine s_val (wk0 rfl) rfl rfl hE hp (v := (.bool (m2 && x2.2.1))) (ex_move rfl hE rfl) ?_
          intro a hE
          refine s_cut [_, _, _] (fun a w => Env 94 [(63, (.bool ((m2 && x2.2.1) && (decide (x2.2.2 = 0))))), (1, (.pointer (some ⟨b3, 0, none⟩))), (6, vr6), (7, (.bool x3.2)), (8, (.pointer (some ⟨b6, 0, none⟩))), (9, (.int .i64 x4.2))] a ∧ Hp Z (ρ.un k1) (Pt b6 (.cells #[(.int .i64 x4.1.vars), vr8_clauses] 24 (0, 0)) :: TblA 25 3 vr8_clauses usr8_clauses (x4.1.clauses : (List (List Int))) :: OwnSl 3 (.slice (some ⟨b5, 0, none⟩) 3 3) ([3, (-2), 3] : List Int) :: OwnSl 3 vr6 x3.1 :: TblA 25 3 vr1_clauses usr1_clauses (x1.1.clauses : (List (List Int))) :: OwnSl 3 (.slice (some ⟨b4, 0, none⟩) 2 2) ([2, (-3)] : List Int) :: OwnSl 3 vr3 x2.1 :: Pt b3 (.cells #[(.int .i64 x1.1.vars), vr1_clauses] 24 (0, 0)) :: OwnSl 3 (.slice (some ⟨b2, 0, none⟩) 1 1) ([6] : List Int) :: L) w) ?_ ?_
          · rcases Bool.eq_false_or_eq_true (m2 && x2.2.1) with hc5 | hc5
            ·
              refine s_val (wk1 hE rfl rfl rfl hc5) rfl rfl hE hp (v := (.int .i64 x2.2.2)) (ex_move rfl hE rfl) ?_
              intro a hE
              refine s_val (wk1 hE rfl rfl rfl hc5) rfl rfl hE hp (v := (.bool (decide (x2.2.2 = 0)))) (ex_eql rfl hE rfl rfl) ?_
              intro a hE
              refine s_val (wk0 rfl) rfl rfl hE hp (v := (.bool (decide (x2.2.2 = 0)))) (ex_pick1 rfl hE rfl hc5 rfl) ?_
              intro a hE
              have hE := hE.eqv (v' := (.bool ((m2 && x2.2.1) && (decide (x2.2.2 = 0))))) (by rw [hc5]; rfl)
              exact s_nil ⟨hE.cut ⟨rfl, rfl, rfl, rfl, rfl, rfl, trivial⟩, hp⟩
            ·
              refine s_skip (wk2 hE rfl rfl rfl hc5) rfl rfl hE ?_
              intro a hE
              refine s_skip (wk2 hE rfl rfl rfl hc5) rfl rfl hE ?_
              intro a hE
              refine s_val (wk0 rfl) rfl rfl hE hp (v := (.bool false)) (ex_pick0 rfl hE rfl hc5 rfl) ?_
              intro a hE
              have hE := hE.eqv (v' := (.bool ((m2 && x2.2.1) && (decide (x2.2.2 = 0))))) (by rw [hc5]; rfl)
              exact s_nil ⟨hE.cut ⟨rfl, rfl, rfl, rfl, rfl, rfl, trivial⟩, hp⟩
          · rintro a w ⟨hE, hp⟩
            refine s_val (wk0 rfl) rfl rfl hE hp (v := (.bool ((m2 && x2.2.1) && (decide (x2.2.2 = 0))))) (ex_move rfl hE rfl) ?_
            intro a hE
            refine s_cut [_, _] (fun a w => Env 94 [(66, (.bool (((m2 && x2.2.1) && (decide (x2.2.2 = 0))) && x3.2))), (1, (.pointer (some ⟨b3, 0, none⟩))), (6, vr6), (8, (.pointer (some ⟨b6, 0, none⟩))), (9, (.int .i64 x4.2))] a ∧ Hp Z (ρ.un k1) (Pt b6 (.cells #[(.int .i64 x4.1.vars), vr8_clauses] 24 (0, 0)) :: TblA 25 3 vr8_clauses usr8_clauses (x4.1.clauses : (List (List Int))) :: OwnSl 3 (.slice (some ⟨b5, 0, none⟩) 3 3) ([3, (-2), 3] : List Int) :: OwnSl 3 vr6 x3.1 :: TblA 25 3 vr1_clauses usr1_clauses (x1.1.clauses : (List (List Int))) :: OwnSl 3 (.slice (some ⟨b4, 0, none⟩) 2 2) ([2, (-3)] : List Int) :: OwnSl 3 vr3 x2.1 :: Pt b3 (.cells #[(.int .i64 x1.1.vars), vr1_clauses] 24 (0, 0)) :: OwnSl 3 (.slice (some ⟨b2, 0, none⟩) 1 1) ([6] : List Int) :: L) w) ?_ ?_
            · rcases Bool.eq_false_or_eq_true ((m2 && x2.2.1) && (decide (x2.2.2 = 0))) with hc6 | hc6
              ·
                refine s_val (wk1 hE rfl rfl rfl hc6) rfl rfl hE hp (v := (.bool x3.2)) (ex_move rfl hE rfl) ?_
                intro a hE
                refine s_val (wk0 rfl) rfl rfl hE hp (v := (.bool x3.2)) (ex_pick1 rfl hE rfl hc6 rfl) ?_
                intro a hE
                have hE := hE.eqv (v' := (.bool (((m2 && x2.2.1) && (decide (x2.2.2 = 0))) && x3.2))) (by rw [hc6]; rfl)
                exact s_nil ⟨hE.cut ⟨rfl, rfl, rfl, rfl, rfl, trivial⟩, hp⟩
              ·
                refine s_skip (wk2 hE rfl rfl rfl hc6) rfl rfl hE ?_
                intro a hE
                refine s_val (wk0 rfl) rfl rfl hE hp (v := (.bool false)) (ex_pick0 rfl hE rfl hc6 rfl) ?_
                intro a hE
                have hE := hE.eqv (v' := (.bool (((m2 && x2.2.1) && (decide (x2.2.2 = 0))) && x3.2))) (by rw [hc6]; rfl)
                exact s_nil ⟨hE.cut ⟨rfl, rfl, rfl, rfl, rfl, trivial⟩, hp⟩
            · rintro a w ⟨hE, hp⟩
              refine s_val (wk0 rfl) rfl rfl hE hp (v := (.bool (((m2 && x2.2.1) && (decide (x2.2.2 = 0))) && x3.2))) (ex_move rfl hE rfl) ?_
              intro a hE
              obtain ⟨m3, hg3, hm⟩ := bnd hm
              refine s_cut [_, _, _, _] (fun a w => Env 94 [(71, (.bool m3)), (1, (.pointer (some ⟨b3, 0, none⟩))), (8, (.pointer (some ⟨b6, 0, none⟩))), (9, (.int .i64 x4.2))] a ∧ Hp Z (ρ.un k1) (Pt b6 (.cells #[(.int .i64 x4.1.vars), vr8_clauses] 24 (0, 0)) :: TblA 25 3 vr8_clauses usr8_clauses (x4.1.clauses : (List (List Int))) :: OwnSl 3 (.slice (some ⟨b5, 0, none⟩) 3 3) ([3, (-2), 3] : List Int) :: OwnSl 3 vr6 x3.1 :: TblA 25 3 vr1_clauses usr1_clauses (x1.1.clauses : (List (List Int))) :: OwnSl 3 (.slice (some ⟨b4, 0, none⟩) 2 2) ([2, (-3)] : List Int) :: OwnSl 3 vr3 x2.1 :: Pt b3 (.cells #[(.int .i64 x1.1.vars), vr1_clauses] 24 (0, 0)) :: OwnSl 3 (.slice (some ⟨b2, 0, none⟩) 1 1) ([6] : List Int) :: L) w) ?_ ?_
              · rcases Bool.eq_false_or_eq_true (((m2 && x2.2.1) && (decide (x2.2.2 = 0))) && x3.2) with hc7 | hc7
                ·
                  replace hg3 := (it hc7).symm.trans hg3
                  refine s_val (wk1 hE rfl rfl rfl hc7) rfl rfl hE hp (v := vr6) (ex_move rfl hE rfl) ?_
                  intro a hE
                  refine s_lit (wk1 hE rfl rfl rfl hc7) rfl rfl hE hp rfl [(0, (.int .i64 (-2))), (1, (.int .i64 3))] ⟨⟨rfl, rfl⟩, ⟨rfl, rfl⟩, trivial⟩ [(.int .i64 (-2)), (.int .i64 3)] 3 (fun w => by simp [Instr.buildSlice, Instr.fill, Value.cells, go_sem]) ?_
                  intro a w b14 hE hp
                  have hp : Hp Z (ρ.un k1) (Pt b14 (.cells #[(.int .i64 (-2)), (.int .i64 3)] 3 (0, 0)) :: _ :: _ :: _ :: _ :: _ :: _ :: _ :: _ :: _ :: L) w := hp
                  have hp := (hp.get 0 rfl).imp (own_of_pt (l := (([(-2), 3] : List Int) : List Int)) (n := 2) rfl (by decide) rfl)
                  have hp : Hp Z (ρ.un k1) (OwnSl 3 (.slice (some ⟨b14, 0, none⟩) 2 2) ([(-2), 3] : List Int) :: _ :: _ :: _ :: _ :: _ :: _ :: _ :: _ :: _ :: L) w := hp
                  obtain ⟨k15, k15a, k15d, k15h⟩ := (hp.get 4 rfl).lend
                  obtain ⟨k16, k16a, k16d, k16h⟩ := (k15h.get 0 rfl).lend
                  obtain ⟨x7, ex7, hg3⟩ := bnd hg3
                  refine s_call (wk1 hE rfl rfl rfl hc7) rfl rfl hE rfl [vr6, (.slice (some ⟨b14, 0, none⟩) 2 2)] ⟨rfl, rfl, trivial⟩ ent14 (c_slices_Equal_int_int_ (Tabs.mono (Tabs.mono (Tabs.mono hT (PH.le_un _ k1)) (PH.le_un _ k15)) (PH.le_un _ k16)) x3.1 vr6 (RoSl.mono (OwnSl.ro k15d k15a) (PH.le_un _ _)) ([(-2), 3] : List Int) (.slice (some ⟨b14, 0, none⟩) 2 2) (OwnSl.ro k16d k16a) k16h x7 ex7) Ret.ret ?_
                  intro v a w hR hE
                  obtain ⟨rfl, hp⟩ := Ret.of hR
                  have hp := Hp.back k16a k16d hp
                  have hp := Hp.back k15a k15d hp
                  have hp : Hp Z (ρ.un k1) (_ :: _ :: _ :: _ :: _ :: _ :: _ :: _ :: _ :: _ :: L) w := hp
                  refine s_val (wk0 rfl) rfl rfl hE hp (v := (.bool x7)) (ex_pick1 rfl hE rfl hc7 rfl) ?_
                  intro a hE
                  obtain rfl := Option.some.inj hg3
                  exact s_nil ⟨hE.cut ⟨rfl, rfl, rfl, rfl, trivial⟩, (((((((((((hp.get 9 rfl).get 9 rfl).get 9 rfl).get 9 rfl).get 9 rfl).get 5 rfl).get 9 rfl).get 9 rfl).get 9 rfl).get 9 rfl).drop)⟩
                ·
                  replace hg3 := (ie hc7).symm.trans hg3
                  refine s_skip (wk2 hE rfl rfl rfl hc7) rfl rfl hE ?_
                  intro a hE
                  refine s_skip (wk2 hE rfl rfl rfl hc7) rfl rfl hE ?_
                  intro a hE
                  refine s_skip (wk2 hE rfl rfl rfl hc7) rfl rfl hE ?_
                  intro a hE
                  refine s_val (wk0 rfl) rfl rfl hE hp (v := (.bool false)) (ex_pick0 rfl hE rfl hc7 rfl) ?_
                  intro a hE
                  obtain rfl := Option.some.inj hg3
                  exact s_nil ⟨hE.cut ⟨rfl, rfl, rfl, rfl, trivial⟩, hp⟩
              · rintro a w ⟨hE, hp⟩
                refine s_val (wk0 rfl) rfl rfl hE hp (v := (.bool m3)) (ex_move rfl hE rfl) ?_
                intro a hE
                refine s_cut [_, _, _] (fun a w => Env 94 [(75, (.bool (m3 && (decide (x4.2 = 0))))), (1, (.pointer (some ⟨b3, 0, none⟩))), (8, (.pointer (some ⟨b6, 0, none⟩)))] a ∧ Hp Z (ρ.un k1) (Pt b6 (.cells #[(.int .i64 x4.1.vars), vr8_clauses] 24 (0, 0)) :: TblA 25 3 vr8_clauses usr8_clauses (x4.1.clauses : (List (List Int))) :: OwnSl 3 (.slice (some ⟨b5, 0, none⟩) 3 3) ([3, (-2), 3] : List Int) :: OwnSl 3 vr6 x3.1 :: TblA 25 3 vr1_clauses usr1_clauses (x1.1.clauses : (List (List Int))) :: OwnSl 3 (.slice (some ⟨b4, 0, none⟩) 2 2) ([2, (-3)] : List Int) :: OwnSl 3 vr3 x2.1 :: Pt b3 (.cells #[(.int .i64 x1.1.vars), vr1_clauses] 24 (0, 0)) :: OwnSl 3 (.slice (some ⟨b2, 0, none⟩) 1 1) ([6] : List Int) :: L) w) ?_ ?_
                · rcases Bool.eq_false_or_eq_true m3 with hc8 | hc8
                  ·
                    refine s_val (wk1 hE rfl rfl rfl hc8) rfl rfl hE hp (v := (.int .i64 x4.2)) (ex_move rfl hE rfl) ?_
                    intro a hE
                    refine s_val (wk1 hE rfl rfl rfl hc8) rfl rfl hE hp (v := (.bool (decide (x4.2 = 0)))) (ex_eql rfl hE rfl rfl) ?_
                    intro a hE
                    refine s_val (wk0 rfl) rfl rfl hE hp (v := (.bool (decide (x4.2 = 0)))) (ex_pick1 rfl hE rfl hc8 rfl) ?_
                    intro a hE
                    have hE := hE.eqv (v' := (.bool (m3 && (decide (x4.2 = 0))))) (by rw [hc8]; rfl)
                    exact s_nil ⟨hE.cut ⟨rfl, rfl, rfl, trivial⟩, hp⟩
                  ·
                    refine s_skip (wk2 hE rfl rfl rfl hc8) rfl rfl hE ?_
                    intro a hE
                    refine s_skip (wk2 hE rfl rfl rfl hc8) rfl rfl hE ?_
                    intro a hE
                    refine s_val (wk0 rfl) rfl rfl hE hp (v := (.bool false)) (ex_pick0 rfl hE rfl hc8 rfl) ?_
                    intro a hE
                    have hE := hE.eqv (v' := (.bool (m3 && (decide (x4.2 = 0))))) (by rw [hc8]; rfl)
                    exact s_nil ⟨hE.cut ⟨rfl, rfl, rfl, trivial⟩, hp⟩
                · rintro a w ⟨hE, hp⟩
                  refine s_val (wk0 rfl) rfl rfl hE hp (v := (.bool (m3 && (decide (x4.2 = 0))))) (ex_move rfl hE rfl) ?_
                  intro a hE
                  obtain ⟨m4, hg4, hm⟩ := bnd hm
                  refine s_cut [_, _, _, _] (fun a w => Env 94 [(80, (.bool m4)), (1, (.pointer (some ⟨b3, 0, none⟩)))] a ∧ Hp Z (ρ.un k1) (Pt b6 (.cells #[(.int .i64 x4.1.vars), vr8_clauses] 24 (0, 0)) :: TblA 25 3 vr8_clauses usr8_clauses (x4.1.clauses : (List (List Int))) :: OwnSl 3 (.slice (some ⟨b5, 0, none⟩) 3 3) ([3, (-2), 3] : List Int) :: OwnSl 3 vr6 x3.1 :: TblA 25 3 vr1_clauses usr1_clauses (x1.1.clauses : (List (List Int))) :: OwnSl 3 (.slice (some ⟨b4, 0, none⟩) 2 2) ([2, (-3)] : List Int) :: OwnSl 3 vr3 x2.1 :: Pt b3 (.cells #[(.int .i64 x1.1.vars), vr1_clauses] 24 (0, 0)) :: OwnSl 3 (.slice (some ⟨b2, 0, none⟩) 1 1) ([6] : List Int) :: L) w) ?_ ?_
                  · rcases Bool.eq_false_or_eq_true (m3 && (decide (x4.2 = 0))) with hc9 | hc9
                    ·
                      replace hg4 := (it hc9).symm.trans hg4
                      refine s_val (wk1 hE rfl rfl rfl hc9) rfl rfl hE hp (v := (.agg #[(.int .i64 x4.1.vars), vr8_clauses])) (ex_load rfl hE rfl (fun w hw => run_ldN (cs := [(.int .i64 x4.1.vars), vr8_clauses]) varty24 (Hp.cN 0 rfl 0 _ (sub_all rfl) w hw))) ?_
                      intro a hE
                      obtain ⟨k17, k17a, k17d, k17h⟩ := (hp.get 1 rfl).lend
                      obtain ⟨x8, ex8, hg4⟩ := bnd hg4
                      refine s_call (wk1 hE rfl rfl rfl hc9) rfl rfl hE rfl [(.agg #[(.int .i64 x4.1.vars), vr8_clauses])] ⟨rfl, trivial⟩ ent28 (c_cnf_Format (Tabs.mono (Tabs.mono hT (PH.le_un _ k1)) (PH.le_un _ k17)) x4.1 vr8_clauses (TblA.ro k17d k17a) k17h x8 ex8) Ret.ret ?_
                      intro v a w hR hE
                      obtain ⟨rfl, hp⟩ := Ret.of hR
                      have hp := Hp.back k17a k17d hp
                      have hp : Hp Z (ρ.un k1) (_ :: _ :: _ :: _ :: _ :: _ :: _ :: _ :: _ :: L) w := hp
                      refine s_val (wk1 hE rfl rfl rfl hc9) rfl rfl hE hp (v := (.bool (decide (x8 = (ByteArray.mk #[112, 32, 99, 110, 102, 32, 50, 32, 49, 10, 49, 32, 45, 50, 32, 48, 10]))))) (ex_seql rfl hE rfl rfl) ?_
                      intro a hE
                      refine s_val (wk0 rfl) rfl rfl hE hp (v := (.bool (decide (x8 = (ByteArray.mk #[112, 32, 99, 110, 102, 32, 50, 32, 49, 10, 49, 32, 45, 50, 32, 48, 10]))))) (ex_pick1 rfl hE rfl hc9 rfl) ?_
                      intro a hE
                      obtain rfl := Option.some.inj hg4
                      exact s_nil ⟨hE.cut ⟨rfl, rfl, trivial⟩, (((((((((hp.get 8 rfl).get 8 rfl).get 8 rfl).get 8 rfl).get 8 rfl).get 8 rfl).get 8 rfl).get 7 rfl).get 8 rfl)⟩
                    ·
                      replace hg4 := (ie hc9).symm.trans hg4
                      refine s_skip (wk2 hE rfl rfl rfl hc9) rfl rfl hE ?_
                      intro a hE
                      refine s_skip (wk2 hE rfl rfl rfl hc9) rfl rfl hE ?_
                      intro a hE
                      refine s_skip (wk2 hE rfl rfl rfl hc9) rfl rfl hE ?_
                      intro a hE
                      refine s_val (wk0 rfl) rfl rfl hE hp (v := (.bool false)) (ex_pick0 rfl hE rfl hc9 rfl) ?_
                      intro a hE
                      obtain rfl := Option.some.inj hg4
                      exact s_nil ⟨hE.cut ⟨rfl, rfl, trivial⟩, hp⟩
                  · rintro a w ⟨hE, hp⟩
                    refine s_val (wk0 rfl) rfl rfl hE hp (v := (.bool m4)) (ex_move rfl hE rfl) ?_
                    intro a hE
                    obtain ⟨m5, hg5, hm⟩ := bnd hm
                    refine s_cut [_, _, _] (fun a w => Env 94 [(84, (.bool m5)), (1, (.pointer (some ⟨b3, 0, none⟩)))] a ∧ Hp Z (ρ.un k1) (Pt b6 (.cells #[(.int .i64 x4.1.vars), vr8_clauses] 24 (0, 0)) :: TblA 25 3 vr8_clauses usr8_clauses (x4.1.clauses : (List (List Int))) :: OwnSl 3 (.slice (some ⟨b5, 0, none⟩) 3 3) ([3, (-2), 3] : List Int) :: OwnSl 3 vr6 x3.1 :: TblA 25 3 vr1_clauses usr1_clauses (x1.1.clauses : (List (List Int))) :: OwnSl 3 (.slice (some ⟨b4, 0, none⟩) 2 2) ([2, (-3)] : List Int) :: OwnSl 3 vr3 x2.1 :: Pt b3 (.cells #[(.int .i64 x1.1.vars), vr1_clauses] 24 (0, 0)) :: OwnSl 3 (.slice (some ⟨b2, 0, none⟩) 1 1) ([6] : List Int) :: L) w) ?_ ?_
                    · rcases Bool.eq_false_or_eq_true m4 with hc10 | hc10
                      ·
                        replace hg5 := (it hc10).symm.trans hg5
                        refine s_val (wk1 hE rfl rfl rfl hc10) rfl rfl hE hp (v := (.agg #[(.int .i64 x1.1.vars), vr1_clauses])) (ex_load rfl hE rfl (fun w hw => run_ldN (cs := [(.int .i64 x1.1.vars), vr1_clauses]) varty24 (Hp.cN 7 rfl 0 _ (sub_all rfl) w hw))) ?_
                        intro a hE
                        obtain ⟨k18, k18a, k18d, k18h⟩ := (hp.get 4 rfl).lend
                        obtain ⟨x9, ex9, hg5⟩ := bnd hg5
                        refine s_call (wk1 hE rfl rfl rfl hc10) rfl rfl hE rfl [(.agg #[(.int .i64 x1.1.vars), vr1_clauses])] ⟨rfl, trivial⟩ ent15 (c_cnf_Valid (Tabs.mono (Tabs.mono hT (PH.le_un _ k1)) (PH.le_un _ k18)) x1.1 vr1_clauses (TblA.ro k18d k18a) k18h x9 ex9) Ret.ret ?_
                        intro v a w hR hE
                        obtain ⟨rfl, hp⟩ := Ret.of hR
                        have hp := Hp.back k18a k18d hp
                        have hp : Hp Z (ρ.un k1) (_ :: _ :: _ :: _ :: _ :: _ :: _ :: _ :: _ :: L) w := hp
                        refine s_val (wk0 rfl) rfl rfl hE hp (v := (.bool x9)) (ex_pick1 rfl hE rfl hc10 rfl) ?_
                        intro a hE
                        obtain rfl := Option.some.inj hg5
                        exact s_nil ⟨hE.cut ⟨rfl, rfl, trivial⟩, (((((((((hp.get 8 rfl).get 8 rfl).get 8 rfl).get 8 rfl).get 4 rfl).get 8 rfl).get 8 rfl).get 8 rfl).get 8 rfl)⟩
                      ·
                        replace hg5 := (ie hc10).symm.trans hg5
                        refine s_skip (wk2 hE rfl rfl rfl hc10) rfl rfl hE ?_
                        intro a hE
                        refine s_skip (wk2 hE rfl rfl rfl hc10) rfl rfl hE ?_
                        intro a hE
                        refine s_val (wk0 rfl) rfl rfl hE hp (v := (.bool false)) (ex_pick0 rfl hE rfl hc10 rfl) ?_
                        intro a hE
                        obtain rfl := Option.some.inj hg5
                        exact s_nil ⟨hE.cut ⟨rfl, rfl, trivial⟩, hp⟩
                    · rintro a w ⟨hE, hp⟩
                      refine s_val (wk0 rfl) rfl rfl hE hp (v := (.bool m5)) (ex_move rfl hE rfl) ?_
                      intro a hE
                      obtain ⟨m6, hg6, hm⟩ := bnd hm
                      refine s_cut [_, _, _, _] (fun a w => Env 94 [(89, (.bool m6))] a ∧ Hp Z (ρ.un k1) (Pt b6 (.cells #[(.int .i64 x4.1.vars), vr8_clauses] 24 (0, 0)) :: TblA 25 3 vr8_clauses usr8_clauses (x4.1.clauses : (List (List Int))) :: OwnSl 3 (.slice (some ⟨b5, 0, none⟩) 3 3) ([3, (-2), 3] : List Int) :: OwnSl 3 vr6 x3.1 :: TblA 25 3 vr1_clauses usr1_clauses (x1.1.clauses : (List (List Int))) :: OwnSl 3 (.slice (some ⟨b4, 0, none⟩) 2 2) ([2, (-3)] : List Int) :: OwnSl 3 vr3 x2.1 :: Pt b3 (.cells #[(.int .i64 x1.1.vars), vr1_clauses] 24 (0, 0)) :: OwnSl 3 (.slice (some ⟨b2, 0, none⟩) 1 1) ([6] : List Int) :: L) w) ?_ ?_
                      · rcases Bool.eq_false_or_eq_true m5 with hc11 | hc11
                        ·
                          replace hg6 := (it hc11).symm.trans hg6
                          refine s_val (wk1 hE rfl rfl rfl hc11) rfl rfl hE hp (v := (.agg #[(.int .i64 x1.1.vars), vr1_clauses])) (ex_load rfl hE rfl (fun w hw => run_ldN (cs := [(.int .i64 x1.1.vars), vr1_clauses]) varty24 (Hp.cN 7 rfl 0 _ (sub_all rfl) w hw))) ?_
                          intro a hE
                          refine s_lit (wk1 hE rfl rfl rfl hc11) rfl rfl hE hp rfl [(0, (.int .i64 (-1))), (1, (.int .i64 2)), (2, (.int .i64 (-3))), (3, (.int .i64 4))] ⟨⟨rfl, rfl⟩, ⟨rfl, rfl⟩, ⟨rfl, rfl⟩, ⟨rfl, rfl⟩, trivial⟩ [(.int .i64 (-1)), (.int .i64 2), (.int .i64 (-3)), (.int .i64 4)] 3 (fun w => by simp [Instr.buildSlice, Instr.fill, Value.cells, go_sem]) ?_
                          intro a w b15 hE hp
                          have hp : Hp Z (ρ.un k1) (Pt b15 (.cells #[(.int .i64 (-1)), (.int .i64 2), (.int .i64 (-3)), (.int .i64 4)] 3 (0, 0)) :: _ :: _ :: _ :: _ :: _ :: _ :: _ :: _ :: _ :: L) w := hp
                          have hp := (hp.get 0 rfl).imp (own_of_pt (l := (([(-1), 2, (-3), 4] : List Int) : List Int)) (n := 4) rfl (by decide) rfl)
                          have hp : Hp Z (ρ.un k1) (OwnSl 3 (.slice (some ⟨b15, 0, none⟩) 4 4) ([(-1), 2, (-3), 4] : List Int) :: _ :: _ :: _ :: _ :: _ :: _ :: _ :: _ :: _ :: L) w := hp
                          obtain ⟨k19, k19a, k19d, k19h⟩ := (hp.get 5 rfl).lend
                          obtain ⟨k20, k20a, k20d, k20h⟩ := (k19h.get 0 rfl).lend
                          obtain ⟨x10, ex10, hg6⟩ := bnd hg6
                          refine s_call (wk1 hE rfl rfl rfl hc11) rfl rfl hE rfl [(.agg #[(.int .i64 x1.1.vars), vr1_clauses]), (.slice (some ⟨b15, 0, none⟩) 4 4)] ⟨rfl, rfl, trivial⟩ ent17 (c_cnf_Holds (Tabs.mono (Tabs.mono (Tabs.mono hT (PH.le_un _ k1)) (PH.le_un _ k19)) (PH.le_un _ k20)) x1.1 vr1_clauses (RoSl.mono (TblA.ro k19d k19a) (PH.le_un _ _)) ([(-1), 2, (-3), 4] : List Int) (.slice (some ⟨b15, 0, none⟩) 4 4) (OwnSl.ro k20d k20a) k20h x10 ex10) Ret.ret ?_
                          intro v a w hR hE
                          obtain ⟨rfl, hp⟩ := Ret.of hR
                          have hp := Hp.back k20a k20d hp
                          have hp := Hp.back k19a k19d hp
                          have hp : Hp Z (ρ.un k1) (_ :: _ :: _ :: _ :: _ :: _ :: _ :: _ :: _ :: _ :: L) w := hp
                          refine s_val (wk0 rfl) rfl rfl hE hp (v := (.bool x10)) (ex_pick1 rfl hE rfl hc11 rfl) ?_
                          intro a hE
                          obtain rfl := Option.some.inj hg6
                          exact s_nil ⟨hE.cut ⟨rfl, trivial⟩, (((((((((((hp.get 9 rfl).get 9 rfl).get 9 rfl).get 9 rfl).get 4 rfl).get 9 rfl).get 9 rfl).get 9 rfl).get 9 rfl).get 9 rfl).drop)⟩
                        ·
                          replace hg6 := (ie hc11).symm.trans hg6
                          refine s_skip (wk2 hE rfl rfl rfl hc11) rfl rfl hE ?_
                          intro a hE
                          refine s_skip (wk2 hE rfl rfl rfl hc11) rfl rfl hE ?_
                          intro a hE
                          refine s_skip (wk2 hE rfl rfl rfl hc11) rfl rfl hE ?_
                          intro a hE
                          refine s_val (wk0 rfl) rfl rfl hE hp (v := (.bool false)) (ex_pick0 rfl hE rfl hc11 rfl) ?_
                          intro a hE
                          obtain rfl := Option.some.inj hg6
                          exact s_nil ⟨hE.cut ⟨rfl, trivial⟩, hp⟩
                      · rintro a w ⟨hE, hp⟩
                        refine s_val (wk0 rfl) rfl rfl hE hp (v := (.bool m6)) (ex_move rfl hE rfl) ?_
                        intro a hE
                        obtain ⟨m7, hg7, hm⟩ := bnd hm
                        refine s_cut [_, _, _] (fun a w => Env 94 [(93, (.bool m7))] a ∧ Hp Z (ρ.un k1) (Pt b6 (.cells #[(.int .i64 x4.1.vars), vr8_clauses] 24 (0, 0)) :: TblA 25 3 vr8_clauses usr8_clauses (x4.1.clauses : (List (List Int))) :: OwnSl 3 (.slice (some ⟨b5, 0, none⟩) 3 3) ([3, (-2), 3] : List Int) :: OwnSl 3 vr6 x3.1 :: TblA 25 3 vr1_clauses usr1_clauses (x1.1.clauses : (List (List Int))) :: OwnSl 3 (.slice (some ⟨b4, 0, none⟩) 2 2) ([2, (-3)] : List Int) :: OwnSl 3 vr3 x2.1 :: Pt b3 (.cells #[(.int .i64 x1.1.vars), vr1_clauses] 24 (0, 0)) :: OwnSl 3 (.slice (some ⟨b2, 0, none⟩) 1 1) ([6] : List Int) :: L) w) ?_ ?_
                        · rcases Bool.eq_false_or_eq_true m6 with hc12 | hc12
                          ·
                            replace hg7 := (it hc12).symm.trans hg7
                            obtain ⟨x11, ex11, hg7⟩ := bnd hg7
                            refine s_call (wk1 hE rfl rfl rfl hc12) rfl rfl hE rfl [(.int .i64 5)] ⟨rfl, trivial⟩ ent19 (c_cnf_Literal (Tabs.mono hT (PH.le_un _ k1)) 5 hp x11 ex11) Ret.ret ?_
                            intro v a w hR hE
                            obtain ⟨rfl, hp⟩ := Ret.of hR
                            have hp : Hp Z (ρ.un k1) (_ :: _ :: _ :: _ :: _ :: _ :: _ :: _ :: _ :: L) w := hp
                            refine s_val (wk1 hE rfl rfl rfl hc12) rfl rfl hE hp (v := (.bool (decide (x11 = (-3))))) (ex_eql rfl hE rfl rfl) ?_
                            intro a hE
                            refine s_val (wk0 rfl) rfl rfl hE hp (v := (.bool (decide (x11 = (-3))))) (ex_pick1 rfl hE rfl hc12 rfl) ?_
                            intro a hE
                            obtain rfl := Option.some.inj hg7
                            exact s_nil ⟨hE.cut ⟨rfl, trivial⟩, hp⟩
                          ·
                            replace hg7 := (ie hc12).symm.trans hg7
                            refine s_skip (wk2 hE rfl rfl rfl hc12) rfl rfl hE ?_
                            intro a hE
                            refine s_skip (wk2 hE rfl rfl rfl hc12) rfl rfl hE ?_
                            intro a hE
                            refine s_val (wk0 rfl) rfl rfl hE hp (v := (.bool false)) (ex_pick0 rfl hE rfl hc12 rfl) ?_
                            intro a hE
                            obtain rfl := Option.some.inj hg7
                            exact s_nil ⟨hE.cut ⟨rfl, trivial⟩, hp⟩
                        · rintro a w ⟨hE, hp⟩
                          refine s_val (wk0 rfl) rfl rfl hE hp (v := (.bool m7)) (ex_asn rfl hE rfl) ?_
                          intro a hE
                          refine s_nil ?_
                          refine k_ret ?_
                          obtain rfl := Option.some.inj hm
                          exact ret1 hE rfl rfl ⟨_, rfl, rfl, ((((((((((((((((((hp.get 8 rfl).drop).get 7 rfl).drop).get 6 rfl).drop).get 5 rfl).drop).get 4 rfl).drop).get 3 rfl).drop).get 2 rfl).drop).get 1 rfl).drop).drop).less (PH.le_un _ k1))⟩
end Go.Proofs.YtelioaepnpnojaaGreatDoor

/- The code goes as its model: assessor/assessorlaw26.CnfTexts. (Printed by wip/sp/gen.py.) -/
set_option linter.unusedVariables false
set_option linter.unusedSimpArgs false
namespace Go.Proofs.YtelioaepnpnojaaGreatDoor
open Go.RowKit
set_option maxRecDepth 100000 in
set_option maxHeartbeats 4000000 in
theorem c_assessorlaw26_CnfTexts {Z : World} {ρ : PH} {L : List Atom} {w : World} (hT : Tabs ρ) (p0 : Formula) (vp0_clauses : Value) (hp0_clauses : RoSl ρ vp0_clauses p0.clauses) (p1 : ByteArray) (hp : Hp Z ρ (L) w) (r : Bool) (hm : m_assessorlaw26_CnfTexts p0 p1 = some r) :
    Calls Tryz.prog 6 #[(.agg #[(.int .i64 p0.vars), vp0_clauses]), (.string p1)] w (Ret fun v w' => v = (.bool r) ∧ Hp Z ρ (L) w') := by
  refine enter (N := 52) Tryz.func6 rfl rfl [(0, (.agg #[(.int .i64 p0.vars), vp0_clauses])), (1, (.string p1))] rfl (argsIn_mem ⟨rfl, rfl, trivial⟩) fun a hE => ?_
  unfold m_assessorlaw26_CnfTexts at hm
  refine k_seq ?_
  refine k_region ?_
  refine s_box (wk0 rfl) rfl rfl hE hp rfl (v := (.agg #[(.int .i64 p0.vars), vp0_clauses])) rfl ?_
  intro a w b1 hE hp
  have hp : Hp Z ρ (Pt b1 (.cells #[(.int .i64 p0.vars), vp0_clauses] 24 (0, 0)) :: L) w := hp
  refine s_val (wk0 rfl) rfl rfl hE hp (v := (.bool false)) (ex_asn rfl hE rfl) ?_
  intro a hE
  refine s_nil ?_
  refine k_seq ?_
  refine k_seq ?_
  refine k_region ?_
  obtain ⟨x1, ex1, hm⟩ := bnd hm
  refine s_call (wk0 rfl) rfl rfl hE rfl [] trivial ent10 (c_assessorlaw26_awake hT hp x1 ex1) Ret.ret ?_
  intro v a w hR hE
  obtain ⟨rfl, hp⟩ := Ret.of hR
  have hp : Hp Z ρ (_ :: L) w := hp
  refine s_val (wk0 rfl) rfl rfl hE hp (v := (.bool (!x1))) (ex_not rfl hE rfl) ?_
  intro a hE
  refine s_nil ?_
  refine k_if hE rfl (fun hc1 => ?_) (fun hc1 => ?_)
  · replace hm := (it hc1).symm.trans hm
    refine k_seq ?_
    refine k_region ?_
    refine s_val (wk0 rfl) rfl rfl hE hp (v := (.bool false)) (ex_asn rfl hE rfl) ?_
    intro a hE
    refine s_nil ?_
    refine k_ret ?_
    obtain rfl := Option.some.inj hm
    exact ret1 hE rfl rfl ⟨_, rfl, rfl, (hp.drop)⟩
  · replace hm := (ie hc1).symm.trans hm
    refine k_skip ?_
    refine k_seq ?_
    refine k_seq ?_
    refine k_region ?_
    refine s_val (wk0 rfl) rfl rfl hE hp (v := (.pointer (some ⟨b1, 1, none⟩))) (ex_field rfl hE rfl (fldty24_1 _ _)) ?_
    intro a hE
    refine s_val (wk0 rfl) rfl rfl hE hp (v := vp0_clauses) (ex_load rfl hE rfl (fun w hw => run_ld1 varty22 (Hp.c 0 rfl 1 rfl w hw))) ?_
    intro a hE
    refine s_val (wk0 rfl) rfl rfl hE hp (v := (.int .i64 (p0.clauses.length : Int))) (ex_len rfl hE rfl (RoSl.len hp0_clauses slty22)) ?_
    intro a hE
    refine s_val (wk0 rfl) rfl rfl hE hp (v := (.bool (decide (40 < (p0.clauses.length : Int))))) (ex_gtr rfl hE rfl rfl) ?_
    intro a hE
    refine s_val (wk0 rfl) rfl rfl hE hp (v := (.bool (decide (40 < (p0.clauses.length : Int))))) (ex_move rfl hE rfl) ?_
    intro a hE
    obtain ⟨m1, hg1, hm⟩ := bnd hm
    refine s_cut [_, _, _, _, _, _] (fun a w => Env 52 [(21, (.bool m1)), (1, (.string p1)), (2, (.pointer (some ⟨b1, 0, none⟩)))] a ∧ Hp Z ρ (Pt b1 (.cells #[(.int .i64 p0.vars), vp0_clauses] 24 (0, 0)) :: L) w) ?_ ?_
    · rcases Bool.eq_false_or_eq_true (decide (40 < (p0.clauses.length : Int))) with hc2 | hc2
      ·
        replace hg1 := (it hc2).symm.trans hg1
        refine s_skip (wk2 hE rfl rfl rfl hc2) rfl rfl hE ?_
        intro a hE
        refine s_skip (wk2 hE rfl rfl rfl hc2) rfl rfl hE ?_
        intro a hE
        refine s_skip (wk2 hE rfl rfl rfl hc2) rfl rfl hE ?_
        intro a hE
        refine s_skip (wk2 hE rfl rfl rfl hc2) rfl rfl hE ?_
        intro a hE
        refine s_skip (wk2 hE rfl rfl rfl hc2) rfl rfl hE ?_
        intro a hE
        refine s_val (wk0 rfl) rfl rfl hE hp (v := (.bool true)) (ex_pick1 rfl hE rfl hc2 rfl) ?_
        intro a hE
        obtain rfl := Option.some.inj hg1
        exact s_nil ⟨hE.cut ⟨rfl, rfl, rfl, trivial⟩, hp⟩
      ·
        replace hg1 := (ie hc2).symm.trans hg1
        refine s_val (wk1 hE rfl rfl rfl hc2) rfl rfl hE hp (v := (.pointer (some ⟨b1, 1, none⟩))) (ex_field rfl hE rfl (fldty24_1 _ _)) ?_
        intro a hE
        refine s_val (wk1 hE rfl rfl rfl hc2) rfl rfl hE hp (v := vp0_clauses) (ex_load rfl hE rfl (fun w hw => run_ld1 varty22 (Hp.c 0 rfl 1 rfl w hw))) ?_
        intro a hE
        refine s_val (wk1 hE rfl rfl rfl hc2) rfl rfl hE hp (v := (.agg #[(.int .i64 0), vp0_clauses])) (ex_bld rfl hE [(1, vp0_clauses)] (by exact ⟨⟨rfl, rfl⟩, trivial⟩) (fun w => by have hc0 := RoSl.cells hp0_clauses; simp only [Value.cells] at hc0; simp [Instr.build, Instr.fill, Value.cells, hc0, go_sem])) ?_
        intro a hE
        obtain ⟨x2, ex2, hg1⟩ := bnd hg1
        refine s_call (wk1 hE rfl rfl rfl hc2) rfl rfl hE rfl [(.agg #[(.int .i64 0), vp0_clauses]), (.int .i64 0), (.int .i64 40)] ⟨rfl, rfl, rfl, trivial⟩ ent11 (c_assessorref26_Small hT (Formula.mk 0 p0.clauses) vp0_clauses hp0_clauses 0 40 hp x2 ex2) Ret.ret ?_
        intro v a w hR hE
        obtain ⟨rfl, hp⟩ := Ret.of hR
        have hp : Hp Z ρ (_ :: L) w := hp
        refine s_val (wk1 hE rfl rfl rfl hc2) rfl rfl hE hp (v := (.bool (!x2))) (ex_not rfl hE rfl) ?_
        intro a hE
        refine s_val (wk0 rfl) rfl rfl hE hp (v := (.bool (!x2))) (ex_pick0 rfl hE rfl hc2 rfl) ?_
        intro a hE
        obtain rfl := Option.some.inj hg1
        exact s_nil ⟨hE.cut ⟨rfl, rfl, rfl, trivial⟩, hp⟩
    · rintro a w ⟨hE, hp⟩
      refine s_val (wk0 rfl) rfl rfl hE hp (v := (.bool m1)) (ex_move rfl hE rfl) ?_
      intro a hE
      refine s_cut [_, _, _, _] (fun a w => Env 52 [(26, (.bool (m1 || (decide (400 < (p1.size : Int)))))), (1, (.string p1)), (2, (.pointer (some ⟨b1, 0, none⟩)))] a ∧ Hp Z ρ (Pt b1 (.cells #[(.int .i64 p0.vars), vp0_clauses] 24 (0, 0)) :: L) w) ?_ ?_
      · rcases Bool.eq_false_or_eq_true m1 with hc3 | hc3
        ·
          refine s_skip (wk2 hE rfl rfl rfl hc3) rfl rfl hE ?_
          intro a hE
          refine s_skip (wk2 hE rfl rfl rfl hc3) rfl rfl hE ?_
          intro a hE
          refine s_skip (wk2 hE rfl rfl rfl hc3) rfl rfl hE ?_
          intro a hE
          refine s_val (wk0 rfl) rfl rfl hE hp (v := (.bool true)) (ex_pick1 rfl hE rfl hc3 rfl) ?_
          intro a hE
          have hE := hE.eqv (v' := (.bool (m1 || (decide (400 < (p1.size : Int)))))) (by rw [hc3]; rfl)
          exact s_nil ⟨hE.cut ⟨rfl, rfl, rfl, trivial⟩, hp⟩
        ·
          refine s_val (wk1 hE rfl rfl rfl hc3) rfl rfl hE hp (v := (.string p1)) (ex_move rfl hE rfl) ?_
          intro a hE
          refine s_val (wk1 hE rfl rfl rfl hc3) rfl rfl hE hp (v := (.int .i64 (p1.size : Int))) (ex_slen sty9 rfl hE rfl) ?_
          intro a hE
          refine s_val (wk1 hE rfl rfl rfl hc3) rfl rfl hE hp (v := (.bool (decide (400 < (p1.size : Int))))) (ex_gtr rfl hE rfl rfl) ?_
          intro a hE
          refine s_val (wk0 rfl) rfl rfl hE hp (v := (.bool (decide (400 < (p1.size : Int))))) (ex_pick0 rfl hE rfl hc3 rfl) ?_
          intro a hE
          have hE := hE.eqv (v' := (.bool (m1 || (decide (400 < (p1.size : Int)))))) (by rw [hc3]; rfl)
          exact s_nil ⟨hE.cut ⟨rfl, rfl, rfl, trivial⟩, hp⟩
      · rintro a w ⟨hE, hp⟩
        refine s_nil ?_
        refine k_if hE rfl (fun hc4 => ?_) (fun hc4 => ?_)
        · replace hm := (it hc4).symm.trans hm
          refine k_seq ?_
          refine k_region ?_
          refine s_val (wk0 rfl) rfl rfl hE hp (v := (.bool true)) (ex_asn rfl hE rfl) ?_
          intro a hE
          refine s_nil ?_
          refine k_ret ?_
          obtain rfl := Option.some.inj hm
          exact ret1 hE rfl rfl ⟨_, rfl, rfl, (hp.drop)⟩
        · replace hm := (ie hc4).symm.trans hm
          refine k_skip ?_
          refine k_seq ?_
          refine k_region ?_
          refine s_val (wk0 rfl) rfl rfl hE hp (v := (.string p1)) (ex_move rfl hE rfl) ?_
          intro a hE
          obtain ⟨x3, ex3, hm⟩ := bnd hm
          refine s_call (wk0 rfl) rfl rfl hE rfl [(.string p1)] ⟨rfl, trivial⟩ ent26 (c_cnf_Parse hT p1 hp x3 ex3) Ret.ret ?_
          intro v a w hR hE
          obtain ⟨vr3_clauses, usr3_clauses, rfl, hp⟩ := Ret.of hR
          have hp : Hp Z ρ (TblA 25 3 vr3_clauses usr3_clauses (x3.1.clauses : (List (List Int))) :: _ :: L) w := hp
          refine s_val (wk0 rfl) rfl rfl hE hp (v := (.tuple #[(.agg #[(.int .i64 x3.1.vars), vr3_clauses]), (.int .i64 x3.2)])) (ex_move rfl hE rfl) ?_
          intro a hE
          refine s_val (wk0 rfl) rfl rfl hE hp (v := (.agg #[(.int .i64 x3.1.vars), vr3_clauses])) (ex_extract rfl hE rfl rfl) ?_
          intro a hE
          refine s_val (wk0 rfl) rfl rfl hE hp (v := (.int .i64 x3.2)) (ex_extract rfl hE rfl rfl) ?_
          intro a hE
          refine s_new (wk0 rfl) rfl rfl hE hp rfl [(.int .i64 0), (.slice none 0 0)] (fun w => by simp [Instr.alloc, go_sem] <;> rfl) ?_
          intro a w b2 hE hp
          have hp : Hp Z ρ (Pt b2 (.cells #[(.int .i64 0), (.slice none 0 0)] 24 (0, 0)) :: _ :: _ :: L) w := hp
          refine s_store (wk0 rfl) rfl hE hp rfl rfl rfl 0 rfl varty24.size_ rfl (allOne_mem ⟨rfl, (TblA.one hp 1 rfl), trivial⟩) [(.int .i64 x3.1.vars), vr3_clauses] rfl ?_
          intro w hp
          have hp : Hp Z ρ (Pt b2 (.cells #[(.int .i64 x3.1.vars), vr3_clauses] 24 (0, 0)) :: _ :: _ :: L) w := hp
          refine s_val (wk0 rfl) rfl rfl hE hp (v := (.int .i64 x3.2)) (ex_asn rfl hE rfl) ?_
          intro a hE
          refine s_nil ?_
          refine k_seq ?_
          refine k_region ?_
          refine s_val (wk0 rfl) rfl rfl hE hp (v := (.string p1)) (ex_move rfl hE rfl) ?_
          intro a hE
          obtain ⟨x4, ex4, hm⟩ := bnd hm
          refine s_call (wk0 rfl) rfl rfl hE rfl [(.string p1)] ⟨rfl, trivial⟩ ent27 (c_assessorref26_Parse hT p1 hp x4 ex4) Ret.ret ?_
          intro v a w hR hE
          obtain ⟨vr5_clauses, usr5_clauses, rfl, hp⟩ := Ret.of hR
          have hp : Hp Z ρ (TblA 25 3 vr5_clauses usr5_clauses (x4.1.clauses : (List (List Int))) :: _ :: _ :: _ :: L) w := hp
          refine s_val (wk0 rfl) rfl rfl hE hp (v := (.tuple #[(.agg #[(.int .i64 x4.1.vars), vr5_clauses]), (.int .i64 x4.2)])) (ex_move rfl hE rfl) ?_
          intro a hE
          refine s_val (wk0 rfl) rfl rfl hE hp (v := (.agg #[(.int .i64 x4.1.vars), vr5_clauses])) (ex_extract rfl hE rfl rfl) ?_
          intro a hE
          refine s_val (wk0 rfl) rfl rfl hE hp (v := (.int .i64 x4.2)) (ex_extract rfl hE rfl rfl) ?_
          intro a hE
          refine s_new (wk0 rfl) rfl rfl hE hp rfl [(.int .i64 0), (.slice none 0 0)] (fun w => by simp [Instr.alloc, go_sem] <;> rfl) ?_
          intro a w b3 hE hp
          have hp : Hp Z ρ (Pt b3 (.cells #[(.int .i64 0), (.slice none 0 0)] 24 (0, 0)) :: _ :: _ :: _ :: _ :: L) w := hp
          refine s_store (wk0 rfl) rfl hE hp rfl rfl rfl 0 rfl varty24.size_ rfl (allOne_mem ⟨rfl, (TblA.one hp 1 rfl), trivial⟩) [(.int .i64 x4.1.vars), vr5_clauses] rfl ?_
          intro w hp
          have hp : Hp Z ρ (Pt b3 (.cells #[(.int .i64 x4.1.vars), vr5_clauses] 24 (0, 0)) :: _ :: _ :: _ :: _ :: L) w := hp
          refine s_val (wk0 rfl) rfl rfl hE hp (v := (.int .i64 x4.2)) (ex_asn rfl hE rfl) ?_
          intro a hE
          refine s_nil ?_
          refine k_seq ?_
          obtain ⟨k1, k1a, k1d, hp⟩ := (hp.get 3 rfl).lend
          have f1 : RoSl (ρ.un k1) vr3_clauses (x3.1.clauses : (List (List Int))) := TblA.ro k1d k1a
          have hp : Hp Z (ρ.un k1) (_ :: _ :: _ :: _ :: L) w := hp
          obtain ⟨k2, k2a, k2d, hp⟩ := (hp.get 1 rfl).lend
          have f2 : RoSl ((ρ.un k1).un k2) vr5_clauses (x4.1.clauses : (List (List Int))) := TblA.ro k2d k2a
          have hp : Hp Z ((ρ.un k1).un k2) (_ :: _ :: _ :: L) w := hp
          refine k_quiet (by kernel_rfl) (by kernel_rfl) hp ?_
          refine q_val (wk0 rfl) rfl rfl hE (v := (.agg #[(.int .i64 p0.vars), vp0_clauses])) (ex_load rfl hE rfl (fun w hw => run_ldN (cs := [(.int .i64 p0.vars), vp0_clauses]) varty24 (Hp.cN 2 rfl 0 _ (sub_all rfl) w hw))) ?_
          intro a hE
          obtain ⟨x5, ex5, hm⟩ := bnd hm
          refine q_call (wk0 rfl) rfl rfl hE rfl [(.agg #[(.int .i64 p0.vars), vp0_clauses])] ⟨rfl, trivial⟩ ent28 (v := (.string x5)) (fun w hw => Calls.mono (c_cnf_Format (Tabs.mono (Tabs.mono hT (PH.le_un _ k1)) (PH.le_un _ k2)) p0 vp0_clauses (RoSl.mono (RoSl.mono hp0_clauses (PH.le_un _ k1)) (PH.le_un _ k2)) hw x5 ex5) fun e w' ⟨v, he, hv, hh⟩ => ⟨by rw [he, hv], hh⟩) ?_
          intro a hE
          refine q_val (wk0 rfl) rfl rfl hE (v := (.agg #[(.int .i64 p0.vars), vp0_clauses])) (ex_load rfl hE rfl (fun w hw => run_ldN (cs := [(.int .i64 p0.vars), vp0_clauses]) varty24 (Hp.cN 2 rfl 0 _ (sub_all rfl) w hw))) ?_
          intro a hE
          obtain ⟨x6, ex6, hm⟩ := bnd hm
          refine q_call (wk0 rfl) rfl rfl hE rfl [(.agg #[(.int .i64 p0.vars), vp0_clauses])] ⟨rfl, trivial⟩ ent29 (v := (.string x6)) (fun w hw => Calls.mono (c_assessorref26_Format (Tabs.mono (Tabs.mono hT (PH.le_un _ k1)) (PH.le_un _ k2)) p0 vp0_clauses (RoSl.mono (RoSl.mono hp0_clauses (PH.le_un _ k1)) (PH.le_un _ k2)) hw x6 ex6) fun e w' ⟨v, he, hv, hh⟩ => ⟨by rw [he, hv], hh⟩) ?_
          intro a hE
          refine q_val (wk0 rfl) rfl rfl hE (v := (.bool (decide (x5 = x6)))) (ex_seql rfl hE rfl rfl) ?_
          intro a hE
          refine q_val (wk0 rfl) rfl rfl hE (v := (.bool (decide (x5 = x6)))) (ex_move rfl hE rfl) ?_
          intro a hE
          obtain ⟨m2, hg2, hm⟩ := bnd hm
          refine q_cut [_, _, _, _] (fun a => Env 52 [(46, (.bool m2)), (6, (.int .i64 x3.2)), (8, (.int .i64 x4.2))] a) ?_ ?_
          · rcases Bool.eq_false_or_eq_true (decide (x5 = x6)) with hc5 | hc5
            ·
              replace hg2 := (it hc5).symm.trans hg2
              refine q_val (wk1 hE rfl rfl rfl hc5) rfl rfl hE (v := (.agg #[(.int .i64 x3.1.vars), vr3_clauses])) (ex_load rfl hE rfl (fun w hw => run_ldN (cs := [(.int .i64 x3.1.vars), vr3_clauses]) varty24 (Hp.cN 1 rfl 0 _ (sub_all rfl) w hw))) ?_
              intro a hE
              refine q_val (wk1 hE rfl rfl rfl hc5) rfl rfl hE (v := (.agg #[(.int .i64 x4.1.vars), vr5_clauses])) (ex_load rfl hE rfl (fun w hw => run_ldN (cs := [(.int .i64 x4.1.vars), vr5_clauses]) varty24 (Hp.cN 0 rfl 0 _ (sub_all rfl) w hw))) ?_
              intro a hE
              obtain ⟨x7, ex7, hg2⟩ := bnd hg2
              refine q_call (wk1 hE rfl rfl rfl hc5) rfl rfl hE rfl [(.agg #[(.int .i64 x3.1.vars), vr3_clauses]), (.agg #[(.int .i64 x4.1.vars), vr5_clauses])] ⟨rfl, rfl, trivial⟩ ent23 (v := (.bool x7)) (fun w hw => Calls.mono (c_assessorref26_Same (Tabs.mono (Tabs.mono hT (PH.le_un _ k1)) (PH.le_un _ k2)) x3.1 vr3_clauses (RoSl.mono f1 (PH.le_un _ k2)) x4.1 vr5_clauses f2 hw x7 ex7) fun e w' ⟨v, he, hv, hh⟩ => ⟨by rw [he, hv], hh⟩) ?_
              intro a hE
              refine q_val (wk0 rfl) rfl rfl hE (v := (.bool x7)) (ex_pick1 rfl hE rfl hc5 rfl) ?_
              intro a hE
              obtain rfl := Option.some.inj hg2
              exact q_nil (hE.cut ⟨rfl, rfl, rfl, trivial⟩)
            ·
              replace hg2 := (ie hc5).symm.trans hg2
              refine q_skip (wk2 hE rfl rfl rfl hc5) rfl rfl hE ?_
              intro a hE
              refine q_skip (wk2 hE rfl rfl rfl hc5) rfl rfl hE ?_
              intro a hE
              refine q_skip (wk2 hE rfl rfl rfl hc5) rfl rfl hE ?_
              intro a hE
              refine q_val (wk0 rfl) rfl rfl hE (v := (.bool false)) (ex_pick0 rfl hE rfl hc5 rfl) ?_
              intro a hE
              obtain rfl := Option.some.inj hg2
              exact q_nil (hE.cut ⟨rfl, rfl, rfl, trivial⟩)
          · intro a hE
            refine q_val (wk0 rfl) rfl rfl hE (v := (.bool m2)) (ex_move rfl hE rfl) ?_
            intro a hE
            refine q_cut [_, _, _, _] (fun a => Env 52 [(51, (.bool (m2 && (decide (x3.2 = x4.2)))))] a) ?_ ?_
            · rcases Bool.eq_false_or_eq_true m2 with hc6 | hc6
              ·
                refine q_val (wk1 hE rfl rfl rfl hc6) rfl rfl hE (v := (.int .i64 x3.2)) (ex_move rfl hE rfl) ?_
                intro a hE
                refine q_val (wk1 hE rfl rfl rfl hc6) rfl rfl hE (v := (.int .i64 x4.2)) (ex_move rfl hE rfl) ?_
                intro a hE
                refine q_val (wk1 hE rfl rfl rfl hc6) rfl rfl hE (v := (.bool (decide (x3.2 = x4.2)))) (ex_eql rfl hE rfl rfl) ?_
                intro a hE
                refine q_val (wk0 rfl) rfl rfl hE (v := (.bool (decide (x3.2 = x4.2)))) (ex_pick1 rfl hE rfl hc6 rfl) ?_
                intro a hE
                have hE := hE.eqv (v' := (.bool (m2 && (decide (x3.2 = x4.2))))) (by rw [hc6]; rfl)
                exact q_nil (hE.cut ⟨rfl, trivial⟩)
              ·
                refine q_skip (wk2 hE rfl rfl rfl hc6) rfl rfl hE ?_
                intro a hE
                refine q_skip (wk2 hE rfl rfl rfl hc6) rfl rfl hE ?_
                intro a hE
                refine q_skip (wk2 hE rfl rfl rfl hc6) rfl rfl hE ?_
                intro a hE
                refine q_val (wk0 rfl) rfl rfl hE (v := (.bool false)) (ex_pick0 rfl hE rfl hc6 rfl) ?_
                intro a hE
                have hE := hE.eqv (v' := (.bool (m2 && (decide (x3.2 = x4.2))))) (by rw [hc6]; rfl)
                exact q_nil (hE.cut ⟨rfl, trivial⟩)
            · intro a hE
              refine q_val (wk0 rfl) rfl rfl hE (v := (.bool (m2 && (decide (x3.2 = x4.2))))) (ex_asn rfl hE rfl) ?_
              intro a hE
              refine q_nil fun w hp => ?_
              have hp : Hp Z ((ρ.un k1).un k2) (_ :: _ :: _ :: L) w := hp
              refine k_ret ?_
              obtain rfl := Option.some.inj hm
              exact ret1 hE rfl rfl ⟨_, rfl, rfl, (((((((hp.get 2 rfl).drop).get 1 rfl).drop).drop).less (PH.le_un _ k2)).less (PH.le_un _ k1))⟩
end Go.Proofs.YtelioaepnpnojaaGreatDoor

/- Maps from integers whose entries are told in the order of the keys, wherever they lie. Plain theorems over any program. -/
set_option linter.unusedVariables false
set_option linter.unusedSimpArgs false
namespace Go.Proofs.YtelioaepnpnojaaGreatDoor
open Vl (vl)
open Go.RowKit
section
variable {β : Type}
end
def MapU {β : Type} [Vl β] (b : Nat) (l : List (Int × β)) : Atom := fun h => ∃ l', MapA b l' h ∧ l'.Perm l
section
variable {Rn : Option Nat} {P : Program} {ops : Array Oper} {Q : Exit → Act → World → Prop} {rest : List Oper} {o : Oper} {a : Act} {w : World} {Df : List Deferred} {N : Nat} {E : Ent} {d : Nat} {Z : World} {ρ : PH} {L : List Atom}
variable {β : Type} [Vl β] {b : Nat} {l : List (Int × β)}
theorem MapU.of (h : Hp Z ρ (MapA b l :: L) w) : Hp Z ρ (MapU b l :: L) w := h.imp fun _ k => ⟨l, k, List.Perm.refl _⟩
theorem MapU.shut {l' : List (Int × β)} (h : Hp Z ρ (MapA b l' :: L) w) (hp : l'.Perm l) : Hp Z ρ (MapU b l :: L) w := h.imp fun _ k => ⟨l', k, hp⟩
end
end Go.Proofs.YtelioaepnpnojaaGreatDoor

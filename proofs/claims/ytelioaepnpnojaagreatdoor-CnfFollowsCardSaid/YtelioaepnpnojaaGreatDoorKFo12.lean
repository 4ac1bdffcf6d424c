/- The code goes as its model: assessor/assessorlaw26.CnfFollows$1, slices.IndexFunc[[]int,int]@assessor/assessorlaw26.CnfFollows$1, slices.ContainsFunc[[]int,int] -/
import Derived.Test.YtelioaepnpnojaaGreatDoorKFo4
import Derived.Test.YtelioaepnpnojaaGreatDoorKFo11
set_option linter.unusedVariables false
set_option linter.unusedSimpArgs false
namespace Go.Proofs.YtelioaepnpnojaaGreatDoor
open Go.RowKit
set_option maxRecDepth 100000 in
set_option maxHeartbeats 4000000 in
theorem c_assessorlaw26_CnfFollows_1 {Z : World} {ρ : PH} {L : List Atom} {w : World} (hT : Tabs ρ) (p0 : Int) (bc0 : Nat) (c0 : (List Int)) (vc0 : Value) (hc0 : RoSl ρ vc0 c0) (hp : Hp Z ρ (Pt bc0 (.cells #[vc0] 25 (0, 0)) :: L) w) (r : Bool) (hm : m_assessorlaw26_CnfFollows_1 p0 c0 = some r) :
    Calls Tryz.prog 33 #[(.int .i64 p0), (.pointer (some ⟨bc0, 0, none⟩))] w (Ret fun v w' => v = (.bool r) ∧ Hp Z ρ (Pt bc0 (.cells #[vc0] 25 (0, 0)) :: L) w') := by
  refine enter (N := 8) Tryz.func33 rfl rfl [(0, (.int .i64 p0)), (1, (.pointer (some ⟨bc0, 0, none⟩)))] rfl (argsIn_mem ⟨rfl, rfl, trivial⟩) fun a hE => ?_
  unfold m_assessorlaw26_CnfFollows_1 at hm
  refine k_seq ?_
  refine k_region ?_
  refine s_val (wk0 rfl) rfl rfl hE hp (v := (.bool false)) (ex_asn rfl hE rfl) ?_
  intro a hE
  refine s_nil ?_
  refine k_seq ?_
  refine k_region ?_
  refine s_val (wk0 rfl) rfl rfl hE hp (v := vc0) (ex_load rfl hE rfl (fun w hw => run_ld1 varty25 (Hp.c 0 rfl 0 rfl w hw))) ?_
  intro a hE
  refine s_val (wk0 rfl) rfl rfl hE hp (v := (.int .i64 p0)) (ex_move rfl hE rfl) ?_
  intro a hE
  obtain ⟨x1, ex1, hm⟩ := bnd hm
  refine s_call (wk0 rfl) rfl rfl hE rfl [vc0, (.int .i64 p0)] ⟨rfl, rfl, trivial⟩ ent34 (c_slices_Contains_int_int_ hT c0 vc0 hc0 p0 hp x1 ex1) Ret.ret ?_
  intro v a w hR hE
  obtain ⟨rfl, hp⟩ := Ret.of hR
  have hp : Hp Z ρ (Pt bc0 (.cells #[vc0] 25 (0, 0)) :: L) w := hp
  refine s_val (wk0 rfl) rfl rfl hE hp (v := (.bool (!x1))) (ex_not rfl hE rfl) ?_
  intro a hE
  refine s_val (wk0 rfl) rfl rfl hE hp (v := (.bool (!x1))) (ex_asn rfl hE rfl) ?_
  intro a hE
  refine s_nil ?_
  refine k_ret ?_
  obtain rfl := Option.some.inj hm
  exact ret1 hE rfl rfl ⟨_, rfl, rfl, hp⟩
set_option maxRecDepth 100000 in
set_option maxHeartbeats 4000000 in
theorem c_slices_IndexFunc_assessorlaw26_CnfFollows_1 {Z : World} {ρ : PH} {L : List Atom} {w : World} (hT : Tabs ρ) (p0 : (List Int)) (vp0 : Value) (hp0 : RoSl ρ vp0 p0) (bp1c0 : Nat) (p1c0 : (List Int)) (vp1c0 : Value) (hp1c0 : RoSl ρ vp1c0 p1c0) (hp : Hp Z ρ (Pt bp1c0 (.cells #[vp1c0] 25 (0, 0)) :: L) w) (r : Int) (hm : m_slices_IndexFunc_assessorlaw26_CnfFollows_1 p0 p1c0 = some r) :
    Calls Tryz.prog 71 #[vp0, (.func (.func 33) #[] #[(.pointer (some ⟨bp1c0, 0, none⟩))])] w (Ret fun v w' => v = (.int .i64 r) ∧ Hp Z ρ (Pt bp1c0 (.cells #[vp1c0] 25 (0, 0)) :: L) w') := by
  refine enter (N := 19) Tryz.func71 rfl rfl [(0, vp0), (1, (.func (.func 33) #[] #[(.pointer (some ⟨bp1c0, 0, none⟩))]))] rfl (argsIn_mem ⟨rfl, rfl, trivial⟩) fun a hE => ?_
  unfold m_slices_IndexFunc_assessorlaw26_CnfFollows_1 at hm
  refine k_seq ?_
  refine k_region ?_
  refine s_val (wk0 rfl) rfl rfl hE hp (v := (.int .i64 0)) (ex_asn rfl hE rfl) ?_
  intro a hE
  refine s_nil ?_
  refine k_seq ?_
  refine k_seq ?_
  refine k_region ?_
  refine s_val (wk0 rfl) rfl rfl hE hp (v := vp0) (ex_move rfl hE rfl) ?_
  intro a hE
  refine s_val (wk0 rfl) rfl rfl hE hp (v := (.int .i64 (p0.length : Int))) (ex_len rfl hE rfl (RoSl.len hp0 slty25)) ?_
  intro a hE
  refine s_val (wk0 rfl) rfl rfl hE hp (v := (.int .i64 0)) (ex_move rfl hE rfl) ?_
  intro a hE
  refine s_nil ?_
  obtain ⟨b1, hc1, hm⟩ := bnd hm
  refine k_block (fun a w => ∃ s : Unit, b1 = .brk s ∧ (Env 19 [] a ∧ Hp Z ρ (Pt bp1c0 (.cells #[vp1c0] 25 (0, 0)) :: L) w)) ?_ ?_
  · refine k_loop hc1 (fun s a w => Env 19 [(0, vp0), (1, (.func (.func 33) #[] #[(.pointer (some ⟨bp1c0, 0, none⟩))])), (7, (.int .i64 (p0.length : Int))), (8, (.int .i64 s))] a ∧ Hp Z ρ (Pt bp1c0 (.cells #[vp1c0] 25 (0, 0)) :: L) w) ?_ ?_
    · exact ⟨hE.cut ⟨rfl, rfl, rfl, rfl, trivial⟩, hp⟩
    · rintro lp1_0 st a w ⟨hE, hp⟩ hl1
      have hE : Env 19 [(0, vp0), (1, (.func (.func 33) #[] #[(.pointer (some ⟨bp1c0, 0, none⟩))])), (7, (.int .i64 (p0.length : Int))), (8, (.int .i64 lp1_0))] a := hE
      have hp : Hp Z ρ (Pt bp1c0 (.cells #[vp1c0] 25 (0, 0)) :: L) w := hp
      replace hl1 : m_slices_IndexFunc_assessorlaw26_CnfFollows_1_lp1 p0 p1c0 lp1_0 = some st := hl1
      unfold m_slices_IndexFunc_assessorlaw26_CnfFollows_1_lp1 at hl1
      refine k_seq ?_
      refine k_region ?_
      refine s_val (wk0 rfl) rfl rfl hE hp (v := (.bool (decide (lp1_0 < (p0.length : Int))))) (ex_lss rfl hE rfl rfl) ?_
      intro a hE
      refine s_nil ?_
      refine k_seq ?_
      refine k_if hE rfl (fun hc2 => ?_) (fun hc2 => ?_)
      · replace hl1 := (it hc2).symm.trans hl1
        refine k_skip ?_
        refine k_seq ?_
        refine k_plain ?_
        refine k_seq ?_
        refine k_region ?_
        refine s_val (wk0 rfl) rfl rfl hE hp (v := (.int .i64 lp1_0)) (ex_move rfl hE rfl) ?_
        intro a hE
        refine s_val (wk0 rfl) rfl rfl hE hp (v := (.int .i64 lp1_0)) (ex_asn rfl hE rfl) ?_
        intro a hE
        refine s_nil ?_
        refine k_seq ?_
        refine k_region ?_
        refine s_val (wk0 rfl) rfl rfl hE hp (v := (.func (.func 33) #[] #[(.pointer (some ⟨bp1c0, 0, none⟩))])) (ex_move rfl hE rfl) ?_
        intro a hE
        refine s_val (wk0 rfl) rfl rfl hE hp (v := vp0) (ex_move rfl hE rfl) ?_
        intro a hE
        refine s_val (wk0 rfl) rfl rfl hE hp (v := (.int .i64 lp1_0)) (ex_move rfl hE rfl) ?_
        intro a hE
        obtain ⟨x1, ex1, hl1⟩ := bnd hl1
        obtain ⟨b2, b2o, b2c, b2r, b2k, b2f⟩ := RoSl.at hp0 slty25 ex1
        obtain rfl : b2c = Enc.enc x1 := b2k
        have b2f : AtP ρ b2 b2o [(.int .i64 x1)] := b2f
        refine s_val (wk0 rfl) rfl rfl hE hp (v := (.pointer (some ⟨b2, b2o, none⟩))) (ex_index rfl hE rfl rfl b2r) ?_
        intro a hE
        refine s_val (wk0 rfl) rfl rfl hE hp (v := (.int .i64 x1)) (ex_load rfl hE rfl (fun w hw => run_ld1 varty3 (b2f.c 0 rfl w hw))) ?_
        intro a hE
        obtain ⟨x2, ex2, hl1⟩ := bnd hl1
        refine s_callv (wk0 rfl) rfl rfl hE rfl rfl [(.int .i64 x1)] ⟨rfl, trivial⟩ ent33 (c_assessorlaw26_CnfFollows_1 hT x1 bp1c0 p1c0 vp1c0 hp1c0 hp x2 ex2) Ret.ret ?_
        intro v a w hR hE
        obtain ⟨rfl, hp⟩ := Ret.of hR
        have hp : Hp Z ρ (_ :: L) w := hp
        refine s_nil ?_
        have hE := hE.cut (E' := [(0, vp0), (1, (.func (.func 33) #[] #[(.pointer (some ⟨bp1c0, 0, none⟩))])), (5, (.int .i64 lp1_0)), (7, (.int .i64 (p0.length : Int))), (8, (.int .i64 lp1_0)), (16, (.bool x2))]) ⟨rfl, rfl, rfl, rfl, rfl, rfl, trivial⟩
        refine k_if hE rfl (fun hc3 => ?_) (fun hc3 => ?_)
        · replace hl1 := (it hc3).symm.trans hl1
          refine k_seq ?_
          refine k_region ?_
          refine s_val (wk0 rfl) rfl rfl hE hp (v := (.int .i64 lp1_0)) (ex_move rfl hE rfl) ?_
          intro a hE
          refine s_val (wk0 rfl) rfl rfl hE hp (v := (.int .i64 lp1_0)) (ex_asn rfl hE rfl) ?_
          intro a hE
          refine s_nil ?_
          refine k_ret ?_
          refine ⟨_, (Option.some.inj hl1).symm, fun hb => ?_⟩
          subst hb
          obtain rfl := Option.some.inj hm
          exact ret1 hE rfl rfl ⟨_, rfl, rfl, hp⟩
        · replace hl1 := (ie hc3).symm.trans hl1
          refine k_skip ?_
          refine k_region ?_
          obtain ⟨x3, ex3, hl1⟩ := bnd hl1
          refine s_val (wk0 rfl) rfl rfl hE hp (v := (.int .i64 x3)) (ex_add rfl hE rfl rfl (inK_some ex3)) ?_
          intro a hE
          refine s_val (wk0 rfl) rfl rfl hE hp (v := (.int .i64 x3)) (ex_move rfl hE rfl) ?_
          intro a hE
          refine s_nil ?_
          exact ⟨_, (Option.some.inj hl1).symm, hE.cut ⟨rfl, rfl, rfl, rfl, trivial⟩, hp⟩
      · replace hl1 := (ie hc2).symm.trans hl1
        refine k_exit ?_
        refine ⟨_, (Option.some.inj hl1).symm, fun hbb => ?_⟩
        exact ⟨_, hbb.symm, hE.cut trivial, hp⟩
  · rintro a w ⟨b1s, rfl, hE, hp⟩
    dsimp only at hm
    refine k_seq ?_
    refine k_region ?_
    refine s_val (wk0 rfl) rfl rfl hE hp (v := (.int .i64 (-1))) (ex_asn rfl hE rfl) ?_
    intro a hE
    refine s_nil ?_
    refine k_ret ?_
    obtain rfl := Option.some.inj hm
    exact ret1 hE rfl rfl ⟨_, rfl, rfl, hp⟩
set_option maxRecDepth 100000 in
set_option maxHeartbeats 4000000 in
theorem c_slices_ContainsFunc_assessorlaw26_CnfFollows_1 {Z : World} {ρ : PH} {L : List Atom} {w : World} (hT : Tabs ρ) (p0 : (List Int)) (vp0 : Value) (hp0 : RoSl ρ vp0 p0) (bp1c0 : Nat) (p1c0 : (List Int)) (vp1c0 : Value) (hp1c0 : RoSl ρ vp1c0 p1c0) (hp : Hp Z ρ (Pt bp1c0 (.cells #[vp1c0] 25 (0, 0)) :: L) w) (r : Bool) (hm : m_slices_ContainsFunc_assessorlaw26_CnfFollows_1 p0 p1c0 = some r) :
    Calls Tryz.prog 32 #[vp0, (.func (.func 33) #[] #[(.pointer (some ⟨bp1c0, 0, none⟩))])] w (Ret fun v w' => v = (.bool r) ∧ Hp Z ρ (Pt bp1c0 (.cells #[vp1c0] 25 (0, 0)) :: L) w') := by
  refine enter (N := 9) Tryz.func32 rfl rfl [(0, vp0), (1, (.func (.func 33) #[] #[(.pointer (some ⟨bp1c0, 0, none⟩))]))] rfl (argsIn_mem ⟨rfl, rfl, trivial⟩) fun a hE => ?_
  unfold m_slices_ContainsFunc_assessorlaw26_CnfFollows_1 at hm
  refine k_seq ?_
  refine k_region ?_
  refine s_val (wk0 rfl) rfl rfl hE hp (v := (.bool false)) (ex_asn rfl hE rfl) ?_
  intro a hE
  refine s_nil ?_
  refine k_seq ?_
  refine k_region ?_
  refine s_val (wk0 rfl) rfl rfl hE hp (v := vp0) (ex_move rfl hE rfl) ?_
  intro a hE
  refine s_val (wk0 rfl) rfl rfl hE hp (v := (.func (.func 33) #[] #[(.pointer (some ⟨bp1c0, 0, none⟩))])) (ex_move rfl hE rfl) ?_
  intro a hE
  obtain ⟨x1, ex1, hm⟩ := bnd hm
  refine s_call (wk0 rfl) rfl rfl hE rfl [vp0, (.func (.func 33) #[] #[(.pointer (some ⟨bp1c0, 0, none⟩))])] ⟨rfl, rfl, trivial⟩ ent71 (c_slices_IndexFunc_assessorlaw26_CnfFollows_1 hT p0 vp0 hp0 bp1c0 p1c0 vp1c0 hp1c0 hp x1 ex1) Ret.ret ?_
  intro v a w hR hE
  obtain ⟨rfl, hp⟩ := Ret.of hR
  have hp : Hp Z ρ (Pt bp1c0 (.cells #[vp1c0] 25 (0, 0)) :: L) w := hp
  refine s_val (wk0 rfl) rfl rfl hE hp (v := (.bool (decide (0 ≤ x1)))) (ex_geq rfl hE rfl rfl) ?_
  intro a hE
  refine s_val (wk0 rfl) rfl rfl hE hp (v := (.bool (decide (0 ≤ x1)))) (ex_asn rfl hE rfl) ?_
  intro a hE
  refine s_nil ?_
  refine k_ret ?_
  obtain rfl := Option.some.inj hm
  exact ret1 hE rfl rfl ⟨_, rfl, rfl, hp⟩
set_option maxRecDepth 100000 in
set_option maxHeartbeats 4000000 in
theorem c_assessorlaw26_CnfFollows_2 {Z : World} {ρ : PH} {L : List Atom} {w : World} (hT : Tabs ρ) (p0 : Int) (bc0 : Nat) (c0 : (List Int)) (vc0 : Value) (hc0 : RoSl ρ vc0 c0) (hp : Hp Z ρ (Pt bc0 (.cells #[vc0] 25 (0, 0)) :: L) w) (r : Bool) (hm : m_assessorlaw26_CnfFollows_2 p0 c0 = some r) :
    Calls Tryz.prog 35 #[(.int .i64 p0), (.pointer (some ⟨bc0, 0, none⟩))] w (Ret fun v w' => v = (.bool r) ∧ Hp Z ρ (Pt bc0 (.cells #[vc0] 25 (0, 0)) :: L) w') := by
  refine enter (N := 8) Tryz.func35 rfl rfl [(0, (.int .i64 p0)), (1, (.pointer (some ⟨bc0, 0, none⟩)))] rfl (argsIn_mem ⟨rfl, rfl, trivial⟩) fun a hE => ?_
  unfold m_assessorlaw26_CnfFollows_2 at hm
  refine k_seq ?_
  refine k_region ?_
  refine s_val (wk0 rfl) rfl rfl hE hp (v := (.bool false)) (ex_asn rfl hE rfl) ?_
  intro a hE
  refine s_nil ?_
  refine k_seq ?_
  refine k_region ?_
  refine s_val (wk0 rfl) rfl rfl hE hp (v := vc0) (ex_load rfl hE rfl (fun w hw => run_ld1 varty25 (Hp.c 0 rfl 0 rfl w hw))) ?_
  intro a hE
  refine s_val (wk0 rfl) rfl rfl hE hp (v := (.int .i64 p0)) (ex_move rfl hE rfl) ?_
  intro a hE
  obtain ⟨x1, ex1, hm⟩ := bnd hm
  refine s_call (wk0 rfl) rfl rfl hE rfl [vc0, (.int .i64 p0)] ⟨rfl, rfl, trivial⟩ ent34 (c_slices_Contains_int_int_ hT c0 vc0 hc0 p0 hp x1 ex1) Ret.ret ?_
  intro v a w hR hE
  obtain ⟨rfl, hp⟩ := Ret.of hR
  have hp : Hp Z ρ (Pt bc0 (.cells #[vc0] 25 (0, 0)) :: L) w := hp
  refine s_val (wk0 rfl) rfl rfl hE hp (v := (.bool (!x1))) (ex_not rfl hE rfl) ?_
  intro a hE
  refine s_val (wk0 rfl) rfl rfl hE hp (v := (.bool (!x1))) (ex_asn rfl hE rfl) ?_
  intro a hE
  refine s_nil ?_
  refine k_ret ?_
  obtain rfl := Option.some.inj hm
  exact ret1 hE rfl rfl ⟨_, rfl, rfl, hp⟩
set_option maxRecDepth 100000 in
set_option maxHeartbeats 4000000 in
theorem c_slices_IndexFunc_assessorlaw26_CnfFollows_2 {Z : World} {ρ : PH} {L : List Atom} {w : World} (hT : Tabs ρ) (p0 : (List Int)) (vp0 : Value) (hp0 : RoSl ρ vp0 p0) (bp1c0 : Nat) (p1c0 : (List Int)) (vp1c0 : Value) (hp1c0 : RoSl ρ vp1c0 p1c0) (hp : Hp Z ρ (Pt bp1c0 (.cells #[vp1c0] 25 (0, 0)) :: L) w) (r : Int) (hm : m_slices_IndexFunc_assessorlaw26_CnfFollows_2 p0 p1c0 = some r) :
    Calls Tryz.prog 71 #[vp0, (.func (.func 35) #[] #[(.pointer (some ⟨bp1c0, 0, none⟩))])] w (Ret fun v w' => v = (.int .i64 r) ∧ Hp Z ρ (Pt bp1c0 (.cells #[vp1c0] 25 (0, 0)) :: L) w') := by
  refine enter (N := 19) Tryz.func71 rfl rfl [(0, vp0), (1, (.func (.func 35) #[] #[(.pointer (some ⟨bp1c0, 0, none⟩))]))] rfl (argsIn_mem ⟨rfl, rfl, trivial⟩) fun a hE => ?_
  unfold m_slices_IndexFunc_assessorlaw26_CnfFollows_2 at hm
  refine k_seq ?_
  refine k_region ?_
  refine s_val (wk0 rfl) rfl rfl hE hp (v := (.int .i64 0)) (ex_asn rfl hE rfl) ?_
  intro a hE
  refine s_nil ?_
  refine k_seq ?_
  refine k_seq ?_
  refine k_region ?_
  refine s_val (wk0 rfl) rfl rfl hE hp (v := vp0) (ex_move rfl hE rfl) ?_
  intro a hE
  refine s_val (wk0 rfl) rfl rfl hE hp (v := (.int .i64 (p0.length : Int))) (ex_len rfl hE rfl (RoSl.len hp0 slty25)) ?_
  intro a hE
  refine s_val (wk0 rfl) rfl rfl hE hp (v := (.int .i64 0)) (ex_move rfl hE rfl) ?_
  intro a hE
  refine s_nil ?_
  obtain ⟨b1, hc1, hm⟩ := bnd hm
  refine k_block (fun a w => ∃ s : Unit, b1 = .brk s ∧ (Env 19 [] a ∧ Hp Z ρ (Pt bp1c0 (.cells #[vp1c0] 25 (0, 0)) :: L) w)) ?_ ?_
  · refine k_loop hc1 (fun s a w => Env 19 [(0, vp0), (1, (.func (.func 35) #[] #[(.pointer (some ⟨bp1c0, 0, none⟩))])), (7, (.int .i64 (p0.length : Int))), (8, (.int .i64 s))] a ∧ Hp Z ρ (Pt bp1c0 (.cells #[vp1c0] 25 (0, 0)) :: L) w) ?_ ?_
    · exact ⟨hE.cut ⟨rfl, rfl, rfl, rfl, trivial⟩, hp⟩
    · rintro lp1_0 st a w ⟨hE, hp⟩ hl1
      have hE : Env 19 [(0, vp0), (1, (.func (.func 35) #[] #[(.pointer (some ⟨bp1c0, 0, none⟩))])), (7, (.int .i64 (p0.length : Int))), (8, (.int .i64 lp1_0))] a := hE
      have hp : Hp Z ρ (Pt bp1c0 (.cells #[vp1c0] 25 (0, 0)) :: L) w := hp
      replace hl1 : m_slices_IndexFunc_assessorlaw26_CnfFollows_2_lp1 p0 p1c0 lp1_0 = some st := hl1
      unfold m_slices_IndexFunc_assessorlaw26_CnfFollows_2_lp1 at hl1
      refine k_seq ?_
      refine k_region ?_
      refine s_val (wk0 rfl) rfl rfl hE hp (v := (.bool (decide (lp1_0 < (p0.length : Int))))) (ex_lss rfl hE rfl rfl) ?_
      intro a hE
      refine s_nil ?_
      refine k_seq ?_
      refine k_if hE rfl (fun hc2 => ?_) (fun hc2 => ?_)
      · replace hl1 := (it hc2).symm.trans hl1
        refine k_skip ?_
        refine k_seq ?_
        refine k_plain ?_
        refine k_seq ?_
        refine k_region ?_
        refine s_val (wk0 rfl) rfl rfl hE hp (v := (.int .i64 lp1_0)) (ex_move rfl hE rfl) ?_
        intro a hE
        refine s_val (wk0 rfl) rfl rfl hE hp (v := (.int .i64 lp1_0)) (ex_asn rfl hE rfl) ?_
        intro a hE
        refine s_nil ?_
        refine k_seq ?_
        refine k_region ?_
        refine s_val (wk0 rfl) rfl rfl hE hp (v := (.func (.func 35) #[] #[(.pointer (some ⟨bp1c0, 0, none⟩))])) (ex_move rfl hE rfl) ?_
        intro a hE
        refine s_val (wk0 rfl) rfl rfl hE hp (v := vp0) (ex_move rfl hE rfl) ?_
        intro a hE
        refine s_val (wk0 rfl) rfl rfl hE hp (v := (.int .i64 lp1_0)) (ex_move rfl hE rfl) ?_
        intro a hE
        obtain ⟨x1, ex1, hl1⟩ := bnd hl1
        obtain ⟨b2, b2o, b2c, b2r, b2k, b2f⟩ := RoSl.at hp0 slty25 ex1
        obtain rfl : b2c = Enc.enc x1 := b2k
        have b2f : AtP ρ b2 b2o [(.int .i64 x1)] := b2f
        refine s_val (wk0 rfl) rfl rfl hE hp (v := (.pointer (some ⟨b2, b2o, none⟩))) (ex_index rfl hE rfl rfl b2r) ?_
        intro a hE
        refine s_val (wk0 rfl) rfl rfl hE hp (v := (.int .i64 x1)) (ex_load rfl hE rfl (fun w hw => run_ld1 varty3 (b2f.c 0 rfl w hw))) ?_
        intro a hE
        obtain ⟨x2, ex2, hl1⟩ := bnd hl1
        refine s_callv (wk0 rfl) rfl rfl hE rfl rfl [(.int .i64 x1)] ⟨rfl, trivial⟩ ent35 (c_assessorlaw26_CnfFollows_2 hT x1 bp1c0 p1c0 vp1c0 hp1c0 hp x2 ex2) Ret.ret ?_
        intro v a w hR hE
        obtain ⟨rfl, hp⟩ := Ret.of hR
        have hp : Hp Z ρ (_ :: L) w := hp
        refine s_nil ?_
        have hE := hE.cut (E' := [(0, vp0), (1, (.func (.func 35) #[] #[(.pointer (some ⟨bp1c0, 0, none⟩))])), (5, (.int .i64 lp1_0)), (7, (.int .i64 (p0.length : Int))), (8, (.int .i64 lp1_0)), (16, (.bool x2))]) ⟨rfl, rfl, rfl, rfl, rfl, rfl, trivial⟩
        refine k_if hE rfl (fun hc3 => ?_) (fun hc3 => ?_)
        · replace hl1 := (it hc3).symm.trans hl1
          refine k_seq ?_
          refine k_region ?_
          refine s_val (wk0 rfl) rfl rfl hE hp (v := (.int .i64 lp1_0)) (ex_move rfl hE rfl) ?_
          intro a hE
          refine s_val (wk0 rfl) rfl rfl hE hp (v := (.int .i64 lp1_0)) (ex_asn rfl hE rfl) ?_
          intro a hE
          refine s_nil ?_
          refine k_ret ?_
          refine ⟨_, (Option.some.inj hl1).symm, fun hb => ?_⟩
          subst hb
          obtain rfl := Option.some.inj hm
          exact ret1 hE rfl rfl ⟨_, rfl, rfl, hp⟩
        · replace hl1 := (ie hc3).symm.trans hl1
          refine k_skip ?_
          refine k_region ?_
          obtain ⟨x3, ex3, hl1⟩ := bnd hl1
          refine s_val (wk0 rfl) rfl rfl hE hp (v := (.int .i64 x3)) (ex_add rfl hE rfl rfl (inK_some ex3)) ?_
          intro a hE
          refine s_val (wk0 rfl) rfl rfl hE hp (v := (.int .i64 x3)) (ex_move rfl hE rfl) ?_
          intro a hE
          refine s_nil ?_
          exact ⟨_, (Option.some.inj hl1).symm, hE.cut ⟨rfl, rfl, rfl, rfl, trivial⟩, hp⟩
      · replace hl1 := (ie hc2).symm.trans hl1
        refine k_exit ?_
        refine ⟨_, (Option.some.inj hl1).symm, fun hbb => ?_⟩
        exact ⟨_, hbb.symm, hE.cut trivial, hp⟩
  · rintro a w ⟨b1s, rfl, hE, hp⟩
    dsimp only at hm
    refine k_seq ?_
    refine k_region ?_
    refine s_val (wk0 rfl) rfl rfl hE hp (v := (.int .i64 (-1))) (ex_asn rfl hE rfl) ?_
    intro a hE
    refine s_nil ?_
    refine k_ret ?_
    obtain rfl := Option.some.inj hm
    exact ret1 hE rfl rfl ⟨_, rfl, rfl, hp⟩
set_option maxRecDepth 100000 in
set_option maxHeartbeats 4000000 in
theorem c_slices_ContainsFunc_assessorlaw26_CnfFollows_2 {Z : World} {ρ : PH} {L : List Atom} {w : World} (hT : Tabs ρ) (p0 : (List Int)) (vp0 : Value) (hp0 : RoSl ρ vp0 p0) (bp1c0 : Nat) (p1c0 : (List Int)) (vp1c0 : Value) (hp1c0 : RoSl ρ vp1c0 p1c0) (hp : Hp Z ρ (Pt bp1c0 (.cells #[vp1c0] 25 (0, 0)) :: L) w) (r : Bool) (hm : m_slices_ContainsFunc_assessorlaw26_CnfFollows_2 p0 p1c0 = some r) :
    Calls Tryz.prog 32 #[vp0, (.func (.func 35) #[] #[(.pointer (some ⟨bp1c0, 0, none⟩))])] w (Ret fun v w' => v = (.bool r) ∧ Hp Z ρ (Pt bp1c0 (.cells #[vp1c0] 25 (0, 0)) :: L) w') := by
  refine enter (N := 9) Tryz.func32 rfl rfl [(0, vp0), (1, (.func (.func 35) #[] #[(.pointer (some ⟨bp1c0, 0, none⟩))]))] rfl (argsIn_mem ⟨rfl, rfl, trivial⟩) fun a hE => ?_
  unfold m_slices_ContainsFunc_assessorlaw26_CnfFollows_2 at hm
  refine k_seq ?_
  refine k_region ?_
  refine s_val (wk0 rfl) rfl rfl hE hp (v := (.bool false)) (ex_asn rfl hE rfl) ?_
  intro a hE
  refine s_nil ?_
  refine k_seq ?_
  refine k_region ?_
  refine s_val (wk0 rfl) rfl rfl hE hp (v := vp0) (ex_move rfl hE rfl) ?_
  intro a hE
  refine s_val (wk0 rfl) rfl rfl hE hp (v := (.func (.func 35) #[] #[(.pointer (some ⟨bp1c0, 0, none⟩))])) (ex_move rfl hE rfl) ?_
  intro a hE
  obtain ⟨x1, ex1, hm⟩ := bnd hm
  refine s_call (wk0 rfl) rfl rfl hE rfl [vp0, (.func (.func 35) #[] #[(.pointer (some ⟨bp1c0, 0, none⟩))])] ⟨rfl, rfl, trivial⟩ ent71 (c_slices_IndexFunc_assessorlaw26_CnfFollows_2 hT p0 vp0 hp0 bp1c0 p1c0 vp1c0 hp1c0 hp x1 ex1) Ret.ret ?_
  intro v a w hR hE
  obtain ⟨rfl, hp⟩ := Ret.of hR
  have hp : Hp Z ρ (Pt bp1c0 (.cells #[vp1c0] 25 (0, 0)) :: L) w := hp
  refine s_val (wk0 rfl) rfl rfl hE hp (v := (.bool (decide (0 ≤ x1)))) (ex_geq rfl hE rfl rfl) ?_
  intro a hE
  refine s_val (wk0 rfl) rfl rfl hE hp (v := (.bool (decide (0 ≤ x1)))) (ex_asn rfl hE rfl) ?_
  intro a hE
  refine s_nil ?_
  refine k_ret ?_
  obtain rfl := Option.some.inj hm
  exact ret1 hE rfl rfl ⟨_, rfl, rfl, hp⟩
set_option maxRecDepth 100000 in
set_option maxHeartbeats 4000000 in
theorem c_assessorlaw26_CnfFollows_3 {Z : World} {ρ : PH} {L : List Atom} {w : World} (hT : Tabs ρ) (p0 : Int) (bc0 : Nat) (c0 : (List Int)) (vc0 : Value) (hc0 : RoSl ρ vc0 c0) (hp : Hp Z ρ (Pt bc0 (.cells #[vc0] 25 (0, 0)) :: L) w) (r : Bool) (hm : m_assessorlaw26_CnfFollows_3 p0 c0 = some r) :
    Calls Tryz.prog 36 #[(.int .i64 p0), (.pointer (some ⟨bc0, 0, none⟩))] w (Ret fun v w' => v = (.bool r) ∧ Hp Z ρ (Pt bc0 (.cells #[vc0] 25 (0, 0)) :: L) w') := by
  refine enter (N := 8) Tryz.func36 rfl rfl [(0, (.int .i64 p0)), (1, (.pointer (some ⟨bc0, 0, none⟩)))] rfl (argsIn_mem ⟨rfl, rfl, trivial⟩) fun a hE => ?_
  unfold m_assessorlaw26_CnfFollows_3 at hm
  refine k_seq ?_
  refine k_region ?_
  refine s_val (wk0 rfl) rfl rfl hE hp (v := (.bool false)) (ex_asn rfl hE rfl) ?_
  intro a hE
  refine s_nil ?_
  refine k_seq ?_
  refine k_region ?_
  refine s_val (wk0 rfl) rfl rfl hE hp (v := vc0) (ex_load rfl hE rfl (fun w hw => run_ld1 varty25 (Hp.c 0 rfl 0 rfl w hw))) ?_
  intro a hE
  refine s_val (wk0 rfl) rfl rfl hE hp (v := (.int .i64 p0)) (ex_move rfl hE rfl) ?_
  intro a hE
  obtain ⟨x1, ex1, hm⟩ := bnd hm
  refine s_call (wk0 rfl) rfl rfl hE rfl [vc0, (.int .i64 p0)] ⟨rfl, rfl, trivial⟩ ent34 (c_slices_Contains_int_int_ hT c0 vc0 hc0 p0 hp x1 ex1) Ret.ret ?_
  intro v a w hR hE
  obtain ⟨rfl, hp⟩ := Ret.of hR
  have hp : Hp Z ρ (Pt bc0 (.cells #[vc0] 25 (0, 0)) :: L) w := hp
  refine s_val (wk0 rfl) rfl rfl hE hp (v := (.bool (!x1))) (ex_not rfl hE rfl) ?_
  intro a hE
  refine s_val (wk0 rfl) rfl rfl hE hp (v := (.bool (!x1))) (ex_asn rfl hE rfl) ?_
  intro a hE
  refine s_nil ?_
  refine k_ret ?_
  obtain rfl := Option.some.inj hm
  exact ret1 hE rfl rfl ⟨_, rfl, rfl, hp⟩
set_option maxRecDepth 100000 in
set_option maxHeartbeats 4000000 in
theorem c_slices_IndexFunc_assessorlaw26_CnfFollows_3 {Z : World} {ρ : PH} {L : List Atom} {w : World} (hT : Tabs ρ) (p0 : (List Int)) (vp0 : Value) (hp0 : RoSl ρ vp0 p0) (bp1c0 : Nat) (p1c0 : (List Int)) (vp1c0 : Value) (hp1c0 : RoSl ρ vp1c0 p1c0) (hp : Hp Z ρ (Pt bp1c0 (.cells #[vp1c0] 25 (0, 0)) :: L) w) (r : Int) (hm : m_slices_IndexFunc_assessorlaw26_CnfFollows_3 p0 p1c0 = some r) :
    Calls Tryz.prog 71 #[vp0, (.func (.func 36) #[] #[(.pointer (some ⟨bp1c0, 0, none⟩))])] w (Ret fun v w' => v = (.int .i64 r) ∧ Hp Z ρ (Pt bp1c0 (.cells #[vp1c0] 25 (0, 0)) :: L) w') := by
  refine enter (N := 19) Tryz.func71 rfl rfl [(0, vp0), (1, (.func (.func 36) #[] #[(.pointer (some ⟨bp1c0, 0, none⟩))]))] rfl (argsIn_mem ⟨rfl, rfl, trivial⟩) fun a hE => ?_
  unfold m_slices_IndexFunc_assessorlaw26_CnfFollows_3 at hm
  refine k_seq ?_
  refine k_region ?_
  refine s_val (wk0 rfl) rfl rfl hE hp (v := (.int .i64 0)) (ex_asn rfl hE rfl) ?_
  intro a hE
  refine s_nil ?_
  refine k_seq ?_
  refine k_seq ?_
  refine k_region ?_
  refine s_val (wk0 rfl) rfl rfl hE hp (v := vp0) (ex_move rfl hE rfl) ?_
  intro a hE
  refine s_val (wk0 rfl) rfl rfl hE hp (v := (.int .i64 (p0.length : Int))) (ex_len rfl hE rfl (RoSl.len hp0 slty25)) ?_
  intro a hE
  refine s_val (wk0 rfl) rfl rfl hE hp (v := (.int .i64 0)) (ex_move rfl hE rfl) ?_
  intro a hE
  refine s_nil ?_
  obtain ⟨b1, hc1, hm⟩ := bnd hm
  refine k_block (fun a w => ∃ s : Unit, b1 = .brk s ∧ (Env 19 [] a ∧ Hp Z ρ (Pt bp1c0 (.cells #[vp1c0] 25 (0, 0)) :: L) w)) ?_ ?_
  · refine k_loop hc1 (fun s a w => Env 19 [(0, vp0), (1, (.func (.func 36) #[] #[(.pointer (some ⟨bp1c0, 0, none⟩))])), (7, (.int .i64 (p0.length : Int))), (8, (.int .i64 s))] a ∧ Hp Z ρ (Pt bp1c0 (.cells #[vp1c0] 25 (0, 0)) :: L) w) ?_ ?_
    · exact ⟨hE.cut ⟨rfl, rfl, rfl, rfl, trivial⟩, hp⟩
    · rintro lp1_0 st a w ⟨hE, hp⟩ hl1
      have hE : Env 19 [(0, vp0), (1, (.func (.func 36) #[] #[(.pointer (some ⟨bp1c0, 0, none⟩))])), (7, (.int .i64 (p0.length : Int))), (8, (.int .i64 lp1_0))] a := hE
      have hp : Hp Z ρ (Pt bp1c0 (.cells #[vp1c0] 25 (0, 0)) :: L) w := hp
      replace hl1 : m_slices_IndexFunc_assessorlaw26_CnfFollows_3_lp1 p0 p1c0 lp1_0 = some st := hl1
      unfold m_slices_IndexFunc_assessorlaw26_CnfFollows_3_lp1 at hl1
      refine k_seq ?_
      refine k_region ?_
      refine s_val (wk0 rfl) rfl rfl hE hp (v := (.bool (decide (lp1_0 < (p0.length : Int))))) (ex_lss rfl hE rfl rfl) ?_
      intro a hE
      refine s_nil ?_
      refine k_seq ?_
      refine k_if hE rfl (fun hc2 => ?_) (fun hc2 => ?_)
      · replace hl1 := (it hc2).symm.trans hl1
        refine k_skip ?_
        refine k_seq ?_
        refine k_plain ?_
        refine k_seq ?_
        refine k_region ?_
        refine s_val (wk0 rfl) rfl rfl hE hp (v := (.int .i64 lp1_0)) (ex_move rfl hE rfl) ?_
        intro a hE
        refine s_val (wk0 rfl) rfl rfl hE hp (v := (.int .i64 lp1_0)) (ex_asn rfl hE rfl) ?_
        intro a hE
        refine s_nil ?_
        refine k_seq ?_
        refine k_region ?_
        refine s_val (wk0 rfl) rfl rfl hE hp (v := (.func (.func 36) #[] #[(.pointer (some ⟨bp1c0, 0, none⟩))])) (ex_move rfl hE rfl) ?_
        intro a hE
        refine s_val (wk0 rfl) rfl rfl hE hp (v := vp0) (ex_move rfl hE rfl) ?_
        intro a hE
        refine s_val (wk0 rfl) rfl rfl hE hp (v := (.int .i64 lp1_0)) (ex_move rfl hE rfl) ?_
        intro a hE
        obtain ⟨x1, ex1, hl1⟩ := bnd hl1
        obtain ⟨b2, b2o, b2c, b2r, b2k, b2f⟩ := RoSl.at hp0 slty25 ex1
        obtain rfl : b2c = Enc.enc x1 := b2k
        have b2f : AtP ρ b2 b2o [(.int .i64 x1)] := b2f
        refine s_val (wk0 rfl) rfl rfl hE hp (v := (.pointer (some ⟨b2, b2o, none⟩))) (ex_index rfl hE rfl rfl b2r) ?_
        intro a hE
        refine s_val (wk0 rfl) rfl rfl hE hp (v := (.int .i64 x1)) (ex_load rfl hE rfl (fun w hw => run_ld1 varty3 (b2f.c 0 rfl w hw))) ?_
        intro a hE
        obtain ⟨x2, ex2, hl1⟩ := bnd hl1
        refine s_callv (wk0 rfl) rfl rfl hE rfl rfl [(.int .i64 x1)] ⟨rfl, trivial⟩ ent36 (c_assessorlaw26_CnfFollows_3 hT x1 bp1c0 p1c0 vp1c0 hp1c0 hp x2 ex2) Ret.ret ?_
        intro v a w hR hE
        obtain ⟨rfl, hp⟩ := Ret.of hR
        have hp : Hp Z ρ (_ :: L) w := hp
        refine s_nil ?_
        have hE := hE.cut (E' := [(0, vp0), (1, (.func (.func 36) #[] #[(.pointer (some ⟨bp1c0, 0, none⟩))])), (5, (.int .i64 lp1_0)), (7, (.int .i64 (p0.length : Int))), (8, (.int .i64 lp1_0)), (16, (.bool x2))]) ⟨rfl, rfl, rfl, rfl, rfl, rfl, trivial⟩
        refine k_if hE rfl (fun hc3 => ?_) (fun hc3 => ?_)
        · replace hl1 := (it hc3).symm.trans hl1
          refine k_seq ?_
          refine k_region ?_
          refine s_val (wk0 rfl) rfl rfl hE hp (v := (.int .i64 lp1_0)) (ex_move rfl hE rfl) ?_
          intro a hE
          refine s_val (wk0 rfl) rfl rfl hE hp (v := (.int .i64 lp1_0)) (ex_asn rfl hE rfl) ?_
          intro a hE
          refine s_nil ?_
          refine k_ret ?_
          refine ⟨_, (Option.some.inj hl1).symm, fun hb => ?_⟩
          subst hb
          obtain rfl := Option.some.inj hm
          exact ret1 hE rfl rfl ⟨_, rfl, rfl, hp⟩
        · replace hl1 := (ie hc3).symm.trans hl1
          refine k_skip ?_
          refine k_region ?_
          obtain ⟨x3, ex3, hl1⟩ := bnd hl1
          refine s_val (wk0 rfl) rfl rfl hE hp (v := (.int .i64 x3)) (ex_add rfl hE rfl rfl (inK_some ex3)) ?_
          intro a hE
          refine s_val (wk0 rfl) rfl rfl hE hp (v := (.int .i64 x3)) (ex_move rfl hE rfl) ?_
          intro a hE
          refine s_nil ?_
          exact ⟨_, (Option.some.inj hl1).symm, hE.cut ⟨rfl, rfl, rfl, rfl, trivial⟩, hp⟩
      · replace hl1 := (ie hc2).symm.trans hl1
        refine k_exit ?_
        refine ⟨_, (Option.some.inj hl1).symm, fun hbb => ?_⟩
        exact ⟨_, hbb.symm, hE.cut trivial, hp⟩
  · rintro a w ⟨b1s, rfl, hE, hp⟩
    dsimp only at hm
    refine k_seq ?_
    refine k_region ?_
    refine s_val (wk0 rfl) rfl rfl hE hp (v := (.int .i64 (-1))) (ex_asn rfl hE rfl) ?_
    intro a hE
    refine s_nil ?_
    refine k_ret ?_
    obtain rfl := Option.some.inj hm
    exact ret1 hE rfl rfl ⟨_, rfl, rfl, hp⟩
set_option maxRecDepth 100000 in
set_option maxHeartbeats 4000000 in
theorem c_slices_ContainsFunc_assessorlaw26_CnfFollows_3 {Z : World} {ρ : PH} {L : List Atom} {w : World} (hT : Tabs ρ) (p0 : (List Int)) (vp0 : Value) (hp0 : RoSl ρ vp0 p0) (bp1c0 : Nat) (p1c0 : (List Int)) (vp1c0 : Value) (hp1c0 : RoSl ρ vp1c0 p1c0) (hp : Hp Z ρ (Pt bp1c0 (.cells #[vp1c0] 25 (0, 0)) :: L) w) (r : Bool) (hm : m_slices_ContainsFunc_assessorlaw26_CnfFollows_3 p0 p1c0 = some r) :
    Calls Tryz.prog 32 #[vp0, (.func (.func 36) #[] #[(.pointer (some ⟨bp1c0, 0, none⟩))])] w (Ret fun v w' => v = (.bool r) ∧ Hp Z ρ (Pt bp1c0 (.cells #[vp1c0] 25 (0, 0)) :: L) w') := by
  refine enter (N := 9) Tryz.func32 rfl rfl [(0, vp0), (1, (.func (.func 36) #[] #[(.pointer (some ⟨bp1c0, 0, none⟩))]))] rfl (argsIn_mem ⟨rfl, rfl, trivial⟩) fun a hE => ?_
  unfold m_slices_ContainsFunc_assessorlaw26_CnfFollows_3 at hm
  refine k_seq ?_
  refine k_region ?_
  refine s_val (wk0 rfl) rfl rfl hE hp (v := (.bool false)) (ex_asn rfl hE rfl) ?_
  intro a hE
  refine s_nil ?_
  refine k_seq ?_
  refine k_region ?_
  refine s_val (wk0 rfl) rfl rfl hE hp (v := vp0) (ex_move rfl hE rfl) ?_
  intro a hE
  refine s_val (wk0 rfl) rfl rfl hE hp (v := (.func (.func 36) #[] #[(.pointer (some ⟨bp1c0, 0, none⟩))])) (ex_move rfl hE rfl) ?_
  intro a hE
  obtain ⟨x1, ex1, hm⟩ := bnd hm
  refine s_call (wk0 rfl) rfl rfl hE rfl [vp0, (.func (.func 36) #[] #[(.pointer (some ⟨bp1c0, 0, none⟩))])] ⟨rfl, rfl, trivial⟩ ent71 (c_slices_IndexFunc_assessorlaw26_CnfFollows_3 hT p0 vp0 hp0 bp1c0 p1c0 vp1c0 hp1c0 hp x1 ex1) Ret.ret ?_
  intro v a w hR hE
  obtain ⟨rfl, hp⟩ := Ret.of hR
  have hp : Hp Z ρ (Pt bp1c0 (.cells #[vp1c0] 25 (0, 0)) :: L) w := hp
  refine s_val (wk0 rfl) rfl rfl hE hp (v := (.bool (decide (0 ≤ x1)))) (ex_geq rfl hE rfl rfl) ?_
  intro a hE
  refine s_val (wk0 rfl) rfl rfl hE hp (v := (.bool (decide (0 ≤ x1)))) (ex_asn rfl hE rfl) ?_
  intro a hE
  refine s_nil ?_
  refine k_ret ?_
  obtain rfl := Option.some.inj hm
  exact ret1 hE rfl rfl ⟨_, rfl, rfl, hp⟩
set_option maxRecDepth 100000 in
set_option maxHeartbeats 4000000 in
theorem c_assessorlaw26_CnfFollows {Z : World} {ρ : PH} {L : List Atom} {w : World} (hT : Tabs ρ) (p0 : Formula) (vp0_clauses : Value) (hp0_clauses : RoSl ρ vp0_clauses p0.clauses) (p1 : (List Int)) (vp1 : Value) (hp1 : RoSl ρ vp1 p1) (p2 : Int) (hp : Hp Z ρ (L) w) (r : Bool) (hm : m_assessorlaw26_CnfFollows p0 p1 p2 = some r) :
    Calls Tryz.prog 8 #[(.agg #[(.int .i64 p0.vars), vp0_clauses]), vp1, (.int .u16 p2)] w (Ret fun v w' => v = (.bool r) ∧ Hp Z ρ (L) w') := by
  refine enter (N := 140) Tryz.func8 rfl rfl [(0, (.agg #[(.int .i64 p0.vars), vp0_clauses])), (1, vp1), (2, (.int .u16 p2))] rfl (argsIn_mem ⟨rfl, rfl, rfl, trivial⟩) fun a hE => ?_
  unfold m_assessorlaw26_CnfFollows at hm
  refine k_seq ?_
  refine k_region ?_
  refine s_box (wk0 rfl) rfl rfl hE hp rfl (v := (.agg #[(.int .i64 p0.vars), vp0_clauses])) rfl ?_
  intro a w b1 hE hp
  have hp : Hp Z ρ (Pt b1 (.cells #[(.int .i64 p0.vars), vp0_clauses] 24 (0, 0)) :: L) w := hp
  refine s_val (wk0 rfl) rfl rfl hE hp (v := (.bool false)) (ex_asn rfl hE rfl) ?_
  intro a hE
  refine s_nil ?_
  refine k_seq ?_
  refine k_seq ?_
  refine k_region ?_
  obtain ⟨x1, ex1, hm⟩ := bnd hm
  refine s_call (wk0 rfl) rfl rfl hE rfl [] trivial ent10 (c_assessorlaw26_awake hT hp x1 ex1) Ret.ret ?_
  intro v a w hR hE
  obtain ⟨rfl, hp⟩ := Ret.of hR
  have hp : Hp Z ρ (_ :: L) w := hp
  refine s_val (wk0 rfl) rfl rfl hE hp (v := (.bool (!x1))) (ex_not rfl hE rfl) ?_
  intro a hE
  refine s_nil ?_
  refine k_if hE rfl (fun hc1 => ?_) (fun hc1 => ?_)
  · replace hm := (it hc1).symm.trans hm
    refine k_seq ?_
    refine k_region ?_
    refine s_val (wk0 rfl) rfl rfl hE hp (v := (.bool false)) (ex_asn rfl hE rfl) ?_
    intro a hE
    refine s_nil ?_
    refine k_ret ?_
    obtain rfl := Option.some.inj hm
    exact ret1 hE rfl rfl ⟨_, rfl, rfl, (hp.drop)⟩
  · replace hm := (ie hc1).symm.trans hm
    refine k_skip ?_
    refine k_seq ?_
    refine k_seq ?_
    refine k_region ?_
    refine s_val (wk0 rfl) rfl rfl hE hp (v := (.agg #[(.int .i64 p0.vars), vp0_clauses])) (ex_load rfl hE rfl (fun w hw => run_ldN (cs := [(.int .i64 p0.vars), vp0_clauses]) varty24 (Hp.cN 0 rfl 0 _ (sub_all rfl) w hw))) ?_
    intro a hE
    obtain ⟨x2, ex2, hm⟩ := bnd hm
    refine s_call (wk0 rfl) rfl rfl hE rfl [(.agg #[(.int .i64 p0.vars), vp0_clauses]), (.int .i64 12), (.int .i64 40)] ⟨rfl, rfl, rfl, trivial⟩ ent11 (c_assessorref26_Small hT p0 vp0_clauses hp0_clauses 12 40 hp x2 ex2) Ret.ret ?_
    intro v a w hR hE
    obtain ⟨rfl, hp⟩ := Ret.of hR
    have hp : Hp Z ρ (_ :: L) w := hp
    refine s_val (wk0 rfl) rfl rfl hE hp (v := (.bool (!x2))) (ex_not rfl hE rfl) ?_
    intro a hE
    refine s_val (wk0 rfl) rfl rfl hE hp (v := (.bool (!x2))) (ex_move rfl hE rfl) ?_
    intro a hE
    refine s_cut [_, _, _, _] (fun a w => Env 140 [(26, (.bool ((!x2) || (decide (12 < (p1.length : Int)))))), (1, vp1), (2, (.int .u16 p2)), (3, (.pointer (some ⟨b1, 0, none⟩)))] a ∧ Hp Z ρ (Pt b1 (.cells #[(.int .i64 p0.vars), vp0_clauses] 24 (0, 0)) :: L) w) ?_ ?_
    · rcases Bool.eq_false_or_eq_true (!x2) with hc2 | hc2
      ·
        refine s_skip (wk2 hE rfl rfl rfl hc2) rfl rfl hE ?_
        intro a hE
        refine s_skip (wk2 hE rfl rfl rfl hc2) rfl rfl hE ?_
        intro a hE
        refine s_skip (wk2 hE rfl rfl rfl hc2) rfl rfl hE ?_
        intro a hE
        refine s_val (wk0 rfl) rfl rfl hE hp (v := (.bool true)) (ex_pick1 rfl hE rfl hc2 rfl) ?_
        intro a hE
        have hE := hE.eqv (v' := (.bool ((!x2) || (decide (12 < (p1.length : Int)))))) (by rw [hc2]; rfl)
        exact s_nil ⟨hE.cut ⟨rfl, rfl, rfl, rfl, trivial⟩, hp⟩
      ·
        refine s_val (wk1 hE rfl rfl rfl hc2) rfl rfl hE hp (v := vp1) (ex_move rfl hE rfl) ?_
        intro a hE
        refine s_val (wk1 hE rfl rfl rfl hc2) rfl rfl hE hp (v := (.int .i64 (p1.length : Int))) (ex_len rfl hE rfl (RoSl.len hp1 slty25)) ?_
        intro a hE
        refine s_val (wk1 hE rfl rfl rfl hc2) rfl rfl hE hp (v := (.bool (decide (12 < (p1.length : Int))))) (ex_gtr rfl hE rfl rfl) ?_
        intro a hE
        refine s_val (wk0 rfl) rfl rfl hE hp (v := (.bool (decide (12 < (p1.length : Int))))) (ex_pick0 rfl hE rfl hc2 rfl) ?_
        intro a hE
        have hE := hE.eqv (v' := (.bool ((!x2) || (decide (12 < (p1.length : Int)))))) (by rw [hc2]; rfl)
        exact s_nil ⟨hE.cut ⟨rfl, rfl, rfl, rfl, trivial⟩, hp⟩
    · rintro a w ⟨hE, hp⟩
      refine s_nil ?_
      refine k_if hE rfl (fun hc3 => ?_) (fun hc3 => ?_)
      · replace hm := (it hc3).symm.trans hm
        refine k_seq ?_
        refine k_region ?_
        refine s_val (wk0 rfl) rfl rfl hE hp (v := (.bool true)) (ex_asn rfl hE rfl) ?_
        intro a hE
        refine s_nil ?_
        refine k_ret ?_
        obtain rfl := Option.some.inj hm
        exact ret1 hE rfl rfl ⟨_, rfl, rfl, (hp.drop)⟩
      · replace hm := (ie hc3).symm.trans hm
        refine k_skip ?_
        refine k_seq ?_
        refine k_region ?_
        refine s_val (wk0 rfl) rfl rfl hE hp (v := (.agg #[(.int .i64 p0.vars), vp0_clauses])) (ex_load rfl hE rfl (fun w hw => run_ldN (cs := [(.int .i64 p0.vars), vp0_clauses]) varty24 (Hp.cN 0 rfl 0 _ (sub_all rfl) w hw))) ?_
        intro a hE
        refine s_val (wk0 rfl) rfl rfl hE hp (v := vp1) (ex_move rfl hE rfl) ?_
        intro a hE
        obtain ⟨x3, ex3, hm⟩ := bnd hm
        refine s_call (wk0 rfl) rfl rfl hE rfl [(.agg #[(.int .i64 p0.vars), vp0_clauses]), vp1] ⟨rfl, rfl, trivial⟩ ent24 (c_cnf_Propagate hT p0 vp0_clauses hp0_clauses p1 vp1 hp1 hp x3 ex3) Ret.ret ?_
        intro v a w hR hE
        obtain ⟨vr3, rfl, hp⟩ := Ret.of hR
        have hp : Hp Z ρ (OwnSl 3 vr3 x3.1 :: _ :: L) w := hp
        refine s_val (wk0 rfl) rfl rfl hE hp (v := (.tuple #[vr3, (.bool x3.2.1), (.int .i64 x3.2.2)])) (ex_move rfl hE rfl) ?_
        intro a hE
        refine s_val (wk0 rfl) rfl rfl hE hp (v := vr3) (ex_extract rfl hE rfl rfl) ?_
        intro a hE
        refine s_val (wk0 rfl) rfl rfl hE hp (v := (.bool x3.2.1)) (ex_extract rfl hE rfl rfl) ?_
        intro a hE
        refine s_val (wk0 rfl) rfl rfl hE hp (v := (.int .i64 x3.2.2)) (ex_extract rfl hE rfl rfl) ?_
        intro a hE
        refine s_new (wk0 rfl) rfl rfl hE hp rfl [(.slice none 0 0)] (fun w => by simp [Instr.alloc, go_sem] <;> rfl) ?_
        intro a w b2 hE hp
        have hp : Hp Z ρ (Pt b2 (.cells #[(.slice none 0 0)] 25 (0, 0)) :: _ :: _ :: L) w := hp
        refine s_store1 (wk0 rfl) rfl hE hp rfl rfl rfl 0 rfl varty25.size_ (OwnSl.cells hp 1 rfl) (OwnSl.one hp 1 rfl) rfl [vr3] rfl ?_
        intro w hp
        have hp : Hp Z ρ (Pt b2 (.cells #[vr3] 25 (0, 0)) :: _ :: _ :: L) w := hp
        refine s_val (wk0 rfl) rfl rfl hE hp (v := (.bool x3.2.1)) (ex_asn rfl hE rfl) ?_
        intro a hE
        refine s_val (wk0 rfl) rfl rfl hE hp (v := (.int .i64 x3.2.2)) (ex_asn rfl hE rfl) ?_
        intro a hE
        refine s_nil ?_
        refine k_seq ?_
        refine k_seq ?_
        refine k_region ?_
        refine s_val (wk0 rfl) rfl rfl hE hp (v := (.int .i64 x3.2.2)) (ex_move rfl hE rfl) ?_
        intro a hE
        refine s_val (wk0 rfl) rfl rfl hE hp (v := (.bool (!decide (x3.2.2 = 0)))) (ex_neq rfl hE rfl rfl) ?_
        intro a hE
        refine s_nil ?_
        refine k_if hE rfl (fun hc4 => ?_) (fun hc4 => ?_)
        · replace hm := (it hc4).symm.trans hm
          refine k_seq ?_
          refine k_region ?_
          refine s_val (wk0 rfl) rfl rfl hE hp (v := (.int .i64 x3.2.2)) (ex_move rfl hE rfl) ?_
          intro a hE
          refine s_val (wk0 rfl) rfl rfl hE hp (v := (.bool (decide (x3.2.2 = 1)))) (ex_eql rfl hE rfl rfl) ?_
          intro a hE
          refine s_val (wk0 rfl) rfl rfl hE hp (v := (.bool (decide (x3.2.2 = 1)))) (ex_move rfl hE rfl) ?_
          intro a hE
          refine s_cut [_, _, _, _] (fun a w => Env 140 [(42, (.bool ((decide (x3.2.2 = 1)) && (decide ((x3.1.length : Int) = 0))))), (8, (.bool x3.2.1))] a ∧ Hp Z ρ (Pt b2 (.cells #[vr3] 25 (0, 0)) :: OwnSl 3 vr3 x3.1 :: Pt b1 (.cells #[(.int .i64 p0.vars), vp0_clauses] 24 (0, 0)) :: L) w) ?_ ?_
          · rcases Bool.eq_false_or_eq_true (decide (x3.2.2 = 1)) with hc5 | hc5
            ·
              refine s_val (wk1 hE rfl rfl rfl hc5) rfl rfl hE hp (v := vr3) (ex_load rfl hE rfl (fun w hw => run_ld1 varty25 (Hp.c 0 rfl 0 rfl w hw))) ?_
              intro a hE
              refine s_val (wk1 hE rfl rfl rfl hc5) rfl rfl hE hp (v := (.int .i64 (x3.1.length : Int))) (ex_len rfl hE rfl (OwnSl.len hp 1 rfl slty25)) ?_
              intro a hE
              refine s_val (wk1 hE rfl rfl rfl hc5) rfl rfl hE hp (v := (.bool (decide ((x3.1.length : Int) = 0)))) (ex_eql rfl hE rfl rfl) ?_
              intro a hE
              refine s_val (wk0 rfl) rfl rfl hE hp (v := (.bool (decide ((x3.1.length : Int) = 0)))) (ex_pick1 rfl hE rfl hc5 rfl) ?_
              intro a hE
              have hE := hE.eqv (v' := (.bool ((decide (x3.2.2 = 1)) && (decide ((x3.1.length : Int) = 0))))) (by rw [hc5]; rfl)
              exact s_nil ⟨hE.cut ⟨rfl, rfl, trivial⟩, hp⟩
            ·
              refine s_skip (wk2 hE rfl rfl rfl hc5) rfl rfl hE ?_
              intro a hE
              refine s_skip (wk2 hE rfl rfl rfl hc5) rfl rfl hE ?_
              intro a hE
              refine s_skip (wk2 hE rfl rfl rfl hc5) rfl rfl hE ?_
              intro a hE
              refine s_val (wk0 rfl) rfl rfl hE hp (v := (.bool false)) (ex_pick0 rfl hE rfl hc5 rfl) ?_
              intro a hE
              have hE := hE.eqv (v' := (.bool ((decide (x3.2.2 = 1)) && (decide ((x3.1.length : Int) = 0))))) (by rw [hc5]; rfl)
              exact s_nil ⟨hE.cut ⟨rfl, rfl, trivial⟩, hp⟩
          · rintro a w ⟨hE, hp⟩
            refine s_val (wk0 rfl) rfl rfl hE hp (v := (.bool ((decide (x3.2.2 = 1)) && (decide ((x3.1.length : Int) = 0))))) (ex_move rfl hE rfl) ?_
            intro a hE
            refine s_cut [_, _, _] (fun a w => Env 140 [(46, (.bool (((decide (x3.2.2 = 1)) && (decide ((x3.1.length : Int) = 0))) && (!x3.2.1))))] a ∧ Hp Z ρ (Pt b2 (.cells #[vr3] 25 (0, 0)) :: OwnSl 3 vr3 x3.1 :: Pt b1 (.cells #[(.int .i64 p0.vars), vp0_clauses] 24 (0, 0)) :: L) w) ?_ ?_
            · rcases Bool.eq_false_or_eq_true ((decide (x3.2.2 = 1)) && (decide ((x3.1.length : Int) = 0))) with hc6 | hc6
              ·
                refine s_val (wk1 hE rfl rfl rfl hc6) rfl rfl hE hp (v := (.bool x3.2.1)) (ex_move rfl hE rfl) ?_
                intro a hE
                refine s_val (wk1 hE rfl rfl rfl hc6) rfl rfl hE hp (v := (.bool (!x3.2.1))) (ex_not rfl hE rfl) ?_
                intro a hE
                refine s_val (wk0 rfl) rfl rfl hE hp (v := (.bool (!x3.2.1))) (ex_pick1 rfl hE rfl hc6 rfl) ?_
                intro a hE
                have hE := hE.eqv (v' := (.bool (((decide (x3.2.2 = 1)) && (decide ((x3.1.length : Int) = 0))) && (!x3.2.1)))) (by rw [hc6]; rfl)
                exact s_nil ⟨hE.cut ⟨rfl, trivial⟩, hp⟩
              ·
                refine s_skip (wk2 hE rfl rfl rfl hc6) rfl rfl hE ?_
                intro a hE
                refine s_skip (wk2 hE rfl rfl rfl hc6) rfl rfl hE ?_
                intro a hE
                refine s_val (wk0 rfl) rfl rfl hE hp (v := (.bool false)) (ex_pick0 rfl hE rfl hc6 rfl) ?_
                intro a hE
                have hE := hE.eqv (v' := (.bool (((decide (x3.2.2 = 1)) && (decide ((x3.1.length : Int) = 0))) && (!x3.2.1)))) (by rw [hc6]; rfl)
                exact s_nil ⟨hE.cut ⟨rfl, trivial⟩, hp⟩
            · rintro a w ⟨hE, hp⟩
              refine s_val (wk0 rfl) rfl rfl hE hp (v := (.bool (((decide (x3.2.2 = 1)) && (decide ((x3.1.length : Int) = 0))) && (!x3.2.1)))) (ex_asn rfl hE rfl) ?_
              intro a hE
              refine s_nil ?_
              refine k_ret ?_
              obtain rfl := Option.some.inj hm
              exact ret1 hE rfl rfl ⟨_, rfl, rfl, (((((hp.get 2 rfl).drop).get 1 rfl).drop).drop)⟩
        · replace hm := (ie hc4).symm.trans hm
          refine k_skip ?_
          refine k_seq ?_
          refine k_seq ?_
          refine k_region ?_
          refine s_val (wk0 rfl) rfl rfl hE hp (v := vp1) (ex_move rfl hE rfl) ?_
          intro a hE
          refine s_val (wk0 rfl) rfl rfl hE hp (v := (.int .i64 (p1.length : Int))) (ex_len rfl hE rfl (RoSl.len hp1 slty25)) ?_
          intro a hE
          refine s_val (wk0 rfl) rfl rfl hE hp (v := (.int .i64 0)) (ex_move rfl hE rfl) ?_
          intro a hE
          refine s_nil ?_
          obtain ⟨b3, hc7, hm⟩ := bnd hm
          refine k_block (fun a w => ∃ s : Unit, b3 = .brk s ∧ (Env 140 [(1, vp1), (2, (.int .u16 p2)), (3, (.pointer (some ⟨b1, 0, none⟩))), (7, (.pointer (some ⟨b2, 0, none⟩))), (8, (.bool x3.2.1))] a ∧ Hp Z ρ (Pt b2 (.cells #[vr3] 25 (0, 0)) :: OwnSl 3 vr3 x3.1 :: Pt b1 (.cells #[(.int .i64 p0.vars), vp0_clauses] 24 (0, 0)) :: L) w)) ?_ ?_
          · refine k_loop hc7 (fun s a w => Env 140 [(1, vp1), (2, (.int .u16 p2)), (3, (.pointer (some ⟨b1, 0, none⟩))), (7, (.pointer (some ⟨b2, 0, none⟩))), (8, (.bool x3.2.1)), (48, (.int .i64 (p1.length : Int))), (49, (.int .i64 s))] a ∧ Hp Z ρ (Pt b2 (.cells #[vr3] 25 (0, 0)) :: OwnSl 3 vr3 x3.1 :: Pt b1 (.cells #[(.int .i64 p0.vars), vp0_clauses] 24 (0, 0)) :: L) w) ?_ ?_
            · exact ⟨hE.cut ⟨rfl, rfl, rfl, rfl, rfl, rfl, rfl, trivial⟩, hp⟩
            · rintro lp1_0 st a w ⟨hE, hp⟩ hl1
              have hE : Env 140 [(1, vp1), (2, (.int .u16 p2)), (3, (.pointer (some ⟨b1, 0, none⟩))), (7, (.pointer (some ⟨b2, 0, none⟩))), (8, (.bool x3.2.1)), (48, (.int .i64 (p1.length : Int))), (49, (.int .i64 lp1_0))] a := hE
              have hp : Hp Z ρ (_ :: _ :: _ :: L) w := hp
              replace hl1 : m_assessorlaw26_CnfFollows_lp1 p0 p1 lp1_0 = some st := hl1
              unfold m_assessorlaw26_CnfFollows_lp1 at hl1
              refine k_seq ?_
              refine k_region ?_
              refine s_val (wk0 rfl) rfl rfl hE hp (v := (.bool (decide (lp1_0 < (p1.length : Int))))) (ex_lss rfl hE rfl rfl) ?_
              intro a hE
              refine s_nil ?_
              refine k_seq ?_
              refine k_if hE rfl (fun hc8 => ?_) (fun hc8 => ?_)
              · replace hl1 := (it hc8).symm.trans hl1
                refine k_skip ?_
                refine k_seq ?_
                refine k_plain ?_
                refine k_seq ?_
                refine k_region ?_
                refine s_val (wk0 rfl) rfl rfl hE hp (v := (.int .i64 lp1_0)) (ex_move rfl hE rfl) ?_
                intro a hE
                refine s_val (wk0 rfl) rfl rfl hE hp (v := (.int .i64 lp1_0)) (ex_asn rfl hE rfl) ?_
                intro a hE
                refine s_nil ?_
                refine k_seq ?_
                refine k_quiet (by kernel_rfl) (by kernel_rfl) hp ?_
                refine q_val (wk0 rfl) rfl rfl hE (v := vp1) (ex_move rfl hE rfl) ?_
                intro a hE
                refine q_val (wk0 rfl) rfl rfl hE (v := (.int .i64 lp1_0)) (ex_move rfl hE rfl) ?_
                intro a hE
                refine q_val (wk0 rfl) rfl rfl hE (v := (.int .i64 lp1_0)) (ex_move rfl hE rfl) ?_
                intro a hE
                obtain ⟨x4, ex4, hl1⟩ := bnd hl1
                refine q_val (wk0 rfl) rfl rfl hE (v := (.int .i64 x4)) (ex_add rfl hE rfl rfl (inK_some ex4)) ?_
                intro a hE
                obtain ⟨x5, ex5, hl1⟩ := bnd hl1
                obtain ⟨v1, v1r, f1⟩ := RoSl.part hp1 slty25 (some (.i64, lp1_0)) (some (.i64, x4)) rfl rfl ex5
                refine q_val (wk0 rfl) rfl rfl hE (v := v1) (ex_sl rfl hE rfl (some (.i64, lp1_0)) (some (.i64, x4)) (by exact rfl) (by exact rfl) v1r) ?_
                intro a hE
                refine q_val (wk0 rfl) rfl rfl hE (v := (.pointer (some ⟨b1, 0, none⟩))) (ex_field rfl hE rfl (fldty24_0 _ _)) ?_
                intro a hE
                refine q_val (wk0 rfl) rfl rfl hE (v := (.int .i64 p0.vars)) (ex_load rfl hE rfl (fun w hw => run_ld1 varty3 (Hp.c 2 rfl 0 rfl w hw))) ?_
                intro a hE
                obtain ⟨x6, ex6, hl1⟩ := bnd hl1
                refine q_call (wk0 rfl) rfl rfl hE rfl [v1, (.int .i64 p0.vars)] ⟨rfl, rfl, trivial⟩ ent30 (v := (.bool x6)) (fun w hw => Calls.mono (c_assessorref26_IsClause hT x5 v1 f1 p0.vars hw x6 ex6) fun e w' ⟨v, he, hv, hh⟩ => ⟨by rw [he, hv], hh⟩) ?_
                intro a hE
                refine q_val (wk0 rfl) rfl rfl hE (v := (.bool (!x6))) (ex_not rfl hE rfl) ?_
                intro a hE
                refine q_nil fun w hp => ?_
                have hp : Hp Z ρ (_ :: _ :: _ :: L) w := hp
                have hE := hE.cut (E' := [(1, vp1), (2, (.int .u16 p2)), (3, (.pointer (some ⟨b1, 0, none⟩))), (7, (.pointer (some ⟨b2, 0, none⟩))), (8, (.bool x3.2.1)), (48, (.int .i64 (p1.length : Int))), (49, (.int .i64 lp1_0)), (60, (.bool (!x6)))]) ⟨rfl, rfl, rfl, rfl, rfl, rfl, rfl, rfl, trivial⟩
                refine k_if hE rfl (fun hc9 => ?_) (fun hc9 => ?_)
                · replace hl1 := (it hc9).symm.trans hl1
                  refine k_seq ?_
                  refine k_region ?_
                  refine s_val (wk0 rfl) rfl rfl hE hp (v := (.bool false)) (ex_asn rfl hE rfl) ?_
                  intro a hE
                  refine s_nil ?_
                  refine k_ret ?_
                  refine ⟨_, (Option.some.inj hl1).symm, fun hb => ?_⟩
                  subst hb
                  obtain rfl := Option.some.inj hm
                  exact ret1 hE rfl rfl ⟨_, rfl, rfl, (((((hp.get 2 rfl).drop).get 1 rfl).drop).drop)⟩
                · replace hl1 := (ie hc9).symm.trans hl1
                  refine k_skip ?_
                  refine k_region ?_
                  obtain ⟨x7, ex7, hl1⟩ := bnd hl1
                  refine s_val (wk0 rfl) rfl rfl hE hp (v := (.int .i64 x7)) (ex_add rfl hE rfl rfl (inK_some ex7)) ?_
                  intro a hE
                  refine s_val (wk0 rfl) rfl rfl hE hp (v := (.int .i64 x7)) (ex_move rfl hE rfl) ?_
                  intro a hE
                  refine s_nil ?_
                  exact ⟨_, (Option.some.inj hl1).symm, hE.cut ⟨rfl, rfl, rfl, rfl, rfl, rfl, rfl, trivial⟩, hp⟩
              · replace hl1 := (ie hc8).symm.trans hl1
                refine k_exit ?_
                refine ⟨_, (Option.some.inj hl1).symm, fun hbb => ?_⟩
                exact ⟨_, hbb.symm, hE.cut ⟨rfl, rfl, rfl, rfl, rfl, trivial⟩, hp⟩
          · rintro a w ⟨b3s, rfl, hE, hp⟩
            dsimp only at hm
            refine k_seq ?_
            refine k_region ?_
            refine s_new (wk0 rfl) rfl rfl hE hp rfl [(.slice none 0 0)] (fun w => by simp [Instr.alloc, go_sem] <;> rfl) ?_
            intro a w b4 hE hp
            have hp : Hp Z ρ (Pt b4 (.cells #[(.slice none 0 0)] 25 (0, 0)) :: _ :: _ :: _ :: L) w := hp
            refine s_nil ?_
            refine k_seq ?_
            refine k_seq ?_
            refine k_region ?_
            refine s_val (wk0 rfl) rfl rfl hE hp (v := (.int .i64 1)) (ex_asn rfl hE rfl) ?_
            intro a hE
            refine s_nil ?_
            have hp := hp.emp (OwnSl.nil (α := Int) 3)
            have hp : Hp Z ρ (OwnSl 3 (.slice none 0 0) ([] : List Int) :: _ :: _ :: _ :: _ :: L) w := hp
            have hp : Hp Z ρ (_ :: _ :: _ :: _ :: _ :: L) w := hp
            obtain ⟨b5, hc10, hm⟩ := bnd hm
            refine k_block (fun a w => ∃ (w9 : Value), Env 140 [(1, vp1), (3, (.pointer (some ⟨b1, 0, none⟩))), (7, (.pointer (some ⟨b2, 0, none⟩))), (8, (.bool x3.2.1)), (11, (.pointer (some ⟨b4, 0, none⟩)))] a ∧ Hp Z ρ (OwnSl 3 w9 b5 :: Pt b4 (.cells #[w9] 25 (0, 0)) :: Pt b2 (.cells #[vr3] 25 (0, 0)) :: OwnSl 3 vr3 x3.1 :: Pt b1 (.cells #[(.int .i64 p0.vars), vp0_clauses] 24 (0, 0)) :: L) w) ?_ ?_
            · refine k_loop hc10 (fun s a w => ∃ (w9 : Value), Env 140 [(1, vp1), (2, (.int .u16 p2)), (3, (.pointer (some ⟨b1, 0, none⟩))), (7, (.pointer (some ⟨b2, 0, none⟩))), (8, (.bool x3.2.1)), (11, (.pointer (some ⟨b4, 0, none⟩))), (12, (.int .i64 s.1))] a ∧ Hp Z ρ (OwnSl 3 w9 s.2 :: Pt b4 (.cells #[w9] 25 (0, 0)) :: Pt b2 (.cells #[vr3] 25 (0, 0)) :: OwnSl 3 vr3 x3.1 :: Pt b1 (.cells #[(.int .i64 p0.vars), vp0_clauses] 24 (0, 0)) :: L) w) ?_ ?_
              · exact ⟨_, hE.cut ⟨rfl, rfl, rfl, rfl, rfl, rfl, rfl, trivial⟩, hp⟩
              · rintro ⟨lp2_0, lp2_1⟩ st a w ⟨w9, hE, hp⟩ hl2
                have hE : Env 140 [(1, vp1), (2, (.int .u16 p2)), (3, (.pointer (some ⟨b1, 0, none⟩))), (7, (.pointer (some ⟨b2, 0, none⟩))), (8, (.bool x3.2.1)), (11, (.pointer (some ⟨b4, 0, none⟩))), (12, (.int .i64 lp2_0))] a := hE
                have hp : Hp Z ρ (OwnSl 3 w9 lp2_1 :: Pt b4 (.cells #[w9] 25 (0, 0)) :: _ :: _ :: _ :: L) w := hp
                replace hl2 : m_assessorlaw26_CnfFollows_lp2 p0 p2 lp2_0 lp2_1 = some st := hl2
                unfold m_assessorlaw26_CnfFollows_lp2 at hl2
                refine k_seq ?_
                refine k_seq ?_
                refine k_region ?_
                refine s_val (wk0 rfl) rfl rfl hE hp (v := (.int .i64 lp2_0)) (ex_move rfl hE rfl) ?_
                intro a hE
                refine s_val (wk0 rfl) rfl rfl hE hp (v := (.pointer (some ⟨b1, 0, none⟩))) (ex_field rfl hE rfl (fldty24_0 _ _)) ?_
                intro a hE
                refine s_val (wk0 rfl) rfl rfl hE hp (v := (.int .i64 p0.vars)) (ex_load rfl hE rfl (fun w hw => run_ld1 varty3 (Hp.c 4 rfl 0 rfl w hw))) ?_
                intro a hE
                refine s_val (wk0 rfl) rfl rfl hE hp (v := (.bool (decide (lp2_0 ≤ p0.vars)))) (ex_leq rfl hE rfl rfl) ?_
                intro a hE
                refine s_nil ?_
                have hE := hE.cut (E' := [(1, vp1), (2, (.int .u16 p2)), (3, (.pointer (some ⟨b1, 0, none⟩))), (7, (.pointer (some ⟨b2, 0, none⟩))), (8, (.bool x3.2.1)), (11, (.pointer (some ⟨b4, 0, none⟩))), (12, (.int .i64 lp2_0)), (65, (.bool (decide (lp2_0 ≤ p0.vars))))]) ⟨rfl, rfl, rfl, rfl, rfl, rfl, rfl, rfl, trivial⟩
                refine k_if hE rfl (fun hc11 => ?_) (fun hc11 => ?_)
                · replace hl2 := (it hc11).symm.trans hl2
                  refine k_skip ?_
                  refine k_seq ?_
                  refine k_plain ?_
                  refine k_seq ?_
                  refine k_region ?_
                  refine s_val (wk0 rfl) rfl rfl hE hp (v := (.int .u16 p2)) (ex_move rfl hE rfl) ?_
                  intro a hE
                  refine s_val (wk0 rfl) rfl rfl hE hp (v := (.int .i64 lp2_0)) (ex_move rfl hE rfl) ?_
                  intro a hE
                  obtain ⟨x8, ex8, hl2⟩ := bnd hl2
                  refine s_val (wk0 rfl) rfl rfl hE hp (v := (.int .i64 x8)) (ex_sub rfl hE rfl rfl (inK_some ex8)) ?_
                  intro a hE
                  obtain ⟨x9, ex9, hl2⟩ := bnd hl2
                  refine s_val (wk0 rfl) rfl rfl hE hp (v := (.int .u16 x9)) (ex_shr rfl hE rfl rfl ex9) ?_
                  intro a hE
                  refine s_val (wk0 rfl) rfl rfl hE hp (v := (.int .u16 (andK .u16 x9 1))) (ex_and rfl hE rfl rfl) ?_
                  intro a hE
                  refine s_val (wk0 rfl) rfl rfl hE hp (v := (.bool (decide ((andK .u16 x9 1) = 1)))) (ex_eql rfl hE rfl rfl) ?_
                  intro a hE
                  refine s_nil ?_
                  refine k_if hE rfl (fun hc12 => ?_) (fun hc12 => ?_)
                  · replace hl2 := (it hc12).symm.trans hl2
                    refine k_region ?_
                    refine s_val (wk0 rfl) rfl rfl hE hp (v := w9) (ex_load rfl hE rfl (fun w hw => run_ld1 varty25 (Hp.c 1 rfl 0 rfl w hw))) ?_
                    intro a hE
                    refine s_val (wk0 rfl) rfl rfl hE hp (v := (.int .i64 lp2_0)) (ex_move rfl hE rfl) ?_
                    intro a hE
                    refine s_lit (wk0 rfl) rfl rfl hE hp rfl [(0, (.int .i64 lp2_0))] ⟨⟨rfl, rfl⟩, trivial⟩ [(.int .i64 lp2_0)] 3 (fun w => by simp [Instr.buildSlice, Instr.fill, Value.cells, go_sem]) ?_
                    intro a w b6 hE hp
                    have hp : Hp Z ρ (Pt b6 (.cells #[(.int .i64 lp2_0)] 3 (0, 0)) :: _ :: _ :: _ :: _ :: _ :: L) w := hp
                    obtain ⟨x10, ex10, hl2⟩ := bnd hl2
                    refine s_app (wk0 rfl) rfl rfl hE hp rfl slty25 rfl rfl 1 rfl rfl (l2 := [lp2_0]) rfl (fun j u hj => by have := Hp.cN 0 rfl 0 _ (sub_all rfl) w hp j u hj; simpa using this) ex10 ?_
                    intro v2 a w hE hp
                    have hp : Hp Z ρ (_ :: OwnSl 3 v2 x10 :: _ :: _ :: _ :: _ :: L) w := hp
                    refine s_store1 (wk0 rfl) rfl hE hp rfl rfl rfl 2 rfl varty25.size_ (OwnSl.cells hp 1 rfl) (OwnSl.one hp 1 rfl) rfl [v2] rfl ?_
                    intro w hp
                    have hp : Hp Z ρ (_ :: _ :: Pt b4 (.cells #[v2] 25 (0, 0)) :: _ :: _ :: _ :: L) w := hp
                    refine s_nil ?_
                    refine k_region ?_
                    refine s_val (wk0 rfl) rfl rfl hE hp (v := (.int .i64 lp2_0)) (ex_move rfl hE rfl) ?_
                    intro a hE
                    obtain ⟨x11, ex11, hl2⟩ := bnd hl2
                    refine s_val (wk0 rfl) rfl rfl hE hp (v := (.int .i64 x11)) (ex_add rfl hE rfl rfl (inK_some ex11)) ?_
                    intro a hE
                    refine s_val (wk0 rfl) rfl rfl hE hp (v := (.int .i64 x11)) (ex_asn rfl hE rfl) ?_
                    intro a hE
                    refine s_nil ?_
                    exact ⟨_, (Option.some.inj hl2).symm, _, hE.cut ⟨rfl, rfl, rfl, rfl, rfl, rfl, rfl, trivial⟩, (hp.drop)⟩
                  · replace hl2 := (ie hc12).symm.trans hl2
                    refine k_region ?_
                    refine s_val (wk0 rfl) rfl rfl hE hp (v := w9) (ex_load rfl hE rfl (fun w hw => run_ld1 varty25 (Hp.c 1 rfl 0 rfl w hw))) ?_
                    intro a hE
                    refine s_val (wk0 rfl) rfl rfl hE hp (v := (.int .i64 lp2_0)) (ex_move rfl hE rfl) ?_
                    intro a hE
                    obtain ⟨x12, ex12, hl2⟩ := bnd hl2
                    refine s_val (wk0 rfl) rfl rfl hE hp (v := (.int .i64 x12)) (ex_neg rfl hE rfl (inK_some ex12)) ?_
                    intro a hE
                    refine s_lit (wk0 rfl) rfl rfl hE hp rfl [(0, (.int .i64 x12))] ⟨⟨rfl, rfl⟩, trivial⟩ [(.int .i64 x12)] 3 (fun w => by simp [Instr.buildSlice, Instr.fill, Value.cells, go_sem]) ?_
                    intro a w b7 hE hp
                    have hp : Hp Z ρ (Pt b7 (.cells #[(.int .i64 x12)] 3 (0, 0)) :: _ :: _ :: _ :: _ :: _ :: L) w := hp
                    obtain ⟨x13, ex13, hl2⟩ := bnd hl2
                    refine s_app (wk0 rfl) rfl rfl hE hp rfl slty25 rfl rfl 1 rfl rfl (l2 := [x12]) rfl (fun j u hj => by have := Hp.cN 0 rfl 0 _ (sub_all rfl) w hp j u hj; simpa using this) ex13 ?_
                    intro v3 a w hE hp
                    have hp : Hp Z ρ (_ :: OwnSl 3 v3 x13 :: _ :: _ :: _ :: _ :: L) w := hp
                    refine s_store1 (wk0 rfl) rfl hE hp rfl rfl rfl 2 rfl varty25.size_ (OwnSl.cells hp 1 rfl) (OwnSl.one hp 1 rfl) rfl [v3] rfl ?_
                    intro w hp
                    have hp : Hp Z ρ (_ :: _ :: Pt b4 (.cells #[v3] 25 (0, 0)) :: _ :: _ :: _ :: L) w := hp
                    refine s_nil ?_
                    have hE := hE.cut (E' := [(1, vp1), (2, (.int .u16 p2)), (3, (.pointer (some ⟨b1, 0, none⟩))), (7, (.pointer (some ⟨b2, 0, none⟩))), (8, (.bool x3.2.1)), (11, (.pointer (some ⟨b4, 0, none⟩))), (12, (.int .i64 lp2_0))]) ⟨rfl, rfl, rfl, rfl, rfl, rfl, rfl, trivial⟩
                    refine k_region ?_
                    refine s_val (wk0 rfl) rfl rfl hE hp (v := (.int .i64 lp2_0)) (ex_move rfl hE rfl) ?_
                    intro a hE
                    obtain ⟨x14, ex14, hl2⟩ := bnd hl2
                    refine s_val (wk0 rfl) rfl rfl hE hp (v := (.int .i64 x14)) (ex_add rfl hE rfl rfl (inK_some ex14)) ?_
                    intro a hE
                    refine s_val (wk0 rfl) rfl rfl hE hp (v := (.int .i64 x14)) (ex_asn rfl hE rfl) ?_
                    intro a hE
                    refine s_nil ?_
                    exact ⟨_, (Option.some.inj hl2).symm, _, hE.cut ⟨rfl, rfl, rfl, rfl, rfl, rfl, rfl, trivial⟩, (hp.drop)⟩
                · replace hl2 := (ie hc11).symm.trans hl2
                  refine k_exit ?_
                  refine ⟨_, (Option.some.inj hl2).symm, fun hbb => ?_⟩
                  subst hbb
                  exact ⟨_, hE.cut ⟨rfl, rfl, rfl, rfl, rfl, trivial⟩, hp⟩
            · rintro a w ⟨w9, hE, hp⟩
              refine k_seq ?_
              refine k_seq ?_
              refine k_region ?_
              refine s_val (wk0 rfl) rfl rfl hE hp (v := vp1) (ex_move rfl hE rfl) ?_
              intro a hE
              refine s_val (wk0 rfl) rfl rfl hE hp (v := (.int .i64 (p1.length : Int))) (ex_len rfl hE rfl (RoSl.len hp1 slty25)) ?_
              intro a hE
              refine s_val (wk0 rfl) rfl rfl hE hp (v := (.int .i64 0)) (ex_move rfl hE rfl) ?_
              intro a hE
              refine s_nil ?_
              obtain ⟨b8, hc13, hm⟩ := bnd hm
              refine k_block (fun a w => ∃ (w9 : Value), Env 140 [(1, vp1), (3, (.pointer (some ⟨b1, 0, none⟩))), (7, (.pointer (some ⟨b2, 0, none⟩))), (8, (.bool x3.2.1)), (11, (.pointer (some ⟨b4, 0, none⟩)))] a ∧ Hp Z ρ (OwnSl 3 w9 b8 :: Pt b4 (.cells #[w9] 25 (0, 0)) :: Pt b2 (.cells #[vr3] 25 (0, 0)) :: OwnSl 3 vr3 x3.1 :: Pt b1 (.cells #[(.int .i64 p0.vars), vp0_clauses] 24 (0, 0)) :: L) w) ?_ ?_
              · refine k_loop hc13 (fun s a w => ∃ (w9 : Value), Env 140 [(1, vp1), (3, (.pointer (some ⟨b1, 0, none⟩))), (7, (.pointer (some ⟨b2, 0, none⟩))), (8, (.bool x3.2.1)), (11, (.pointer (some ⟨b4, 0, none⟩))), (83, vp1), (84, (.int .i64 (p1.length : Int))), (85, (.int .i64 s.1))] a ∧ Hp Z ρ (OwnSl 3 w9 s.2 :: Pt b4 (.cells #[w9] 25 (0, 0)) :: Pt b2 (.cells #[vr3] 25 (0, 0)) :: OwnSl 3 vr3 x3.1 :: Pt b1 (.cells #[(.int .i64 p0.vars), vp0_clauses] 24 (0, 0)) :: L) w) ?_ ?_
                · exact ⟨_, hE.cut ⟨rfl, rfl, rfl, rfl, rfl, rfl, rfl, rfl, trivial⟩, hp⟩
                · rintro ⟨lp3_0, lp3_1⟩ st a w ⟨w9, hE, hp⟩ hl3
                  have hE : Env 140 [(1, vp1), (3, (.pointer (some ⟨b1, 0, none⟩))), (7, (.pointer (some ⟨b2, 0, none⟩))), (8, (.bool x3.2.1)), (11, (.pointer (some ⟨b4, 0, none⟩))), (83, vp1), (84, (.int .i64 (p1.length : Int))), (85, (.int .i64 lp3_0))] a := hE
                  have hp : Hp Z ρ (OwnSl 3 w9 lp3_1 :: Pt b4 (.cells #[w9] 25 (0, 0)) :: _ :: _ :: _ :: L) w := hp
                  replace hl3 : m_assessorlaw26_CnfFollows_lp3 p1 lp3_0 lp3_1 = some st := hl3
                  unfold m_assessorlaw26_CnfFollows_lp3 at hl3
                  refine k_seq ?_
                  refine k_region ?_
                  refine s_val (wk0 rfl) rfl rfl hE hp (v := (.bool (decide (lp3_0 < (p1.length : Int))))) (ex_lss rfl hE rfl rfl) ?_
                  intro a hE
                  refine s_nil ?_
                  refine k_seq ?_
                  refine k_if hE rfl (fun hc14 => ?_) (fun hc14 => ?_)
                  · replace hl3 := (it hc14).symm.trans hl3
                    refine k_skip ?_
                    refine k_seq ?_
                    refine k_plain ?_
                    refine k_seq ?_
                    refine k_region ?_
                    obtain ⟨x15, ex15, hl3⟩ := bnd hl3
                    obtain ⟨b9, b9o, b9c, b9r, b9k, b9f⟩ := RoSl.at hp1 slty25 ex15
                    obtain rfl : b9c = Enc.enc x15 := b9k
                    have b9f : AtP ρ b9 b9o [(.int .i64 x15)] := b9f
                    refine s_val (wk0 rfl) rfl rfl hE hp (v := (.pointer (some ⟨b9, b9o, none⟩))) (ex_index rfl hE rfl rfl b9r) ?_
                    intro a hE
                    refine s_val (wk0 rfl) rfl rfl hE hp (v := (.int .i64 x15)) (ex_load rfl hE rfl (fun w hw => run_ld1 varty3 (b9f.c 0 rfl w hw))) ?_
                    intro a hE
                    refine s_val (wk0 rfl) rfl rfl hE hp (v := (.int .i64 x15)) (ex_asn rfl hE rfl) ?_
                    intro a hE
                    refine s_nil ?_
                    obtain ⟨x16, ex16, hl3⟩ := bnd hl3
                    obtain ⟨x17, ex17, hl3⟩ := bnd hl3
                    obtain ⟨x18, ex18, hl3⟩ := bnd hl3
                    have hp := hp.drew
                    refine k_heldV ([([], At0 Z ρ), ([], At1 Z ρ (Pt b4 (.cells #[w9] 25 (0, 0))))] : Facts) (fun a w => Env 140 [(1, vp1), (3, (.pointer (some ⟨b1, 0, none⟩))), (7, (.pointer (some ⟨b2, 0, none⟩))), (8, (.bool x3.2.1)), (11, (.pointer (some ⟨b4, 0, none⟩))), (83, vp1), (84, (.int .i64 (p1.length : Int))), (85, (.int .i64 lp3_0))] a ∧ Hp Z ρ (OwnSl 3 w9 (lp3_1.set x17.toNat x15) :: Pt b4 (.cells #[w9] 25 (0, 0)) :: Pt b2 (.cells #[vr3] 25 (0, 0)) :: OwnSl 3 vr3 x3.1 :: Pt b1 (.cells #[(.int .i64 p0.vars), vp0_clauses] 24 (0, 0)) :: L) w) (by kernel_rfl) ⟨fun _ => ⟨_, hp⟩, fun _ => ⟨_, (hp.get 1 rfl)⟩, trivial⟩ (fun hS => ?_) ?_
                    ·
                      generalize w.drew = w at hS hp ⊢
                      refine v_take1 0 1 (wk0 rfl) rfl rfl rfl hE (by kernel_rfl) (by kernel_rfl) (by kernel_rfl) rfl (by kernel_rfl) hS (v := w9) (fun _ => ex_load rfl hE rfl (fun w hw => run_ld1 varty25 (Hp.c 0 rfl 0 rfl w hw))) ?_
                      intro a hE hS
                      refine v_take0 1 (wk0 rfl) rfl rfl rfl hE (by kernel_rfl) (by kernel_rfl) (by kernel_rfl) rfl (by kernel_rfl) hS (v := (.int .i64 x15)) (fun _ => ex_move rfl hE rfl) ?_
                      intro a hE hS
                      refine v_take0 4 (wk0 rfl) rfl rfl rfl hE (by kernel_rfl) (by kernel_rfl) (by kernel_rfl) rfl (by kernel_rfl) hS (v := (.int .i64 x15)) (fun _ => ex_move rfl hE rfl) ?_
                      intro a hE hS
                      refine v_all [2] (by kernel_rfl) rfl ?_
                      refine List.forall_mem_cons.2 ⟨?_, fun _ h => absurd h (by simp)⟩
                      ·
                        refine h_op rfl ?_
                        refine s_call (wk0 rfl) rfl rfl hE rfl [(.int .i64 x15)] ⟨rfl, trivial⟩ ent31 (c_assessorref26_Variable hT x15 hp x16 ex16) Ret.ret ?_
                        intro v a w hR hE
                        obtain ⟨rfl, hp⟩ := Ret.of hR
                        have hp : Hp Z ρ (_ :: _ :: _ :: _ :: _ :: L) w := hp
                        refine s_nil (and_with ⟨fun _ => ⟨_, hp⟩, fun _ => ⟨_, (hp.get 1 rfl)⟩, trivial⟩ fun hS => ?_)
                        refine v_take0 3 (wk0 rfl) rfl rfl rfl hE (by kernel_rfl) (by kernel_rfl) (by kernel_rfl) rfl (by kernel_rfl) hS (v := (.int .i64 x17)) (fun _ => ex_sub rfl hE rfl rfl (inK_some ex17)) ?_
                        intro a hE hS
                        obtain ⟨b11, b11o, b11r, b11v, b11f⟩ := OwnSl.at hp 0 rfl slty25 ex18
                        have b11f : ∀ (j : Nat) (u : Value), ([(.int .i64 x18)] : List Value)[j]? = some u → ∀ ρ' L' w, Hp Z ρ' (OwnSl 3 w9 lp3_1 :: L') w → w.cell? ⟨b11, b11o + j, none⟩ = some u := b11f
                        refine v_take0 5 (wk0 rfl) rfl rfl rfl hE (by kernel_rfl) (by kernel_rfl) (by kernel_rfl) rfl (by kernel_rfl) hS (v := (.pointer (some ⟨b11, b11o, none⟩))) (fun _ => ex_index rfl hE rfl rfl b11r) ?_
                        intro a hE hS
                        refine v_all [6] (by kernel_rfl) rfl ?_
                        refine List.forall_mem_cons.2 ⟨?_, fun _ h => absurd h (by simp)⟩
                        ·
                          refine h_op rfl ?_
                          refine s_stel (wk0 rfl) rfl hE hp rfl rfl rfl 0 rfl ex18 b11v 0 (e' := x15) varty3.size_ rfl rfl rfl ⟨rfl, rfl⟩ ?_
                          intro w hp
                          have hp : Hp Z ρ (OwnSl 3 w9 (lp3_1.set x17.toNat x15) :: _ :: _ :: _ :: _ :: L) w := hp
                          refine s_nil (and_with ⟨fun _ => ⟨_, hp⟩, fun _ => ⟨_, (hp.get 1 rfl)⟩, trivial⟩ fun hS => ?_)
                          exact v_done (by kernel_rfl) ⟨hE.cut ⟨rfl, rfl, rfl, rfl, rfl, rfl, rfl, rfl, trivial⟩, hp⟩
                    · rintro a w ⟨hE, hp⟩
                      refine k_region ?_
                      obtain ⟨x19, ex19, hl3⟩ := bnd hl3
                      refine s_val (wk0 rfl) rfl rfl hE hp (v := (.int .i64 x19)) (ex_add rfl hE rfl rfl (inK_some ex19)) ?_
                      intro a hE
                      refine s_val (wk0 rfl) rfl rfl hE hp (v := (.int .i64 x19)) (ex_move rfl hE rfl) ?_
                      intro a hE
                      refine s_nil ?_
                      exact ⟨_, (Option.some.inj hl3).symm, _, hE.cut ⟨rfl, rfl, rfl, rfl, rfl, rfl, rfl, rfl, trivial⟩, hp⟩
                  · replace hl3 := (ie hc14).symm.trans hl3
                    refine k_exit ?_
                    refine ⟨_, (Option.some.inj hl3).symm, fun hbb => ?_⟩
                    subst hbb
                    exact ⟨_, hE.cut ⟨rfl, rfl, rfl, rfl, rfl, trivial⟩, hp⟩
              · rintro a w ⟨w9, hE, hp⟩
                refine k_seq ?_
                refine k_seq ?_
                refine k_region ?_
                refine s_val (wk0 rfl) rfl rfl hE hp (v := (.agg #[(.int .i64 p0.vars), vp0_clauses])) (ex_load rfl hE rfl (fun w hw => run_ldN (cs := [(.int .i64 p0.vars), vp0_clauses]) varty24 (Hp.cN 4 rfl 0 _ (sub_all rfl) w hw))) ?_
                intro a hE
                refine s_val (wk0 rfl) rfl rfl hE hp (v := w9) (ex_load rfl hE rfl (fun w hw => run_ld1 varty25 (Hp.c 1 rfl 0 rfl w hw))) ?_
                intro a hE
                obtain ⟨k1, k1a, k1d, k1h⟩ := (hp.get 0 rfl).lend
                obtain ⟨x20, ex20, hm⟩ := bnd hm
                refine s_call (wk0 rfl) rfl rfl hE rfl [(.agg #[(.int .i64 p0.vars), vp0_clauses]), w9] ⟨rfl, rfl, trivial⟩ ent17 (c_cnf_Holds (Tabs.mono hT (PH.le_un _ k1)) p0 vp0_clauses (RoSl.mono hp0_clauses (PH.le_un _ _)) b8 w9 (OwnSl.ro k1d k1a) k1h x20 ex20) Ret.ret ?_
                intro v a w hR hE
                obtain ⟨rfl, hp⟩ := Ret.of hR
                have hp := Hp.back k1a k1d hp
                have hp : Hp Z ρ (OwnSl 3 w9 b8 :: Pt b4 (.cells #[w9] 25 (0, 0)) :: _ :: _ :: _ :: L) w := hp
                refine s_val (wk0 rfl) rfl rfl hE hp (v := (.bool x20)) (ex_move rfl hE rfl) ?_
                intro a hE
                obtain ⟨m1, hg1, hm⟩ := bnd hm
                refine s_cut [_, _, _, _, _] (fun a w => Env 140 [(104, (.bool m1)), (1, vp1), (3, (.pointer (some ⟨b1, 0, none⟩))), (7, (.pointer (some ⟨b2, 0, none⟩))), (8, (.bool x3.2.1)), (11, (.pointer (some ⟨b4, 0, none⟩)))] a ∧ Hp Z ρ (OwnSl 3 w9 b8 :: Pt b4 (.cells #[w9] 25 (0, 0)) :: Pt b2 (.cells #[vr3] 25 (0, 0)) :: OwnSl 3 vr3 x3.1 :: Pt b1 (.cells #[(.int .i64 p0.vars), vp0_clauses] 24 (0, 0)) :: L) w) ?_ ?_
                · rcases Bool.eq_false_or_eq_true x20 with hc15 | hc15
                  ·
                    replace hg1 := (it hc15).symm.trans hg1
                    refine s_val (wk1 hE rfl rfl rfl hc15) rfl rfl hE hp (v := vp1) (ex_move rfl hE rfl) ?_
                    intro a hE
                    refine s_val (wk1 hE rfl rfl rfl hc15) rfl rfl hE hp (v := (.func (.func 33) #[] #[(.pointer (some ⟨b4, 0, none⟩))])) (ex_fn rfl hE [(.pointer (some ⟨b4, 0, none⟩))] (by exact ⟨rfl, trivial⟩)) ?_
                    intro a hE
                    obtain ⟨k2, k2a, k2d, k2h⟩ := (hp.get 0 rfl).lend
                    obtain ⟨x21, ex21, hg1⟩ := bnd hg1
                    refine s_call (wk1 hE rfl rfl rfl hc15) rfl rfl hE rfl [vp1, (.func (.func 33) #[] #[(.pointer (some ⟨b4, 0, none⟩))])] ⟨rfl, rfl, trivial⟩ ent32 (c_slices_ContainsFunc_assessorlaw26_CnfFollows_1 (Tabs.mono hT (PH.le_un _ k2)) p1 vp1 (RoSl.mono hp1 (PH.le_un _ _)) b4 b8 w9 (OwnSl.ro k2d k2a) k2h x21 ex21) Ret.ret ?_
                    intro v a w hR hE
                    obtain ⟨rfl, hp⟩ := Ret.of hR
                    have hp := Hp.back k2a k2d hp
                    have hp : Hp Z ρ (_ :: _ :: _ :: _ :: _ :: L) w := hp
                    refine s_val (wk1 hE rfl rfl rfl hc15) rfl rfl hE hp (v := (.bool (!x21))) (ex_not rfl hE rfl) ?_
                    intro a hE
                    refine s_val (wk0 rfl) rfl rfl hE hp (v := (.bool (!x21))) (ex_pick1 rfl hE rfl hc15 rfl) ?_
                    intro a hE
                    obtain rfl := Option.some.inj hg1
                    exact s_nil ⟨hE.cut ⟨rfl, rfl, rfl, rfl, rfl, rfl, trivial⟩, hp⟩
                  ·
                    replace hg1 := (ie hc15).symm.trans hg1
                    refine s_skip (wk2 hE rfl rfl rfl hc15) rfl rfl hE ?_
                    intro a hE
                    refine s_skip (wk2 hE rfl rfl rfl hc15) rfl rfl hE ?_
                    intro a hE
                    refine s_skip (wk2 hE rfl rfl rfl hc15) rfl rfl hE ?_
                    intro a hE
                    refine s_skip (wk2 hE rfl rfl rfl hc15) rfl rfl hE ?_
                    intro a hE
                    refine s_val (wk0 rfl) rfl rfl hE hp (v := (.bool false)) (ex_pick0 rfl hE rfl hc15 rfl) ?_
                    intro a hE
                    obtain rfl := Option.some.inj hg1
                    exact s_nil ⟨hE.cut ⟨rfl, rfl, rfl, rfl, rfl, rfl, trivial⟩, hp⟩
                · rintro a w ⟨hE, hp⟩
                  refine s_nil ?_
                  refine k_if hE rfl (fun hc16 => ?_) (fun hc16 => ?_)
                  · replace hm := (it hc16).symm.trans hm
                    refine k_seq ?_
                    refine k_region ?_
                    refine s_val (wk0 rfl) rfl rfl hE hp (v := (.bool x3.2.1)) (ex_move rfl hE rfl) ?_
                    intro a hE
                    refine s_val (wk0 rfl) rfl rfl hE hp (v := (.bool (!x3.2.1))) (ex_not rfl hE rfl) ?_
                    intro a hE
                    refine s_val (wk0 rfl) rfl rfl hE hp (v := (.bool (!x3.2.1))) (ex_move rfl hE rfl) ?_
                    intro a hE
                    obtain ⟨m2, hg2, hm⟩ := bnd hm
                    refine s_cut [_, _, _, _] (fun a w => Env 140 [(111, (.bool m2)), (1, vp1), (3, (.pointer (some ⟨b1, 0, none⟩))), (7, (.pointer (some ⟨b2, 0, none⟩))), (8, (.bool x3.2.1))] a ∧ Hp Z ρ (OwnSl 3 w9 b8 :: Pt b4 (.cells #[w9] 25 (0, 0)) :: Pt b2 (.cells #[vr3] 25 (0, 0)) :: OwnSl 3 vr3 x3.1 :: Pt b1 (.cells #[(.int .i64 p0.vars), vp0_clauses] 24 (0, 0)) :: L) w) ?_ ?_
                    · rcases Bool.eq_false_or_eq_true (!x3.2.1) with hc17 | hc17
                      ·
                        replace hg2 := (it hc17).symm.trans hg2
                        refine s_skip (wk2 hE rfl rfl rfl hc17) rfl rfl hE ?_
                        intro a hE
                        refine s_skip (wk2 hE rfl rfl rfl hc17) rfl rfl hE ?_
                        intro a hE
                        refine s_skip (wk2 hE rfl rfl rfl hc17) rfl rfl hE ?_
                        intro a hE
                        refine s_val (wk0 rfl) rfl rfl hE hp (v := (.bool true)) (ex_pick1 rfl hE rfl hc17 rfl) ?_
                        intro a hE
                        obtain rfl := Option.some.inj hg2
                        exact s_nil ⟨hE.cut ⟨rfl, rfl, rfl, rfl, rfl, trivial⟩, hp⟩
                      ·
                        replace hg2 := (ie hc17).symm.trans hg2
                        refine s_val (wk1 hE rfl rfl rfl hc17) rfl rfl hE hp (v := vr3) (ex_load rfl hE rfl (fun w hw => run_ld1 varty25 (Hp.c 2 rfl 0 rfl w hw))) ?_
                        intro a hE
                        refine s_val (wk1 hE rfl rfl rfl hc17) rfl rfl hE hp (v := (.func (.func 35) #[] #[(.pointer (some ⟨b4, 0, none⟩))])) (ex_fn rfl hE [(.pointer (some ⟨b4, 0, none⟩))] (by exact ⟨rfl, trivial⟩)) ?_
                        intro a hE
                        obtain ⟨k3, k3a, k3d, k3h⟩ := (hp.get 3 rfl).lend
                        obtain ⟨k4, k4a, k4d, k4h⟩ := (k3h.get 0 rfl).lend
                        obtain ⟨x22, ex22, hg2⟩ := bnd hg2
                        refine s_call (wk1 hE rfl rfl rfl hc17) rfl rfl hE rfl [vr3, (.func (.func 35) #[] #[(.pointer (some ⟨b4, 0, none⟩))])] ⟨rfl, rfl, trivial⟩ ent32 (c_slices_ContainsFunc_assessorlaw26_CnfFollows_2 (Tabs.mono (Tabs.mono hT (PH.le_un _ k3)) (PH.le_un _ k4)) x3.1 vr3 (RoSl.mono (OwnSl.ro k3d k3a) (PH.le_un _ _)) b4 b8 w9 (OwnSl.ro k4d k4a) k4h x22 ex22) Ret.ret ?_
                        intro v a w hR hE
                        obtain ⟨rfl, hp⟩ := Ret.of hR
                        have hp := Hp.back k4a k4d hp
                        have hp := Hp.back k3a k3d hp
                        have hp : Hp Z ρ (_ :: _ :: _ :: _ :: _ :: L) w := hp
                        refine s_val (wk0 rfl) rfl rfl hE hp (v := (.bool x22)) (ex_pick0 rfl hE rfl hc17 rfl) ?_
                        intro a hE
                        obtain rfl := Option.some.inj hg2
                        exact s_nil ⟨hE.cut ⟨rfl, rfl, rfl, rfl, rfl, trivial⟩, (((((hp.get 4 rfl).get 1 rfl).get 4 rfl).get 4 rfl).get 4 rfl)⟩
                    · rintro a w ⟨hE, hp⟩
                      refine s_nil ?_
                      refine k_if hE rfl (fun hc18 => ?_) (fun hc18 => ?_)
                      · replace hm := (it hc18).symm.trans hm
                        refine k_seq ?_
                        refine k_region ?_
                        refine s_val (wk0 rfl) rfl rfl hE hp (v := (.bool false)) (ex_asn rfl hE rfl) ?_
                        intro a hE
                        refine s_nil ?_
                        refine k_ret ?_
                        obtain rfl := Option.some.inj hm
                        exact ret1 hE rfl rfl ⟨_, rfl, rfl, (((((((((hp.get 4 rfl).drop).get 3 rfl).drop).get 2 rfl).drop).get 1 rfl).drop).drop)⟩
                      · replace hm := (ie hc18).symm.trans hm
                        refine k_skip ?_
                        refine k_seq ?_
                        refine k_seq ?_
                        refine k_region ?_
                        refine s_val (wk0 rfl) rfl rfl hE hp (v := (.bool x3.2.1)) (ex_move rfl hE rfl) ?_
                        intro a hE
                        refine s_val (wk0 rfl) rfl rfl hE hp (v := (.bool (!x3.2.1))) (ex_not rfl hE rfl) ?_
                        intro a hE
                        refine s_nil ?_
                        refine k_if hE rfl (fun hc19 => ?_) (fun hc19 => ?_)
                        · replace hm := (it hc19).symm.trans hm
                          refine k_seq ?_
                          refine k_region ?_
                          refine s_val (wk0 rfl) rfl rfl hE hp (v := vr3) (ex_load rfl hE rfl (fun w hw => run_ld1 varty25 (Hp.c 2 rfl 0 rfl w hw))) ?_
                          intro a hE
                          refine s_val (wk0 rfl) rfl rfl hE hp (v := (.int .i64 (x3.1.length : Int))) (ex_len rfl hE rfl (OwnSl.len hp 3 rfl slty25)) ?_
                          intro a hE
                          refine s_val (wk0 rfl) rfl rfl hE hp (v := (.bool (decide ((x3.1.length : Int) = 0)))) (ex_eql rfl hE rfl rfl) ?_
                          intro a hE
                          refine s_val (wk0 rfl) rfl rfl hE hp (v := (.bool (decide ((x3.1.length : Int) = 0)))) (ex_asn rfl hE rfl) ?_
                          intro a hE
                          refine s_nil ?_
                          refine k_ret ?_
                          obtain rfl := Option.some.inj hm
                          exact ret1 hE rfl rfl ⟨_, rfl, rfl, (((((((((hp.get 4 rfl).drop).get 3 rfl).drop).get 2 rfl).drop).get 1 rfl).drop).drop)⟩
                        · replace hm := (ie hc19).symm.trans hm
                          refine k_skip ?_
                          refine k_seq ?_
                          refine k_region ?_
                          refine s_val (wk0 rfl) rfl rfl hE hp (v := (.agg #[(.int .i64 p0.vars), vp0_clauses])) (ex_load rfl hE rfl (fun w hw => run_ldN (cs := [(.int .i64 p0.vars), vp0_clauses]) varty24 (Hp.cN 4 rfl 0 _ (sub_all rfl) w hw))) ?_
                          intro a hE
                          refine s_val (wk0 rfl) rfl rfl hE hp (v := vr3) (ex_load rfl hE rfl (fun w hw => run_ld1 varty25 (Hp.c 2 rfl 0 rfl w hw))) ?_
                          intro a hE
                          obtain ⟨k5, k5a, k5d, k5h⟩ := (hp.get 3 rfl).lend
                          obtain ⟨x23, ex23, hm⟩ := bnd hm
                          refine s_call (wk0 rfl) rfl rfl hE rfl [(.agg #[(.int .i64 p0.vars), vp0_clauses]), vr3] ⟨rfl, rfl, trivial⟩ ent24 (c_cnf_Propagate (Tabs.mono hT (PH.le_un _ k5)) p0 vp0_clauses (RoSl.mono hp0_clauses (PH.le_un _ _)) x3.1 vr3 (OwnSl.ro k5d k5a) k5h x23 ex23) Ret.ret ?_
                          intro v a w hR hE
                          obtain ⟨vr11, rfl, hp⟩ := Ret.of hR
                          have hp := Hp.back k5a k5d hp
                          have hp : Hp Z ρ (_ :: OwnSl 3 vr11 x23.1 :: _ :: _ :: _ :: _ :: L) w := hp
                          refine s_val (wk0 rfl) rfl rfl hE hp (v := (.tuple #[vr11, (.bool x23.2.1), (.int .i64 x23.2.2)])) (ex_move rfl hE rfl) ?_
                          intro a hE
                          refine s_val (wk0 rfl) rfl rfl hE hp (v := vr11) (ex_extract rfl hE rfl rfl) ?_
                          intro a hE
                          refine s_val (wk0 rfl) rfl rfl hE hp (v := (.bool x23.2.1)) (ex_extract rfl hE rfl rfl) ?_
                          intro a hE
                          refine s_val (wk0 rfl) rfl rfl hE hp (v := (.int .i64 x23.2.2)) (ex_extract rfl hE rfl rfl) ?_
                          intro a hE
                          refine s_val (wk0 rfl) rfl rfl hE hp (v := vr11) (ex_asn rfl hE rfl) ?_
                          intro a hE
                          refine s_val (wk0 rfl) rfl rfl hE hp (v := (.bool x23.2.1)) (ex_asn rfl hE rfl) ?_
                          intro a hE
                          refine s_val (wk0 rfl) rfl rfl hE hp (v := (.int .i64 x23.2.2)) (ex_asn rfl hE rfl) ?_
                          intro a hE
                          refine s_nil ?_
                          refine k_seq ?_
                          refine k_region ?_
                          refine s_val (wk0 rfl) rfl rfl hE hp (v := (.bool x23.2.1)) (ex_move rfl hE rfl) ?_
                          intro a hE
                          refine s_val (wk0 rfl) rfl rfl hE hp (v := (.bool x23.2.1)) (ex_move rfl hE rfl) ?_
                          intro a hE
                          refine s_cut [_, _, _] (fun a w => Env 140 [(128, (.bool (x23.2.1 && (decide (x23.2.2 = 0))))), (1, vp1), (7, (.pointer (some ⟨b2, 0, none⟩))), (15, vr11)] a ∧ Hp Z ρ (OwnSl 3 vr3 x3.1 :: OwnSl 3 vr11 x23.1 :: OwnSl 3 w9 b8 :: Pt b4 (.cells #[w9] 25 (0, 0)) :: Pt b2 (.cells #[vr3] 25 (0, 0)) :: Pt b1 (.cells #[(.int .i64 p0.vars), vp0_clauses] 24 (0, 0)) :: L) w) ?_ ?_
                          · rcases Bool.eq_false_or_eq_true x23.2.1 with hc20 | hc20
                            ·
                              refine s_val (wk1 hE rfl rfl rfl hc20) rfl rfl hE hp (v := (.int .i64 x23.2.2)) (ex_move rfl hE rfl) ?_
                              intro a hE
                              refine s_val (wk1 hE rfl rfl rfl hc20) rfl rfl hE hp (v := (.bool (decide (x23.2.2 = 0)))) (ex_eql rfl hE rfl rfl) ?_
                              intro a hE
                              refine s_val (wk0 rfl) rfl rfl hE hp (v := (.bool (decide (x23.2.2 = 0)))) (ex_pick1 rfl hE rfl hc20 rfl) ?_
                              intro a hE
                              have hE := hE.eqv (v' := (.bool (x23.2.1 && (decide (x23.2.2 = 0))))) (by rw [hc20]; rfl)
                              exact s_nil ⟨hE.cut ⟨rfl, rfl, rfl, rfl, trivial⟩, hp⟩
                            ·
                              refine s_skip (wk2 hE rfl rfl rfl hc20) rfl rfl hE ?_
                              intro a hE
                              refine s_skip (wk2 hE rfl rfl rfl hc20) rfl rfl hE ?_
                              intro a hE
                              refine s_val (wk0 rfl) rfl rfl hE hp (v := (.bool false)) (ex_pick0 rfl hE rfl hc20 rfl) ?_
                              intro a hE
                              have hE := hE.eqv (v' := (.bool (x23.2.1 && (decide (x23.2.2 = 0))))) (by rw [hc20]; rfl)
                              exact s_nil ⟨hE.cut ⟨rfl, rfl, rfl, rfl, trivial⟩, hp⟩
                          · rintro a w ⟨hE, hp⟩
                            refine s_val (wk0 rfl) rfl rfl hE hp (v := (.bool (x23.2.1 && (decide (x23.2.2 = 0))))) (ex_move rfl hE rfl) ?_
                            intro a hE
                            obtain ⟨m3, hg3, hm⟩ := bnd hm
                            refine s_cut [_, _, _, _] (fun a w => Env 140 [(133, (.bool m3)), (1, vp1), (7, (.pointer (some ⟨b2, 0, none⟩)))] a ∧ Hp Z ρ (OwnSl 3 vr3 x3.1 :: OwnSl 3 vr11 x23.1 :: OwnSl 3 w9 b8 :: Pt b4 (.cells #[w9] 25 (0, 0)) :: Pt b2 (.cells #[vr3] 25 (0, 0)) :: Pt b1 (.cells #[(.int .i64 p0.vars), vp0_clauses] 24 (0, 0)) :: L) w) ?_ ?_
                            · rcases Bool.eq_false_or_eq_true (x23.2.1 && (decide (x23.2.2 = 0))) with hc21 | hc21
                              ·
                                replace hg3 := (it hc21).symm.trans hg3
                                refine s_val (wk1 hE rfl rfl rfl hc21) rfl rfl hE hp (v := vr11) (ex_move rfl hE rfl) ?_
                                intro a hE
                                refine s_val (wk1 hE rfl rfl rfl hc21) rfl rfl hE hp (v := vr3) (ex_load rfl hE rfl (fun w hw => run_ld1 varty25 (Hp.c 4 rfl 0 rfl w hw))) ?_
                                intro a hE
                                obtain ⟨k6, k6a, k6d, k6h⟩ := (hp.get 1 rfl).lend
                                obtain ⟨k7, k7a, k7d, k7h⟩ := (k6h.get 0 rfl).lend
                                obtain ⟨x24, ex24, hg3⟩ := bnd hg3
                                refine s_call (wk1 hE rfl rfl rfl hc21) rfl rfl hE rfl [vr11, vr3] ⟨rfl, rfl, trivial⟩ ent14 (c_slices_Equal_int_int_ (Tabs.mono (Tabs.mono hT (PH.le_un _ k6)) (PH.le_un _ k7)) x23.1 vr11 (RoSl.mono (OwnSl.ro k6d k6a) (PH.le_un _ _)) x3.1 vr3 (OwnSl.ro k7d k7a) k7h x24 ex24) Ret.ret ?_
                                intro v a w hR hE
                                obtain ⟨rfl, hp⟩ := Ret.of hR
                                have hp := Hp.back k7a k7d hp
                                have hp := Hp.back k6a k6d hp
                                have hp : Hp Z ρ (_ :: _ :: _ :: _ :: _ :: _ :: L) w := hp
                                refine s_val (wk0 rfl) rfl rfl hE hp (v := (.bool x24)) (ex_pick1 rfl hE rfl hc21 rfl) ?_
                                intro a hE
                                obtain rfl := Option.some.inj hg3
                                exact s_nil ⟨hE.cut ⟨rfl, rfl, rfl, trivial⟩, ((((((hp.get 5 rfl).get 5 rfl).get 5 rfl).get 5 rfl).get 4 rfl).get 5 rfl)⟩
                              ·
                                replace hg3 := (ie hc21).symm.trans hg3
                                refine s_skip (wk2 hE rfl rfl rfl hc21) rfl rfl hE ?_
                                intro a hE
                                refine s_skip (wk2 hE rfl rfl rfl hc21) rfl rfl hE ?_
                                intro a hE
                                refine s_skip (wk2 hE rfl rfl rfl hc21) rfl rfl hE ?_
                                intro a hE
                                refine s_val (wk0 rfl) rfl rfl hE hp (v := (.bool false)) (ex_pick0 rfl hE rfl hc21 rfl) ?_
                                intro a hE
                                obtain rfl := Option.some.inj hg3
                                exact s_nil ⟨hE.cut ⟨rfl, rfl, rfl, trivial⟩, hp⟩
                            · rintro a w ⟨hE, hp⟩
                              refine s_val (wk0 rfl) rfl rfl hE hp (v := (.bool m3)) (ex_move rfl hE rfl) ?_
                              intro a hE
                              obtain ⟨m4, hg4, hm⟩ := bnd hm
                              refine s_cut [_, _, _, _, _] (fun a w => Env 140 [(139, (.bool m4))] a ∧ Hp Z ρ (OwnSl 3 vr3 x3.1 :: OwnSl 3 vr11 x23.1 :: OwnSl 3 w9 b8 :: Pt b4 (.cells #[w9] 25 (0, 0)) :: Pt b2 (.cells #[vr3] 25 (0, 0)) :: Pt b1 (.cells #[(.int .i64 p0.vars), vp0_clauses] 24 (0, 0)) :: L) w) ?_ ?_
                              · rcases Bool.eq_false_or_eq_true m3 with hc22 | hc22
                                ·
                                  replace hg4 := (it hc22).symm.trans hg4
                                  refine s_val (wk1 hE rfl rfl rfl hc22) rfl rfl hE hp (v := vp1) (ex_move rfl hE rfl) ?_
                                  intro a hE
                                  refine s_val (wk1 hE rfl rfl rfl hc22) rfl rfl hE hp (v := (.func (.func 36) #[] #[(.pointer (some ⟨b2, 0, none⟩))])) (ex_fn rfl hE [(.pointer (some ⟨b2, 0, none⟩))] (by exact ⟨rfl, trivial⟩)) ?_
                                  intro a hE
                                  obtain ⟨k8, k8a, k8d, k8h⟩ := (hp.get 0 rfl).lend
                                  obtain ⟨x25, ex25, hg4⟩ := bnd hg4
                                  refine s_call (wk1 hE rfl rfl rfl hc22) rfl rfl hE rfl [vp1, (.func (.func 36) #[] #[(.pointer (some ⟨b2, 0, none⟩))])] ⟨rfl, rfl, trivial⟩ ent32 (c_slices_ContainsFunc_assessorlaw26_CnfFollows_3 (Tabs.mono hT (PH.le_un _ k8)) p1 vp1 (RoSl.mono hp1 (PH.le_un _ _)) b2 x3.1 vr3 (OwnSl.ro k8d k8a) (k8h.get 3 rfl) x25 ex25) Ret.ret ?_
                                  intro v a w hR hE
                                  obtain ⟨rfl, hp⟩ := Ret.of hR
                                  have hp := Hp.back k8a k8d hp
                                  have hp : Hp Z ρ (_ :: _ :: _ :: _ :: _ :: _ :: L) w := hp
                                  refine s_val (wk1 hE rfl rfl rfl hc22) rfl rfl hE hp (v := (.bool (!x25))) (ex_not rfl hE rfl) ?_
                                  intro a hE
                                  refine s_val (wk0 rfl) rfl rfl hE hp (v := (.bool (!x25))) (ex_pick1 rfl hE rfl hc22 rfl) ?_
                                  intro a hE
                                  obtain rfl := Option.some.inj hg4
                                  exact s_nil ⟨hE.cut ⟨rfl, trivial⟩, ((((((hp.get 5 rfl).get 2 rfl).get 5 rfl).get 5 rfl).get 5 rfl).get 5 rfl)⟩
                                ·
                                  replace hg4 := (ie hc22).symm.trans hg4
                                  refine s_skip (wk2 hE rfl rfl rfl hc22) rfl rfl hE ?_
                                  intro a hE
                                  refine s_skip (wk2 hE rfl rfl rfl hc22) rfl rfl hE ?_
                                  intro a hE
                                  refine s_skip (wk2 hE rfl rfl rfl hc22) rfl rfl hE ?_
                                  intro a hE
                                  refine s_skip (wk2 hE rfl rfl rfl hc22) rfl rfl hE ?_
                                  intro a hE
                                  refine s_val (wk0 rfl) rfl rfl hE hp (v := (.bool false)) (ex_pick0 rfl hE rfl hc22 rfl) ?_
                                  intro a hE
                                  obtain rfl := Option.some.inj hg4
                                  exact s_nil ⟨hE.cut ⟨rfl, trivial⟩, hp⟩
                              · rintro a w ⟨hE, hp⟩
                                refine s_val (wk0 rfl) rfl rfl hE hp (v := (.bool m4)) (ex_asn rfl hE rfl) ?_
                                intro a hE
                                refine s_nil ?_
                                refine k_ret ?_
                                obtain rfl := Option.some.inj hm
                                exact ret1 hE rfl rfl ⟨_, rfl, rfl, (((((((((((hp.get 5 rfl).drop).get 4 rfl).drop).get 3 rfl).drop).get 2 rfl).drop).get 1 rfl).drop).drop)⟩
                  · replace hm := (ie hc16).symm.trans hm
                    refine k_skip ?_
                    refine k_seq ?_
                    refine k_seq ?_
                    refine k_region ?_
                    refine s_val (wk0 rfl) rfl rfl hE hp (v := (.bool x3.2.1)) (ex_move rfl hE rfl) ?_
                    intro a hE
                    refine s_val (wk0 rfl) rfl rfl hE hp (v := (.bool (!x3.2.1))) (ex_not rfl hE rfl) ?_
                    intro a hE
                    refine s_nil ?_
                    refine k_if hE rfl (fun hc23 => ?_) (fun hc23 => ?_)
                    · replace hm := (it hc23).symm.trans hm
                      refine k_seq ?_
                      refine k_region ?_
                      refine s_val (wk0 rfl) rfl rfl hE hp (v := vr3) (ex_load rfl hE rfl (fun w hw => run_ld1 varty25 (Hp.c 2 rfl 0 rfl w hw))) ?_
                      intro a hE
                      refine s_val (wk0 rfl) rfl rfl hE hp (v := (.int .i64 (x3.1.length : Int))) (ex_len rfl hE rfl (OwnSl.len hp 3 rfl slty25)) ?_
                      intro a hE
                      refine s_val (wk0 rfl) rfl rfl hE hp (v := (.bool (decide ((x3.1.length : Int) = 0)))) (ex_eql rfl hE rfl rfl) ?_
                      intro a hE
                      refine s_val (wk0 rfl) rfl rfl hE hp (v := (.bool (decide ((x3.1.length : Int) = 0)))) (ex_asn rfl hE rfl) ?_
                      intro a hE
                      refine s_nil ?_
                      refine k_ret ?_
                      obtain rfl := Option.some.inj hm
                      exact ret1 hE rfl rfl ⟨_, rfl, rfl, (((((((((hp.get 4 rfl).drop).get 3 rfl).drop).get 2 rfl).drop).get 1 rfl).drop).drop)⟩
                    · replace hm := (ie hc23).symm.trans hm
                      refine k_skip ?_
                      refine k_seq ?_
                      refine k_region ?_
                      refine s_val (wk0 rfl) rfl rfl hE hp (v := (.agg #[(.int .i64 p0.vars), vp0_clauses])) (ex_load rfl hE rfl (fun w hw => run_ldN (cs := [(.int .i64 p0.vars), vp0_clauses]) varty24 (Hp.cN 4 rfl 0 _ (sub_all rfl) w hw))) ?_
                      intro a hE
                      refine s_val (wk0 rfl) rfl rfl hE hp (v := vr3) (ex_load rfl hE rfl (fun w hw => run_ld1 varty25 (Hp.c 2 rfl 0 rfl w hw))) ?_
                      intro a hE
                      obtain ⟨k9, k9a, k9d, k9h⟩ := (hp.get 3 rfl).lend
                      obtain ⟨x26, ex26, hm⟩ := bnd hm
                      refine s_call (wk0 rfl) rfl rfl hE rfl [(.agg #[(.int .i64 p0.vars), vp0_clauses]), vr3] ⟨rfl, rfl, trivial⟩ ent24 (c_cnf_Propagate (Tabs.mono hT (PH.le_un _ k9)) p0 vp0_clauses (RoSl.mono hp0_clauses (PH.le_un _ _)) x3.1 vr3 (OwnSl.ro k9d k9a) k9h x26 ex26) Ret.ret ?_
                      intro v a w hR hE
                      obtain ⟨vr16, rfl, hp⟩ := Ret.of hR
                      have hp := Hp.back k9a k9d hp
                      have hp : Hp Z ρ (_ :: OwnSl 3 vr16 x26.1 :: _ :: _ :: _ :: _ :: L) w := hp
                      refine s_val (wk0 rfl) rfl rfl hE hp (v := (.tuple #[vr16, (.bool x26.2.1), (.int .i64 x26.2.2)])) (ex_move rfl hE rfl) ?_
                      intro a hE
                      refine s_val (wk0 rfl) rfl rfl hE hp (v := vr16) (ex_extract rfl hE rfl rfl) ?_
                      intro a hE
                      refine s_val (wk0 rfl) rfl rfl hE hp (v := (.bool x26.2.1)) (ex_extract rfl hE rfl rfl) ?_
                      intro a hE
                      refine s_val (wk0 rfl) rfl rfl hE hp (v := (.int .i64 x26.2.2)) (ex_extract rfl hE rfl rfl) ?_
                      intro a hE
                      refine s_val (wk0 rfl) rfl rfl hE hp (v := vr16) (ex_asn rfl hE rfl) ?_
                      intro a hE
                      refine s_val (wk0 rfl) rfl rfl hE hp (v := (.bool x26.2.1)) (ex_asn rfl hE rfl) ?_
                      intro a hE
                      refine s_val (wk0 rfl) rfl rfl hE hp (v := (.int .i64 x26.2.2)) (ex_asn rfl hE rfl) ?_
                      intro a hE
                      refine s_nil ?_
                      refine k_seq ?_
                      refine k_region ?_
                      refine s_val (wk0 rfl) rfl rfl hE hp (v := (.bool x26.2.1)) (ex_move rfl hE rfl) ?_
                      intro a hE
                      refine s_val (wk0 rfl) rfl rfl hE hp (v := (.bool x26.2.1)) (ex_move rfl hE rfl) ?_
                      intro a hE
                      refine s_cut [_, _, _] (fun a w => Env 140 [(128, (.bool (x26.2.1 && (decide (x26.2.2 = 0))))), (1, vp1), (7, (.pointer (some ⟨b2, 0, none⟩))), (15, vr16)] a ∧ Hp Z ρ (OwnSl 3 vr3 x3.1 :: OwnSl 3 vr16 x26.1 :: OwnSl 3 w9 b8 :: Pt b4 (.cells #[w9] 25 (0, 0)) :: Pt b2 (.cells #[vr3] 25 (0, 0)) :: Pt b1 (.cells #[(.int .i64 p0.vars), vp0_clauses] 24 (0, 0)) :: L) w) ?_ ?_
                      · rcases Bool.eq_false_or_eq_true x26.2.1 with hc24 | hc24
                        ·
                          refine s_val (wk1 hE rfl rfl rfl hc24) rfl rfl hE hp (v := (.int .i64 x26.2.2)) (ex_move rfl hE rfl) ?_
                          intro a hE
                          refine s_val (wk1 hE rfl rfl rfl hc24) rfl rfl hE hp (v := (.bool (decide (x26.2.2 = 0)))) (ex_eql rfl hE rfl rfl) ?_
                          intro a hE
                          refine s_val (wk0 rfl) rfl rfl hE hp (v := (.bool (decide (x26.2.2 = 0)))) (ex_pick1 rfl hE rfl hc24 rfl) ?_
                          intro a hE
                          have hE := hE.eqv (v' := (.bool (x26.2.1 && (decide (x26.2.2 = 0))))) (by rw [hc24]; rfl)
                          exact s_nil ⟨hE.cut ⟨rfl, rfl, rfl, rfl, trivial⟩, hp⟩
                        ·
                          refine s_skip (wk2 hE rfl rfl rfl hc24) rfl rfl hE ?_
                          intro a hE
                          refine s_skip (wk2 hE rfl rfl rfl hc24) rfl rfl hE ?_
                          intro a hE
                          refine s_val (wk0 rfl) rfl rfl hE hp (v := (.bool false)) (ex_pick0 rfl hE rfl hc24 rfl) ?_
                          intro a hE
                          have hE := hE.eqv (v' := (.bool (x26.2.1 && (decide (x26.2.2 = 0))))) (by rw [hc24]; rfl)
                          exact s_nil ⟨hE.cut ⟨rfl, rfl, rfl, rfl, trivial⟩, hp⟩
                      · rintro a w ⟨hE, hp⟩
                        refine s_val (wk0 rfl) rfl rfl hE hp (v := (.bool (x26.2.1 && (decide (x26.2.2 = 0))))) (ex_move rfl hE rfl) ?_
                        intro a hE
                        obtain ⟨m5, hg5, hm⟩ := bnd hm
                        refine s_cut [_, _, _, _] (fun a w => Env 140 [(133, (.bool m5)), (1, vp1), (7, (.pointer (some ⟨b2, 0, none⟩)))] a ∧ Hp Z ρ (OwnSl 3 vr3 x3.1 :: OwnSl 3 vr16 x26.1 :: OwnSl 3 w9 b8 :: Pt b4 (.cells #[w9] 25 (0, 0)) :: Pt b2 (.cells #[vr3] 25 (0, 0)) :: Pt b1 (.cells #[(.int .i64 p0.vars), vp0_clauses] 24 (0, 0)) :: L) w) ?_ ?_
                        · rcases Bool.eq_false_or_eq_true (x26.2.1 && (decide (x26.2.2 = 0))) with hc25 | hc25
                          ·
                            replace hg5 := (it hc25).symm.trans hg5
                            refine s_val (wk1 hE rfl rfl rfl hc25) rfl rfl hE hp (v := vr16) (ex_move rfl hE rfl) ?_
                            intro a hE
                            refine s_val (wk1 hE rfl rfl rfl hc25) rfl rfl hE hp (v := vr3) (ex_load rfl hE rfl (fun w hw => run_ld1 varty25 (Hp.c 4 rfl 0 rfl w hw))) ?_
                            intro a hE
                            obtain ⟨k10, k10a, k10d, k10h⟩ := (hp.get 1 rfl).lend
                            obtain ⟨k11, k11a, k11d, k11h⟩ := (k10h.get 0 rfl).lend
                            obtain ⟨x27, ex27, hg5⟩ := bnd hg5
                            refine s_call (wk1 hE rfl rfl rfl hc25) rfl rfl hE rfl [vr16, vr3] ⟨rfl, rfl, trivial⟩ ent14 (c_slices_Equal_int_int_ (Tabs.mono (Tabs.mono hT (PH.le_un _ k10)) (PH.le_un _ k11)) x26.1 vr16 (RoSl.mono (OwnSl.ro k10d k10a) (PH.le_un _ _)) x3.1 vr3 (OwnSl.ro k11d k11a) k11h x27 ex27) Ret.ret ?_
                            intro v a w hR hE
                            obtain ⟨rfl, hp⟩ := Ret.of hR
                            have hp := Hp.back k11a k11d hp
                            have hp := Hp.back k10a k10d hp
                            have hp : Hp Z ρ (_ :: _ :: _ :: _ :: _ :: _ :: L) w := hp
                            refine s_val (wk0 rfl) rfl rfl hE hp (v := (.bool x27)) (ex_pick1 rfl hE rfl hc25 rfl) ?_
                            intro a hE
                            obtain rfl := Option.some.inj hg5
                            exact s_nil ⟨hE.cut ⟨rfl, rfl, rfl, trivial⟩, ((((((hp.get 5 rfl).get 5 rfl).get 5 rfl).get 5 rfl).get 4 rfl).get 5 rfl)⟩
                          ·
                            replace hg5 := (ie hc25).symm.trans hg5
                            refine s_skip (wk2 hE rfl rfl rfl hc25) rfl rfl hE ?_
                            intro a hE
                            refine s_skip (wk2 hE rfl rfl rfl hc25) rfl rfl hE ?_
                            intro a hE
                            refine s_skip (wk2 hE rfl rfl rfl hc25) rfl rfl hE ?_
                            intro a hE
                            refine s_val (wk0 rfl) rfl rfl hE hp (v := (.bool false)) (ex_pick0 rfl hE rfl hc25 rfl) ?_
                            intro a hE
                            obtain rfl := Option.some.inj hg5
                            exact s_nil ⟨hE.cut ⟨rfl, rfl, rfl, trivial⟩, hp⟩
                        · rintro a w ⟨hE, hp⟩
                          refine s_val (wk0 rfl) rfl rfl hE hp (v := (.bool m5)) (ex_move rfl hE rfl) ?_
                          intro a hE
                          obtain ⟨m6, hg6, hm⟩ := bnd hm
                          refine s_cut [_, _, _, _, _] (fun a w => Env 140 [(139, (.bool m6))] a ∧ Hp Z ρ (OwnSl 3 vr3 x3.1 :: OwnSl 3 vr16 x26.1 :: OwnSl 3 w9 b8 :: Pt b4 (.cells #[w9] 25 (0, 0)) :: Pt b2 (.cells #[vr3] 25 (0, 0)) :: Pt b1 (.cells #[(.int .i64 p0.vars), vp0_clauses] 24 (0, 0)) :: L) w) ?_ ?_
                          · rcases Bool.eq_false_or_eq_true m5 with hc26 | hc26
                            ·
                              replace hg6 := (it hc26).symm.trans hg6
                              refine s_val (wk1 hE rfl rfl rfl hc26) rfl rfl hE hp (v := vp1) (ex_move rfl hE rfl) ?_
                              intro a hE
                              refine s_val (wk1 hE rfl rfl rfl hc26) rfl rfl hE hp (v := (.func (.func 36) #[] #[(.pointer (some ⟨b2, 0, none⟩))])) (ex_fn rfl hE [(.pointer (some ⟨b2, 0, none⟩))] (by exact ⟨rfl, trivial⟩)) ?_
                              intro a hE
                              obtain ⟨k12, k12a, k12d, k12h⟩ := (hp.get 0 rfl).lend
                              obtain ⟨x28, ex28, hg6⟩ := bnd hg6
                              refine s_call (wk1 hE rfl rfl rfl hc26) rfl rfl hE rfl [vp1, (.func (.func 36) #[] #[(.pointer (some ⟨b2, 0, none⟩))])] ⟨rfl, rfl, trivial⟩ ent32 (c_slices_ContainsFunc_assessorlaw26_CnfFollows_3 (Tabs.mono hT (PH.le_un _ k12)) p1 vp1 (RoSl.mono hp1 (PH.le_un _ _)) b2 x3.1 vr3 (OwnSl.ro k12d k12a) (k12h.get 3 rfl) x28 ex28) Ret.ret ?_
                              intro v a w hR hE
                              obtain ⟨rfl, hp⟩ := Ret.of hR
                              have hp := Hp.back k12a k12d hp
                              have hp : Hp Z ρ (_ :: _ :: _ :: _ :: _ :: _ :: L) w := hp
                              refine s_val (wk1 hE rfl rfl rfl hc26) rfl rfl hE hp (v := (.bool (!x28))) (ex_not rfl hE rfl) ?_
                              intro a hE
                              refine s_val (wk0 rfl) rfl rfl hE hp (v := (.bool (!x28))) (ex_pick1 rfl hE rfl hc26 rfl) ?_
                              intro a hE
                              obtain rfl := Option.some.inj hg6
                              exact s_nil ⟨hE.cut ⟨rfl, trivial⟩, ((((((hp.get 5 rfl).get 2 rfl).get 5 rfl).get 5 rfl).get 5 rfl).get 5 rfl)⟩
                            ·
                              replace hg6 := (ie hc26).symm.trans hg6
                              refine s_skip (wk2 hE rfl rfl rfl hc26) rfl rfl hE ?_
                              intro a hE
                              refine s_skip (wk2 hE rfl rfl rfl hc26) rfl rfl hE ?_
                              intro a hE
                              refine s_skip (wk2 hE rfl rfl rfl hc26) rfl rfl hE ?_
                              intro a hE
                              refine s_skip (wk2 hE rfl rfl rfl hc26) rfl rfl hE ?_
                              intro a hE
                              refine s_val (wk0 rfl) rfl rfl hE hp (v := (.bool false)) (ex_pick0 rfl hE rfl hc26 rfl) ?_
                              intro a hE
                              obtain rfl := Option.some.inj hg6
                              exact s_nil ⟨hE.cut ⟨rfl, trivial⟩, hp⟩
                          · rintro a w ⟨hE, hp⟩
                            refine s_val (wk0 rfl) rfl rfl hE hp (v := (.bool m6)) (ex_asn rfl hE rfl) ?_
                            intro a hE
                            refine s_nil ?_
                            refine k_ret ?_
                            obtain rfl := Option.some.inj hm
                            exact ret1 hE rfl rfl ⟨_, rfl, rfl, (((((((((((hp.get 5 rfl).drop).get 4 rfl).drop).get 3 rfl).drop).get 2 rfl).drop).get 1 rfl).drop).drop)⟩
end Go.Proofs.YtelioaepnpnojaaGreatDoor

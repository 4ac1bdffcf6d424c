/-
  The code goes as its model: assessor/assessorlaw37.name, assessor/assessorlaw37.binary, assessor/assessorlaw37.few, assessor/assessorlaw37.awake. (Printed by wip/sp/gen.py.)
-/
import Derived.Test.YtnnccbagbgndpaaWM
import Derived.Test.YtnnccbagbgndpaaFct
import Derived.Test.YtnnccbagbgndpaaRS
import Derived.Test.YtnnccbagbgndpaaDDS
set_option linter.unusedVariables false
set_option linter.unusedSimpArgs false
namespace Go.Proofs.Ytnnccbagbgndpaa
open Go.RowKit

/- assessor/assessorlaw37.name -/
set_option maxRecDepth 100000 in
set_option maxHeartbeats 4000000 in
theorem c_assessorlaw37_name {Z : World} {ρ : PH} {L : List Atom} {w : World} (p0 : ByteArray) (hp : Hp Z ρ (L) w) (r : Node) (hm : m_assessorlaw37_name p0 = some r) :
    Calls Try.prog 27 #[(.string p0)] w (Ret fun v w' => ∃ (vr1_kids : Value), v = (.agg #[(.int .i64 r.kind), (.string r.text), (.int .i64 r.at_), (.int .i64 r.fin), vr1_kids]) ∧ RoSl ρ vr1_kids r.kids ∧ Hp Z ρ (L) w') := by
  refine enter (N := 5) Try.func27 rfl rfl [(0, (.string p0))] rfl (argsIn_mem ⟨rfl, trivial⟩) fun a hE => ?_
  unfold m_assessorlaw37_name at hm
  refine k_seq ?_
  refine k_region ?_
  refine s_new (wk0 rfl) rfl rfl hE hp rfl [(.int .i64 0), (.string ByteArray.empty), (.int .i64 0), (.int .i64 0), (.slice none 0 0)] (fun w => by simp [Instr.alloc, go_sem] <;> rfl) ?_
  intro a w b1 hE hp
  have hp : Hp Z ρ (Pt b1 (.cells #[(.int .i64 0), (.string ByteArray.empty), (.int .i64 0), (.int .i64 0), (.slice none 0 0)] 24 (0, 0)) :: L) w := hp
  refine s_nil ?_
  refine k_seq ?_
  refine k_region ?_
  refine s_val (wk0 rfl) rfl rfl hE hp (v := (.string p0)) (ex_move rfl hE rfl) ?_
  intro a hE
  refine s_val (wk0 rfl) rfl rfl hE hp (v := (.agg #[(.int .i64 20), (.string p0), (.int .i64 0), (.int .i64 0), (.slice none 0 0)])) (ex_bld rfl hE [(0, (.int .i64 20)), (1, (.string p0))] (by exact ⟨⟨rfl, rfl⟩, ⟨rfl, rfl⟩, trivial⟩) (fun w => by simp [Instr.build, Instr.fill, Value.cells, go_sem])) ?_
  intro a hE
  refine s_store (wk0 rfl) rfl hE hp rfl rfl rfl 0 rfl varty24.size_ rfl (allOne_mem ⟨rfl, rfl, rfl, rfl, rfl, trivial⟩) [(.int .i64 20), (.string p0), (.int .i64 0), (.int .i64 0), (.slice none 0 0)] rfl ?_
  intro w hp
  have hp : Hp Z ρ (Pt b1 (.cells #[(.int .i64 20), (.string p0), (.int .i64 0), (.int .i64 0), (.slice none 0 0)] 24 (0, 0)) :: L) w := hp
  refine s_nil ?_
  refine k_ret ?_
  obtain rfl := Option.some.inj hm
  exact retc1 hE rfl rfl (run_lvN (cs := [(.int .i64 20), (.string p0), (.int .i64 0), (.int .i64 0), (.slice none 0 0)]) varty24 (Hp.cN 0 rfl 0 _ (sub_all rfl) _ hp)) ⟨_, rfl, _, rfl, (RoSl.nil _), (hp.drop)⟩
/- assessor/assessorlaw37.binary -/
set_option maxRecDepth 100000 in
set_option maxHeartbeats 4000000 in
theorem c_assessorlaw37_binary {Z : World} {ρ : PH} {L : List Atom} {w : World} (p0 : ByteArray) (p1 : Node) (vp1_kids : Value) (hp1_kids : RoSl ρ vp1_kids p1.kids) (p2 : Node) (vp2_kids : Value) (hp2_kids : RoSl ρ vp2_kids p2.kids) (hp : Hp Z ρ (L) w) (r : Node) (hm : m_assessorlaw37_binary p0 p1 p2 = some r) :
    Calls Try.prog 26 #[(.string p0), (.agg #[(.int .i64 p1.kind), (.string p1.text), (.int .i64 p1.at_), (.int .i64 p1.fin), vp1_kids]), (.agg #[(.int .i64 p2.kind), (.string p2.text), (.int .i64 p2.at_), (.int .i64 p2.fin), vp2_kids])] w (Ret fun v w' => ∃ (ρ' : PH) (vr1_kids : Value), ρ.le ρ' ∧ v = (.agg #[(.int .i64 r.kind), (.string r.text), (.int .i64 r.at_), (.int .i64 r.fin), vr1_kids]) ∧ RoSl ρ' vr1_kids r.kids ∧ Hp Z ρ' (L) w') := by
  refine enter (N := 12) Try.func26 rfl rfl [(0, (.string p0)), (1, (.agg #[(.int .i64 p1.kind), (.string p1.text), (.int .i64 p1.at_), (.int .i64 p1.fin), vp1_kids])), (2, (.agg #[(.int .i64 p2.kind), (.string p2.text), (.int .i64 p2.at_), (.int .i64 p2.fin), vp2_kids]))] rfl (argsIn_mem ⟨rfl, rfl, rfl, trivial⟩) fun a hE => ?_
  unfold m_assessorlaw37_binary at hm
  refine k_seq ?_
  refine k_region ?_
  refine s_box (wk0 rfl) rfl rfl hE hp rfl (v := (.agg #[(.int .i64 p1.kind), (.string p1.text), (.int .i64 p1.at_), (.int .i64 p1.fin), vp1_kids])) rfl ?_
  intro a w b1 hE hp
  have hp : Hp Z ρ (Pt b1 (.cells #[(.int .i64 p1.kind), (.string p1.text), (.int .i64 p1.at_), (.int .i64 p1.fin), vp1_kids] 24 (0, 0)) :: L) w := hp
  refine s_box (wk0 rfl) rfl rfl hE hp rfl (v := (.agg #[(.int .i64 p2.kind), (.string p2.text), (.int .i64 p2.at_), (.int .i64 p2.fin), vp2_kids])) rfl ?_
  intro a w b2 hE hp
  have hp : Hp Z ρ (Pt b2 (.cells #[(.int .i64 p2.kind), (.string p2.text), (.int .i64 p2.at_), (.int .i64 p2.fin), vp2_kids] 24 (0, 0)) :: _ :: L) w := hp
  refine s_new (wk0 rfl) rfl rfl hE hp rfl [(.int .i64 0), (.string ByteArray.empty), (.int .i64 0), (.int .i64 0), (.slice none 0 0)] (fun w => by simp [Instr.alloc, go_sem] <;> rfl) ?_
  intro a w b3 hE hp
  have hp : Hp Z ρ (Pt b3 (.cells #[(.int .i64 0), (.string ByteArray.empty), (.int .i64 0), (.int .i64 0), (.slice none 0 0)] 24 (0, 0)) :: _ :: _ :: L) w := hp
  refine s_nil ?_
  refine k_seq ?_
  refine k_region ?_
  refine s_val (wk0 rfl) rfl rfl hE hp (v := (.string p0)) (ex_move rfl hE rfl) ?_
  intro a hE
  refine s_val (wk0 rfl) rfl rfl hE hp (v := (.agg #[(.int .i64 p1.kind), (.string p1.text), (.int .i64 p1.at_), (.int .i64 p1.fin), vp1_kids])) (ex_load rfl hE rfl (fun w hw => run_ldN (cs := [(.int .i64 p1.kind), (.string p1.text), (.int .i64 p1.at_), (.int .i64 p1.fin), vp1_kids]) varty24 (Hp.cN 2 rfl 0 _ (sub_all rfl) w hw))) ?_
  intro a hE
  refine s_val (wk0 rfl) rfl rfl hE hp (v := (.agg #[(.int .i64 p2.kind), (.string p2.text), (.int .i64 p2.at_), (.int .i64 p2.fin), vp2_kids])) (ex_load rfl hE rfl (fun w hw => run_ldN (cs := [(.int .i64 p2.kind), (.string p2.text), (.int .i64 p2.at_), (.int .i64 p2.fin), vp2_kids]) varty24 (Hp.cN 1 rfl 0 _ (sub_all rfl) w hw))) ?_
  intro a hE
  refine s_lit (wk0 rfl) rfl rfl hE hp rfl [(0, (.agg #[(.int .i64 p1.kind), (.string p1.text), (.int .i64 p1.at_), (.int .i64 p1.fin), vp1_kids])), (1, (.agg #[(.int .i64 p2.kind), (.string p2.text), (.int .i64 p2.at_), (.int .i64 p2.fin), vp2_kids]))] ⟨⟨rfl, rfl⟩, ⟨rfl, rfl⟩, trivial⟩ [(.int .i64 p1.kind), (.string p1.text), (.int .i64 p1.at_), (.int .i64 p1.fin), vp1_kids, (.int .i64 p2.kind), (.string p2.text), (.int .i64 p2.at_), (.int .i64 p2.fin), vp2_kids] 24 (fun w => by have hc0 := RoSl.cells hp1_kids; simp only [Value.cells] at hc0; have hc1 := RoSl.cells hp2_kids; simp only [Value.cells] at hc1; simp [Instr.buildSlice, Instr.fill, Value.cells, hc0, hc1, go_sem]) ?_
  intro a w b4 hE hp
  have hp : Hp Z ρ (Pt b4 (.cells #[(.int .i64 p1.kind), (.string p1.text), (.int .i64 p1.at_), (.int .i64 p1.fin), vp1_kids, (.int .i64 p2.kind), (.string p2.text), (.int .i64 p2.at_), (.int .i64 p2.fin), vp2_kids] 24 (0, 0)) :: _ :: _ :: _ :: L) w := hp
  obtain ⟨k1, k1a, k1d, hp⟩ := (hp.get 0 rfl).lend
  have f1 : RoSl (ρ.un k1) (.slice (some ⟨b4, 0, none⟩) 2 2) ([p1, p2] : List Node) := RoSl.of_all (l := (([p1, p2] : List Node))) k1d k1a ⟨_, _, rfl, (show NodeAt (ρ.un k1) p1 [(.int .i64 p1.kind), (.string p1.text), (.int .i64 p1.at_), (.int .i64 p1.fin), vp1_kids] from NodeAt.shutv ((RoSl.mono hp1_kids (PH.le_un _ k1)))), ⟨_, _, rfl, (show NodeAt (ρ.un k1) p2 [(.int .i64 p2.kind), (.string p2.text), (.int .i64 p2.at_), (.int .i64 p2.fin), vp2_kids] from NodeAt.shutv ((RoSl.mono hp2_kids (PH.le_un _ k1)))), rfl⟩⟩
  have hp : Hp Z (ρ.un k1) (_ :: _ :: _ :: L) w := hp
  refine s_val (wk0 rfl) rfl rfl hE hp (v := (.agg #[(.int .i64 29), (.string p0), (.int .i64 0), (.int .i64 0), (.slice (some ⟨b4, 0, none⟩) 2 2)])) (ex_bld rfl hE [(0, (.int .i64 29)), (1, (.string p0)), (4, (.slice (some ⟨b4, 0, none⟩) 2 2))] (by exact ⟨⟨rfl, rfl⟩, ⟨rfl, rfl⟩, ⟨rfl, rfl⟩, trivial⟩) (fun w => by have hc0 := RoSl.cells f1; simp only [Value.cells] at hc0; simp [Instr.build, Instr.fill, Value.cells, hc0, go_sem])) ?_
  intro a hE
  refine s_store (wk0 rfl) rfl hE hp rfl rfl rfl 0 rfl varty24.size_ rfl (allOne_mem ⟨rfl, rfl, rfl, rfl, (RoSl.one f1), trivial⟩) [(.int .i64 29), (.string p0), (.int .i64 0), (.int .i64 0), (.slice (some ⟨b4, 0, none⟩) 2 2)] rfl ?_
  intro w hp
  have hp : Hp Z (ρ.un k1) (Pt b3 (.cells #[(.int .i64 29), (.string p0), (.int .i64 0), (.int .i64 0), (.slice (some ⟨b4, 0, none⟩) 2 2)] 24 (0, 0)) :: _ :: _ :: L) w := hp
  refine s_nil ?_
  refine k_ret ?_
  obtain rfl := Option.some.inj hm
  exact retc1 hE rfl rfl (run_lvN (cs := [(.int .i64 29), (.string p0), (.int .i64 0), (.int .i64 0), (.slice (some ⟨b4, 0, none⟩) 2 2)]) varty24 (Hp.cN 0 rfl 0 _ (sub_all rfl) _ hp)) ⟨_, rfl, _, _, (PH.le_un _ k1), rfl, f1, (((((hp.get 2 rfl).drop).get 1 rfl).drop).drop)⟩
/- assessor/assessorlaw37.few -/
set_option maxRecDepth 100000 in
set_option maxHeartbeats 4000000 in
theorem c_assessorlaw37_few {Z : World} {ρ : PH} {L : List Atom} {w : World} (p0 : Node) (vp0_kids : Value) (hp0_kids : RoSl ρ vp0_kids p0.kids) (p1 : Node) (vp1_kids : Value) (hp1_kids : RoSl ρ vp1_kids p1.kids) (p2 : Int) (hp : Hp Z ρ (L) w) (r : Bool) (hm : m_assessorlaw37_few p0 p1 p2 = some r) :
    Calls Try.prog 11 #[(.agg #[(.int .i64 p0.kind), (.string p0.text), (.int .i64 p0.at_), (.int .i64 p0.fin), vp0_kids]), (.agg #[(.int .i64 p1.kind), (.string p1.text), (.int .i64 p1.at_), (.int .i64 p1.fin), vp1_kids]), (.int .i64 p2)] w (Ret fun v w' => v = (.bool r) ∧ Hp Z ρ (L) w') := by
  refine enter (N := 15) Try.func11 rfl rfl [(0, (.agg #[(.int .i64 p0.kind), (.string p0.text), (.int .i64 p0.at_), (.int .i64 p0.fin), vp0_kids])), (1, (.agg #[(.int .i64 p1.kind), (.string p1.text), (.int .i64 p1.at_), (.int .i64 p1.fin), vp1_kids])), (2, (.int .i64 p2))] rfl (argsIn_mem ⟨rfl, rfl, rfl, trivial⟩) fun a hE => ?_
  unfold m_assessorlaw37_few at hm
  refine k_seq ?_
  refine k_region ?_
  refine s_box (wk0 rfl) rfl rfl hE hp rfl (v := (.agg #[(.int .i64 p0.kind), (.string p0.text), (.int .i64 p0.at_), (.int .i64 p0.fin), vp0_kids])) rfl ?_
  intro a w b1 hE hp
  have hp : Hp Z ρ (Pt b1 (.cells #[(.int .i64 p0.kind), (.string p0.text), (.int .i64 p0.at_), (.int .i64 p0.fin), vp0_kids] 24 (0, 0)) :: L) w := hp
  refine s_box (wk0 rfl) rfl rfl hE hp rfl (v := (.agg #[(.int .i64 p1.kind), (.string p1.text), (.int .i64 p1.at_), (.int .i64 p1.fin), vp1_kids])) rfl ?_
  intro a w b2 hE hp
  have hp : Hp Z ρ (Pt b2 (.cells #[(.int .i64 p1.kind), (.string p1.text), (.int .i64 p1.at_), (.int .i64 p1.fin), vp1_kids] 24 (0, 0)) :: _ :: L) w := hp
  refine s_val (wk0 rfl) rfl rfl hE hp (v := (.bool false)) (ex_asn rfl hE rfl) ?_
  intro a hE
  refine s_nil ?_
  refine k_seq ?_
  refine k_region ?_
  refine s_val (wk0 rfl) rfl rfl hE hp (v := (.agg #[(.int .i64 p0.kind), (.string p0.text), (.int .i64 p0.at_), (.int .i64 p0.fin), vp0_kids])) (ex_load rfl hE rfl (fun w hw => run_ldN (cs := [(.int .i64 p0.kind), (.string p0.text), (.int .i64 p0.at_), (.int .i64 p0.fin), vp0_kids]) varty24 (Hp.cN 1 rfl 0 _ (sub_all rfl) w hw))) ?_
  intro a hE
  refine s_val (wk0 rfl) rfl rfl hE hp (v := (.int .i64 p2)) (ex_move rfl hE rfl) ?_
  intro a hE
  obtain ⟨x1, ex1, hm⟩ := bnd hm
  refine s_call (wk0 rfl) rfl rfl hE rfl [(.agg #[(.int .i64 p0.kind), (.string p0.text), (.int .i64 p0.at_), (.int .i64 p0.fin), vp0_kids]), (.int .i64 p2)] ⟨rfl, rfl, trivial⟩ ent28 (c_assessorref37_Few p0 vp0_kids hp0_kids p2 hp x1 ex1) Ret.ret ?_
  intro v a w hR hE
  obtain ⟨rfl, hp⟩ := Ret.of hR
  have hp : Hp Z ρ (_ :: _ :: L) w := hp
  refine s_val (wk0 rfl) rfl rfl hE hp (v := (.bool x1)) (ex_move rfl hE rfl) ?_
  intro a hE
  obtain ⟨m1, hg1, hm⟩ := bnd hm
  refine s_cut [_, _, _, _] (fun a w => Env 15 [(14, (.bool m1))] a ∧ Hp Z ρ (Pt b2 (.cells #[(.int .i64 p1.kind), (.string p1.text), (.int .i64 p1.at_), (.int .i64 p1.fin), vp1_kids] 24 (0, 0)) :: Pt b1 (.cells #[(.int .i64 p0.kind), (.string p0.text), (.int .i64 p0.at_), (.int .i64 p0.fin), vp0_kids] 24 (0, 0)) :: L) w) ?_ ?_
  · rcases Bool.eq_false_or_eq_true x1 with hb1 | hb1
    ·
      replace hg1 := (it hb1).symm.trans hg1
      refine s_val (wk1 hE rfl rfl rfl hb1) rfl rfl hE hp (v := (.agg #[(.int .i64 p1.kind), (.string p1.text), (.int .i64 p1.at_), (.int .i64 p1.fin), vp1_kids])) (ex_load rfl hE rfl (fun w hw => run_ldN (cs := [(.int .i64 p1.kind), (.string p1.text), (.int .i64 p1.at_), (.int .i64 p1.fin), vp1_kids]) varty24 (Hp.cN 0 rfl 0 _ (sub_all rfl) w hw))) ?_
      intro a hE
      refine s_val (wk1 hE rfl rfl rfl hb1) rfl rfl hE hp (v := (.int .i64 p2)) (ex_move rfl hE rfl) ?_
      intro a hE
      obtain ⟨x2, ex2, hg1⟩ := bnd hg1
      refine s_call (wk1 hE rfl rfl rfl hb1) rfl rfl hE rfl [(.agg #[(.int .i64 p1.kind), (.string p1.text), (.int .i64 p1.at_), (.int .i64 p1.fin), vp1_kids]), (.int .i64 p2)] ⟨rfl, rfl, trivial⟩ ent28 (c_assessorref37_Few p1 vp1_kids hp1_kids p2 hp x2 ex2) Ret.ret ?_
      intro v a w hR hE
      obtain ⟨rfl, hp⟩ := Ret.of hR
      have hp : Hp Z ρ (_ :: _ :: L) w := hp
      refine s_val (wk0 rfl) rfl rfl hE hp (v := (.bool x2)) (ex_pick1 rfl hE rfl hb1 rfl) ?_
      intro a hE
      obtain rfl := Option.some.inj hg1
      exact s_nil ⟨hE.cut ⟨rfl, trivial⟩, hp⟩
    ·
      replace hg1 := (ie hb1).symm.trans hg1
      refine s_skip (wk2 hE rfl rfl rfl hb1) rfl rfl hE ?_
      intro a hE
      refine s_skip (wk2 hE rfl rfl rfl hb1) rfl rfl hE ?_
      intro a hE
      refine s_skip (wk2 hE rfl rfl rfl hb1) rfl rfl hE ?_
      intro a hE
      refine s_val (wk0 rfl) rfl rfl hE hp (v := (.bool false)) (ex_pick0 rfl hE rfl hb1 rfl) ?_
      intro a hE
      obtain rfl := Option.some.inj hg1
      exact s_nil ⟨hE.cut ⟨rfl, trivial⟩, hp⟩
  · rintro a w ⟨hE, hp⟩
    refine s_val (wk0 rfl) rfl rfl hE hp (v := (.bool m1)) (ex_asn rfl hE rfl) ?_
    intro a hE
    refine s_nil ?_
    refine k_ret ?_
    obtain rfl := Option.some.inj hm
    exact ret1 hE rfl rfl ⟨_, rfl, rfl, (((hp.get 1 rfl).drop).drop)⟩
/- assessor/assessorlaw37.awake -/
set_option maxRecDepth 100000 in
set_option maxHeartbeats 4000000 in
theorem c_assessorlaw37_awake {Z : World} {ρ : PH} {L : List Atom} {w : World}  (hp : Hp Z ρ (L) w) (r : Bool) (hm : m_assessorlaw37_awake  = some r) :
    Calls Try.prog 10 #[] w (Ret fun v w' => v = (.bool r) ∧ Hp Z ρ (L) w') := by
  refine enter (N := 155) Try.func10 rfl rfl [] rfl (argsIn_mem trivial) fun a hE => ?_
  unfold m_assessorlaw37_awake at hm
  refine k_seq ?_
  refine k_region ?_
  refine s_val (wk0 rfl) rfl rfl hE hp (v := (.bool false)) (ex_asn rfl hE rfl) ?_
  intro a hE
  refine s_nil ?_
  refine k_seq ?_
  refine k_region ?_
  obtain ⟨x1, ex1, hm⟩ := bnd hm
  refine s_call (wk0 rfl) rfl rfl hE rfl [(.string (ByteArray.mk #[97]))] ⟨rfl, trivial⟩ ent27 (c_assessorlaw37_name (ByteArray.mk #[97]) hp x1 ex1) Ret.ret ?_
  intro v a w hR hE
  obtain ⟨vr1_kids, rfl, hr1_kids, hp⟩ := Ret.of hR
  have hp : Hp Z ρ (L) w := hp
  obtain ⟨x2, ex2, hm⟩ := bnd hm
  refine s_call (wk0 rfl) rfl rfl hE rfl [(.string (ByteArray.mk #[98]))] ⟨rfl, trivial⟩ ent27 (c_assessorlaw37_name (ByteArray.mk #[98]) hp x2 ex2) Ret.ret ?_
  intro v a w hR hE
  obtain ⟨vr2_kids, rfl, hr2_kids, hp⟩ := Ret.of hR
  have hp : Hp Z ρ (L) w := hp
  obtain ⟨x3, ex3, hm⟩ := bnd hm
  refine s_call (wk0 rfl) rfl rfl hE rfl [(.string (ByteArray.mk #[99]))] ⟨rfl, trivial⟩ ent27 (c_assessorlaw37_name (ByteArray.mk #[99]) hp x3 ex3) Ret.ret ?_
  intro v a w hR hE
  obtain ⟨vr3_kids, rfl, hr3_kids, hp⟩ := Ret.of hR
  have hp : Hp Z ρ (L) w := hp
  obtain ⟨x4, ex4, hm⟩ := bnd hm
  refine s_call (wk0 rfl) rfl rfl hE rfl [(.string (ByteArray.mk #[42])), (.agg #[(.int .i64 x2.kind), (.string x2.text), (.int .i64 x2.at_), (.int .i64 x2.fin), vr2_kids]), (.agg #[(.int .i64 x3.kind), (.string x3.text), (.int .i64 x3.at_), (.int .i64 x3.fin), vr3_kids])] ⟨rfl, rfl, rfl, trivial⟩ ent26 (c_assessorlaw37_binary (ByteArray.mk #[42]) x2 vr2_kids hr2_kids x3 vr3_kids hr3_kids hp x4 ex4) Ret.ret ?_
  intro v a w hR hE
  obtain ⟨ρ1, vr4_kids, hle1, rfl, hr4_kids, hp⟩ := Ret.of hR
  have hp : Hp Z ρ1 (L) w := hp
  obtain ⟨x5, ex5, hm⟩ := bnd hm
  refine s_call (wk0 rfl) rfl rfl hE rfl [(.string (ByteArray.mk #[43])), (.agg #[(.int .i64 x1.kind), (.string x1.text), (.int .i64 x1.at_), (.int .i64 x1.fin), vr1_kids]), (.agg #[(.int .i64 x4.kind), (.string x4.text), (.int .i64 x4.at_), (.int .i64 x4.fin), vr4_kids])] ⟨rfl, rfl, rfl, trivial⟩ ent26 (c_assessorlaw37_binary (ByteArray.mk #[43]) x1 vr1_kids (RoSl.mono hr1_kids hle1) x4 vr4_kids hr4_kids hp x5 ex5) Ret.ret ?_
  intro v a w hR hE
  obtain ⟨ρ2, vr5_kids, hle2, rfl, hr5_kids, hp⟩ := Ret.of hR
  have hp : Hp Z ρ2 (L) w := hp
  obtain ⟨x6, ex6, hm⟩ := bnd hm
  refine s_call (wk0 rfl) rfl rfl hE rfl [(.string (ByteArray.mk #[97]))] ⟨rfl, trivial⟩ ent27 (c_assessorlaw37_name (ByteArray.mk #[97]) hp x6 ex6) Ret.ret ?_
  intro v a w hR hE
  obtain ⟨vr6_kids, rfl, hr6_kids, hp⟩ := Ret.of hR
  have hp : Hp Z ρ2 (L) w := hp
  obtain ⟨x7, ex7, hm⟩ := bnd hm
  refine s_call (wk0 rfl) rfl rfl hE rfl [(.string (ByteArray.mk #[99]))] ⟨rfl, trivial⟩ ent27 (c_assessorlaw37_name (ByteArray.mk #[99]) hp x7 ex7) Ret.ret ?_
  intro v a w hR hE
  obtain ⟨vr7_kids, rfl, hr7_kids, hp⟩ := Ret.of hR
  have hp : Hp Z ρ2 (L) w := hp
  obtain ⟨x8, ex8, hm⟩ := bnd hm
  refine s_call (wk0 rfl) rfl rfl hE rfl [(.string (ByteArray.mk #[42])), (.agg #[(.int .i64 x6.kind), (.string x6.text), (.int .i64 x6.at_), (.int .i64 x6.fin), vr6_kids]), (.agg #[(.int .i64 x7.kind), (.string x7.text), (.int .i64 x7.at_), (.int .i64 x7.fin), vr7_kids])] ⟨rfl, rfl, rfl, trivial⟩ ent26 (c_assessorlaw37_binary (ByteArray.mk #[42]) x6 vr6_kids hr6_kids x7 vr7_kids hr7_kids hp x8 ex8) Ret.ret ?_
  intro v a w hR hE
  obtain ⟨ρ3, vr8_kids, hle3, rfl, hr8_kids, hp⟩ := Ret.of hR
  have hp : Hp Z ρ3 (L) w := hp
  refine s_new (wk0 rfl) rfl rfl hE hp rfl [(.int .i64 0), (.string ByteArray.empty), (.int .i64 0), (.int .i64 0), (.slice none 0 0)] (fun w => by simp [Instr.alloc, go_sem] <;> rfl) ?_
  intro a w b1 hE hp
  have hp : Hp Z ρ3 (Pt b1 (.cells #[(.int .i64 0), (.string ByteArray.empty), (.int .i64 0), (.int .i64 0), (.slice none 0 0)] 24 (0, 0)) :: L) w := hp
  refine s_new (wk0 rfl) rfl rfl hE hp rfl [(.int .i64 0), (.string ByteArray.empty), (.int .i64 0), (.int .i64 0), (.slice none 0 0)] (fun w => by simp [Instr.alloc, go_sem] <;> rfl) ?_
  intro a w b2 hE hp
  have hp : Hp Z ρ3 (Pt b2 (.cells #[(.int .i64 0), (.string ByteArray.empty), (.int .i64 0), (.int .i64 0), (.slice none 0 0)] 24 (0, 0)) :: _ :: L) w := hp
  refine s_store (wk0 rfl) rfl hE hp rfl rfl rfl 1 rfl varty24.size_ rfl (allOne_mem ⟨rfl, rfl, rfl, rfl, (RoSl.one (RoSl.mono hr5_kids hle3)), trivial⟩) [(.int .i64 x5.kind), (.string x5.text), (.int .i64 x5.at_), (.int .i64 x5.fin), vr5_kids] rfl ?_
  intro w hp
  have hp : Hp Z ρ3 (_ :: Pt b1 (.cells #[(.int .i64 x5.kind), (.string x5.text), (.int .i64 x5.at_), (.int .i64 x5.fin), vr5_kids] 24 (0, 0)) :: L) w := hp
  refine s_store (wk0 rfl) rfl hE hp rfl rfl rfl 0 rfl varty24.size_ rfl (allOne_mem ⟨rfl, rfl, rfl, rfl, (RoSl.one hr8_kids), trivial⟩) [(.int .i64 x8.kind), (.string x8.text), (.int .i64 x8.at_), (.int .i64 x8.fin), vr8_kids] rfl ?_
  intro w hp
  have hp : Hp Z ρ3 (Pt b2 (.cells #[(.int .i64 x8.kind), (.string x8.text), (.int .i64 x8.at_), (.int .i64 x8.fin), vr8_kids] 24 (0, 0)) :: _ :: L) w := hp
  refine s_nil ?_
  refine k_seq ?_
  refine k_region ?_
  refine s_val (wk0 rfl) rfl rfl hE hp (v := (.agg #[(.int .i64 x5.kind), (.string x5.text), (.int .i64 x5.at_), (.int .i64 x5.fin), vr5_kids])) (ex_load rfl hE rfl (fun w hw => run_ldN (cs := [(.int .i64 x5.kind), (.string x5.text), (.int .i64 x5.at_), (.int .i64 x5.fin), vr5_kids]) varty24 (Hp.cN 1 rfl 0 _ (sub_all rfl) w hw))) ?_
  intro a hE
  refine s_val (wk0 rfl) rfl rfl hE hp (v := (.agg #[(.int .i64 x8.kind), (.string x8.text), (.int .i64 x8.at_), (.int .i64 x8.fin), vr8_kids])) (ex_load rfl hE rfl (fun w hw => run_ldN (cs := [(.int .i64 x8.kind), (.string x8.text), (.int .i64 x8.at_), (.int .i64 x8.fin), vr8_kids]) varty24 (Hp.cN 0 rfl 0 _ (sub_all rfl) w hw))) ?_
  intro a hE
  obtain ⟨x9, ex9, hm⟩ := bnd hm
  refine s_call (wk0 rfl) rfl rfl hE rfl [(.agg #[(.int .i64 x5.kind), (.string x5.text), (.int .i64 x5.at_), (.int .i64 x5.fin), vr5_kids]), (.agg #[(.int .i64 x8.kind), (.string x8.text), (.int .i64 x8.at_), (.int .i64 x8.fin), vr8_kids])] ⟨rfl, rfl, trivial⟩ ent12 (c_distance_Distance x5 vr5_kids (RoSl.mono hr5_kids hle3) x8 vr8_kids hr8_kids hp x9 ex9) Ret.ret ?_
  intro v a w hR hE
  obtain ⟨rfl, hp⟩ := Ret.of hR
  have hp : Hp Z ρ3 (_ :: _ :: L) w := hp
  refine s_val (wk0 rfl) rfl rfl hE hp (v := (.tuple #[(.int .i64 x9.1), (.int .i64 x9.2)])) (ex_move rfl hE rfl) ?_
  intro a hE
  refine s_val (wk0 rfl) rfl rfl hE hp (v := (.int .i64 x9.1)) (ex_extract rfl hE rfl rfl) ?_
  intro a hE
  refine s_val (wk0 rfl) rfl rfl hE hp (v := (.int .i64 x9.2)) (ex_extract rfl hE rfl rfl) ?_
  intro a hE
  refine s_val (wk0 rfl) rfl rfl hE hp (v := (.int .i64 x9.1)) (ex_asn rfl hE rfl) ?_
  intro a hE
  refine s_val (wk0 rfl) rfl rfl hE hp (v := (.int .i64 x9.2)) (ex_asn rfl hE rfl) ?_
  intro a hE
  refine s_nil ?_
  refine k_seq ?_
  refine k_region ?_
  obtain ⟨x10, ex10, hm⟩ := bnd hm
  refine s_call (wk0 rfl) rfl rfl hE rfl [(.string (ByteArray.mk #[97]))] ⟨rfl, trivial⟩ ent27 (c_assessorlaw37_name (ByteArray.mk #[97]) hp x10 ex10) Ret.ret ?_
  intro v a w hR hE
  obtain ⟨vr11_kids, rfl, hr11_kids, hp⟩ := Ret.of hR
  have hp : Hp Z ρ3 (_ :: _ :: L) w := hp
  obtain ⟨x11, ex11, hm⟩ := bnd hm
  refine s_call (wk0 rfl) rfl rfl hE rfl [(.string (ByteArray.mk #[98]))] ⟨rfl, trivial⟩ ent27 (c_assessorlaw37_name (ByteArray.mk #[98]) hp x11 ex11) Ret.ret ?_
  intro v a w hR hE
  obtain ⟨vr12_kids, rfl, hr12_kids, hp⟩ := Ret.of hR
  have hp : Hp Z ρ3 (_ :: _ :: L) w := hp
  obtain ⟨x12, ex12, hm⟩ := bnd hm
  refine s_call (wk0 rfl) rfl rfl hE rfl [(.string (ByteArray.mk #[43])), (.agg #[(.int .i64 x10.kind), (.string x10.text), (.int .i64 x10.at_), (.int .i64 x10.fin), vr11_kids]), (.agg #[(.int .i64 x11.kind), (.string x11.text), (.int .i64 x11.at_), (.int .i64 x11.fin), vr12_kids])] ⟨rfl, rfl, rfl, trivial⟩ ent26 (c_assessorlaw37_binary (ByteArray.mk #[43]) x10 vr11_kids hr11_kids x11 vr12_kids hr12_kids hp x12 ex12) Ret.ret ?_
  intro v a w hR hE
  obtain ⟨ρ4, vr13_kids, hle4, rfl, hr13_kids, hp⟩ := Ret.of hR
  have hp : Hp Z ρ4 (_ :: _ :: L) w := hp
  obtain ⟨x13, ex13, hm⟩ := bnd hm
  refine s_call (wk0 rfl) rfl rfl hE rfl [(.string (ByteArray.mk #[98]))] ⟨rfl, trivial⟩ ent27 (c_assessorlaw37_name (ByteArray.mk #[98]) hp x13 ex13) Ret.ret ?_
  intro v a w hR hE
  obtain ⟨vr14_kids, rfl, hr14_kids, hp⟩ := Ret.of hR
  have hp : Hp Z ρ4 (_ :: _ :: L) w := hp
  obtain ⟨x14, ex14, hm⟩ := bnd hm
  refine s_call (wk0 rfl) rfl rfl hE rfl [(.string (ByteArray.mk #[97]))] ⟨rfl, trivial⟩ ent27 (c_assessorlaw37_name (ByteArray.mk #[97]) hp x14 ex14) Ret.ret ?_
  intro v a w hR hE
  obtain ⟨vr15_kids, rfl, hr15_kids, hp⟩ := Ret.of hR
  have hp : Hp Z ρ4 (_ :: _ :: L) w := hp
  obtain ⟨x15, ex15, hm⟩ := bnd hm
  refine s_call (wk0 rfl) rfl rfl hE rfl [(.string (ByteArray.mk #[43])), (.agg #[(.int .i64 x13.kind), (.string x13.text), (.int .i64 x13.at_), (.int .i64 x13.fin), vr14_kids]), (.agg #[(.int .i64 x14.kind), (.string x14.text), (.int .i64 x14.at_), (.int .i64 x14.fin), vr15_kids])] ⟨rfl, rfl, rfl, trivial⟩ ent26 (c_assessorlaw37_binary (ByteArray.mk #[43]) x13 vr14_kids hr14_kids x14 vr15_kids hr15_kids hp x15 ex15) Ret.ret ?_
  intro v a w hR hE
  obtain ⟨ρ5, vr16_kids, hle5, rfl, hr16_kids, hp⟩ := Ret.of hR
  have hp : Hp Z ρ5 (_ :: _ :: L) w := hp
  obtain ⟨x16, ex16, hm⟩ := bnd hm
  refine s_call (wk0 rfl) rfl rfl hE rfl [(.agg #[(.int .i64 x12.kind), (.string x12.text), (.int .i64 x12.at_), (.int .i64 x12.fin), vr13_kids]), (.agg #[(.int .i64 x15.kind), (.string x15.text), (.int .i64 x15.at_), (.int .i64 x15.fin), vr16_kids])] ⟨rfl, rfl, trivial⟩ ent12 (c_distance_Distance x12 vr13_kids (RoSl.mono hr13_kids hle5) x15 vr16_kids hr16_kids hp x16 ex16) Ret.ret ?_
  intro v a w hR hE
  obtain ⟨rfl, hp⟩ := Ret.of hR
  have hp : Hp Z ρ5 (_ :: _ :: L) w := hp
  refine s_val (wk0 rfl) rfl rfl hE hp (v := (.tuple #[(.int .i64 x16.1), (.int .i64 x16.2)])) (ex_move rfl hE rfl) ?_
  intro a hE
  refine s_val (wk0 rfl) rfl rfl hE hp (v := (.int .i64 x16.1)) (ex_extract rfl hE rfl rfl) ?_
  intro a hE
  refine s_val (wk0 rfl) rfl rfl hE hp (v := (.int .i64 x16.2)) (ex_extract rfl hE rfl rfl) ?_
  intro a hE
  refine s_val (wk0 rfl) rfl rfl hE hp (v := (.int .i64 x16.1)) (ex_asn rfl hE rfl) ?_
  intro a hE
  refine s_val (wk0 rfl) rfl rfl hE hp (v := (.int .i64 x16.2)) (ex_asn rfl hE rfl) ?_
  intro a hE
  refine s_nil ?_
  have hE := hE.cut (E' := [(1, (.pointer (some ⟨b1, 0, none⟩))), (2, (.pointer (some ⟨b2, 0, none⟩))), (3, (.int .i64 x9.1)), (4, (.int .i64 x9.2)), (5, (.int .i64 x16.1)), (6, (.int .i64 x16.2))]) ⟨rfl, rfl, rfl, rfl, rfl, rfl, trivial⟩
  refine k_seq ?_
  refine k_region ?_
  refine s_val (wk0 rfl) rfl rfl hE hp (v := (.agg #[(.int .i64 x5.kind), (.string x5.text), (.int .i64 x5.at_), (.int .i64 x5.fin), vr5_kids])) (ex_load rfl hE rfl (fun w hw => run_ldN (cs := [(.int .i64 x5.kind), (.string x5.text), (.int .i64 x5.at_), (.int .i64 x5.fin), vr5_kids]) varty24 (Hp.cN 1 rfl 0 _ (sub_all rfl) w hw))) ?_
  intro a hE
  refine s_val (wk0 rfl) rfl rfl hE hp (v := (.agg #[(.int .i64 x8.kind), (.string x8.text), (.int .i64 x8.at_), (.int .i64 x8.fin), vr8_kids])) (ex_load rfl hE rfl (fun w hw => run_ldN (cs := [(.int .i64 x8.kind), (.string x8.text), (.int .i64 x8.at_), (.int .i64 x8.fin), vr8_kids]) varty24 (Hp.cN 0 rfl 0 _ (sub_all rfl) w hw))) ?_
  intro a hE
  obtain ⟨x17, ex17, hm⟩ := bnd hm
  refine s_call (wk0 rfl) rfl rfl hE rfl [(.agg #[(.int .i64 x5.kind), (.string x5.text), (.int .i64 x5.at_), (.int .i64 x5.fin), vr5_kids]), (.agg #[(.int .i64 x8.kind), (.string x8.text), (.int .i64 x8.at_), (.int .i64 x8.fin), vr8_kids]), (.int .i64 3)] ⟨rfl, rfl, rfl, trivial⟩ ent19 (c_distance_Within x5 vr5_kids (RoSl.mono (RoSl.mono (RoSl.mono hr5_kids hle3) hle4) hle5) x8 vr8_kids (RoSl.mono (RoSl.mono hr8_kids hle4) hle5) 3 hp x17 ex17) Ret.ret ?_
  intro v a w hR hE
  obtain ⟨rfl, hp⟩ := Ret.of hR
  have hp : Hp Z ρ5 (_ :: _ :: L) w := hp
  refine s_val (wk0 rfl) rfl rfl hE hp (v := (.tuple #[(.bool x17.1), (.int .i64 x17.2)])) (ex_move rfl hE rfl) ?_
  intro a hE
  refine s_val (wk0 rfl) rfl rfl hE hp (v := (.bool x17.1)) (ex_extract rfl hE rfl rfl) ?_
  intro a hE
  refine s_val (wk0 rfl) rfl rfl hE hp (v := (.int .i64 x17.2)) (ex_extract rfl hE rfl rfl) ?_
  intro a hE
  refine s_val (wk0 rfl) rfl rfl hE hp (v := (.bool x17.1)) (ex_asn rfl hE rfl) ?_
  intro a hE
  refine s_val (wk0 rfl) rfl rfl hE hp (v := (.int .i64 x17.2)) (ex_asn rfl hE rfl) ?_
  intro a hE
  refine s_nil ?_
  refine k_seq ?_
  refine k_region ?_
  refine s_val (wk0 rfl) rfl rfl hE hp (v := (.agg #[(.int .i64 x5.kind), (.string x5.text), (.int .i64 x5.at_), (.int .i64 x5.fin), vr5_kids])) (ex_load rfl hE rfl (fun w hw => run_ldN (cs := [(.int .i64 x5.kind), (.string x5.text), (.int .i64 x5.at_), (.int .i64 x5.fin), vr5_kids]) varty24 (Hp.cN 1 rfl 0 _ (sub_all rfl) w hw))) ?_
  intro a hE
  refine s_val (wk0 rfl) rfl rfl hE hp (v := (.agg #[(.int .i64 x8.kind), (.string x8.text), (.int .i64 x8.at_), (.int .i64 x8.fin), vr8_kids])) (ex_load rfl hE rfl (fun w hw => run_ldN (cs := [(.int .i64 x8.kind), (.string x8.text), (.int .i64 x8.at_), (.int .i64 x8.fin), vr8_kids]) varty24 (Hp.cN 0 rfl 0 _ (sub_all rfl) w hw))) ?_
  intro a hE
  refine s_val (wk0 rfl) rfl rfl hE hp (v := (.agg #[(.int .i64 x5.kind), (.string x5.text), (.int .i64 x5.at_), (.int .i64 x5.fin), vr5_kids])) (ex_load rfl hE rfl (fun w hw => run_ldN (cs := [(.int .i64 x5.kind), (.string x5.text), (.int .i64 x5.at_), (.int .i64 x5.fin), vr5_kids]) varty24 (Hp.cN 1 rfl 0 _ (sub_all rfl) w hw))) ?_
  intro a hE
  refine s_lit (wk0 rfl) rfl rfl hE hp rfl [(0, (.agg #[(.int .i64 x8.kind), (.string x8.text), (.int .i64 x8.at_), (.int .i64 x8.fin), vr8_kids])), (1, (.agg #[(.int .i64 x5.kind), (.string x5.text), (.int .i64 x5.at_), (.int .i64 x5.fin), vr5_kids]))] ⟨⟨rfl, rfl⟩, ⟨rfl, rfl⟩, trivial⟩ [(.int .i64 x8.kind), (.string x8.text), (.int .i64 x8.at_), (.int .i64 x8.fin), vr8_kids, (.int .i64 x5.kind), (.string x5.text), (.int .i64 x5.at_), (.int .i64 x5.fin), vr5_kids] 24 (fun w => by have hc0 := RoSl.cells (RoSl.mono (RoSl.mono hr8_kids hle4) hle5); simp only [Value.cells] at hc0; have hc1 := RoSl.cells (RoSl.mono (RoSl.mono (RoSl.mono hr5_kids hle3) hle4) hle5); simp only [Value.cells] at hc1; simp [Instr.buildSlice, Instr.fill, Value.cells, hc0, hc1, go_sem]) ?_
  intro a w b3 hE hp
  have hp : Hp Z ρ5 (Pt b3 (.cells #[(.int .i64 x8.kind), (.string x8.text), (.int .i64 x8.at_), (.int .i64 x8.fin), vr8_kids, (.int .i64 x5.kind), (.string x5.text), (.int .i64 x5.at_), (.int .i64 x5.fin), vr5_kids] 24 (0, 0)) :: _ :: _ :: L) w := hp
  obtain ⟨k1, k1a, k1d, hp⟩ := (hp.get 0 rfl).lend
  have f1 : RoSl (ρ5.un k1) (.slice (some ⟨b3, 0, none⟩) 2 2) ([x8, x5] : List Node) := RoSl.of_all (l := (([x8, x5] : List Node))) k1d k1a ⟨_, _, rfl, (show NodeAt (ρ5.un k1) x8 [(.int .i64 x8.kind), (.string x8.text), (.int .i64 x8.at_), (.int .i64 x8.fin), vr8_kids] from NodeAt.shutv ((RoSl.mono (RoSl.mono (RoSl.mono hr8_kids hle4) hle5) (PH.le_un _ k1)))), ⟨_, _, rfl, (show NodeAt (ρ5.un k1) x5 [(.int .i64 x5.kind), (.string x5.text), (.int .i64 x5.at_), (.int .i64 x5.fin), vr5_kids] from NodeAt.shutv ((RoSl.mono (RoSl.mono (RoSl.mono (RoSl.mono hr5_kids hle3) hle4) hle5) (PH.le_un _ k1)))), rfl⟩⟩
  have hp : Hp Z (ρ5.un k1) (_ :: _ :: L) w := hp
  obtain ⟨x18, ex18, hm⟩ := bnd hm
  refine s_call (wk0 rfl) rfl rfl hE rfl [(.agg #[(.int .i64 x5.kind), (.string x5.text), (.int .i64 x5.at_), (.int .i64 x5.fin), vr5_kids]), (.slice (some ⟨b3, 0, none⟩) 2 2)] ⟨rfl, rfl, trivial⟩ ent24 (c_distance_Nearest x5 vr5_kids (RoSl.mono (RoSl.mono (RoSl.mono (RoSl.mono hr5_kids hle3) hle4) hle5) (PH.le_un _ k1)) ([x8, x5] : List Node) (.slice (some ⟨b3, 0, none⟩) 2 2) f1 hp x18 ex18) Ret.ret ?_
  intro v a w hR hE
  obtain ⟨rfl, hp⟩ := Ret.of hR
  have hp : Hp Z (ρ5.un k1) (_ :: _ :: L) w := hp
  refine s_val (wk0 rfl) rfl rfl hE hp (v := (.tuple #[(.int .i64 x18.1), (.int .i64 x18.2.1), (.int .i64 x18.2.2)])) (ex_move rfl hE rfl) ?_
  intro a hE
  refine s_val (wk0 rfl) rfl rfl hE hp (v := (.int .i64 x18.1)) (ex_extract rfl hE rfl rfl) ?_
  intro a hE
  refine s_val (wk0 rfl) rfl rfl hE hp (v := (.int .i64 x18.2.1)) (ex_extract rfl hE rfl rfl) ?_
  intro a hE
  refine s_val (wk0 rfl) rfl rfl hE hp (v := (.int .i64 x18.2.2)) (ex_extract rfl hE rfl rfl) ?_
  intro a hE
  refine s_val (wk0 rfl) rfl rfl hE hp (v := (.int .i64 x18.1)) (ex_asn rfl hE rfl) ?_
  intro a hE
  refine s_val (wk0 rfl) rfl rfl hE hp (v := (.int .i64 x18.2.1)) (ex_asn rfl hE rfl) ?_
  intro a hE
  refine s_val (wk0 rfl) rfl rfl hE hp (v := (.int .i64 x18.2.2)) (ex_asn rfl hE rfl) ?_
  intro a hE
  refine s_nil ?_
  have hE := hE.cut (E' := [(1, (.pointer (some ⟨b1, 0, none⟩))), (2, (.pointer (some ⟨b2, 0, none⟩))), (3, (.int .i64 x9.1)), (4, (.int .i64 x9.2)), (5, (.int .i64 x16.1)), (6, (.int .i64 x16.2)), (7, (.bool x17.1)), (8, (.int .i64 x17.2)), (9, (.int .i64 x18.1)), (10, (.int .i64 x18.2.1)), (11, (.int .i64 x18.2.2))]) ⟨rfl, rfl, rfl, rfl, rfl, rfl, rfl, rfl, rfl, rfl, rfl, trivial⟩
  refine k_seq ?_
  refine k_region ?_
  refine s_val (wk0 rfl) rfl rfl hE hp (v := (.agg #[(.int .i64 x5.kind), (.string x5.text), (.int .i64 x5.at_), (.int .i64 x5.fin), vr5_kids])) (ex_load rfl hE rfl (fun w hw => run_ldN (cs := [(.int .i64 x5.kind), (.string x5.text), (.int .i64 x5.at_), (.int .i64 x5.fin), vr5_kids]) varty24 (Hp.cN 1 rfl 0 _ (sub_all rfl) w hw))) ?_
  intro a hE
  refine s_val (wk0 rfl) rfl rfl hE hp (v := (.agg #[(.int .i64 x8.kind), (.string x8.text), (.int .i64 x8.at_), (.int .i64 x8.fin), vr8_kids])) (ex_load rfl hE rfl (fun w hw => run_ldN (cs := [(.int .i64 x8.kind), (.string x8.text), (.int .i64 x8.at_), (.int .i64 x8.fin), vr8_kids]) varty24 (Hp.cN 0 rfl 0 _ (sub_all rfl) w hw))) ?_
  intro a hE
  refine s_lit (wk0 rfl) rfl rfl hE hp rfl [(0, (.agg #[(.int .i64 x5.kind), (.string x5.text), (.int .i64 x5.at_), (.int .i64 x5.fin), vr5_kids])), (1, (.agg #[(.int .i64 x8.kind), (.string x8.text), (.int .i64 x8.at_), (.int .i64 x8.fin), vr8_kids]))] ⟨⟨rfl, rfl⟩, ⟨rfl, rfl⟩, trivial⟩ [(.int .i64 x5.kind), (.string x5.text), (.int .i64 x5.at_), (.int .i64 x5.fin), vr5_kids, (.int .i64 x8.kind), (.string x8.text), (.int .i64 x8.at_), (.int .i64 x8.fin), vr8_kids] 24 (fun w => by have hc0 := RoSl.cells (RoSl.mono (RoSl.mono (RoSl.mono (RoSl.mono hr5_kids hle3) hle4) hle5) (PH.le_un _ k1)); simp only [Value.cells] at hc0; have hc1 := RoSl.cells (RoSl.mono (RoSl.mono (RoSl.mono hr8_kids hle4) hle5) (PH.le_un _ k1)); simp only [Value.cells] at hc1; simp [Instr.buildSlice, Instr.fill, Value.cells, hc0, hc1, go_sem]) ?_
  intro a w b4 hE hp
  have hp : Hp Z (ρ5.un k1) (Pt b4 (.cells #[(.int .i64 x5.kind), (.string x5.text), (.int .i64 x5.at_), (.int .i64 x5.fin), vr5_kids, (.int .i64 x8.kind), (.string x8.text), (.int .i64 x8.at_), (.int .i64 x8.fin), vr8_kids] 24 (0, 0)) :: _ :: _ :: L) w := hp
  obtain ⟨k2, k2a, k2d, hp⟩ := (hp.get 0 rfl).lend
  have f2 : RoSl ((ρ5.un k1).un k2) (.slice (some ⟨b4, 0, none⟩) 2 2) ([x5, x8] : List Node) := RoSl.of_all (l := (([x5, x8] : List Node))) k2d k2a ⟨_, _, rfl, (show NodeAt ((ρ5.un k1).un k2) x5 [(.int .i64 x5.kind), (.string x5.text), (.int .i64 x5.at_), (.int .i64 x5.fin), vr5_kids] from NodeAt.shutv ((RoSl.mono (RoSl.mono (RoSl.mono (RoSl.mono (RoSl.mono hr5_kids hle3) hle4) hle5) (PH.le_un _ k1)) (PH.le_un _ k2)))), ⟨_, _, rfl, (show NodeAt ((ρ5.un k1).un k2) x8 [(.int .i64 x8.kind), (.string x8.text), (.int .i64 x8.at_), (.int .i64 x8.fin), vr8_kids] from NodeAt.shutv ((RoSl.mono (RoSl.mono (RoSl.mono (RoSl.mono hr8_kids hle4) hle5) (PH.le_un _ k1)) (PH.le_un _ k2)))), rfl⟩⟩
  have hp : Hp Z ((ρ5.un k1).un k2) (_ :: _ :: L) w := hp
  obtain ⟨x19, ex19, hm⟩ := bnd hm
  refine s_call (wk0 rfl) rfl rfl hE rfl [(.slice (some ⟨b4, 0, none⟩) 2 2)] ⟨rfl, trivial⟩ ent23 (c_distance_Matrix ([x5, x8] : List Node) (.slice (some ⟨b4, 0, none⟩) 2 2) f2 hp x19 ex19) Ret.ret ?_
  intro v a w hR hE
  obtain ⟨vr24, usr24, rfl, hp⟩ := Ret.of hR
  have hp : Hp Z ((ρ5.un k1).un k2) (TblA 34 3 vr24 usr24 (x19.1 : (List (List Int))) :: _ :: _ :: L) w := hp
  refine s_val (wk0 rfl) rfl rfl hE hp (v := (.tuple #[vr24, (.int .i64 x19.2)])) (ex_move rfl hE rfl) ?_
  intro a hE
  refine s_val (wk0 rfl) rfl rfl hE hp (v := vr24) (ex_extract rfl hE rfl rfl) ?_
  intro a hE
  refine s_val (wk0 rfl) rfl rfl hE hp (v := (.int .i64 x19.2)) (ex_extract rfl hE rfl rfl) ?_
  intro a hE
  refine s_val (wk0 rfl) rfl rfl hE hp (v := vr24) (ex_asn rfl hE rfl) ?_
  intro a hE
  refine s_val (wk0 rfl) rfl rfl hE hp (v := (.int .i64 x19.2)) (ex_asn rfl hE rfl) ?_
  intro a hE
  refine s_nil ?_
  refine k_seq ?_
  refine k_region ?_
  refine s_val (wk0 rfl) rfl rfl hE hp (v := (.agg #[(.int .i64 x5.kind), (.string x5.text), (.int .i64 x5.at_), (.int .i64 x5.fin), vr5_kids])) (ex_load rfl hE rfl (fun w hw => run_ldN (cs := [(.int .i64 x5.kind), (.string x5.text), (.int .i64 x5.at_), (.int .i64 x5.fin), vr5_kids]) varty24 (Hp.cN 2 rfl 0 _ (sub_all rfl) w hw))) ?_
  intro a hE
  refine s_val (wk0 rfl) rfl rfl hE hp (v := (.agg #[(.int .i64 x8.kind), (.string x8.text), (.int .i64 x8.at_), (.int .i64 x8.fin), vr8_kids])) (ex_load rfl hE rfl (fun w hw => run_ldN (cs := [(.int .i64 x8.kind), (.string x8.text), (.int .i64 x8.at_), (.int .i64 x8.fin), vr8_kids]) varty24 (Hp.cN 1 rfl 0 _ (sub_all rfl) w hw))) ?_
  intro a hE
  obtain ⟨x20, ex20, hm⟩ := bnd hm
  refine s_call (wk0 rfl) rfl rfl hE rfl [(.agg #[(.int .i64 x5.kind), (.string x5.text), (.int .i64 x5.at_), (.int .i64 x5.fin), vr5_kids]), (.agg #[(.int .i64 x8.kind), (.string x8.text), (.int .i64 x8.at_), (.int .i64 x8.fin), vr8_kids])] ⟨rfl, rfl, trivial⟩ ent13 (c_distance_Subtrees x5 vr5_kids (RoSl.mono (RoSl.mono (RoSl.mono (RoSl.mono (RoSl.mono hr5_kids hle3) hle4) hle5) (PH.le_un _ k1)) (PH.le_un _ k2)) x8 vr8_kids (RoSl.mono (RoSl.mono (RoSl.mono (RoSl.mono hr8_kids hle4) hle5) (PH.le_un _ k1)) (PH.le_un _ k2)) hp x20 ex20) Ret.ret ?_
  intro v a w hR hE
  obtain ⟨vr26, usr26, rfl, hp⟩ := Ret.of hR
  have hp : Hp Z ((ρ5.un k1).un k2) (TblA 34 3 vr26 usr26 (x20.1 : (List (List Int))) :: _ :: _ :: _ :: L) w := hp
  refine s_val (wk0 rfl) rfl rfl hE hp (v := (.tuple #[vr26, (.int .i64 x20.2)])) (ex_move rfl hE rfl) ?_
  intro a hE
  refine s_val (wk0 rfl) rfl rfl hE hp (v := vr26) (ex_extract rfl hE rfl rfl) ?_
  intro a hE
  refine s_val (wk0 rfl) rfl rfl hE hp (v := (.int .i64 x20.2)) (ex_extract rfl hE rfl rfl) ?_
  intro a hE
  refine s_val (wk0 rfl) rfl rfl hE hp (v := vr26) (ex_asn rfl hE rfl) ?_
  intro a hE
  refine s_val (wk0 rfl) rfl rfl hE hp (v := (.int .i64 x20.2)) (ex_asn rfl hE rfl) ?_
  intro a hE
  refine s_nil ?_
  have hE := hE.cut (E' := [(1, (.pointer (some ⟨b1, 0, none⟩))), (2, (.pointer (some ⟨b2, 0, none⟩))), (3, (.int .i64 x9.1)), (4, (.int .i64 x9.2)), (5, (.int .i64 x16.1)), (6, (.int .i64 x16.2)), (7, (.bool x17.1)), (8, (.int .i64 x17.2)), (9, (.int .i64 x18.1)), (10, (.int .i64 x18.2.1)), (11, (.int .i64 x18.2.2)), (12, vr24), (13, (.int .i64 x19.2)), (14, vr26), (15, (.int .i64 x20.2))]) ⟨rfl, rfl, rfl, rfl, rfl, rfl, rfl, rfl, rfl, rfl, rfl, rfl, rfl, rfl, rfl, trivial⟩
  refine k_seq ?_
  refine k_region ?_
  refine s_val (wk0 rfl) rfl rfl hE hp (v := (.int .i64 x9.2)) (ex_move rfl hE rfl) ?_
  intro a hE
  refine s_val (wk0 rfl) rfl rfl hE hp (v := (.bool (decide (x9.2 = 0)))) (ex_eql rfl hE rfl rfl) ?_
  intro a hE
  refine s_val (wk0 rfl) rfl rfl hE hp (v := (.bool (decide (x9.2 = 0)))) (ex_move rfl hE rfl) ?_
  intro a hE
  refine s_cut [_, _, _] (fun a w => Env 155 [(73, (.bool ((decide (x9.2 = 0)) && (decide (x9.1 = 3))))), (1, (.pointer (some ⟨b1, 0, none⟩))), (2, (.pointer (some ⟨b2, 0, none⟩))), (5, (.int .i64 x16.1)), (6, (.int .i64 x16.2)), (7, (.bool x17.1)), (8, (.int .i64 x17.2)), (9, (.int .i64 x18.1)), (10, (.int .i64 x18.2.1)), (11, (.int .i64 x18.2.2)), (12, vr24), (13, (.int .i64 x19.2)), (14, vr26), (15, (.int .i64 x20.2))] a ∧ Hp Z ((ρ5.un k1).un k2) (TblA 34 3 vr26 usr26 (x20.1 : (List (List Int))) :: TblA 34 3 vr24 usr24 (x19.1 : (List (List Int))) :: Pt b2 (.cells #[(.int .i64 x8.kind), (.string x8.text), (.int .i64 x8.at_), (.int .i64 x8.fin), vr8_kids] 24 (0, 0)) :: Pt b1 (.cells #[(.int .i64 x5.kind), (.string x5.text), (.int .i64 x5.at_), (.int .i64 x5.fin), vr5_kids] 24 (0, 0)) :: L) w) ?_ ?_
  · rcases Bool.eq_false_or_eq_true (decide (x9.2 = 0)) with hb1 | hb1
    ·
      refine s_val (wk1 hE rfl rfl rfl hb1) rfl rfl hE hp (v := (.int .i64 x9.1)) (ex_move rfl hE rfl) ?_
      intro a hE
      refine s_val (wk1 hE rfl rfl rfl hb1) rfl rfl hE hp (v := (.bool (decide (x9.1 = 3)))) (ex_eql rfl hE rfl rfl) ?_
      intro a hE
      refine s_val (wk0 rfl) rfl rfl hE hp (v := (.bool (decide (x9.1 = 3)))) (ex_pick1 rfl hE rfl hb1 rfl) ?_
      intro a hE
      have hE := hE.eqv (v' := (.bool ((decide (x9.2 = 0)) && (decide (x9.1 = 3))))) (by rw [hb1]; rfl)
      exact s_nil ⟨hE.cut ⟨rfl, rfl, rfl, rfl, rfl, rfl, rfl, rfl, rfl, rfl, rfl, rfl, rfl, rfl, trivial⟩, hp⟩
    ·
      refine s_skip (wk2 hE rfl rfl rfl hb1) rfl rfl hE ?_
      intro a hE
      refine s_skip (wk2 hE rfl rfl rfl hb1) rfl rfl hE ?_
      intro a hE
      refine s_val (wk0 rfl) rfl rfl hE hp (v := (.bool false)) (ex_pick0 rfl hE rfl hb1 rfl) ?_
      intro a hE
      have hE := hE.eqv (v' := (.bool ((decide (x9.2 = 0)) && (decide (x9.1 = 3))))) (by rw [hb1]; rfl)
      exact s_nil ⟨hE.cut ⟨rfl, rfl, rfl, rfl, rfl, rfl, rfl, rfl, rfl, rfl, rfl, rfl, rfl, rfl, trivial⟩, hp⟩
  · rintro a w ⟨hE, hp⟩
    refine s_val (wk0 rfl) rfl rfl hE hp (v := (.bool ((decide (x9.2 = 0)) && (decide (x9.1 = 3))))) (ex_move rfl hE rfl) ?_
    intro a hE
    refine s_cut [_, _, _] (fun a w => Env 155 [(77, (.bool (((decide (x9.2 = 0)) && (decide (x9.1 = 3))) && (decide (x16.2 = 0))))), (1, (.pointer (some ⟨b1, 0, none⟩))), (2, (.pointer (some ⟨b2, 0, none⟩))), (5, (.int .i64 x16.1)), (7, (.bool x17.1)), (8, (.int .i64 x17.2)), (9, (.int .i64 x18.1)), (10, (.int .i64 x18.2.1)), (11, (.int .i64 x18.2.2)), (12, vr24), (13, (.int .i64 x19.2)), (14, vr26), (15, (.int .i64 x20.2))] a ∧ Hp Z ((ρ5.un k1).un k2) (TblA 34 3 vr26 usr26 (x20.1 : (List (List Int))) :: TblA 34 3 vr24 usr24 (x19.1 : (List (List Int))) :: Pt b2 (.cells #[(.int .i64 x8.kind), (.string x8.text), (.int .i64 x8.at_), (.int .i64 x8.fin), vr8_kids] 24 (0, 0)) :: Pt b1 (.cells #[(.int .i64 x5.kind), (.string x5.text), (.int .i64 x5.at_), (.int .i64 x5.fin), vr5_kids] 24 (0, 0)) :: L) w) ?_ ?_
    · rcases Bool.eq_false_or_eq_true ((decide (x9.2 = 0)) && (decide (x9.1 = 3))) with hb2 | hb2
      ·
        refine s_val (wk1 hE rfl rfl rfl hb2) rfl rfl hE hp (v := (.int .i64 x16.2)) (ex_move rfl hE rfl) ?_
        intro a hE
        refine s_val (wk1 hE rfl rfl rfl hb2) rfl rfl hE hp (v := (.bool (decide (x16.2 = 0)))) (ex_eql rfl hE rfl rfl) ?_
        intro a hE
        refine s_val (wk0 rfl) rfl rfl hE hp (v := (.bool (decide (x16.2 = 0)))) (ex_pick1 rfl hE rfl hb2 rfl) ?_
        intro a hE
        have hE := hE.eqv (v' := (.bool (((decide (x9.2 = 0)) && (decide (x9.1 = 3))) && (decide (x16.2 = 0))))) (by rw [hb2]; rfl)
        exact s_nil ⟨hE.cut ⟨rfl, rfl, rfl, rfl, rfl, rfl, rfl, rfl, rfl, rfl, rfl, rfl, rfl, trivial⟩, hp⟩
      ·
        refine s_skip (wk2 hE rfl rfl rfl hb2) rfl rfl hE ?_
        intro a hE
        refine s_skip (wk2 hE rfl rfl rfl hb2) rfl rfl hE ?_
        intro a hE
        refine s_val (wk0 rfl) rfl rfl hE hp (v := (.bool false)) (ex_pick0 rfl hE rfl hb2 rfl) ?_
        intro a hE
        have hE := hE.eqv (v' := (.bool (((decide (x9.2 = 0)) && (decide (x9.1 = 3))) && (decide (x16.2 = 0))))) (by rw [hb2]; rfl)
        exact s_nil ⟨hE.cut ⟨rfl, rfl, rfl, rfl, rfl, rfl, rfl, rfl, rfl, rfl, rfl, rfl, rfl, trivial⟩, hp⟩
    · rintro a w ⟨hE, hp⟩
      refine s_val (wk0 rfl) rfl rfl hE hp (v := (.bool (((decide (x9.2 = 0)) && (decide (x9.1 = 3))) && (decide (x16.2 = 0))))) (ex_move rfl hE rfl) ?_
      intro a hE
      refine s_cut [_, _, _] (fun a w => Env 155 [(81, (.bool ((((decide (x9.2 = 0)) && (decide (x9.1 = 3))) && (decide (x16.2 = 0))) && (decide (x16.1 = 2))))), (1, (.pointer (some ⟨b1, 0, none⟩))), (2, (.pointer (some ⟨b2, 0, none⟩))), (7, (.bool x17.1)), (8, (.int .i64 x17.2)), (9, (.int .i64 x18.1)), (10, (.int .i64 x18.2.1)), (11, (.int .i64 x18.2.2)), (12, vr24), (13, (.int .i64 x19.2)), (14, vr26), (15, (.int .i64 x20.2))] a ∧ Hp Z ((ρ5.un k1).un k2) (TblA 34 3 vr26 usr26 (x20.1 : (List (List Int))) :: TblA 34 3 vr24 usr24 (x19.1 : (List (List Int))) :: Pt b2 (.cells #[(.int .i64 x8.kind), (.string x8.text), (.int .i64 x8.at_), (.int .i64 x8.fin), vr8_kids] 24 (0, 0)) :: Pt b1 (.cells #[(.int .i64 x5.kind), (.string x5.text), (.int .i64 x5.at_), (.int .i64 x5.fin), vr5_kids] 24 (0, 0)) :: L) w) ?_ ?_
      · rcases Bool.eq_false_or_eq_true (((decide (x9.2 = 0)) && (decide (x9.1 = 3))) && (decide (x16.2 = 0))) with hb3 | hb3
        ·
          refine s_val (wk1 hE rfl rfl rfl hb3) rfl rfl hE hp (v := (.int .i64 x16.1)) (ex_move rfl hE rfl) ?_
          intro a hE
          refine s_val (wk1 hE rfl rfl rfl hb3) rfl rfl hE hp (v := (.bool (decide (x16.1 = 2)))) (ex_eql rfl hE rfl rfl) ?_
          intro a hE
          refine s_val (wk0 rfl) rfl rfl hE hp (v := (.bool (decide (x16.1 = 2)))) (ex_pick1 rfl hE rfl hb3 rfl) ?_
          intro a hE
          have hE := hE.eqv (v' := (.bool ((((decide (x9.2 = 0)) && (decide (x9.1 = 3))) && (decide (x16.2 = 0))) && (decide (x16.1 = 2))))) (by rw [hb3]; rfl)
          exact s_nil ⟨hE.cut ⟨rfl, rfl, rfl, rfl, rfl, rfl, rfl, rfl, rfl, rfl, rfl, rfl, trivial⟩, hp⟩
        ·
          refine s_skip (wk2 hE rfl rfl rfl hb3) rfl rfl hE ?_
          intro a hE
          refine s_skip (wk2 hE rfl rfl rfl hb3) rfl rfl hE ?_
          intro a hE
          refine s_val (wk0 rfl) rfl rfl hE hp (v := (.bool false)) (ex_pick0 rfl hE rfl hb3 rfl) ?_
          intro a hE
          have hE := hE.eqv (v' := (.bool ((((decide (x9.2 = 0)) && (decide (x9.1 = 3))) && (decide (x16.2 = 0))) && (decide (x16.1 = 2))))) (by rw [hb3]; rfl)
          exact s_nil ⟨hE.cut ⟨rfl, rfl, rfl, rfl, rfl, rfl, rfl, rfl, rfl, rfl, rfl, rfl, trivial⟩, hp⟩
      · rintro a w ⟨hE, hp⟩
        refine s_val (wk0 rfl) rfl rfl hE hp (v := (.bool ((((decide (x9.2 = 0)) && (decide (x9.1 = 3))) && (decide (x16.2 = 0))) && (decide (x16.1 = 2))))) (ex_move rfl hE rfl) ?_
        intro a hE
        refine s_cut [_, _, _] (fun a w => Env 155 [(85, (.bool (((((decide (x9.2 = 0)) && (decide (x9.1 = 3))) && (decide (x16.2 = 0))) && (decide (x16.1 = 2))) && (decide (x17.2 = 0))))), (1, (.pointer (some ⟨b1, 0, none⟩))), (2, (.pointer (some ⟨b2, 0, none⟩))), (7, (.bool x17.1)), (9, (.int .i64 x18.1)), (10, (.int .i64 x18.2.1)), (11, (.int .i64 x18.2.2)), (12, vr24), (13, (.int .i64 x19.2)), (14, vr26), (15, (.int .i64 x20.2))] a ∧ Hp Z ((ρ5.un k1).un k2) (TblA 34 3 vr26 usr26 (x20.1 : (List (List Int))) :: TblA 34 3 vr24 usr24 (x19.1 : (List (List Int))) :: Pt b2 (.cells #[(.int .i64 x8.kind), (.string x8.text), (.int .i64 x8.at_), (.int .i64 x8.fin), vr8_kids] 24 (0, 0)) :: Pt b1 (.cells #[(.int .i64 x5.kind), (.string x5.text), (.int .i64 x5.at_), (.int .i64 x5.fin), vr5_kids] 24 (0, 0)) :: L) w) ?_ ?_
        · rcases Bool.eq_false_or_eq_true ((((decide (x9.2 = 0)) && (decide (x9.1 = 3))) && (decide (x16.2 = 0))) && (decide (x16.1 = 2))) with hb4 | hb4
          ·
            refine s_val (wk1 hE rfl rfl rfl hb4) rfl rfl hE hp (v := (.int .i64 x17.2)) (ex_move rfl hE rfl) ?_
            intro a hE
            refine s_val (wk1 hE rfl rfl rfl hb4) rfl rfl hE hp (v := (.bool (decide (x17.2 = 0)))) (ex_eql rfl hE rfl rfl) ?_
            intro a hE
            refine s_val (wk0 rfl) rfl rfl hE hp (v := (.bool (decide (x17.2 = 0)))) (ex_pick1 rfl hE rfl hb4 rfl) ?_
            intro a hE
            have hE := hE.eqv (v' := (.bool (((((decide (x9.2 = 0)) && (decide (x9.1 = 3))) && (decide (x16.2 = 0))) && (decide (x16.1 = 2))) && (decide (x17.2 = 0))))) (by rw [hb4]; rfl)
            exact s_nil ⟨hE.cut ⟨rfl, rfl, rfl, rfl, rfl, rfl, rfl, rfl, rfl, rfl, rfl, trivial⟩, hp⟩
          ·
            refine s_skip (wk2 hE rfl rfl rfl hb4) rfl rfl hE ?_
            intro a hE
            refine s_skip (wk2 hE rfl rfl rfl hb4) rfl rfl hE ?_
            intro a hE
            refine s_val (wk0 rfl) rfl rfl hE hp (v := (.bool false)) (ex_pick0 rfl hE rfl hb4 rfl) ?_
            intro a hE
            have hE := hE.eqv (v' := (.bool (((((decide (x9.2 = 0)) && (decide (x9.1 = 3))) && (decide (x16.2 = 0))) && (decide (x16.1 = 2))) && (decide (x17.2 = 0))))) (by rw [hb4]; rfl)
            exact s_nil ⟨hE.cut ⟨rfl, rfl, rfl, rfl, rfl, rfl, rfl, rfl, rfl, rfl, rfl, trivial⟩, hp⟩
        · rintro a w ⟨hE, hp⟩
          refine s_val (wk0 rfl) rfl rfl hE hp (v := (.bool (((((decide (x9.2 = 0)) && (decide (x9.1 = 3))) && (decide (x16.2 = 0))) && (decide (x16.1 = 2))) && (decide (x17.2 = 0))))) (ex_move rfl hE rfl) ?_
          intro a hE
          refine s_cut [_, _] (fun a w => Env 155 [(88, (.bool ((((((decide (x9.2 = 0)) && (decide (x9.1 = 3))) && (decide (x16.2 = 0))) && (decide (x16.1 = 2))) && (decide (x17.2 = 0))) && x17.1))), (1, (.pointer (some ⟨b1, 0, none⟩))), (2, (.pointer (some ⟨b2, 0, none⟩))), (9, (.int .i64 x18.1)), (10, (.int .i64 x18.2.1)), (11, (.int .i64 x18.2.2)), (12, vr24), (13, (.int .i64 x19.2)), (14, vr26), (15, (.int .i64 x20.2))] a ∧ Hp Z ((ρ5.un k1).un k2) (TblA 34 3 vr26 usr26 (x20.1 : (List (List Int))) :: TblA 34 3 vr24 usr24 (x19.1 : (List (List Int))) :: Pt b2 (.cells #[(.int .i64 x8.kind), (.string x8.text), (.int .i64 x8.at_), (.int .i64 x8.fin), vr8_kids] 24 (0, 0)) :: Pt b1 (.cells #[(.int .i64 x5.kind), (.string x5.text), (.int .i64 x5.at_), (.int .i64 x5.fin), vr5_kids] 24 (0, 0)) :: L) w) ?_ ?_
          · rcases Bool.eq_false_or_eq_true (((((decide (x9.2 = 0)) && (decide (x9.1 = 3))) && (decide (x16.2 = 0))) && (decide (x16.1 = 2))) && (decide (x17.2 = 0))) with hb5 | hb5
            ·
              refine s_val (wk1 hE rfl rfl rfl hb5) rfl rfl hE hp (v := (.bool x17.1)) (ex_move rfl hE rfl) ?_
              intro a hE
              refine s_val (wk0 rfl) rfl rfl hE hp (v := (.bool x17.1)) (ex_pick1 rfl hE rfl hb5 rfl) ?_
              intro a hE
              have hE := hE.eqv (v' := (.bool ((((((decide (x9.2 = 0)) && (decide (x9.1 = 3))) && (decide (x16.2 = 0))) && (decide (x16.1 = 2))) && (decide (x17.2 = 0))) && x17.1))) (by rw [hb5]; rfl)
              exact s_nil ⟨hE.cut ⟨rfl, rfl, rfl, rfl, rfl, rfl, rfl, rfl, rfl, rfl, trivial⟩, hp⟩
            ·
              refine s_skip (wk2 hE rfl rfl rfl hb5) rfl rfl hE ?_
              intro a hE
              refine s_val (wk0 rfl) rfl rfl hE hp (v := (.bool false)) (ex_pick0 rfl hE rfl hb5 rfl) ?_
              intro a hE
              have hE := hE.eqv (v' := (.bool ((((((decide (x9.2 = 0)) && (decide (x9.1 = 3))) && (decide (x16.2 = 0))) && (decide (x16.1 = 2))) && (decide (x17.2 = 0))) && x17.1))) (by rw [hb5]; rfl)
              exact s_nil ⟨hE.cut ⟨rfl, rfl, rfl, rfl, rfl, rfl, rfl, rfl, rfl, rfl, trivial⟩, hp⟩
          · rintro a w ⟨hE, hp⟩
            refine s_val (wk0 rfl) rfl rfl hE hp (v := (.bool ((((((decide (x9.2 = 0)) && (decide (x9.1 = 3))) && (decide (x16.2 = 0))) && (decide (x16.1 = 2))) && (decide (x17.2 = 0))) && x17.1))) (ex_move rfl hE rfl) ?_
            intro a hE
            refine s_cut [_, _, _] (fun a w => Env 155 [(92, (.bool (((((((decide (x9.2 = 0)) && (decide (x9.1 = 3))) && (decide (x16.2 = 0))) && (decide (x16.1 = 2))) && (decide (x17.2 = 0))) && x17.1) && (decide (x18.2.2 = 0))))), (1, (.pointer (some ⟨b1, 0, none⟩))), (2, (.pointer (some ⟨b2, 0, none⟩))), (9, (.int .i64 x18.1)), (10, (.int .i64 x18.2.1)), (12, vr24), (13, (.int .i64 x19.2)), (14, vr26), (15, (.int .i64 x20.2))] a ∧ Hp Z ((ρ5.un k1).un k2) (TblA 34 3 vr26 usr26 (x20.1 : (List (List Int))) :: TblA 34 3 vr24 usr24 (x19.1 : (List (List Int))) :: Pt b2 (.cells #[(.int .i64 x8.kind), (.string x8.text), (.int .i64 x8.at_), (.int .i64 x8.fin), vr8_kids] 24 (0, 0)) :: Pt b1 (.cells #[(.int .i64 x5.kind), (.string x5.text), (.int .i64 x5.at_), (.int .i64 x5.fin), vr5_kids] 24 (0, 0)) :: L) w) ?_ ?_
            · rcases Bool.eq_false_or_eq_true ((((((decide (x9.2 = 0)) && (decide (x9.1 = 3))) && (decide (x16.2 = 0))) && (decide (x16.1 = 2))) && (decide (x17.2 = 0))) && x17.1) with hb6 | hb6
              ·
                refine s_val (wk1 hE rfl rfl rfl hb6) rfl rfl hE hp (v := (.int .i64 x18.2.2)) (ex_move rfl hE rfl) ?_
                intro a hE
                refine s_val (wk1 hE rfl rfl rfl hb6) rfl rfl hE hp (v := (.bool (decide (x18.2.2 = 0)))) (ex_eql rfl hE rfl rfl) ?_
                intro a hE
                refine s_val (wk0 rfl) rfl rfl hE hp (v := (.bool (decide (x18.2.2 = 0)))) (ex_pick1 rfl hE rfl hb6 rfl) ?_
                intro a hE
                have hE := hE.eqv (v' := (.bool (((((((decide (x9.2 = 0)) && (decide (x9.1 = 3))) && (decide (x16.2 = 0))) && (decide (x16.1 = 2))) && (decide (x17.2 = 0))) && x17.1) && (decide (x18.2.2 = 0))))) (by rw [hb6]; rfl)
                exact s_nil ⟨hE.cut ⟨rfl, rfl, rfl, rfl, rfl, rfl, rfl, rfl, rfl, trivial⟩, hp⟩
              ·
                refine s_skip (wk2 hE rfl rfl rfl hb6) rfl rfl hE ?_
                intro a hE
                refine s_skip (wk2 hE rfl rfl rfl hb6) rfl rfl hE ?_
                intro a hE
                refine s_val (wk0 rfl) rfl rfl hE hp (v := (.bool false)) (ex_pick0 rfl hE rfl hb6 rfl) ?_
                intro a hE
                have hE := hE.eqv (v' := (.bool (((((((decide (x9.2 = 0)) && (decide (x9.1 = 3))) && (decide (x16.2 = 0))) && (decide (x16.1 = 2))) && (decide (x17.2 = 0))) && x17.1) && (decide (x18.2.2 = 0))))) (by rw [hb6]; rfl)
                exact s_nil ⟨hE.cut ⟨rfl, rfl, rfl, rfl, rfl, rfl, rfl, rfl, rfl, trivial⟩, hp⟩
            · rintro a w ⟨hE, hp⟩
              refine s_val (wk0 rfl) rfl rfl hE hp (v := (.bool (((((((decide (x9.2 = 0)) && (decide (x9.1 = 3))) && (decide (x16.2 = 0))) && (decide (x16.1 = 2))) && (decide (x17.2 = 0))) && x17.1) && (decide (x18.2.2 = 0))))) (ex_move rfl hE rfl) ?_
              intro a hE
              refine s_cut [_, _, _] (fun a w => Env 155 [(96, (.bool ((((((((decide (x9.2 = 0)) && (decide (x9.1 = 3))) && (decide (x16.2 = 0))) && (decide (x16.1 = 2))) && (decide (x17.2 = 0))) && x17.1) && (decide (x18.2.2 = 0))) && (decide (x18.1 = 1))))), (1, (.pointer (some ⟨b1, 0, none⟩))), (2, (.pointer (some ⟨b2, 0, none⟩))), (10, (.int .i64 x18.2.1)), (12, vr24), (13, (.int .i64 x19.2)), (14, vr26), (15, (.int .i64 x20.2))] a ∧ Hp Z ((ρ5.un k1).un k2) (TblA 34 3 vr26 usr26 (x20.1 : (List (List Int))) :: TblA 34 3 vr24 usr24 (x19.1 : (List (List Int))) :: Pt b2 (.cells #[(.int .i64 x8.kind), (.string x8.text), (.int .i64 x8.at_), (.int .i64 x8.fin), vr8_kids] 24 (0, 0)) :: Pt b1 (.cells #[(.int .i64 x5.kind), (.string x5.text), (.int .i64 x5.at_), (.int .i64 x5.fin), vr5_kids] 24 (0, 0)) :: L) w) ?_ ?_
              · rcases Bool.eq_false_or_eq_true (((((((decide (x9.2 = 0)) && (decide (x9.1 = 3))) && (decide (x16.2 = 0))) && (decide (x16.1 = 2))) && (decide (x17.2 = 0))) && x17.1) && (decide (x18.2.2 = 0))) with hb7 | hb7
                ·
                  refine s_val (wk1 hE rfl rfl rfl hb7) rfl rfl hE hp (v := (.int .i64 x18.1)) (ex_move rfl hE rfl) ?_
                  intro a hE
                  refine s_val (wk1 hE rfl rfl rfl hb7) rfl rfl hE hp (v := (.bool (decide (x18.1 = 1)))) (ex_eql rfl hE rfl rfl) ?_
                  intro a hE
                  refine s_val (wk0 rfl) rfl rfl hE hp (v := (.bool (decide (x18.1 = 1)))) (ex_pick1 rfl hE rfl hb7 rfl) ?_
                  intro a hE
                  have hE := hE.eqv (v' := (.bool ((((((((decide (x9.2 = 0)) && (decide (x9.1 = 3))) && (decide (x16.2 = 0))) && (decide (x16.1 = 2))) && (decide (x17.2 = 0))) && x17.1) && (decide (x18.2.2 = 0))) && (decide (x18.1 = 1))))) (by rw [hb7]; rfl)
                  exact s_nil ⟨hE.cut ⟨rfl, rfl, rfl, rfl, rfl, rfl, rfl, rfl, trivial⟩, hp⟩
                ·
                  refine s_skip (wk2 hE rfl rfl rfl hb7) rfl rfl hE ?_
                  intro a hE
                  refine s_skip (wk2 hE rfl rfl rfl hb7) rfl rfl hE ?_
                  intro a hE
                  refine s_val (wk0 rfl) rfl rfl hE hp (v := (.bool false)) (ex_pick0 rfl hE rfl hb7 rfl) ?_
                  intro a hE
                  have hE := hE.eqv (v' := (.bool ((((((((decide (x9.2 = 0)) && (decide (x9.1 = 3))) && (decide (x16.2 = 0))) && (decide (x16.1 = 2))) && (decide (x17.2 = 0))) && x17.1) && (decide (x18.2.2 = 0))) && (decide (x18.1 = 1))))) (by rw [hb7]; rfl)
                  exact s_nil ⟨hE.cut ⟨rfl, rfl, rfl, rfl, rfl, rfl, rfl, rfl, trivial⟩, hp⟩
              · rintro a w ⟨hE, hp⟩
                refine s_val (wk0 rfl) rfl rfl hE hp (v := (.bool ((((((((decide (x9.2 = 0)) && (decide (x9.1 = 3))) && (decide (x16.2 = 0))) && (decide (x16.1 = 2))) && (decide (x17.2 = 0))) && x17.1) && (decide (x18.2.2 = 0))) && (decide (x18.1 = 1))))) (ex_move rfl hE rfl) ?_
                intro a hE
                refine s_cut [_, _, _] (fun a w => Env 155 [(100, (.bool (((((((((decide (x9.2 = 0)) && (decide (x9.1 = 3))) && (decide (x16.2 = 0))) && (decide (x16.1 = 2))) && (decide (x17.2 = 0))) && x17.1) && (decide (x18.2.2 = 0))) && (decide (x18.1 = 1))) && (decide (x18.2.1 = 0))))), (1, (.pointer (some ⟨b1, 0, none⟩))), (2, (.pointer (some ⟨b2, 0, none⟩))), (12, vr24), (13, (.int .i64 x19.2)), (14, vr26), (15, (.int .i64 x20.2))] a ∧ Hp Z ((ρ5.un k1).un k2) (TblA 34 3 vr26 usr26 (x20.1 : (List (List Int))) :: TblA 34 3 vr24 usr24 (x19.1 : (List (List Int))) :: Pt b2 (.cells #[(.int .i64 x8.kind), (.string x8.text), (.int .i64 x8.at_), (.int .i64 x8.fin), vr8_kids] 24 (0, 0)) :: Pt b1 (.cells #[(.int .i64 x5.kind), (.string x5.text), (.int .i64 x5.at_), (.int .i64 x5.fin), vr5_kids] 24 (0, 0)) :: L) w) ?_ ?_
                · rcases Bool.eq_false_or_eq_true ((((((((decide (x9.2 = 0)) && (decide (x9.1 = 3))) && (decide (x16.2 = 0))) && (decide (x16.1 = 2))) && (decide (x17.2 = 0))) && x17.1) && (decide (x18.2.2 = 0))) && (decide (x18.1 = 1))) with hb8 | hb8
                  ·
                    refine s_val (wk1 hE rfl rfl rfl hb8) rfl rfl hE hp (v := (.int .i64 x18.2.1)) (ex_move rfl hE rfl) ?_
                    intro a hE
                    refine s_val (wk1 hE rfl rfl rfl hb8) rfl rfl hE hp (v := (.bool (decide (x18.2.1 = 0)))) (ex_eql rfl hE rfl rfl) ?_
                    intro a hE
                    refine s_val (wk0 rfl) rfl rfl hE hp (v := (.bool (decide (x18.2.1 = 0)))) (ex_pick1 rfl hE rfl hb8 rfl) ?_
                    intro a hE
                    have hE := hE.eqv (v' := (.bool (((((((((decide (x9.2 = 0)) && (decide (x9.1 = 3))) && (decide (x16.2 = 0))) && (decide (x16.1 = 2))) && (decide (x17.2 = 0))) && x17.1) && (decide (x18.2.2 = 0))) && (decide (x18.1 = 1))) && (decide (x18.2.1 = 0))))) (by rw [hb8]; rfl)
                    exact s_nil ⟨hE.cut ⟨rfl, rfl, rfl, rfl, rfl, rfl, rfl, trivial⟩, hp⟩
                  ·
                    refine s_skip (wk2 hE rfl rfl rfl hb8) rfl rfl hE ?_
                    intro a hE
                    refine s_skip (wk2 hE rfl rfl rfl hb8) rfl rfl hE ?_
                    intro a hE
                    refine s_val (wk0 rfl) rfl rfl hE hp (v := (.bool false)) (ex_pick0 rfl hE rfl hb8 rfl) ?_
                    intro a hE
                    have hE := hE.eqv (v' := (.bool (((((((((decide (x9.2 = 0)) && (decide (x9.1 = 3))) && (decide (x16.2 = 0))) && (decide (x16.1 = 2))) && (decide (x17.2 = 0))) && x17.1) && (decide (x18.2.2 = 0))) && (decide (x18.1 = 1))) && (decide (x18.2.1 = 0))))) (by rw [hb8]; rfl)
                    exact s_nil ⟨hE.cut ⟨rfl, rfl, rfl, rfl, rfl, rfl, rfl, trivial⟩, hp⟩
                · rintro a w ⟨hE, hp⟩
                  refine s_val (wk0 rfl) rfl rfl hE hp (v := (.bool (((((((((decide (x9.2 = 0)) && (decide (x9.1 = 3))) && (decide (x16.2 = 0))) && (decide (x16.1 = 2))) && (decide (x17.2 = 0))) && x17.1) && (decide (x18.2.2 = 0))) && (decide (x18.1 = 1))) && (decide (x18.2.1 = 0))))) (ex_move rfl hE rfl) ?_
                  intro a hE
                  refine s_cut [_, _, _] (fun a w => Env 155 [(104, (.bool ((((((((((decide (x9.2 = 0)) && (decide (x9.1 = 3))) && (decide (x16.2 = 0))) && (decide (x16.1 = 2))) && (decide (x17.2 = 0))) && x17.1) && (decide (x18.2.2 = 0))) && (decide (x18.1 = 1))) && (decide (x18.2.1 = 0))) && (decide (x19.2 = 0))))), (1, (.pointer (some ⟨b1, 0, none⟩))), (2, (.pointer (some ⟨b2, 0, none⟩))), (12, vr24), (14, vr26), (15, (.int .i64 x20.2))] a ∧ Hp Z ((ρ5.un k1).un k2) (TblA 34 3 vr26 usr26 (x20.1 : (List (List Int))) :: TblA 34 3 vr24 usr24 (x19.1 : (List (List Int))) :: Pt b2 (.cells #[(.int .i64 x8.kind), (.string x8.text), (.int .i64 x8.at_), (.int .i64 x8.fin), vr8_kids] 24 (0, 0)) :: Pt b1 (.cells #[(.int .i64 x5.kind), (.string x5.text), (.int .i64 x5.at_), (.int .i64 x5.fin), vr5_kids] 24 (0, 0)) :: L) w) ?_ ?_
                  · rcases Bool.eq_false_or_eq_true (((((((((decide (x9.2 = 0)) && (decide (x9.1 = 3))) && (decide (x16.2 = 0))) && (decide (x16.1 = 2))) && (decide (x17.2 = 0))) && x17.1) && (decide (x18.2.2 = 0))) && (decide (x18.1 = 1))) && (decide (x18.2.1 = 0))) with hb9 | hb9
                    ·
                      refine s_val (wk1 hE rfl rfl rfl hb9) rfl rfl hE hp (v := (.int .i64 x19.2)) (ex_move rfl hE rfl) ?_
                      intro a hE
                      refine s_val (wk1 hE rfl rfl rfl hb9) rfl rfl hE hp (v := (.bool (decide (x19.2 = 0)))) (ex_eql rfl hE rfl rfl) ?_
                      intro a hE
                      refine s_val (wk0 rfl) rfl rfl hE hp (v := (.bool (decide (x19.2 = 0)))) (ex_pick1 rfl hE rfl hb9 rfl) ?_
                      intro a hE
                      have hE := hE.eqv (v' := (.bool ((((((((((decide (x9.2 = 0)) && (decide (x9.1 = 3))) && (decide (x16.2 = 0))) && (decide (x16.1 = 2))) && (decide (x17.2 = 0))) && x17.1) && (decide (x18.2.2 = 0))) && (decide (x18.1 = 1))) && (decide (x18.2.1 = 0))) && (decide (x19.2 = 0))))) (by rw [hb9]; rfl)
                      exact s_nil ⟨hE.cut ⟨rfl, rfl, rfl, rfl, rfl, rfl, trivial⟩, hp⟩
                    ·
                      refine s_skip (wk2 hE rfl rfl rfl hb9) rfl rfl hE ?_
                      intro a hE
                      refine s_skip (wk2 hE rfl rfl rfl hb9) rfl rfl hE ?_
                      intro a hE
                      refine s_val (wk0 rfl) rfl rfl hE hp (v := (.bool false)) (ex_pick0 rfl hE rfl hb9 rfl) ?_
                      intro a hE
                      have hE := hE.eqv (v' := (.bool ((((((((((decide (x9.2 = 0)) && (decide (x9.1 = 3))) && (decide (x16.2 = 0))) && (decide (x16.1 = 2))) && (decide (x17.2 = 0))) && x17.1) && (decide (x18.2.2 = 0))) && (decide (x18.1 = 1))) && (decide (x18.2.1 = 0))) && (decide (x19.2 = 0))))) (by rw [hb9]; rfl)
                      exact s_nil ⟨hE.cut ⟨rfl, rfl, rfl, rfl, rfl, rfl, trivial⟩, hp⟩
                  · rintro a w ⟨hE, hp⟩
                    refine s_val (wk0 rfl) rfl rfl hE hp (v := (.bool ((((((((((decide (x9.2 = 0)) && (decide (x9.1 = 3))) && (decide (x16.2 = 0))) && (decide (x16.1 = 2))) && (decide (x17.2 = 0))) && x17.1) && (decide (x18.2.2 = 0))) && (decide (x18.1 = 1))) && (decide (x18.2.1 = 0))) && (decide (x19.2 = 0))))) (ex_move rfl hE rfl) ?_
                    intro a hE
                    refine s_cut [_, _, _, _] (fun a w => Env 155 [(109, (.bool (((((((((((decide (x9.2 = 0)) && (decide (x9.1 = 3))) && (decide (x16.2 = 0))) && (decide (x16.1 = 2))) && (decide (x17.2 = 0))) && x17.1) && (decide (x18.2.2 = 0))) && (decide (x18.1 = 1))) && (decide (x18.2.1 = 0))) && (decide (x19.2 = 0))) && (decide ((x19.1.length : Int) = 2))))), (1, (.pointer (some ⟨b1, 0, none⟩))), (2, (.pointer (some ⟨b2, 0, none⟩))), (12, vr24), (14, vr26), (15, (.int .i64 x20.2))] a ∧ Hp Z ((ρ5.un k1).un k2) (TblA 34 3 vr26 usr26 (x20.1 : (List (List Int))) :: TblA 34 3 vr24 usr24 (x19.1 : (List (List Int))) :: Pt b2 (.cells #[(.int .i64 x8.kind), (.string x8.text), (.int .i64 x8.at_), (.int .i64 x8.fin), vr8_kids] 24 (0, 0)) :: Pt b1 (.cells #[(.int .i64 x5.kind), (.string x5.text), (.int .i64 x5.at_), (.int .i64 x5.fin), vr5_kids] 24 (0, 0)) :: L) w) ?_ ?_
                    · rcases Bool.eq_false_or_eq_true ((((((((((decide (x9.2 = 0)) && (decide (x9.1 = 3))) && (decide (x16.2 = 0))) && (decide (x16.1 = 2))) && (decide (x17.2 = 0))) && x17.1) && (decide (x18.2.2 = 0))) && (decide (x18.1 = 1))) && (decide (x18.2.1 = 0))) && (decide (x19.2 = 0))) with hb10 | hb10
                      ·
                        refine s_val (wk1 hE rfl rfl rfl hb10) rfl rfl hE hp (v := vr24) (ex_move rfl hE rfl) ?_
                        intro a hE
                        refine s_val (wk1 hE rfl rfl rfl hb10) rfl rfl hE hp (v := (.int .i64 (x19.1.length : Int))) (ex_len rfl hE rfl (TblA.len hp 1 rfl slty30)) ?_
                        intro a hE
                        refine s_val (wk1 hE rfl rfl rfl hb10) rfl rfl hE hp (v := (.bool (decide ((x19.1.length : Int) = 2)))) (ex_eql rfl hE rfl rfl) ?_
                        intro a hE
                        refine s_val (wk0 rfl) rfl rfl hE hp (v := (.bool (decide ((x19.1.length : Int) = 2)))) (ex_pick1 rfl hE rfl hb10 rfl) ?_
                        intro a hE
                        have hE := hE.eqv (v' := (.bool (((((((((((decide (x9.2 = 0)) && (decide (x9.1 = 3))) && (decide (x16.2 = 0))) && (decide (x16.1 = 2))) && (decide (x17.2 = 0))) && x17.1) && (decide (x18.2.2 = 0))) && (decide (x18.1 = 1))) && (decide (x18.2.1 = 0))) && (decide (x19.2 = 0))) && (decide ((x19.1.length : Int) = 2))))) (by rw [hb10]; rfl)
                        exact s_nil ⟨hE.cut ⟨rfl, rfl, rfl, rfl, rfl, rfl, trivial⟩, hp⟩
                      ·
                        refine s_skip (wk2 hE rfl rfl rfl hb10) rfl rfl hE ?_
                        intro a hE
                        refine s_skip (wk2 hE rfl rfl rfl hb10) rfl rfl hE ?_
                        intro a hE
                        refine s_skip (wk2 hE rfl rfl rfl hb10) rfl rfl hE ?_
                        intro a hE
                        refine s_val (wk0 rfl) rfl rfl hE hp (v := (.bool false)) (ex_pick0 rfl hE rfl hb10 rfl) ?_
                        intro a hE
                        have hE := hE.eqv (v' := (.bool (((((((((((decide (x9.2 = 0)) && (decide (x9.1 = 3))) && (decide (x16.2 = 0))) && (decide (x16.1 = 2))) && (decide (x17.2 = 0))) && x17.1) && (decide (x18.2.2 = 0))) && (decide (x18.1 = 1))) && (decide (x18.2.1 = 0))) && (decide (x19.2 = 0))) && (decide ((x19.1.length : Int) = 2))))) (by rw [hb10]; rfl)
                        exact s_nil ⟨hE.cut ⟨rfl, rfl, rfl, rfl, rfl, rfl, trivial⟩, hp⟩
                    · rintro a w ⟨hE, hp⟩
                      refine s_val (wk0 rfl) rfl rfl hE hp (v := (.bool (((((((((((decide (x9.2 = 0)) && (decide (x9.1 = 3))) && (decide (x16.2 = 0))) && (decide (x16.1 = 2))) && (decide (x17.2 = 0))) && x17.1) && (decide (x18.2.2 = 0))) && (decide (x18.1 = 1))) && (decide (x18.2.1 = 0))) && (decide (x19.2 = 0))) && (decide ((x19.1.length : Int) = 2))))) (ex_move rfl hE rfl) ?_
                      intro a hE
                      obtain ⟨m1, hg1, hm⟩ := bnd hm
                      refine s_cut [_, _, _, _, _, _] (fun a w => Env 155 [(116, (.bool m1)), (1, (.pointer (some ⟨b1, 0, none⟩))), (2, (.pointer (some ⟨b2, 0, none⟩))), (12, vr24), (14, vr26), (15, (.int .i64 x20.2))] a ∧ Hp Z ((ρ5.un k1).un k2) (TblA 34 3 vr26 usr26 (x20.1 : (List (List Int))) :: TblA 34 3 vr24 usr24 (x19.1 : (List (List Int))) :: Pt b2 (.cells #[(.int .i64 x8.kind), (.string x8.text), (.int .i64 x8.at_), (.int .i64 x8.fin), vr8_kids] 24 (0, 0)) :: Pt b1 (.cells #[(.int .i64 x5.kind), (.string x5.text), (.int .i64 x5.at_), (.int .i64 x5.fin), vr5_kids] 24 (0, 0)) :: L) w) ?_ ?_
                      · rcases Bool.eq_false_or_eq_true (((((((((((decide (x9.2 = 0)) && (decide (x9.1 = 3))) && (decide (x16.2 = 0))) && (decide (x16.1 = 2))) && (decide (x17.2 = 0))) && x17.1) && (decide (x18.2.2 = 0))) && (decide (x18.1 = 1))) && (decide (x18.2.1 = 0))) && (decide (x19.2 = 0))) && (decide ((x19.1.length : Int) = 2))) with hb11 | hb11
                        ·
                          replace hg1 := (it hb11).symm.trans hg1
                          refine s_val (wk1 hE rfl rfl rfl hb11) rfl rfl hE hp (v := vr24) (ex_move rfl hE rfl) ?_
                          intro a hE
                          obtain ⟨x21, ex21, hg1⟩ := bnd hg1
                          obtain ⟨b5u, b5, b5o, b5h, b5r, b5v, b5f⟩ := TblA.hdr hp 1 rfl slty30 ex21
                          have b5f : ∀ (j : Nat) (u : Value), ([(Sl.v b5u)] : List Value)[j]? = some u → ∀ ρ' L' w, Hp Z ρ' (TblA 34 3 vr24 usr24 (x19.1 : (List (List Int))) :: L') w → w.cell? ⟨b5, b5o + j, none⟩ = some u := b5f
                          refine s_val (wk1 hE rfl rfl rfl hb11) rfl rfl hE hp (v := (.pointer (some ⟨b5, b5o, none⟩))) (ex_index rfl hE rfl rfl b5r) ?_
                          intro a hE
                          refine s_val (wk1 hE rfl rfl rfl hb11) rfl rfl hE hp (v := (Sl.v b5u)) (ex_load rfl hE rfl (fun w hw => run_ld1 varty34 (b5f 0 _ rfl _ _ w (hw.get 1 rfl)))) ?_
                          intro a hE
                          refine s_val (wk1 hE rfl rfl rfl hb11) rfl rfl hE hp (v := (.int .i64 (x21.length : Int))) (ex_len rfl hE rfl (TblA.rlen hp 1 rfl slty34 b5h ex21)) ?_
                          intro a hE
                          refine s_val (wk1 hE rfl rfl rfl hb11) rfl rfl hE hp (v := (.bool (decide ((x21.length : Int) = 2)))) (ex_eql rfl hE rfl rfl) ?_
                          intro a hE
                          refine s_val (wk0 rfl) rfl rfl hE hp (v := (.bool (decide ((x21.length : Int) = 2)))) (ex_pick1 rfl hE rfl hb11 rfl) ?_
                          intro a hE
                          obtain rfl := Option.some.inj hg1
                          exact s_nil ⟨hE.cut ⟨rfl, rfl, rfl, rfl, rfl, rfl, trivial⟩, hp⟩
                        ·
                          replace hg1 := (ie hb11).symm.trans hg1
                          refine s_skip (wk2 hE rfl rfl rfl hb11) rfl rfl hE ?_
                          intro a hE
                          refine s_skip (wk2 hE rfl rfl rfl hb11) rfl rfl hE ?_
                          intro a hE
                          refine s_skip (wk2 hE rfl rfl rfl hb11) rfl rfl hE ?_
                          intro a hE
                          refine s_skip (wk2 hE rfl rfl rfl hb11) rfl rfl hE ?_
                          intro a hE
                          refine s_skip (wk2 hE rfl rfl rfl hb11) rfl rfl hE ?_
                          intro a hE
                          refine s_val (wk0 rfl) rfl rfl hE hp (v := (.bool false)) (ex_pick0 rfl hE rfl hb11 rfl) ?_
                          intro a hE
                          obtain rfl := Option.some.inj hg1
                          exact s_nil ⟨hE.cut ⟨rfl, rfl, rfl, rfl, rfl, rfl, trivial⟩, hp⟩
                      · rintro a w ⟨hE, hp⟩
                        refine s_val (wk0 rfl) rfl rfl hE hp (v := (.bool m1)) (ex_move rfl hE rfl) ?_
                        intro a hE
                        obtain ⟨m2, hg2, hm⟩ := bnd hm
                        refine s_cut [_, _, _, _, _, _, _] (fun a w => Env 155 [(124, (.bool m2)), (1, (.pointer (some ⟨b1, 0, none⟩))), (2, (.pointer (some ⟨b2, 0, none⟩))), (14, vr26), (15, (.int .i64 x20.2))] a ∧ Hp Z ((ρ5.un k1).un k2) (TblA 34 3 vr26 usr26 (x20.1 : (List (List Int))) :: TblA 34 3 vr24 usr24 (x19.1 : (List (List Int))) :: Pt b2 (.cells #[(.int .i64 x8.kind), (.string x8.text), (.int .i64 x8.at_), (.int .i64 x8.fin), vr8_kids] 24 (0, 0)) :: Pt b1 (.cells #[(.int .i64 x5.kind), (.string x5.text), (.int .i64 x5.at_), (.int .i64 x5.fin), vr5_kids] 24 (0, 0)) :: L) w) ?_ ?_
                        · rcases Bool.eq_false_or_eq_true m1 with hb12 | hb12
                          ·
                            replace hg2 := (it hb12).symm.trans hg2
                            refine s_val (wk1 hE rfl rfl rfl hb12) rfl rfl hE hp (v := vr24) (ex_move rfl hE rfl) ?_
                            intro a hE
                            obtain ⟨x22, ex22, hg2⟩ := bnd hg2
                            obtain ⟨b6u, b6, b6o, b6h, b6r, b6v, b6f⟩ := TblA.hdr hp 1 rfl slty30 ex22
                            have b6f : ∀ (j : Nat) (u : Value), ([(Sl.v b6u)] : List Value)[j]? = some u → ∀ ρ' L' w, Hp Z ρ' (TblA 34 3 vr24 usr24 (x19.1 : (List (List Int))) :: L') w → w.cell? ⟨b6, b6o + j, none⟩ = some u := b6f
                            refine s_val (wk1 hE rfl rfl rfl hb12) rfl rfl hE hp (v := (.pointer (some ⟨b6, b6o, none⟩))) (ex_index rfl hE rfl rfl b6r) ?_
                            intro a hE
                            refine s_val (wk1 hE rfl rfl rfl hb12) rfl rfl hE hp (v := (Sl.v b6u)) (ex_load rfl hE rfl (fun w hw => run_ld1 varty34 (b6f 0 _ rfl _ _ w (hw.get 1 rfl)))) ?_
                            intro a hE
                            obtain ⟨x23, ex23, hg2⟩ := bnd hg2
                            obtain ⟨b7, b7o, b7r, b7v, b7f⟩ := TblA.at hp 1 rfl slty34 b6h ex22 ex23
                            have b7f : ∀ (j : Nat) (u : Value), ([(.int .i64 x23)] : List Value)[j]? = some u → ∀ ρ' L' w, Hp Z ρ' (TblA 34 3 vr24 usr24 (x19.1 : (List (List Int))) :: L') w → w.cell? ⟨b7, b7o + j, none⟩ = some u := b7f
                            refine s_val (wk1 hE rfl rfl rfl hb12) rfl rfl hE hp (v := (.pointer (some ⟨b7, b7o, none⟩))) (ex_index rfl hE rfl rfl b7r) ?_
                            intro a hE
                            refine s_val (wk1 hE rfl rfl rfl hb12) rfl rfl hE hp (v := (.int .i64 x23)) (ex_load rfl hE rfl (fun w hw => run_ld1 varty3 (b7f 0 _ rfl _ _ w (hw.get 1 rfl)))) ?_
                            intro a hE
                            refine s_val (wk1 hE rfl rfl rfl hb12) rfl rfl hE hp (v := (.bool (decide (x23 = 3)))) (ex_eql rfl hE rfl rfl) ?_
                            intro a hE
                            refine s_val (wk0 rfl) rfl rfl hE hp (v := (.bool (decide (x23 = 3)))) (ex_pick1 rfl hE rfl hb12 rfl) ?_
                            intro a hE
                            obtain rfl := Option.some.inj hg2
                            exact s_nil ⟨hE.cut ⟨rfl, rfl, rfl, rfl, rfl, trivial⟩, hp⟩
                          ·
                            replace hg2 := (ie hb12).symm.trans hg2
                            refine s_skip (wk2 hE rfl rfl rfl hb12) rfl rfl hE ?_
                            intro a hE
                            refine s_skip (wk2 hE rfl rfl rfl hb12) rfl rfl hE ?_
                            intro a hE
                            refine s_skip (wk2 hE rfl rfl rfl hb12) rfl rfl hE ?_
                            intro a hE
                            refine s_skip (wk2 hE rfl rfl rfl hb12) rfl rfl hE ?_
                            intro a hE
                            refine s_skip (wk2 hE rfl rfl rfl hb12) rfl rfl hE ?_
                            intro a hE
                            refine s_skip (wk2 hE rfl rfl rfl hb12) rfl rfl hE ?_
                            intro a hE
                            refine s_val (wk0 rfl) rfl rfl hE hp (v := (.bool false)) (ex_pick0 rfl hE rfl hb12 rfl) ?_
                            intro a hE
                            obtain rfl := Option.some.inj hg2
                            exact s_nil ⟨hE.cut ⟨rfl, rfl, rfl, rfl, rfl, trivial⟩, hp⟩
                        · rintro a w ⟨hE, hp⟩
                          refine s_val (wk0 rfl) rfl rfl hE hp (v := (.bool m2)) (ex_move rfl hE rfl) ?_
                          intro a hE
                          refine s_cut [_, _, _] (fun a w => Env 155 [(128, (.bool (m2 && (decide (x20.2 = 0))))), (1, (.pointer (some ⟨b1, 0, none⟩))), (2, (.pointer (some ⟨b2, 0, none⟩))), (14, vr26)] a ∧ Hp Z ((ρ5.un k1).un k2) (TblA 34 3 vr26 usr26 (x20.1 : (List (List Int))) :: TblA 34 3 vr24 usr24 (x19.1 : (List (List Int))) :: Pt b2 (.cells #[(.int .i64 x8.kind), (.string x8.text), (.int .i64 x8.at_), (.int .i64 x8.fin), vr8_kids] 24 (0, 0)) :: Pt b1 (.cells #[(.int .i64 x5.kind), (.string x5.text), (.int .i64 x5.at_), (.int .i64 x5.fin), vr5_kids] 24 (0, 0)) :: L) w) ?_ ?_
                          · rcases Bool.eq_false_or_eq_true m2 with hb13 | hb13
                            ·
                              refine s_val (wk1 hE rfl rfl rfl hb13) rfl rfl hE hp (v := (.int .i64 x20.2)) (ex_move rfl hE rfl) ?_
                              intro a hE
                              refine s_val (wk1 hE rfl rfl rfl hb13) rfl rfl hE hp (v := (.bool (decide (x20.2 = 0)))) (ex_eql rfl hE rfl rfl) ?_
                              intro a hE
                              refine s_val (wk0 rfl) rfl rfl hE hp (v := (.bool (decide (x20.2 = 0)))) (ex_pick1 rfl hE rfl hb13 rfl) ?_
                              intro a hE
                              have hE := hE.eqv (v' := (.bool (m2 && (decide (x20.2 = 0))))) (by rw [hb13]; rfl)
                              exact s_nil ⟨hE.cut ⟨rfl, rfl, rfl, rfl, trivial⟩, hp⟩
                            ·
                              refine s_skip (wk2 hE rfl rfl rfl hb13) rfl rfl hE ?_
                              intro a hE
                              refine s_skip (wk2 hE rfl rfl rfl hb13) rfl rfl hE ?_
                              intro a hE
                              refine s_val (wk0 rfl) rfl rfl hE hp (v := (.bool false)) (ex_pick0 rfl hE rfl hb13 rfl) ?_
                              intro a hE
                              have hE := hE.eqv (v' := (.bool (m2 && (decide (x20.2 = 0))))) (by rw [hb13]; rfl)
                              exact s_nil ⟨hE.cut ⟨rfl, rfl, rfl, rfl, trivial⟩, hp⟩
                          · rintro a w ⟨hE, hp⟩
                            refine s_val (wk0 rfl) rfl rfl hE hp (v := (.bool (m2 && (decide (x20.2 = 0))))) (ex_move rfl hE rfl) ?_
                            intro a hE
                            refine s_cut [_, _, _, _] (fun a w => Env 155 [(133, (.bool ((m2 && (decide (x20.2 = 0))) && (decide ((x20.1.length : Int) = 5))))), (1, (.pointer (some ⟨b1, 0, none⟩))), (2, (.pointer (some ⟨b2, 0, none⟩))), (14, vr26)] a ∧ Hp Z ((ρ5.un k1).un k2) (TblA 34 3 vr26 usr26 (x20.1 : (List (List Int))) :: TblA 34 3 vr24 usr24 (x19.1 : (List (List Int))) :: Pt b2 (.cells #[(.int .i64 x8.kind), (.string x8.text), (.int .i64 x8.at_), (.int .i64 x8.fin), vr8_kids] 24 (0, 0)) :: Pt b1 (.cells #[(.int .i64 x5.kind), (.string x5.text), (.int .i64 x5.at_), (.int .i64 x5.fin), vr5_kids] 24 (0, 0)) :: L) w) ?_ ?_
                            · rcases Bool.eq_false_or_eq_true (m2 && (decide (x20.2 = 0))) with hb14 | hb14
                              ·
                                refine s_val (wk1 hE rfl rfl rfl hb14) rfl rfl hE hp (v := vr26) (ex_move rfl hE rfl) ?_
                                intro a hE
                                refine s_val (wk1 hE rfl rfl rfl hb14) rfl rfl hE hp (v := (.int .i64 (x20.1.length : Int))) (ex_len rfl hE rfl (TblA.len hp 0 rfl slty30)) ?_
                                intro a hE
                                refine s_val (wk1 hE rfl rfl rfl hb14) rfl rfl hE hp (v := (.bool (decide ((x20.1.length : Int) = 5)))) (ex_eql rfl hE rfl rfl) ?_
                                intro a hE
                                refine s_val (wk0 rfl) rfl rfl hE hp (v := (.bool (decide ((x20.1.length : Int) = 5)))) (ex_pick1 rfl hE rfl hb14 rfl) ?_
                                intro a hE
                                have hE := hE.eqv (v' := (.bool ((m2 && (decide (x20.2 = 0))) && (decide ((x20.1.length : Int) = 5))))) (by rw [hb14]; rfl)
                                exact s_nil ⟨hE.cut ⟨rfl, rfl, rfl, rfl, trivial⟩, hp⟩
                              ·
                                refine s_skip (wk2 hE rfl rfl rfl hb14) rfl rfl hE ?_
                                intro a hE
                                refine s_skip (wk2 hE rfl rfl rfl hb14) rfl rfl hE ?_
                                intro a hE
                                refine s_skip (wk2 hE rfl rfl rfl hb14) rfl rfl hE ?_
                                intro a hE
                                refine s_val (wk0 rfl) rfl rfl hE hp (v := (.bool false)) (ex_pick0 rfl hE rfl hb14 rfl) ?_
                                intro a hE
                                have hE := hE.eqv (v' := (.bool ((m2 && (decide (x20.2 = 0))) && (decide ((x20.1.length : Int) = 5))))) (by rw [hb14]; rfl)
                                exact s_nil ⟨hE.cut ⟨rfl, rfl, rfl, rfl, trivial⟩, hp⟩
                            · rintro a w ⟨hE, hp⟩
                              refine s_val (wk0 rfl) rfl rfl hE hp (v := (.bool ((m2 && (decide (x20.2 = 0))) && (decide ((x20.1.length : Int) = 5))))) (ex_move rfl hE rfl) ?_
                              intro a hE
                              obtain ⟨m3, hg3, hm⟩ := bnd hm
                              refine s_cut [_, _, _, _, _, _] (fun a w => Env 155 [(140, (.bool m3)), (1, (.pointer (some ⟨b1, 0, none⟩))), (2, (.pointer (some ⟨b2, 0, none⟩))), (14, vr26)] a ∧ Hp Z ((ρ5.un k1).un k2) (TblA 34 3 vr26 usr26 (x20.1 : (List (List Int))) :: TblA 34 3 vr24 usr24 (x19.1 : (List (List Int))) :: Pt b2 (.cells #[(.int .i64 x8.kind), (.string x8.text), (.int .i64 x8.at_), (.int .i64 x8.fin), vr8_kids] 24 (0, 0)) :: Pt b1 (.cells #[(.int .i64 x5.kind), (.string x5.text), (.int .i64 x5.at_), (.int .i64 x5.fin), vr5_kids] 24 (0, 0)) :: L) w) ?_ ?_
                              · rcases Bool.eq_false_or_eq_true ((m2 && (decide (x20.2 = 0))) && (decide ((x20.1.length : Int) = 5))) with hb15 | hb15
                                ·
                                  replace hg3 := (it hb15).symm.trans hg3
                                  refine s_val (wk1 hE rfl rfl rfl hb15) rfl rfl hE hp (v := vr26) (ex_move rfl hE rfl) ?_
                                  intro a hE
                                  obtain ⟨x24, ex24, hg3⟩ := bnd hg3
                                  obtain ⟨b8u, b8, b8o, b8h, b8r, b8v, b8f⟩ := TblA.hdr hp 0 rfl slty30 ex24
                                  have b8f : ∀ (j : Nat) (u : Value), ([(Sl.v b8u)] : List Value)[j]? = some u → ∀ ρ' L' w, Hp Z ρ' (TblA 34 3 vr26 usr26 (x20.1 : (List (List Int))) :: L') w → w.cell? ⟨b8, b8o + j, none⟩ = some u := b8f
                                  refine s_val (wk1 hE rfl rfl rfl hb15) rfl rfl hE hp (v := (.pointer (some ⟨b8, b8o, none⟩))) (ex_index rfl hE rfl rfl b8r) ?_
                                  intro a hE
                                  refine s_val (wk1 hE rfl rfl rfl hb15) rfl rfl hE hp (v := (Sl.v b8u)) (ex_load rfl hE rfl (fun w hw => run_ld1 varty34 (b8f 0 _ rfl _ _ w (hw.get 0 rfl)))) ?_
                                  intro a hE
                                  refine s_val (wk1 hE rfl rfl rfl hb15) rfl rfl hE hp (v := (.int .i64 (x24.length : Int))) (ex_len rfl hE rfl (TblA.rlen hp 0 rfl slty34 b8h ex24)) ?_
                                  intro a hE
                                  refine s_val (wk1 hE rfl rfl rfl hb15) rfl rfl hE hp (v := (.bool (decide ((x24.length : Int) = 3)))) (ex_eql rfl hE rfl rfl) ?_
                                  intro a hE
                                  refine s_val (wk0 rfl) rfl rfl hE hp (v := (.bool (decide ((x24.length : Int) = 3)))) (ex_pick1 rfl hE rfl hb15 rfl) ?_
                                  intro a hE
                                  obtain rfl := Option.some.inj hg3
                                  exact s_nil ⟨hE.cut ⟨rfl, rfl, rfl, rfl, trivial⟩, hp⟩
                                ·
                                  replace hg3 := (ie hb15).symm.trans hg3
                                  refine s_skip (wk2 hE rfl rfl rfl hb15) rfl rfl hE ?_
                                  intro a hE
                                  refine s_skip (wk2 hE rfl rfl rfl hb15) rfl rfl hE ?_
                                  intro a hE
                                  refine s_skip (wk2 hE rfl rfl rfl hb15) rfl rfl hE ?_
                                  intro a hE
                                  refine s_skip (wk2 hE rfl rfl rfl hb15) rfl rfl hE ?_
                                  intro a hE
                                  refine s_skip (wk2 hE rfl rfl rfl hb15) rfl rfl hE ?_
                                  intro a hE
                                  refine s_val (wk0 rfl) rfl rfl hE hp (v := (.bool false)) (ex_pick0 rfl hE rfl hb15 rfl) ?_
                                  intro a hE
                                  obtain rfl := Option.some.inj hg3
                                  exact s_nil ⟨hE.cut ⟨rfl, rfl, rfl, rfl, trivial⟩, hp⟩
                              · rintro a w ⟨hE, hp⟩
                                refine s_val (wk0 rfl) rfl rfl hE hp (v := (.bool m3)) (ex_move rfl hE rfl) ?_
                                intro a hE
                                obtain ⟨m4, hg4, hm⟩ := bnd hm
                                refine s_cut [_, _, _, _, _, _, _] (fun a w => Env 155 [(148, (.bool m4)), (1, (.pointer (some ⟨b1, 0, none⟩))), (2, (.pointer (some ⟨b2, 0, none⟩)))] a ∧ Hp Z ((ρ5.un k1).un k2) (TblA 34 3 vr26 usr26 (x20.1 : (List (List Int))) :: TblA 34 3 vr24 usr24 (x19.1 : (List (List Int))) :: Pt b2 (.cells #[(.int .i64 x8.kind), (.string x8.text), (.int .i64 x8.at_), (.int .i64 x8.fin), vr8_kids] 24 (0, 0)) :: Pt b1 (.cells #[(.int .i64 x5.kind), (.string x5.text), (.int .i64 x5.at_), (.int .i64 x5.fin), vr5_kids] 24 (0, 0)) :: L) w) ?_ ?_
                                · rcases Bool.eq_false_or_eq_true m3 with hb16 | hb16
                                  ·
                                    replace hg4 := (it hb16).symm.trans hg4
                                    refine s_val (wk1 hE rfl rfl rfl hb16) rfl rfl hE hp (v := vr26) (ex_move rfl hE rfl) ?_
                                    intro a hE
                                    obtain ⟨x25, ex25, hg4⟩ := bnd hg4
                                    obtain ⟨b9u, b9, b9o, b9h, b9r, b9v, b9f⟩ := TblA.hdr hp 0 rfl slty30 ex25
                                    have b9f : ∀ (j : Nat) (u : Value), ([(Sl.v b9u)] : List Value)[j]? = some u → ∀ ρ' L' w, Hp Z ρ' (TblA 34 3 vr26 usr26 (x20.1 : (List (List Int))) :: L') w → w.cell? ⟨b9, b9o + j, none⟩ = some u := b9f
                                    refine s_val (wk1 hE rfl rfl rfl hb16) rfl rfl hE hp (v := (.pointer (some ⟨b9, b9o, none⟩))) (ex_index rfl hE rfl rfl b9r) ?_
                                    intro a hE
                                    refine s_val (wk1 hE rfl rfl rfl hb16) rfl rfl hE hp (v := (Sl.v b9u)) (ex_load rfl hE rfl (fun w hw => run_ld1 varty34 (b9f 0 _ rfl _ _ w (hw.get 0 rfl)))) ?_
                                    intro a hE
                                    obtain ⟨x26, ex26, hg4⟩ := bnd hg4
                                    obtain ⟨b10, b10o, b10r, b10v, b10f⟩ := TblA.at hp 0 rfl slty34 b9h ex25 ex26
                                    have b10f : ∀ (j : Nat) (u : Value), ([(.int .i64 x26)] : List Value)[j]? = some u → ∀ ρ' L' w, Hp Z ρ' (TblA 34 3 vr26 usr26 (x20.1 : (List (List Int))) :: L') w → w.cell? ⟨b10, b10o + j, none⟩ = some u := b10f
                                    refine s_val (wk1 hE rfl rfl rfl hb16) rfl rfl hE hp (v := (.pointer (some ⟨b10, b10o, none⟩))) (ex_index rfl hE rfl rfl b10r) ?_
                                    intro a hE
                                    refine s_val (wk1 hE rfl rfl rfl hb16) rfl rfl hE hp (v := (.int .i64 x26)) (ex_load rfl hE rfl (fun w hw => run_ld1 varty3 (b10f 0 _ rfl _ _ w (hw.get 0 rfl)))) ?_
                                    intro a hE
                                    refine s_val (wk1 hE rfl rfl rfl hb16) rfl rfl hE hp (v := (.bool (decide (x26 = 0)))) (ex_eql rfl hE rfl rfl) ?_
                                    intro a hE
                                    refine s_val (wk0 rfl) rfl rfl hE hp (v := (.bool (decide (x26 = 0)))) (ex_pick1 rfl hE rfl hb16 rfl) ?_
                                    intro a hE
                                    obtain rfl := Option.some.inj hg4
                                    exact s_nil ⟨hE.cut ⟨rfl, rfl, rfl, trivial⟩, hp⟩
                                  ·
                                    replace hg4 := (ie hb16).symm.trans hg4
                                    refine s_skip (wk2 hE rfl rfl rfl hb16) rfl rfl hE ?_
                                    intro a hE
                                    refine s_skip (wk2 hE rfl rfl rfl hb16) rfl rfl hE ?_
                                    intro a hE
                                    refine s_skip (wk2 hE rfl rfl rfl hb16) rfl rfl hE ?_
                                    intro a hE
                                    refine s_skip (wk2 hE rfl rfl rfl hb16) rfl rfl hE ?_
                                    intro a hE
                                    refine s_skip (wk2 hE rfl rfl rfl hb16) rfl rfl hE ?_
                                    intro a hE
                                    refine s_skip (wk2 hE rfl rfl rfl hb16) rfl rfl hE ?_
                                    intro a hE
                                    refine s_val (wk0 rfl) rfl rfl hE hp (v := (.bool false)) (ex_pick0 rfl hE rfl hb16 rfl) ?_
                                    intro a hE
                                    obtain rfl := Option.some.inj hg4
                                    exact s_nil ⟨hE.cut ⟨rfl, rfl, rfl, trivial⟩, hp⟩
                                · rintro a w ⟨hE, hp⟩
                                  refine s_val (wk0 rfl) rfl rfl hE hp (v := (.bool m4)) (ex_move rfl hE rfl) ?_
                                  intro a hE
                                  obtain ⟨m5, hg5, hm⟩ := bnd hm
                                  refine s_cut [_, _, _, _, _] (fun a w => Env 155 [(154, (.bool m5))] a ∧ Hp Z ((ρ5.un k1).un k2) (TblA 34 3 vr26 usr26 (x20.1 : (List (List Int))) :: TblA 34 3 vr24 usr24 (x19.1 : (List (List Int))) :: Pt b2 (.cells #[(.int .i64 x8.kind), (.string x8.text), (.int .i64 x8.at_), (.int .i64 x8.fin), vr8_kids] 24 (0, 0)) :: Pt b1 (.cells #[(.int .i64 x5.kind), (.string x5.text), (.int .i64 x5.at_), (.int .i64 x5.fin), vr5_kids] 24 (0, 0)) :: L) w) ?_ ?_
                                  · rcases Bool.eq_false_or_eq_true m4 with hb17 | hb17
                                    ·
                                      replace hg5 := (it hb17).symm.trans hg5
                                      refine s_val (wk1 hE rfl rfl rfl hb17) rfl rfl hE hp (v := (.agg #[(.int .i64 x5.kind), (.string x5.text), (.int .i64 x5.at_), (.int .i64 x5.fin), vr5_kids])) (ex_load rfl hE rfl (fun w hw => run_ldN (cs := [(.int .i64 x5.kind), (.string x5.text), (.int .i64 x5.at_), (.int .i64 x5.fin), vr5_kids]) varty24 (Hp.cN 3 rfl 0 _ (sub_all rfl) w hw))) ?_
                                      intro a hE
                                      refine s_val (wk1 hE rfl rfl rfl hb17) rfl rfl hE hp (v := (.agg #[(.int .i64 x8.kind), (.string x8.text), (.int .i64 x8.at_), (.int .i64 x8.fin), vr8_kids])) (ex_load rfl hE rfl (fun w hw => run_ldN (cs := [(.int .i64 x8.kind), (.string x8.text), (.int .i64 x8.at_), (.int .i64 x8.fin), vr8_kids]) varty24 (Hp.cN 2 rfl 0 _ (sub_all rfl) w hw))) ?_
                                      intro a hE
                                      obtain ⟨x27, ex27, hg5⟩ := bnd hg5
                                      refine s_call (wk1 hE rfl rfl rfl hb17) rfl rfl hE rfl [(.agg #[(.int .i64 x5.kind), (.string x5.text), (.int .i64 x5.at_), (.int .i64 x5.fin), vr5_kids]), (.agg #[(.int .i64 x8.kind), (.string x8.text), (.int .i64 x8.at_), (.int .i64 x8.fin), vr8_kids])] ⟨rfl, rfl, trivial⟩ ent15 (c_distance_Bound x5 vr5_kids (RoSl.mono (RoSl.mono (RoSl.mono (RoSl.mono (RoSl.mono hr5_kids hle3) hle4) hle5) (PH.le_un _ k1)) (PH.le_un _ k2)) x8 vr8_kids (RoSl.mono (RoSl.mono (RoSl.mono (RoSl.mono hr8_kids hle4) hle5) (PH.le_un _ k1)) (PH.le_un _ k2)) hp x27 ex27) Ret.ret ?_
                                      intro v a w hR hE
                                      obtain ⟨rfl, hp⟩ := Ret.of hR
                                      have hp : Hp Z ((ρ5.un k1).un k2) (_ :: _ :: _ :: _ :: L) w := hp
                                      refine s_val (wk1 hE rfl rfl rfl hb17) rfl rfl hE hp (v := (.bool (decide (x27 = 2)))) (ex_eql rfl hE rfl rfl) ?_
                                      intro a hE
                                      refine s_val (wk0 rfl) rfl rfl hE hp (v := (.bool (decide (x27 = 2)))) (ex_pick1 rfl hE rfl hb17 rfl) ?_
                                      intro a hE
                                      obtain rfl := Option.some.inj hg5
                                      exact s_nil ⟨hE.cut ⟨rfl, trivial⟩, hp⟩
                                    ·
                                      replace hg5 := (ie hb17).symm.trans hg5
                                      refine s_skip (wk2 hE rfl rfl rfl hb17) rfl rfl hE ?_
                                      intro a hE
                                      refine s_skip (wk2 hE rfl rfl rfl hb17) rfl rfl hE ?_
                                      intro a hE
                                      refine s_skip (wk2 hE rfl rfl rfl hb17) rfl rfl hE ?_
                                      intro a hE
                                      refine s_skip (wk2 hE rfl rfl rfl hb17) rfl rfl hE ?_
                                      intro a hE
                                      refine s_val (wk0 rfl) rfl rfl hE hp (v := (.bool false)) (ex_pick0 rfl hE rfl hb17 rfl) ?_
                                      intro a hE
                                      obtain rfl := Option.some.inj hg5
                                      exact s_nil ⟨hE.cut ⟨rfl, trivial⟩, hp⟩
                                  · rintro a w ⟨hE, hp⟩
                                    refine s_val (wk0 rfl) rfl rfl hE hp (v := (.bool m5)) (ex_asn rfl hE rfl) ?_
                                    intro a hE
                                    refine s_nil ?_
                                    refine k_ret ?_
                                    obtain rfl := Option.some.inj hm
                                    exact ret1 hE rfl rfl ⟨_, rfl, rfl, ((((((((((((((hp.get 3 rfl).drop).get 2 rfl).drop).get 1 rfl).drop).drop).less (PH.le_un _ k2)).less (PH.le_un _ k1)).less hle5).less hle4).less hle3).less hle2).less hle1)⟩
end Go.Proofs.Ytnnccbagbgndpaa

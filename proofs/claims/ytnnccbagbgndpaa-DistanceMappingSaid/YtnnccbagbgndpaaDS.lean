/-
  The code goes as its model: assessor/distance.large$1, slices.IndexFunc[[]assessor/api.Node,assessor/api.Node]@assessor/distance.large$1, slices.ContainsFunc[[]assessor/api.Node,assessor/api.Node]@assessor/distance.large$1, assessor/distance.large, assessor/distance.flatten$1, assessor/distance.flatten, (assessor/distance.flat).roots, assessor/distance.table, assessor/distance.filler, assessor/distance.filler$1. (Printed by wip/sp/gen.py.)
-/
import Derived.Test.YtnnccbagbgndpaaDM
import Derived.Test.YtnnccbagbgndpaaFct
import Derived.Test.YtnnccbagbgndpaaTree
import Derived.Test.YtnnccbagbgndpaaLibV
set_option linter.unusedVariables false
set_option linter.unusedSimpArgs false
namespace Go.Proofs.Ytnnccbagbgndpaa
open Go.RowKit

/- assessor/distance.large$1 -/
set_option maxRecDepth 100000 in
set_option maxHeartbeats 4000000 in
theorem c_distance_large_1 {Z : World} {ρ : PH} {L : List Atom} {w : World} (p0 : Node) (vp0_kids : Value) (hp0_kids : RoSl ρ vp0_kids p0.kids) (hp : Hp Z ρ (L) w) (r : Bool) (hm : m_distance_large_1 p0 = some r) :
    Calls Try.prog 39 #[(.agg #[(.int .i64 p0.kind), (.string p0.text), (.int .i64 p0.at_), (.int .i64 p0.fin), vp0_kids])] w (Ret fun v w' => v = (.bool r) ∧ Hp Z ρ (L) w') := by
  refine enter (N := 6) Try.func39 rfl rfl [(0, (.agg #[(.int .i64 p0.kind), (.string p0.text), (.int .i64 p0.at_), (.int .i64 p0.fin), vp0_kids]))] rfl (argsIn_mem ⟨rfl, trivial⟩) fun a hE => ?_
  unfold m_distance_large_1 at hm
  refine k_seq ?_
  refine k_region ?_
  refine s_box (wk0 rfl) rfl rfl hE hp rfl (v := (.agg #[(.int .i64 p0.kind), (.string p0.text), (.int .i64 p0.at_), (.int .i64 p0.fin), vp0_kids])) rfl ?_
  intro a w b1 hE hp
  have hp : Hp Z ρ (Pt b1 (.cells #[(.int .i64 p0.kind), (.string p0.text), (.int .i64 p0.at_), (.int .i64 p0.fin), vp0_kids] 24 (0, 0)) :: L) w := hp
  refine s_val (wk0 rfl) rfl rfl hE hp (v := (.bool false)) (ex_asn rfl hE rfl) ?_
  intro a hE
  refine s_nil ?_
  refine k_seq ?_
  refine k_region ?_
  refine s_val (wk0 rfl) rfl rfl hE hp (v := (.agg #[(.int .i64 p0.kind), (.string p0.text), (.int .i64 p0.at_), (.int .i64 p0.fin), vp0_kids])) (ex_load rfl hE rfl (fun w hw => run_ldN (cs := [(.int .i64 p0.kind), (.string p0.text), (.int .i64 p0.at_), (.int .i64 p0.fin), vp0_kids]) varty24 (Hp.cN 0 rfl 0 _ (sub_all rfl) w hw))) ?_
  intro a hE
  obtain ⟨x1, ex1, hm⟩ := bnd hm
  refine s_call (wk0 rfl) rfl rfl hE rfl [(.agg #[(.int .i64 p0.kind), (.string p0.text), (.int .i64 p0.at_), (.int .i64 p0.fin), vp0_kids])] ⟨rfl, trivial⟩ ent40 (c_count p0 vp0_kids hp0_kids hp x1 ex1) Ret.ret ?_
  intro v a w hR hE
  obtain ⟨rfl, hp⟩ := Ret.of hR
  have hp : Hp Z ρ (_ :: L) w := hp
  refine s_val (wk0 rfl) rfl rfl hE hp (v := (.bool (decide (256 < x1)))) (ex_gtr rfl hE rfl rfl) ?_
  intro a hE
  refine s_val (wk0 rfl) rfl rfl hE hp (v := (.bool (decide (256 < x1)))) (ex_asn rfl hE rfl) ?_
  intro a hE
  refine s_nil ?_
  refine k_ret ?_
  obtain rfl := Option.some.inj hm
  exact ret1 hE rfl rfl ⟨_, rfl, rfl, (hp.drop)⟩
/- slices.IndexFunc[[]assessor/api.Node,assessor/api.Node]@assessor/distance.large$1 -/
set_option maxRecDepth 100000 in
set_option maxHeartbeats 4000000 in
theorem c_slices_IndexFunc_distance_large_1 {Z : World} {ρ : PH} {L : List Atom} {w : World} (p0 : (List Node)) (vp0 : Value) (hp0 : RoSl ρ vp0 p0) (hp : Hp Z ρ (L) w) (r : Int) (hm : m_slices_IndexFunc_distance_large_1 p0 = some r) :
    Calls Try.prog 44 #[vp0, (.func (.func 39) #[] #[])] w (Ret fun v w' => v = (.int .i64 r) ∧ Hp Z ρ (L) w') := by
  refine enter (N := 19) Try.func44 rfl rfl [(0, vp0), (1, (.func (.func 39) #[] #[]))] rfl (argsIn_mem ⟨rfl, rfl, trivial⟩) fun a hE => ?_
  unfold m_slices_IndexFunc_distance_large_1 at hm
  refine k_seq ?_
  refine k_region ?_
  refine s_val (wk0 rfl) rfl rfl hE hp (v := (.int .i64 0)) (ex_asn rfl hE rfl) ?_
  intro a hE
  refine s_nil ?_
  refine k_seq ?_
  refine k_seq ?_
  refine k_region ?_
  refine s_val (wk0 rfl) rfl rfl hE hp (v := vp0) (ex_move rfl hE rfl) ?_
  intro a hE
  refine s_val (wk0 rfl) rfl rfl hE hp (v := (.int .i64 (p0.length : Int))) (ex_len rfl hE rfl (RoSl.len hp0 slty22)) ?_
  intro a hE
  refine s_val (wk0 rfl) rfl rfl hE hp (v := (.int .i64 0)) (ex_move rfl hE rfl) ?_
  intro a hE
  refine s_nil ?_
  obtain ⟨b1, hb1, hm⟩ := bnd hm
  refine k_block (fun a w => ∃ s : Unit, b1 = .brk s ∧ (Env 19 [] a ∧ Hp Z ρ (L) w)) ?_ ?_
  · refine k_loop hb1 (fun s a w => Env 19 [(0, vp0), (1, (.func (.func 39) #[] #[])), (7, (.int .i64 (p0.length : Int))), (8, (.int .i64 s))] a ∧ Hp Z ρ (L) w) ?_ ?_
    · exact ⟨hE.cut ⟨rfl, rfl, rfl, rfl, trivial⟩, hp⟩
    · rintro lp1_0 st a w ⟨hE, hp⟩ hl1
      have hE : Env 19 [(0, vp0), (1, (.func (.func 39) #[] #[])), (7, (.int .i64 (p0.length : Int))), (8, (.int .i64 lp1_0))] a := hE
      have hp : Hp Z ρ (L) w := hp
      replace hl1 : m_slices_IndexFunc_distance_large_1_lp1 p0 lp1_0 = some st := hl1
      unfold m_slices_IndexFunc_distance_large_1_lp1 at hl1
      refine k_seq ?_
      refine k_region ?_
      refine s_val (wk0 rfl) rfl rfl hE hp (v := (.bool (decide (lp1_0 < (p0.length : Int))))) (ex_lss rfl hE rfl rfl) ?_
      intro a hE
      refine s_nil ?_
      refine k_seq ?_
      refine k_if hE rfl (fun hb2 => ?_) (fun hb2 => ?_)
      · replace hl1 := (it hb2).symm.trans hl1
        refine k_skip ?_
        refine k_seq ?_
        refine k_plain ?_
        refine k_seq ?_
        refine k_region ?_
        refine s_val (wk0 rfl) rfl rfl hE hp (v := (.int .i64 lp1_0)) (ex_move rfl hE rfl) ?_
        intro a hE
        refine s_val (wk0 rfl) rfl rfl hE hp (v := (.int .i64 lp1_0)) (ex_asn rfl hE rfl) ?_
        intro a hE
        refine s_nil ?_
        refine k_seq ?_
        refine k_region ?_
        refine s_val (wk0 rfl) rfl rfl hE hp (v := (.func (.func 39) #[] #[])) (ex_move rfl hE rfl) ?_
        intro a hE
        refine s_val (wk0 rfl) rfl rfl hE hp (v := vp0) (ex_move rfl hE rfl) ?_
        intro a hE
        refine s_val (wk0 rfl) rfl rfl hE hp (v := (.int .i64 lp1_0)) (ex_move rfl hE rfl) ?_
        intro a hE
        obtain ⟨x1, ex1, hl1⟩ := bnd hl1
        obtain ⟨b2, b2o, b2c, b2r, b2k, b2f⟩ := RoSl.at hp0 slty22 ex1
        obtain ⟨vb2_kids, rfl, hb2_kids⟩ := NodeAt.opens b2k
        have b2f : AtP ρ b2 b2o [(.int .i64 x1.kind), (.string x1.text), (.int .i64 x1.at_), (.int .i64 x1.fin), vb2_kids] := b2f
        refine s_val (wk0 rfl) rfl rfl hE hp (v := (.pointer (some ⟨b2, b2o, none⟩))) (ex_index rfl hE rfl rfl b2r) ?_
        intro a hE
        refine s_val (wk0 rfl) rfl rfl hE hp (v := (.agg #[(.int .i64 x1.kind), (.string x1.text), (.int .i64 x1.at_), (.int .i64 x1.fin), vb2_kids])) (ex_load rfl hE rfl (fun w hw => run_ldN (cs := [(.int .i64 x1.kind), (.string x1.text), (.int .i64 x1.at_), (.int .i64 x1.fin), vb2_kids]) varty24 (fun j u hj => cell_of hw.le (b2f j u hj)))) ?_
        intro a hE
        obtain ⟨x2, ex2, hl1⟩ := bnd hl1
        refine s_callv (wk0 rfl) rfl rfl hE rfl rfl [(.agg #[(.int .i64 x1.kind), (.string x1.text), (.int .i64 x1.at_), (.int .i64 x1.fin), vb2_kids])] ⟨rfl, trivial⟩ ent39 (c_distance_large_1 x1 vb2_kids hb2_kids hp x2 ex2) Ret.ret ?_
        intro v a w hR hE
        obtain ⟨rfl, hp⟩ := Ret.of hR
        have hp : Hp Z ρ (L) w := hp
        refine s_nil ?_
        have hE := hE.cut (E' := [(0, vp0), (1, (.func (.func 39) #[] #[])), (5, (.int .i64 lp1_0)), (7, (.int .i64 (p0.length : Int))), (8, (.int .i64 lp1_0)), (16, (.bool x2))]) ⟨rfl, rfl, rfl, rfl, rfl, rfl, trivial⟩
        refine k_if hE rfl (fun hb3 => ?_) (fun hb3 => ?_)
        · replace hl1 := (it hb3).symm.trans hl1
          refine k_seq ?_
          refine k_region ?_
          refine s_val (wk0 rfl) rfl rfl hE hp (v := (.int .i64 lp1_0)) (ex_move rfl hE rfl) ?_
          intro a hE
          refine s_val (wk0 rfl) rfl rfl hE hp (v := (.int .i64 lp1_0)) (ex_asn rfl hE rfl) ?_
          intro a hE
          refine s_nil ?_
          refine k_ret ?_
          refine ⟨_, (Option.some.inj hl1).symm, fun hb => ?_⟩
          subst hb
          obtain rfl := Option.some.inj hm
          exact ret1 hE rfl rfl ⟨_, rfl, rfl, hp⟩
        · replace hl1 := (ie hb3).symm.trans hl1
          refine k_skip ?_
          refine k_region ?_
          obtain ⟨x3, ex3, hl1⟩ := bnd hl1
          refine s_val (wk0 rfl) rfl rfl hE hp (v := (.int .i64 x3)) (ex_add rfl hE rfl rfl (inK_some ex3)) ?_
          intro a hE
          refine s_val (wk0 rfl) rfl rfl hE hp (v := (.int .i64 x3)) (ex_move rfl hE rfl) ?_
          intro a hE
          refine s_nil ?_
          exact ⟨_, (Option.some.inj hl1).symm, hE.cut ⟨rfl, rfl, rfl, rfl, trivial⟩, hp⟩
      · replace hl1 := (ie hb2).symm.trans hl1
        refine k_exit ?_
        refine ⟨_, (Option.some.inj hl1).symm, fun hbb => ?_⟩
        exact ⟨_, hbb.symm, hE.cut trivial, hp⟩
  · rintro a w ⟨b1s, rfl, hE, hp⟩
    dsimp only at hm
    refine k_seq ?_
    refine k_region ?_
    refine s_val (wk0 rfl) rfl rfl hE hp (v := (.int .i64 (-1))) (ex_asn rfl hE rfl) ?_
    intro a hE
    refine s_nil ?_
    refine k_ret ?_
    obtain rfl := Option.some.inj hm
    exact ret1 hE rfl rfl ⟨_, rfl, rfl, hp⟩
/- slices.ContainsFunc[[]assessor/api.Node,assessor/api.Node]@assessor/distance.large$1 -/
set_option maxRecDepth 100000 in
set_option maxHeartbeats 4000000 in
theorem c_slices_ContainsFunc_distance_large_1 {Z : World} {ρ : PH} {L : List Atom} {w : World} (p0 : (List Node)) (vp0 : Value) (hp0 : RoSl ρ vp0 p0) (hp : Hp Z ρ (L) w) (r : Bool) (hm : m_slices_ContainsFunc_distance_large_1 p0 = some r) :
    Calls Try.prog 38 #[vp0, (.func (.func 39) #[] #[])] w (Ret fun v w' => v = (.bool r) ∧ Hp Z ρ (L) w') := by
  refine enter (N := 9) Try.func38 rfl rfl [(0, vp0), (1, (.func (.func 39) #[] #[]))] rfl (argsIn_mem ⟨rfl, rfl, trivial⟩) fun a hE => ?_
  unfold m_slices_ContainsFunc_distance_large_1 at hm
  refine k_seq ?_
  refine k_region ?_
  refine s_val (wk0 rfl) rfl rfl hE hp (v := (.bool false)) (ex_asn rfl hE rfl) ?_
  intro a hE
  refine s_nil ?_
  refine k_seq ?_
  refine k_region ?_
  refine s_val (wk0 rfl) rfl rfl hE hp (v := vp0) (ex_move rfl hE rfl) ?_
  intro a hE
  refine s_val (wk0 rfl) rfl rfl hE hp (v := (.func (.func 39) #[] #[])) (ex_move rfl hE rfl) ?_
  intro a hE
  obtain ⟨x1, ex1, hm⟩ := bnd hm
  refine s_call (wk0 rfl) rfl rfl hE rfl [vp0, (.func (.func 39) #[] #[])] ⟨rfl, rfl, trivial⟩ ent44 (c_slices_IndexFunc_distance_large_1 p0 vp0 hp0 hp x1 ex1) Ret.ret ?_
  intro v a w hR hE
  obtain ⟨rfl, hp⟩ := Ret.of hR
  have hp : Hp Z ρ (L) w := hp
  refine s_val (wk0 rfl) rfl rfl hE hp (v := (.bool (decide (0 ≤ x1)))) (ex_geq rfl hE rfl rfl) ?_
  intro a hE
  refine s_val (wk0 rfl) rfl rfl hE hp (v := (.bool (decide (0 ≤ x1)))) (ex_asn rfl hE rfl) ?_
  intro a hE
  refine s_nil ?_
  refine k_ret ?_
  obtain rfl := Option.some.inj hm
  exact ret1 hE rfl rfl ⟨_, rfl, rfl, hp⟩
/- assessor/distance.large -/
set_option maxRecDepth 100000 in
set_option maxHeartbeats 4000000 in
theorem c_distance_large {Z : World} {ρ : PH} {L : List Atom} {w : World} (p0 : (List Node)) (vp0 : Value) (hp0 : RoSl ρ vp0 p0) (hp : Hp Z ρ (L) w) (r : Bool) (hm : m_distance_large p0 = some r) :
    Calls Try.prog 29 #[vp0] w (Ret fun v w' => v = (.bool r) ∧ Hp Z ρ (L) w') := by
  refine enter (N := 5) Try.func29 rfl rfl [(0, vp0)] rfl (argsIn_mem ⟨rfl, trivial⟩) fun a hE => ?_
  unfold m_distance_large at hm
  refine k_seq ?_
  refine k_region ?_
  refine s_val (wk0 rfl) rfl rfl hE hp (v := (.bool false)) (ex_asn rfl hE rfl) ?_
  intro a hE
  refine s_nil ?_
  refine k_seq ?_
  refine k_region ?_
  refine s_val (wk0 rfl) rfl rfl hE hp (v := vp0) (ex_move rfl hE rfl) ?_
  intro a hE
  obtain ⟨x1, ex1, hm⟩ := bnd hm
  refine s_call (wk0 rfl) rfl rfl hE rfl [vp0, (.func (.func 39) #[] #[])] ⟨rfl, rfl, trivial⟩ ent38 (c_slices_ContainsFunc_distance_large_1 p0 vp0 hp0 hp x1 ex1) Ret.ret ?_
  intro v a w hR hE
  obtain ⟨rfl, hp⟩ := Ret.of hR
  have hp : Hp Z ρ (L) w := hp
  refine s_val (wk0 rfl) rfl rfl hE hp (v := (.bool x1)) (ex_asn rfl hE rfl) ?_
  intro a hE
  refine s_nil ?_
  refine k_ret ?_
  obtain rfl := Option.some.inj hm
  exact ret1 hE rfl rfl ⟨_, rfl, rfl, hp⟩
/- assessor/distance.flatten$1 -/
set_option maxRecDepth 100000 in
set_option maxHeartbeats 4000000 in
theorem c_distance_flatten_1_body (self : Node → Int → DFlat → Option (Int × DFlat)) (hself : ∀ {Z : World} {ρ : PH} {L : List Atom} {w : World} (p0 : Node) (vp0_kids : Value) (hp0_kids : RoSl ρ vp0_kids p0.kids) (bc0 : Nat) (c0 : Int) (bc1 : Nat) (c1 : DFlat) (vc1_labels : Value) (vc1_left : Value) (vc1_numbers : Value) (bc2 : Nat) (hp : Hp Z ρ (Pt bc0 (.cells #[(.int .i64 c0)] 3 (0, 0)) :: Pt bc1 (.cells #[vc1_labels, vc1_left, vc1_numbers] 66 (0, 0)) :: OwnSl 70 vc1_labels c1.labels :: OwnSl 3 vc1_left c1.left :: OwnSl 3 vc1_numbers c1.numbers :: Pt bc2 (.cells #[(.func (.func 43) #[] #[(.pointer (some ⟨bc0, 0, none⟩)), (.pointer (some ⟨bc1, 0, none⟩)), (.pointer (some ⟨bc2, 0, none⟩))])] 80 (0, 0)) :: L) w) (r : (Int × DFlat)) (hm : self p0 c0 c1 = some r), Calls Try.prog 43 #[(.agg #[(.int .i64 p0.kind), (.string p0.text), (.int .i64 p0.at_), (.int .i64 p0.fin), vp0_kids]), (.pointer (some ⟨bc0, 0, none⟩)), (.pointer (some ⟨bc1, 0, none⟩)), (.pointer (some ⟨bc2, 0, none⟩))] w (Ret fun v w' => ∃ (vzc1_labels : Value) (vzc1_left : Value) (vzc1_numbers : Value), v = .tuple #[] ∧ Hp Z ρ (Pt bc0 (.cells #[(.int .i64 r.1)] 3 (0, 0)) :: Pt bc1 (.cells #[vzc1_labels, vzc1_left, vzc1_numbers] 66 (0, 0)) :: OwnSl 70 vzc1_labels r.2.labels :: OwnSl 3 vzc1_left r.2.left :: OwnSl 3 vzc1_numbers r.2.numbers :: Pt bc2 (.cells #[(.func (.func 43) #[] #[(.pointer (some ⟨bc0, 0, none⟩)), (.pointer (some ⟨bc1, 0, none⟩)), (.pointer (some ⟨bc2, 0, none⟩))])] 80 (0, 0)) :: L) w')) {Z : World} {ρ : PH} {L : List Atom} {w : World} (p0 : Node) (vp0_kids : Value) (hp0_kids : RoSl ρ vp0_kids p0.kids) (bc0 : Nat) (c0 : Int) (bc1 : Nat) (c1 : DFlat) (vc1_labels : Value) (vc1_left : Value) (vc1_numbers : Value) (bc2 : Nat) (hp : Hp Z ρ (Pt bc0 (.cells #[(.int .i64 c0)] 3 (0, 0)) :: Pt bc1 (.cells #[vc1_labels, vc1_left, vc1_numbers] 66 (0, 0)) :: OwnSl 70 vc1_labels c1.labels :: OwnSl 3 vc1_left c1.left :: OwnSl 3 vc1_numbers c1.numbers :: Pt bc2 (.cells #[(.func (.func 43) #[] #[(.pointer (some ⟨bc0, 0, none⟩)), (.pointer (some ⟨bc1, 0, none⟩)), (.pointer (some ⟨bc2, 0, none⟩))])] 80 (0, 0)) :: L) w) (r : (Int × DFlat)) (hm : m_distance_flatten_1_body self p0 c0 c1 = some r) :
    Calls Try.prog 43 #[(.agg #[(.int .i64 p0.kind), (.string p0.text), (.int .i64 p0.at_), (.int .i64 p0.fin), vp0_kids]), (.pointer (some ⟨bc0, 0, none⟩)), (.pointer (some ⟨bc1, 0, none⟩)), (.pointer (some ⟨bc2, 0, none⟩))] w (Ret fun v w' => ∃ (vzc1_labels : Value) (vzc1_left : Value) (vzc1_numbers : Value), v = .tuple #[] ∧ Hp Z ρ (Pt bc0 (.cells #[(.int .i64 r.1)] 3 (0, 0)) :: Pt bc1 (.cells #[vzc1_labels, vzc1_left, vzc1_numbers] 66 (0, 0)) :: OwnSl 70 vzc1_labels r.2.labels :: OwnSl 3 vzc1_left r.2.left :: OwnSl 3 vzc1_numbers r.2.numbers :: Pt bc2 (.cells #[(.func (.func 43) #[] #[(.pointer (some ⟨bc0, 0, none⟩)), (.pointer (some ⟨bc1, 0, none⟩)), (.pointer (some ⟨bc2, 0, none⟩))])] 80 (0, 0)) :: L) w') := by
  refine enter (N := 48) Try.func43 rfl rfl [(0, (.agg #[(.int .i64 p0.kind), (.string p0.text), (.int .i64 p0.at_), (.int .i64 p0.fin), vp0_kids])), (1, (.pointer (some ⟨bc0, 0, none⟩))), (2, (.pointer (some ⟨bc1, 0, none⟩))), (3, (.pointer (some ⟨bc2, 0, none⟩)))] rfl (argsIn_mem ⟨rfl, rfl, rfl, rfl, trivial⟩) fun a hE => ?_
  unfold m_distance_flatten_1_body at hm
  refine k_seq ?_
  refine k_region ?_
  refine s_box (wk0 rfl) rfl rfl hE hp rfl (v := (.agg #[(.int .i64 p0.kind), (.string p0.text), (.int .i64 p0.at_), (.int .i64 p0.fin), vp0_kids])) rfl ?_
  intro a w b1 hE hp
  have hp : Hp Z ρ (Pt b1 (.cells #[(.int .i64 p0.kind), (.string p0.text), (.int .i64 p0.at_), (.int .i64 p0.fin), vp0_kids] 24 (0, 0)) :: Pt bc0 (.cells #[(.int .i64 c0)] 3 (0, 0)) :: Pt bc1 (.cells #[vc1_labels, vc1_left, vc1_numbers] 66 (0, 0)) :: OwnSl 70 vc1_labels c1.labels :: OwnSl 3 vc1_left c1.left :: OwnSl 3 vc1_numbers c1.numbers :: Pt bc2 (.cells #[(.func (.func 43) #[] #[(.pointer (some ⟨bc0, 0, none⟩)), (.pointer (some ⟨bc1, 0, none⟩)), (.pointer (some ⟨bc2, 0, none⟩))])] 80 (0, 0)) :: L) w := hp
  refine s_nil ?_
  refine k_seq ?_
  refine k_quiet (by kernel_rfl) (by kernel_rfl) hp ?_
  refine q_val (wk0 rfl) rfl rfl hE (v := (.int .i64 c0)) (ex_load rfl hE rfl (fun w hw => run_ld1 varty3 (Hp.c 1 rfl 0 rfl w hw))) ?_
  intro a hE
  refine q_val (wk0 rfl) rfl rfl hE (v := (.pointer (some ⟨bc1, 0, none⟩))) (ex_field rfl hE rfl (fldty66_0 _ _)) ?_
  intro a hE
  refine q_val (wk0 rfl) rfl rfl hE (v := vc1_labels) (ex_load rfl hE rfl (fun w hw => run_ld1 varty64 (Hp.c 2 rfl 0 rfl w hw))) ?_
  intro a hE
  refine q_val (wk0 rfl) rfl rfl hE (v := (.int .i64 (c1.labels.length : Int))) (ex_len rfl hE rfl (OwnSl.len hp 3 rfl slty64)) ?_
  intro a hE
  refine q_val (wk0 rfl) rfl rfl hE (v := (.int .i64 c0)) (ex_asn rfl hE rfl) ?_
  intro a hE
  refine q_val (wk0 rfl) rfl rfl hE (v := (.int .i64 (c1.labels.length : Int))) (ex_asn rfl hE rfl) ?_
  intro a hE
  refine q_nil fun w hp => ?_
  have hp : Hp Z ρ (_ :: _ :: _ :: _ :: _ :: _ :: _ :: L) w := hp
  refine k_seq ?_
  refine k_region ?_
  refine s_val (wk0 rfl) rfl rfl hE hp (v := (.int .i64 c0)) (ex_load rfl hE rfl (fun w hw => run_ld1 varty3 (Hp.c 1 rfl 0 rfl w hw))) ?_
  intro a hE
  obtain ⟨x1, ex1, hm⟩ := bnd hm
  refine s_val (wk0 rfl) rfl rfl hE hp (v := (.int .i64 x1)) (ex_add rfl hE rfl rfl (inK_some ex1)) ?_
  intro a hE
  refine s_store (wk0 rfl) rfl hE hp rfl rfl rfl 1 rfl varty3.size_ rfl (allOne_mem ⟨rfl, trivial⟩) [(.int .i64 x1)] rfl ?_
  intro w hp
  have hp : Hp Z ρ (_ :: Pt bc0 (.cells #[(.int .i64 x1)] 3 (0, 0)) :: _ :: _ :: _ :: _ :: _ :: L) w := hp
  refine s_nil ?_
  refine k_seq ?_
  refine k_seq ?_
  refine k_region ?_
  refine s_val (wk0 rfl) rfl rfl hE hp (v := (.pointer (some ⟨b1, 4, none⟩))) (ex_field rfl hE rfl (fldty24_4 _ _)) ?_
  intro a hE
  refine s_val (wk0 rfl) rfl rfl hE hp (v := vp0_kids) (ex_load rfl hE rfl (fun w hw => run_ld1 varty22 (Hp.c 0 rfl 4 rfl w hw))) ?_
  intro a hE
  refine s_val (wk0 rfl) rfl rfl hE hp (v := (.int .i64 (p0.kids.length : Int))) (ex_len rfl hE rfl (RoSl.len hp0_kids slty22)) ?_
  intro a hE
  refine s_val (wk0 rfl) rfl rfl hE hp (v := (.int .i64 0)) (ex_move rfl hE rfl) ?_
  intro a hE
  refine s_nil ?_
  obtain ⟨b2, hb1, hm⟩ := bnd hm
  refine k_block (fun a w => ∃ (w3 : Value) (w4 : Value) (w5 : Value), Env 48 [(2, (.pointer (some ⟨bc1, 0, none⟩))), (4, (.pointer (some ⟨b1, 0, none⟩))), (5, (.int .i64 c0)), (6, (.int .i64 (c1.labels.length : Int)))] a ∧ Hp Z ρ (Pt b1 (.cells #[(.int .i64 p0.kind), (.string p0.text), (.int .i64 p0.at_), (.int .i64 p0.fin), vp0_kids] 24 (0, 0)) :: Pt bc0 (.cells #[(.int .i64 b2.1)] 3 (0, 0)) :: Pt bc1 (.cells #[w3, w4, w5] 66 (0, 0)) :: OwnSl 70 w3 b2.2.1 :: OwnSl 3 w4 b2.2.2.1 :: OwnSl 3 w5 b2.2.2.2 :: Pt bc2 (.cells #[(.func (.func 43) #[] #[(.pointer (some ⟨bc0, 0, none⟩)), (.pointer (some ⟨bc1, 0, none⟩)), (.pointer (some ⟨bc2, 0, none⟩))])] 80 (0, 0)) :: L) w) ?_ ?_
  · refine k_loop hb1 (fun s a w => ∃ (w3 : Value) (w4 : Value) (w5 : Value), Env 48 [(2, (.pointer (some ⟨bc1, 0, none⟩))), (3, (.pointer (some ⟨bc2, 0, none⟩))), (4, (.pointer (some ⟨b1, 0, none⟩))), (5, (.int .i64 c0)), (6, (.int .i64 (c1.labels.length : Int))), (16, vp0_kids), (17, (.int .i64 (p0.kids.length : Int))), (18, (.int .i64 s.1))] a ∧ Hp Z ρ (Pt b1 (.cells #[(.int .i64 p0.kind), (.string p0.text), (.int .i64 p0.at_), (.int .i64 p0.fin), vp0_kids] 24 (0, 0)) :: Pt bc0 (.cells #[(.int .i64 s.2.1)] 3 (0, 0)) :: Pt bc1 (.cells #[w3, w4, w5] 66 (0, 0)) :: OwnSl 70 w3 s.2.2.1 :: OwnSl 3 w4 s.2.2.2.1 :: OwnSl 3 w5 s.2.2.2.2 :: Pt bc2 (.cells #[(.func (.func 43) #[] #[(.pointer (some ⟨bc0, 0, none⟩)), (.pointer (some ⟨bc1, 0, none⟩)), (.pointer (some ⟨bc2, 0, none⟩))])] 80 (0, 0)) :: L) w) ?_ ?_
    · exact ⟨_, _, _, hE.cut ⟨rfl, rfl, rfl, rfl, rfl, rfl, rfl, rfl, trivial⟩, hp⟩
    · rintro ⟨lp1_0, lp1_1, lp1_2, lp1_3, lp1_4⟩ st a w ⟨w3, w4, w5, hE, hp⟩ hl1
      have hE : Env 48 [(2, (.pointer (some ⟨bc1, 0, none⟩))), (3, (.pointer (some ⟨bc2, 0, none⟩))), (4, (.pointer (some ⟨b1, 0, none⟩))), (5, (.int .i64 c0)), (6, (.int .i64 (c1.labels.length : Int))), (16, vp0_kids), (17, (.int .i64 (p0.kids.length : Int))), (18, (.int .i64 lp1_0))] a := hE
      have hp : Hp Z ρ (_ :: Pt bc0 (.cells #[(.int .i64 lp1_1)] 3 (0, 0)) :: Pt bc1 (.cells #[w3, w4, w5] 66 (0, 0)) :: OwnSl 70 w3 lp1_2 :: OwnSl 3 w4 lp1_3 :: OwnSl 3 w5 lp1_4 :: _ :: L) w := hp
      replace hl1 : m_distance_flatten_1_body_lp1 p0 self lp1_0 lp1_1 lp1_2 lp1_3 lp1_4 = some st := hl1
      unfold m_distance_flatten_1_body_lp1 at hl1
      refine k_seq ?_
      refine k_region ?_
      refine s_val (wk0 rfl) rfl rfl hE hp (v := (.bool (decide (lp1_0 < (p0.kids.length : Int))))) (ex_lss rfl hE rfl rfl) ?_
      intro a hE
      refine s_nil ?_
      refine k_seq ?_
      refine k_if hE rfl (fun hb2 => ?_) (fun hb2 => ?_)
      · replace hl1 := (it hb2).symm.trans hl1
        refine k_skip ?_
        refine k_seq ?_
        refine k_plain ?_
        refine k_seq ?_
        refine k_region ?_
        obtain ⟨x2, ex2, hl1⟩ := bnd hl1
        obtain ⟨b3, b3o, b3c, b3r, b3k, b3f⟩ := RoSl.at hp0_kids slty22 ex2
        obtain ⟨vb3_kids, rfl, hb3_kids⟩ := NodeAt.opens b3k
        have b3f : AtP ρ b3 b3o [(.int .i64 x2.kind), (.string x2.text), (.int .i64 x2.at_), (.int .i64 x2.fin), vb3_kids] := b3f
        refine s_val (wk0 rfl) rfl rfl hE hp (v := (.pointer (some ⟨b3, b3o, none⟩))) (ex_index rfl hE rfl rfl b3r) ?_
        intro a hE
        refine s_val (wk0 rfl) rfl rfl hE hp (v := (.agg #[(.int .i64 x2.kind), (.string x2.text), (.int .i64 x2.at_), (.int .i64 x2.fin), vb3_kids])) (ex_load rfl hE rfl (fun w hw => run_ldN (cs := [(.int .i64 x2.kind), (.string x2.text), (.int .i64 x2.at_), (.int .i64 x2.fin), vb3_kids]) varty24 (fun j u hj => cell_of hw.le (b3f j u hj)))) ?_
        intro a hE
        refine s_new (wk0 rfl) rfl rfl hE hp rfl [(.int .i64 0), (.string ByteArray.empty), (.int .i64 0), (.int .i64 0), (.slice none 0 0)] (fun w => by simp [Instr.alloc, go_sem] <;> rfl) ?_
        intro a w b4 hE hp
        have hp : Hp Z ρ (Pt b4 (.cells #[(.int .i64 0), (.string ByteArray.empty), (.int .i64 0), (.int .i64 0), (.slice none 0 0)] 24 (0, 0)) :: _ :: _ :: _ :: _ :: _ :: _ :: _ :: L) w := hp
        refine s_store (wk0 rfl) rfl hE hp rfl rfl rfl 0 rfl varty24.size_ rfl (allOne_mem ⟨rfl, rfl, rfl, rfl, (RoSl.one hb3_kids), trivial⟩) [(.int .i64 x2.kind), (.string x2.text), (.int .i64 x2.at_), (.int .i64 x2.fin), vb3_kids] rfl ?_
        intro w hp
        have hp : Hp Z ρ (Pt b4 (.cells #[(.int .i64 x2.kind), (.string x2.text), (.int .i64 x2.at_), (.int .i64 x2.fin), vb3_kids] 24 (0, 0)) :: _ :: _ :: _ :: _ :: _ :: _ :: _ :: L) w := hp
        refine s_nil ?_
        have hE := hE.cut (E' := [(2, (.pointer (some ⟨bc1, 0, none⟩))), (3, (.pointer (some ⟨bc2, 0, none⟩))), (4, (.pointer (some ⟨b1, 0, none⟩))), (5, (.int .i64 c0)), (6, (.int .i64 (c1.labels.length : Int))), (8, (.pointer (some ⟨b4, 0, none⟩))), (16, vp0_kids), (17, (.int .i64 (p0.kids.length : Int))), (18, (.int .i64 lp1_0))]) ⟨rfl, rfl, rfl, rfl, rfl, rfl, rfl, rfl, rfl, trivial⟩
        refine k_region ?_
        refine s_val (wk0 rfl) rfl rfl hE hp (v := (.func (.func 43) #[] #[(.pointer (some ⟨bc0, 0, none⟩)), (.pointer (some ⟨bc1, 0, none⟩)), (.pointer (some ⟨bc2, 0, none⟩))])) (ex_load rfl hE rfl (fun w hw => run_ld1 varty80 (Hp.c 7 rfl 0 rfl w hw))) ?_
        intro a hE
        refine s_val (wk0 rfl) rfl rfl hE hp (v := (.agg #[(.int .i64 x2.kind), (.string x2.text), (.int .i64 x2.at_), (.int .i64 x2.fin), vb3_kids])) (ex_load rfl hE rfl (fun w hw => run_ldN (cs := [(.int .i64 x2.kind), (.string x2.text), (.int .i64 x2.at_), (.int .i64 x2.fin), vb3_kids]) varty24 (Hp.cN 0 rfl 0 _ (sub_all rfl) w hw))) ?_
        intro a hE
        obtain ⟨x3, ex3, hl1⟩ := bnd hl1
        refine s_callv (wk0 rfl) rfl rfl hE rfl rfl [(.agg #[(.int .i64 x2.kind), (.string x2.text), (.int .i64 x2.at_), (.int .i64 x2.fin), vb3_kids])] ⟨rfl, trivial⟩ ent43 (hself x2 vb3_kids hb3_kids bc0 lp1_1 bc1 (DFlat.mk lp1_2 lp1_3 lp1_4) w3 w4 w5 bc2 ((((((hp.get 7 rfl).get 7 rfl).get 7 rfl).get 7 rfl).get 7 rfl).get 7 rfl) x3 ex3) Ret.ret ?_
        intro v a w hR hE
        obtain ⟨vz2_labels, vz2_left, vz2_numbers, rfl, hp⟩ := Ret.of hR
        have hp : Hp Z ρ (Pt bc0 (.cells #[(.int .i64 x3.1)] 3 (0, 0)) :: Pt bc1 (.cells #[vz2_labels, vz2_left, vz2_numbers] 66 (0, 0)) :: OwnSl 70 vz2_labels x3.2.labels :: OwnSl 3 vz2_left x3.2.left :: OwnSl 3 vz2_numbers x3.2.numbers :: _ :: _ :: _ :: L) w := hp
        refine s_nil ?_
        refine k_region ?_
        obtain ⟨x4, ex4, hl1⟩ := bnd hl1
        refine s_val (wk0 rfl) rfl rfl hE hp (v := (.int .i64 x4)) (ex_add rfl hE rfl rfl (inK_some ex4)) ?_
        intro a hE
        refine s_val (wk0 rfl) rfl rfl hE hp (v := (.int .i64 x4)) (ex_move rfl hE rfl) ?_
        intro a hE
        refine s_nil ?_
        exact ⟨_, (Option.some.inj hl1).symm, _, _, _, hE.cut ⟨rfl, rfl, rfl, rfl, rfl, rfl, rfl, rfl, trivial⟩, (((((((((hp.get 5 rfl).get 5 rfl).get 5 rfl).get 5 rfl).get 5 rfl).get 5 rfl).get 7 rfl).get 7 rfl).drop)⟩
      · replace hl1 := (ie hb2).symm.trans hl1
        refine k_exit ?_
        refine ⟨_, (Option.some.inj hl1).symm, fun hbb => ?_⟩
        subst hbb
        exact ⟨_, _, _, hE.cut ⟨rfl, rfl, rfl, rfl, trivial⟩, hp⟩
  · rintro a w ⟨w3, w4, w5, hE, hp⟩
    obtain ⟨x5, ex5, hm⟩ := bnd hm
    obtain ⟨x6, ex6, hm⟩ := bnd hm
    obtain ⟨x7, ex7, hm⟩ := bnd hm
    have hp := hp.drew
    refine k_heldV ([([], At0 Z ρ), ([], At1 Z ρ (Pt b1 (.cells #[(.int .i64 p0.kind), (.string p0.text), (.int .i64 p0.at_), (.int .i64 p0.fin), vp0_kids] 24 (0, 0)))), ([20, 22, 24], At1 Z ρ (Pt bc1 (.cells #[w3, w4, w5] 66 (0, 0))))] : Facts) (fun a w => ∃ y15 : Nat, ∃ y14 : Nat, ∃ y13 : Nat, ∃ y3 : Value, ∃ y4 : Value, ∃ y5 : Value, Env 48 [] a ∧ Hp Z ρ (Pt y15 (.cells #[(.int .i64 c0)] 3 (0, 0)) :: Pt y14 (.cells #[(.int .i64 (c1.labels.length : Int))] 3 (0, 0)) :: Pt y13 (.cells #[(.int .i64 p0.kind), (.string p0.text)] 70 (0, 0)) :: Pt b1 (.cells #[(.int .i64 p0.kind), (.string p0.text), (.int .i64 p0.at_), (.int .i64 p0.fin), vp0_kids] 24 (0, 0)) :: Pt bc0 (.cells #[(.int .i64 b2.1)] 3 (0, 0)) :: Pt bc1 (.cells #[y3, y4, y5] 66 (0, 0)) :: OwnSl 70 y3 x5 :: OwnSl 3 y4 x6 :: OwnSl 3 y5 x7 :: Pt bc2 (.cells #[(.func (.func 43) #[] #[(.pointer (some ⟨bc0, 0, none⟩)), (.pointer (some ⟨bc1, 0, none⟩)), (.pointer (some ⟨bc2, 0, none⟩))])] 80 (0, 0)) :: L) w) (by kernel_rfl) ⟨fun _ => ⟨_, hp⟩, fun _ => ⟨_, (hp.get 0 rfl)⟩, fun _ => ⟨_, (hp.get 2 rfl)⟩, trivial⟩ (fun hS => ?_) ?_
    ·
      generalize w.drew = w at hS hp ⊢
      refine v_take0 0 (wk0 rfl) rfl rfl rfl hE (by kernel_rfl) (by kernel_rfl) (by kernel_rfl) rfl (by kernel_rfl) hS (v := (.pointer (some ⟨bc1, 0, none⟩))) (fun _ => ex_field rfl hE rfl (fldty66_0 _ _)) ?_
      intro a hE hS
      refine v_take1 1 2 (wk0 rfl) rfl rfl rfl hE (by kernel_rfl) (by kernel_rfl) (by kernel_rfl) rfl (by kernel_rfl) hS (v := w3) (fun _ => ex_load rfl hE rfl (fun w hw => run_ld1 varty64 (Hp.c 0 rfl 0 rfl w hw))) ?_
      intro a hE hS
      refine v_take0 2 (wk0 rfl) rfl rfl rfl hE (by kernel_rfl) (by kernel_rfl) (by kernel_rfl) rfl (by kernel_rfl) hS (v := (.pointer (some ⟨b1, 0, none⟩))) (fun _ => ex_field rfl hE rfl (fldty24_0 _ _)) ?_
      intro a hE hS
      refine v_take1 3 1 (wk0 rfl) rfl rfl rfl hE (by kernel_rfl) (by kernel_rfl) (by kernel_rfl) rfl (by kernel_rfl) hS (v := (.int .i64 p0.kind)) (fun _ => ex_load rfl hE rfl (fun w hw => run_ld1 varty3 (Hp.c 0 rfl 0 rfl w hw))) ?_
      intro a hE hS
      refine v_take0 4 (wk0 rfl) rfl rfl rfl hE (by kernel_rfl) (by kernel_rfl) (by kernel_rfl) rfl (by kernel_rfl) hS (v := (.pointer (some ⟨b1, 1, none⟩))) (fun _ => ex_field rfl hE rfl (fldty24_1 _ _)) ?_
      intro a hE hS
      refine v_take1 5 1 (wk0 rfl) rfl rfl rfl hE (by kernel_rfl) (by kernel_rfl) (by kernel_rfl) rfl (by kernel_rfl) hS (v := (.string p0.text)) (fun _ => ex_load rfl hE rfl (fun w hw => run_ld1 varty9 (Hp.c 0 rfl 1 rfl w hw))) ?_
      intro a hE hS
      refine v_take0 6 (wk0 rfl) rfl rfl rfl hE (by kernel_rfl) (by kernel_rfl) (by kernel_rfl) rfl (by kernel_rfl) hS (v := (.agg #[(.int .i64 p0.kind), (.string p0.text)])) (fun _ => ex_bld rfl hE [(0, (.int .i64 p0.kind)), (1, (.string p0.text))] (by exact ⟨⟨rfl, rfl⟩, ⟨rfl, rfl⟩, trivial⟩) (fun w => by simp [Instr.build, Instr.fill, Value.cells, go_sem])) ?_
      intro a hE hS
      refine v_take0 9 (wk0 rfl) rfl rfl rfl hE (by kernel_rfl) (by kernel_rfl) (by kernel_rfl) rfl (by kernel_rfl) hS (v := (.pointer (some ⟨bc1, 1, none⟩))) (fun _ => ex_field rfl hE rfl (fldty66_1 _ _)) ?_
      intro a hE hS
      refine v_take1 10 2 (wk0 rfl) rfl rfl rfl hE (by kernel_rfl) (by kernel_rfl) (by kernel_rfl) rfl (by kernel_rfl) hS (v := w4) (fun _ => ex_load rfl hE rfl (fun w hw => run_ld1 varty34 (Hp.c 0 rfl 1 rfl w hw))) ?_
      intro a hE hS
      refine v_take0 11 (wk0 rfl) rfl rfl rfl hE (by kernel_rfl) (by kernel_rfl) (by kernel_rfl) rfl (by kernel_rfl) hS (v := (.int .i64 (c1.labels.length : Int))) (fun _ => ex_move rfl hE rfl) ?_
      intro a hE hS
      refine v_take0 14 (wk0 rfl) rfl rfl rfl hE (by kernel_rfl) (by kernel_rfl) (by kernel_rfl) rfl (by kernel_rfl) hS (v := (.pointer (some ⟨bc1, 2, none⟩))) (fun _ => ex_field rfl hE rfl (fldty66_2 _ _)) ?_
      intro a hE hS
      refine v_take1 15 2 (wk0 rfl) rfl rfl rfl hE (by kernel_rfl) (by kernel_rfl) (by kernel_rfl) rfl (by kernel_rfl) hS (v := w5) (fun _ => ex_load rfl hE rfl (fun w hw => run_ld1 varty34 (Hp.c 0 rfl 2 rfl w hw))) ?_
      intro a hE hS
      refine v_take0 16 (wk0 rfl) rfl rfl rfl hE (by kernel_rfl) (by kernel_rfl) (by kernel_rfl) rfl (by kernel_rfl) hS (v := (.int .i64 c0)) (fun _ => ex_move rfl hE rfl) ?_
      intro a hE hS
      refine v_all [7, 12, 17] (by kernel_rfl) rfl ?_
      refine List.forall_mem_cons.2 ⟨?_, List.forall_mem_cons.2 ⟨?_, List.forall_mem_cons.2 ⟨?_, fun _ h => absurd h (by simp)⟩⟩⟩
      ·
        refine h_op rfl ?_
        refine s_lit (wk0 rfl) rfl rfl hE hp rfl [(0, (.agg #[(.int .i64 p0.kind), (.string p0.text)]))] ⟨⟨rfl, rfl⟩, trivial⟩ [(.int .i64 p0.kind), (.string p0.text)] 70 (fun w => by simp [Instr.buildSlice, Instr.fill, Value.cells, go_sem]) ?_
        intro a w b8 hE hp
        have hp : Hp Z ρ (Pt b8 (.cells #[(.int .i64 p0.kind), (.string p0.text)] 70 (0, 0)) :: _ :: Pt bc0 (.cells #[(.int .i64 b2.1)] 3 (0, 0)) :: Pt bc1 (.cells #[w3, w4, w5] 66 (0, 0)) :: OwnSl 70 w3 b2.2.1 :: OwnSl 3 w4 b2.2.2.1 :: OwnSl 3 w5 b2.2.2.2 :: _ :: L) w := hp
        refine s_nil (and_with ⟨fun _ => ⟨_, hp⟩, fun _ => ⟨_, (hp.get 1 rfl)⟩, fun _ => ⟨_, (hp.get 3 rfl)⟩, trivial⟩ fun hS => ?_)
        refine v_all [8, 12, 17] (by kernel_rfl) rfl ?_
        refine List.forall_mem_cons.2 ⟨?_, List.forall_mem_cons.2 ⟨?_, List.forall_mem_cons.2 ⟨?_, fun _ h => absurd h (by simp)⟩⟩⟩
        ·
          refine h_op rfl ?_
          refine s_app (wk0 rfl) rfl rfl hE hp rfl slty64 rfl rfl 4 rfl rfl (l2 := [(Lbl.mk p0.kind p0.text)]) rfl (fun j u hj => by have := Hp.cN 0 rfl 0 _ (sub_all rfl) w hp j u hj; simpa using this) ex5 ?_
          intro v4 a w hE hp
          have hp : Hp Z ρ (_ :: _ :: _ :: _ :: OwnSl 70 v4 x5 :: _ :: _ :: _ :: L) w := hp
          refine s_nil (and_with ⟨fun _ => ⟨_, hp⟩, fun _ => ⟨_, (hp.get 1 rfl)⟩, fun _ => ⟨_, (hp.get 3 rfl)⟩, trivial⟩ fun hS => ?_)
          refine v_take0 19 (wk0 rfl) rfl rfl rfl hE (by kernel_rfl) (by kernel_rfl) (by kernel_rfl) rfl (by kernel_rfl) hS (v := (.pointer (some ⟨bc1, 0, none⟩))) (fun _ => ex_field rfl hE rfl (fldty66_0 _ _)) ?_
          intro a hE hS
          refine v_all [12, 17] (by kernel_rfl) rfl ?_
          refine List.forall_mem_cons.2 ⟨?_, List.forall_mem_cons.2 ⟨?_, fun _ h => absurd h (by simp)⟩⟩
          ·
            refine h_op rfl ?_
            refine s_lit (wk0 rfl) rfl rfl hE hp rfl [(0, (.int .i64 (c1.labels.length : Int)))] ⟨⟨rfl, rfl⟩, trivial⟩ [(.int .i64 (c1.labels.length : Int))] 3 (fun w => by simp [Instr.buildSlice, Instr.fill, Value.cells, go_sem]) ?_
            intro a w b9 hE hp
            have hp : Hp Z ρ (Pt b9 (.cells #[(.int .i64 (c1.labels.length : Int))] 3 (0, 0)) :: _ :: _ :: _ :: _ :: _ :: _ :: _ :: _ :: L) w := hp
            refine s_nil (and_with ⟨fun _ => ⟨_, hp⟩, fun _ => ⟨_, (hp.get 2 rfl)⟩, fun _ => ⟨_, (hp.get 4 rfl)⟩, trivial⟩ fun hS => ?_)
            refine v_all [13, 17] (by kernel_rfl) rfl ?_
            refine List.forall_mem_cons.2 ⟨?_, List.forall_mem_cons.2 ⟨?_, fun _ h => absurd h (by simp)⟩⟩
            ·
              refine h_op rfl ?_
              refine s_app (wk0 rfl) rfl rfl hE hp rfl slty34 rfl rfl 6 rfl rfl (l2 := [(c1.labels.length : Int)]) rfl (fun j u hj => by have := Hp.cN 0 rfl 0 _ (sub_all rfl) w hp j u hj; simpa using this) ex6 ?_
              intro v5 a w hE hp
              have hp : Hp Z ρ (_ :: _ :: _ :: _ :: _ :: _ :: OwnSl 3 v5 x6 :: _ :: _ :: L) w := hp
              refine s_nil (and_with ⟨fun _ => ⟨_, hp⟩, fun _ => ⟨_, (hp.get 2 rfl)⟩, fun _ => ⟨_, (hp.get 4 rfl)⟩, trivial⟩ fun hS => ?_)
              refine v_all [17] (by kernel_rfl) rfl ?_
              refine List.forall_mem_cons.2 ⟨?_, fun _ h => absurd h (by simp)⟩
              ·
                refine h_op rfl ?_
                refine s_lit (wk0 rfl) rfl rfl hE hp rfl [(0, (.int .i64 c0))] ⟨⟨rfl, rfl⟩, trivial⟩ [(.int .i64 c0)] 3 (fun w => by simp [Instr.buildSlice, Instr.fill, Value.cells, go_sem]) ?_
                intro a w b10 hE hp
                have hp : Hp Z ρ (Pt b10 (.cells #[(.int .i64 c0)] 3 (0, 0)) :: _ :: _ :: _ :: _ :: _ :: _ :: _ :: _ :: _ :: L) w := hp
                refine s_nil (and_with ⟨fun _ => ⟨_, hp⟩, fun _ => ⟨_, (hp.get 3 rfl)⟩, fun _ => ⟨_, (hp.get 5 rfl)⟩, trivial⟩ fun hS => ?_)
                refine v_all [18] (by kernel_rfl) rfl ?_
                refine List.forall_mem_cons.2 ⟨?_, fun _ h => absurd h (by simp)⟩
                ·
                  refine h_op rfl ?_
                  refine s_app (wk0 rfl) rfl rfl hE hp rfl slty34 rfl rfl 8 rfl rfl (l2 := [c0]) rfl (fun j u hj => by have := Hp.cN 0 rfl 0 _ (sub_all rfl) w hp j u hj; simpa using this) ex7 ?_
                  intro v6 a w hE hp
                  have hp : Hp Z ρ (_ :: _ :: _ :: _ :: _ :: _ :: _ :: _ :: OwnSl 3 v6 x7 :: _ :: L) w := hp
                  refine s_nil (and_with ⟨fun _ => ⟨_, hp⟩, fun _ => ⟨_, (hp.get 3 rfl)⟩, fun _ => ⟨_, (hp.get 5 rfl)⟩, trivial⟩ fun hS => ?_)
                  refine v_all [20] (by kernel_rfl) rfl ?_
                  refine List.forall_mem_cons.2 ⟨?_, fun _ h => absurd h (by simp)⟩
                  ·
                    refine h_op rfl ?_
                    refine s_store1 (wk0 rfl) rfl hE hp rfl rfl rfl 5 rfl varty64.size_ (OwnSl.cells hp 6 rfl) (OwnSl.one hp 6 rfl) rfl [v4, w4, w5] rfl ?_
                    intro w hp
                    have hp : Hp Z ρ (_ :: _ :: _ :: _ :: _ :: Pt bc1 (.cells #[v4, w4, w5] 66 (0, 0)) :: _ :: _ :: _ :: _ :: L) w := hp
                    refine s_nil (and_with ⟨fun _ => ⟨_, hp⟩, fun _ => ⟨_, (hp.get 3 rfl)⟩, dead (by kernel_rfl), trivial⟩ fun hS => ?_)
                    refine v_take0 21 (wk0 rfl) rfl rfl rfl hE (by kernel_rfl) (by kernel_rfl) (by kernel_rfl) rfl (by kernel_rfl) hS (v := (.pointer (some ⟨bc1, 1, none⟩))) (fun _ => ex_field rfl hE rfl (fldty66_1 _ _)) ?_
                    intro a hE hS
                    refine v_all [22] (by kernel_rfl) rfl ?_
                    refine List.forall_mem_cons.2 ⟨?_, fun _ h => absurd h (by simp)⟩
                    ·
                      refine h_op rfl ?_
                      refine s_store1 (wk0 rfl) rfl hE hp rfl rfl rfl 5 rfl varty34.size_ (OwnSl.cells hp 7 rfl) (OwnSl.one hp 7 rfl) rfl [v4, v5, w5] rfl ?_
                      intro w hp
                      have hp : Hp Z ρ (_ :: _ :: _ :: _ :: _ :: Pt bc1 (.cells #[v4, v5, w5] 66 (0, 0)) :: _ :: _ :: _ :: _ :: L) w := hp
                      refine s_nil (and_with ⟨fun _ => ⟨_, hp⟩, fun _ => ⟨_, (hp.get 3 rfl)⟩, dead (by kernel_rfl), trivial⟩ fun hS => ?_)
                      refine v_take0 23 (wk0 rfl) rfl rfl rfl hE (by kernel_rfl) (by kernel_rfl) (by kernel_rfl) rfl (by kernel_rfl) hS (v := (.pointer (some ⟨bc1, 2, none⟩))) (fun _ => ex_field rfl hE rfl (fldty66_2 _ _)) ?_
                      intro a hE hS
                      refine v_all [24] (by kernel_rfl) rfl ?_
                      refine List.forall_mem_cons.2 ⟨?_, fun _ h => absurd h (by simp)⟩
                      ·
                        refine h_op rfl ?_
                        refine s_store1 (wk0 rfl) rfl hE hp rfl rfl rfl 5 rfl varty34.size_ (OwnSl.cells hp 8 rfl) (OwnSl.one hp 8 rfl) rfl [v4, v5, v6] rfl ?_
                        intro w hp
                        have hp : Hp Z ρ (_ :: _ :: _ :: _ :: _ :: Pt bc1 (.cells #[v4, v5, v6] 66 (0, 0)) :: _ :: _ :: _ :: _ :: L) w := hp
                        refine s_nil (and_with ⟨fun _ => ⟨_, hp⟩, fun _ => ⟨_, (hp.get 3 rfl)⟩, dead (by kernel_rfl), trivial⟩ fun hS => ?_)
                        exact v_done (by kernel_rfl) ⟨_, _, _, _, _, _, hE.cut trivial, hp⟩
            ·
              refine h_op rfl ?_
              refine s_lit (wk0 rfl) rfl rfl hE hp rfl [(0, (.int .i64 c0))] ⟨⟨rfl, rfl⟩, trivial⟩ [(.int .i64 c0)] 3 (fun w => by simp [Instr.buildSlice, Instr.fill, Value.cells, go_sem]) ?_
              intro a w b11 hE hp
              have hp : Hp Z ρ (Pt b11 (.cells #[(.int .i64 c0)] 3 (0, 0)) :: _ :: _ :: _ :: _ :: _ :: _ :: _ :: _ :: _ :: L) w := hp
              refine s_nil (and_with ⟨fun _ => ⟨_, hp⟩, fun _ => ⟨_, (hp.get 3 rfl)⟩, fun _ => ⟨_, (hp.get 5 rfl)⟩, trivial⟩ fun hS => ?_)
              refine v_all [13] (by kernel_rfl) rfl ?_
              refine List.forall_mem_cons.2 ⟨?_, fun _ h => absurd h (by simp)⟩
              ·
                refine h_op rfl ?_
                refine s_app (wk0 rfl) rfl rfl hE hp rfl slty34 rfl rfl 7 rfl rfl (l2 := [(c1.labels.length : Int)]) rfl (fun j u hj => by have := Hp.cN 1 rfl 0 _ (sub_all rfl) w hp j u hj; simpa using this) ex6 ?_
                intro v7 a w hE hp
                have hp : Hp Z ρ (_ :: _ :: _ :: _ :: _ :: _ :: _ :: OwnSl 3 v7 x6 :: _ :: _ :: L) w := hp
                refine s_nil (and_with ⟨fun _ => ⟨_, hp⟩, fun _ => ⟨_, (hp.get 3 rfl)⟩, fun _ => ⟨_, (hp.get 5 rfl)⟩, trivial⟩ fun hS => ?_)
                refine v_all [18] (by kernel_rfl) rfl ?_
                refine List.forall_mem_cons.2 ⟨?_, fun _ h => absurd h (by simp)⟩
                ·
                  refine h_op rfl ?_
                  refine s_app (wk0 rfl) rfl rfl hE hp rfl slty34 rfl rfl 8 rfl rfl (l2 := [c0]) rfl (fun j u hj => by have := Hp.cN 0 rfl 0 _ (sub_all rfl) w hp j u hj; simpa using this) ex7 ?_
                  intro v8 a w hE hp
                  have hp : Hp Z ρ (_ :: _ :: _ :: _ :: _ :: _ :: _ :: _ :: OwnSl 3 v8 x7 :: _ :: L) w := hp
                  refine s_nil (and_with ⟨fun _ => ⟨_, hp⟩, fun _ => ⟨_, (hp.get 3 rfl)⟩, fun _ => ⟨_, (hp.get 5 rfl)⟩, trivial⟩ fun hS => ?_)
                  refine v_all [20] (by kernel_rfl) rfl ?_
                  refine List.forall_mem_cons.2 ⟨?_, fun _ h => absurd h (by simp)⟩
                  ·
                    refine h_op rfl ?_
                    refine s_store1 (wk0 rfl) rfl hE hp rfl rfl rfl 5 rfl varty64.size_ (OwnSl.cells hp 6 rfl) (OwnSl.one hp 6 rfl) rfl [v4, w4, w5] rfl ?_
                    intro w hp
                    have hp : Hp Z ρ (_ :: _ :: _ :: _ :: _ :: Pt bc1 (.cells #[v4, w4, w5] 66 (0, 0)) :: _ :: _ :: _ :: _ :: L) w := hp
                    refine s_nil (and_with ⟨fun _ => ⟨_, hp⟩, fun _ => ⟨_, (hp.get 3 rfl)⟩, dead (by kernel_rfl), trivial⟩ fun hS => ?_)
                    refine v_take0 21 (wk0 rfl) rfl rfl rfl hE (by kernel_rfl) (by kernel_rfl) (by kernel_rfl) rfl (by kernel_rfl) hS (v := (.pointer (some ⟨bc1, 1, none⟩))) (fun _ => ex_field rfl hE rfl (fldty66_1 _ _)) ?_
                    intro a hE hS
                    refine v_all [22] (by kernel_rfl) rfl ?_
                    refine List.forall_mem_cons.2 ⟨?_, fun _ h => absurd h (by simp)⟩
                    ·
                      refine h_op rfl ?_
                      refine s_store1 (wk0 rfl) rfl hE hp rfl rfl rfl 5 rfl varty34.size_ (OwnSl.cells hp 7 rfl) (OwnSl.one hp 7 rfl) rfl [v4, v7, w5] rfl ?_
                      intro w hp
                      have hp : Hp Z ρ (_ :: _ :: _ :: _ :: _ :: Pt bc1 (.cells #[v4, v7, w5] 66 (0, 0)) :: _ :: _ :: _ :: _ :: L) w := hp
                      refine s_nil (and_with ⟨fun _ => ⟨_, hp⟩, fun _ => ⟨_, (hp.get 3 rfl)⟩, dead (by kernel_rfl), trivial⟩ fun hS => ?_)
                      refine v_take0 23 (wk0 rfl) rfl rfl rfl hE (by kernel_rfl) (by kernel_rfl) (by kernel_rfl) rfl (by kernel_rfl) hS (v := (.pointer (some ⟨bc1, 2, none⟩))) (fun _ => ex_field rfl hE rfl (fldty66_2 _ _)) ?_
                      intro a hE hS
                      refine v_all [24] (by kernel_rfl) rfl ?_
                      refine List.forall_mem_cons.2 ⟨?_, fun _ h => absurd h (by simp)⟩
                      ·
                        refine h_op rfl ?_
                        refine s_store1 (wk0 rfl) rfl hE hp rfl rfl rfl 5 rfl varty34.size_ (OwnSl.cells hp 8 rfl) (OwnSl.one hp 8 rfl) rfl [v4, v7, v8] rfl ?_
                        intro w hp
                        have hp : Hp Z ρ (_ :: _ :: _ :: _ :: _ :: Pt bc1 (.cells #[v4, v7, v8] 66 (0, 0)) :: _ :: _ :: _ :: _ :: L) w := hp
                        refine s_nil (and_with ⟨fun _ => ⟨_, hp⟩, fun _ => ⟨_, (hp.get 3 rfl)⟩, dead (by kernel_rfl), trivial⟩ fun hS => ?_)
                        exact v_done (by kernel_rfl) ⟨_, _, _, _, _, _, hE.cut trivial, hp⟩
          ·
            refine h_op rfl ?_
            refine s_lit (wk0 rfl) rfl rfl hE hp rfl [(0, (.int .i64 c0))] ⟨⟨rfl, rfl⟩, trivial⟩ [(.int .i64 c0)] 3 (fun w => by simp [Instr.buildSlice, Instr.fill, Value.cells, go_sem]) ?_
            intro a w b12 hE hp
            have hp : Hp Z ρ (Pt b12 (.cells #[(.int .i64 c0)] 3 (0, 0)) :: _ :: _ :: _ :: _ :: _ :: _ :: _ :: _ :: L) w := hp
            refine s_nil (and_with ⟨fun _ => ⟨_, hp⟩, fun _ => ⟨_, (hp.get 2 rfl)⟩, fun _ => ⟨_, (hp.get 4 rfl)⟩, trivial⟩ fun hS => ?_)
            refine v_all [12] (by kernel_rfl) rfl ?_
            refine List.forall_mem_cons.2 ⟨?_, fun _ h => absurd h (by simp)⟩
            ·
              refine h_op rfl ?_
              refine s_lit (wk0 rfl) rfl rfl hE hp rfl [(0, (.int .i64 (c1.labels.length : Int)))] ⟨⟨rfl, rfl⟩, trivial⟩ [(.int .i64 (c1.labels.length : Int))] 3 (fun w => by simp [Instr.buildSlice, Instr.fill, Value.cells, go_sem]) ?_
              intro a w b13 hE hp
              have hp : Hp Z ρ (Pt b13 (.cells #[(.int .i64 (c1.labels.length : Int))] 3 (0, 0)) :: _ :: _ :: _ :: _ :: _ :: _ :: _ :: _ :: _ :: L) w := hp
              refine s_nil (and_with ⟨fun _ => ⟨_, hp⟩, fun _ => ⟨_, (hp.get 3 rfl)⟩, fun _ => ⟨_, (hp.get 5 rfl)⟩, trivial⟩ fun hS => ?_)
              refine v_all [13] (by kernel_rfl) rfl ?_
              refine List.forall_mem_cons.2 ⟨?_, fun _ h => absurd h (by simp)⟩
              ·
                refine h_op rfl ?_
                refine s_app (wk0 rfl) rfl rfl hE hp rfl slty34 rfl rfl 7 rfl rfl (l2 := [(c1.labels.length : Int)]) rfl (fun j u hj => by have := Hp.cN 0 rfl 0 _ (sub_all rfl) w hp j u hj; simpa using this) ex6 ?_
                intro v9 a w hE hp
                have hp : Hp Z ρ (_ :: _ :: _ :: _ :: _ :: _ :: _ :: OwnSl 3 v9 x6 :: _ :: _ :: L) w := hp
                refine s_nil (and_with ⟨fun _ => ⟨_, hp⟩, fun _ => ⟨_, (hp.get 3 rfl)⟩, fun _ => ⟨_, (hp.get 5 rfl)⟩, trivial⟩ fun hS => ?_)
                refine v_all [18] (by kernel_rfl) rfl ?_
                refine List.forall_mem_cons.2 ⟨?_, fun _ h => absurd h (by simp)⟩
                ·
                  refine h_op rfl ?_
                  refine s_app (wk0 rfl) rfl rfl hE hp rfl slty34 rfl rfl 8 rfl rfl (l2 := [c0]) rfl (fun j u hj => by have := Hp.cN 1 rfl 0 _ (sub_all rfl) w hp j u hj; simpa using this) ex7 ?_
                  intro v10 a w hE hp
                  have hp : Hp Z ρ (_ :: _ :: _ :: _ :: _ :: _ :: _ :: _ :: OwnSl 3 v10 x7 :: _ :: L) w := hp
                  refine s_nil (and_with ⟨fun _ => ⟨_, hp⟩, fun _ => ⟨_, (hp.get 3 rfl)⟩, fun _ => ⟨_, (hp.get 5 rfl)⟩, trivial⟩ fun hS => ?_)
                  refine v_all [20] (by kernel_rfl) rfl ?_
                  refine List.forall_mem_cons.2 ⟨?_, fun _ h => absurd h (by simp)⟩
                  ·
                    refine h_op rfl ?_
                    refine s_store1 (wk0 rfl) rfl hE hp rfl rfl rfl 5 rfl varty64.size_ (OwnSl.cells hp 6 rfl) (OwnSl.one hp 6 rfl) rfl [v4, w4, w5] rfl ?_
                    intro w hp
                    have hp : Hp Z ρ (_ :: _ :: _ :: _ :: _ :: Pt bc1 (.cells #[v4, w4, w5] 66 (0, 0)) :: _ :: _ :: _ :: _ :: L) w := hp
                    refine s_nil (and_with ⟨fun _ => ⟨_, hp⟩, fun _ => ⟨_, (hp.get 3 rfl)⟩, dead (by kernel_rfl), trivial⟩ fun hS => ?_)
                    refine v_take0 21 (wk0 rfl) rfl rfl rfl hE (by kernel_rfl) (by kernel_rfl) (by kernel_rfl) rfl (by kernel_rfl) hS (v := (.pointer (some ⟨bc1, 1, none⟩))) (fun _ => ex_field rfl hE rfl (fldty66_1 _ _)) ?_
                    intro a hE hS
                    refine v_all [22] (by kernel_rfl) rfl ?_
                    refine List.forall_mem_cons.2 ⟨?_, fun _ h => absurd h (by simp)⟩
                    ·
                      refine h_op rfl ?_
                      refine s_store1 (wk0 rfl) rfl hE hp rfl rfl rfl 5 rfl varty34.size_ (OwnSl.cells hp 7 rfl) (OwnSl.one hp 7 rfl) rfl [v4, v9, w5] rfl ?_
                      intro w hp
                      have hp : Hp Z ρ (_ :: _ :: _ :: _ :: _ :: Pt bc1 (.cells #[v4, v9, w5] 66 (0, 0)) :: _ :: _ :: _ :: _ :: L) w := hp
                      refine s_nil (and_with ⟨fun _ => ⟨_, hp⟩, fun _ => ⟨_, (hp.get 3 rfl)⟩, dead (by kernel_rfl), trivial⟩ fun hS => ?_)
                      refine v_take0 23 (wk0 rfl) rfl rfl rfl hE (by kernel_rfl) (by kernel_rfl) (by kernel_rfl) rfl (by kernel_rfl) hS (v := (.pointer (some ⟨bc1, 2, none⟩))) (fun _ => ex_field rfl hE rfl (fldty66_2 _ _)) ?_
                      intro a hE hS
                      refine v_all [24] (by kernel_rfl) rfl ?_
                      refine List.forall_mem_cons.2 ⟨?_, fun _ h => absurd h (by simp)⟩
                      ·
                        refine h_op rfl ?_
                        refine s_store1 (wk0 rfl) rfl hE hp rfl rfl rfl 5 rfl varty34.size_ (OwnSl.cells hp 8 rfl) (OwnSl.one hp 8 rfl) rfl [v4, v9, v10] rfl ?_
                        intro w hp
                        have hp : Hp Z ρ (_ :: _ :: _ :: _ :: _ :: Pt bc1 (.cells #[v4, v9, v10] 66 (0, 0)) :: _ :: _ :: _ :: _ :: L) w := hp
                        refine s_nil (and_with ⟨fun _ => ⟨_, hp⟩, fun _ => ⟨_, (hp.get 3 rfl)⟩, dead (by kernel_rfl), trivial⟩ fun hS => ?_)
                        exact v_done (by kernel_rfl) ⟨_, _, _, _, _, _, hE.cut trivial, ((((((((((hp.get 9 rfl).get 9 rfl).get 9 rfl).get 9 rfl).get 9 rfl).get 9 rfl).get 9 rfl).get 9 rfl).get 8 rfl).get 9 rfl)⟩
        ·
          refine h_op rfl ?_
          refine s_lit (wk0 rfl) rfl rfl hE hp rfl [(0, (.int .i64 (c1.labels.length : Int)))] ⟨⟨rfl, rfl⟩, trivial⟩ [(.int .i64 (c1.labels.length : Int))] 3 (fun w => by simp [Instr.buildSlice, Instr.fill, Value.cells, go_sem]) ?_
          intro a w b14 hE hp
          have hp : Hp Z ρ (Pt b14 (.cells #[(.int .i64 (c1.labels.length : Int))] 3 (0, 0)) :: _ :: _ :: _ :: _ :: _ :: _ :: _ :: _ :: L) w := hp
          refine s_nil (and_with ⟨fun _ => ⟨_, hp⟩, fun _ => ⟨_, (hp.get 2 rfl)⟩, fun _ => ⟨_, (hp.get 4 rfl)⟩, trivial⟩ fun hS => ?_)
          refine v_all [8, 17] (by kernel_rfl) rfl ?_
          refine List.forall_mem_cons.2 ⟨?_, List.forall_mem_cons.2 ⟨?_, fun _ h => absurd h (by simp)⟩⟩
          ·
            refine h_op rfl ?_
            refine s_app (wk0 rfl) rfl rfl hE hp rfl slty64 rfl rfl 5 rfl rfl (l2 := [(Lbl.mk p0.kind p0.text)]) rfl (fun j u hj => by have := Hp.cN 1 rfl 0 _ (sub_all rfl) w hp j u hj; simpa using this) ex5 ?_
            intro v11 a w hE hp
            have hp : Hp Z ρ (_ :: _ :: _ :: _ :: _ :: OwnSl 70 v11 x5 :: _ :: _ :: _ :: L) w := hp
            refine s_nil (and_with ⟨fun _ => ⟨_, hp⟩, fun _ => ⟨_, (hp.get 2 rfl)⟩, fun _ => ⟨_, (hp.get 4 rfl)⟩, trivial⟩ fun hS => ?_)
            refine v_take0 19 (wk0 rfl) rfl rfl rfl hE (by kernel_rfl) (by kernel_rfl) (by kernel_rfl) rfl (by kernel_rfl) hS (v := (.pointer (some ⟨bc1, 0, none⟩))) (fun _ => ex_field rfl hE rfl (fldty66_0 _ _)) ?_
            intro a hE hS
            refine v_all [13, 17] (by kernel_rfl) rfl ?_
            refine List.forall_mem_cons.2 ⟨?_, List.forall_mem_cons.2 ⟨?_, fun _ h => absurd h (by simp)⟩⟩
            ·
              refine h_op rfl ?_
              refine s_app (wk0 rfl) rfl rfl hE hp rfl slty34 rfl rfl 6 rfl rfl (l2 := [(c1.labels.length : Int)]) rfl (fun j u hj => by have := Hp.cN 0 rfl 0 _ (sub_all rfl) w hp j u hj; simpa using this) ex6 ?_
              intro v12 a w hE hp
              have hp : Hp Z ρ (_ :: _ :: _ :: _ :: _ :: _ :: OwnSl 3 v12 x6 :: _ :: _ :: L) w := hp
              refine s_nil (and_with ⟨fun _ => ⟨_, hp⟩, fun _ => ⟨_, (hp.get 2 rfl)⟩, fun _ => ⟨_, (hp.get 4 rfl)⟩, trivial⟩ fun hS => ?_)
              refine v_all [17] (by kernel_rfl) rfl ?_
              refine List.forall_mem_cons.2 ⟨?_, fun _ h => absurd h (by simp)⟩
              ·
                refine h_op rfl ?_
                refine s_lit (wk0 rfl) rfl rfl hE hp rfl [(0, (.int .i64 c0))] ⟨⟨rfl, rfl⟩, trivial⟩ [(.int .i64 c0)] 3 (fun w => by simp [Instr.buildSlice, Instr.fill, Value.cells, go_sem]) ?_
                intro a w b15 hE hp
                have hp : Hp Z ρ (Pt b15 (.cells #[(.int .i64 c0)] 3 (0, 0)) :: _ :: _ :: _ :: _ :: _ :: _ :: _ :: _ :: _ :: L) w := hp
                refine s_nil (and_with ⟨fun _ => ⟨_, hp⟩, fun _ => ⟨_, (hp.get 3 rfl)⟩, fun _ => ⟨_, (hp.get 5 rfl)⟩, trivial⟩ fun hS => ?_)
                refine v_all [18] (by kernel_rfl) rfl ?_
                refine List.forall_mem_cons.2 ⟨?_, fun _ h => absurd h (by simp)⟩
                ·
                  refine h_op rfl ?_
                  refine s_app (wk0 rfl) rfl rfl hE hp rfl slty34 rfl rfl 8 rfl rfl (l2 := [c0]) rfl (fun j u hj => by have := Hp.cN 0 rfl 0 _ (sub_all rfl) w hp j u hj; simpa using this) ex7 ?_
                  intro v13 a w hE hp
                  have hp : Hp Z ρ (_ :: _ :: _ :: _ :: _ :: _ :: _ :: _ :: OwnSl 3 v13 x7 :: _ :: L) w := hp
                  refine s_nil (and_with ⟨fun _ => ⟨_, hp⟩, fun _ => ⟨_, (hp.get 3 rfl)⟩, fun _ => ⟨_, (hp.get 5 rfl)⟩, trivial⟩ fun hS => ?_)
                  refine v_all [20] (by kernel_rfl) rfl ?_
                  refine List.forall_mem_cons.2 ⟨?_, fun _ h => absurd h (by simp)⟩
                  ·
                    refine h_op rfl ?_
                    refine s_store1 (wk0 rfl) rfl hE hp rfl rfl rfl 5 rfl varty64.size_ (OwnSl.cells hp 6 rfl) (OwnSl.one hp 6 rfl) rfl [v11, w4, w5] rfl ?_
                    intro w hp
                    have hp : Hp Z ρ (_ :: _ :: _ :: _ :: _ :: Pt bc1 (.cells #[v11, w4, w5] 66 (0, 0)) :: _ :: _ :: _ :: _ :: L) w := hp
                    refine s_nil (and_with ⟨fun _ => ⟨_, hp⟩, fun _ => ⟨_, (hp.get 3 rfl)⟩, dead (by kernel_rfl), trivial⟩ fun hS => ?_)
                    refine v_take0 21 (wk0 rfl) rfl rfl rfl hE (by kernel_rfl) (by kernel_rfl) (by kernel_rfl) rfl (by kernel_rfl) hS (v := (.pointer (some ⟨bc1, 1, none⟩))) (fun _ => ex_field rfl hE rfl (fldty66_1 _ _)) ?_
                    intro a hE hS
                    refine v_all [22] (by kernel_rfl) rfl ?_
                    refine List.forall_mem_cons.2 ⟨?_, fun _ h => absurd h (by simp)⟩
                    ·
                      refine h_op rfl ?_
                      refine s_store1 (wk0 rfl) rfl hE hp rfl rfl rfl 5 rfl varty34.size_ (OwnSl.cells hp 7 rfl) (OwnSl.one hp 7 rfl) rfl [v11, v12, w5] rfl ?_
                      intro w hp
                      have hp : Hp Z ρ (_ :: _ :: _ :: _ :: _ :: Pt bc1 (.cells #[v11, v12, w5] 66 (0, 0)) :: _ :: _ :: _ :: _ :: L) w := hp
                      refine s_nil (and_with ⟨fun _ => ⟨_, hp⟩, fun _ => ⟨_, (hp.get 3 rfl)⟩, dead (by kernel_rfl), trivial⟩ fun hS => ?_)
                      refine v_take0 23 (wk0 rfl) rfl rfl rfl hE (by kernel_rfl) (by kernel_rfl) (by kernel_rfl) rfl (by kernel_rfl) hS (v := (.pointer (some ⟨bc1, 2, none⟩))) (fun _ => ex_field rfl hE rfl (fldty66_2 _ _)) ?_
                      intro a hE hS
                      refine v_all [24] (by kernel_rfl) rfl ?_
                      refine List.forall_mem_cons.2 ⟨?_, fun _ h => absurd h (by simp)⟩
                      ·
                        refine h_op rfl ?_
                        refine s_store1 (wk0 rfl) rfl hE hp rfl rfl rfl 5 rfl varty34.size_ (OwnSl.cells hp 8 rfl) (OwnSl.one hp 8 rfl) rfl [v11, v12, v13] rfl ?_
                        intro w hp
                        have hp : Hp Z ρ (_ :: _ :: _ :: _ :: _ :: Pt bc1 (.cells #[v11, v12, v13] 66 (0, 0)) :: _ :: _ :: _ :: _ :: L) w := hp
                        refine s_nil (and_with ⟨fun _ => ⟨_, hp⟩, fun _ => ⟨_, (hp.get 3 rfl)⟩, dead (by kernel_rfl), trivial⟩ fun hS => ?_)
                        exact v_done (by kernel_rfl) ⟨_, _, _, _, _, _, hE.cut trivial, hp⟩
            ·
              refine h_op rfl ?_
              refine s_lit (wk0 rfl) rfl rfl hE hp rfl [(0, (.int .i64 c0))] ⟨⟨rfl, rfl⟩, trivial⟩ [(.int .i64 c0)] 3 (fun w => by simp [Instr.buildSlice, Instr.fill, Value.cells, go_sem]) ?_
              intro a w b16 hE hp
              have hp : Hp Z ρ (Pt b16 (.cells #[(.int .i64 c0)] 3 (0, 0)) :: _ :: _ :: _ :: _ :: _ :: _ :: _ :: _ :: _ :: L) w := hp
              refine s_nil (and_with ⟨fun _ => ⟨_, hp⟩, fun _ => ⟨_, (hp.get 3 rfl)⟩, fun _ => ⟨_, (hp.get 5 rfl)⟩, trivial⟩ fun hS => ?_)
              refine v_all [13] (by kernel_rfl) rfl ?_
              refine List.forall_mem_cons.2 ⟨?_, fun _ h => absurd h (by simp)⟩
              ·
                refine h_op rfl ?_
                refine s_app (wk0 rfl) rfl rfl hE hp rfl slty34 rfl rfl 7 rfl rfl (l2 := [(c1.labels.length : Int)]) rfl (fun j u hj => by have := Hp.cN 1 rfl 0 _ (sub_all rfl) w hp j u hj; simpa using this) ex6 ?_
                intro v14 a w hE hp
                have hp : Hp Z ρ (_ :: _ :: _ :: _ :: _ :: _ :: _ :: OwnSl 3 v14 x6 :: _ :: _ :: L) w := hp
                refine s_nil (and_with ⟨fun _ => ⟨_, hp⟩, fun _ => ⟨_, (hp.get 3 rfl)⟩, fun _ => ⟨_, (hp.get 5 rfl)⟩, trivial⟩ fun hS => ?_)
                refine v_all [18] (by kernel_rfl) rfl ?_
                refine List.forall_mem_cons.2 ⟨?_, fun _ h => absurd h (by simp)⟩
                ·
                  refine h_op rfl ?_
                  refine s_app (wk0 rfl) rfl rfl hE hp rfl slty34 rfl rfl 8 rfl rfl (l2 := [c0]) rfl (fun j u hj => by have := Hp.cN 0 rfl 0 _ (sub_all rfl) w hp j u hj; simpa using this) ex7 ?_
                  intro v15 a w hE hp
                  have hp : Hp Z ρ (_ :: _ :: _ :: _ :: _ :: _ :: _ :: _ :: OwnSl 3 v15 x7 :: _ :: L) w := hp
                  refine s_nil (and_with ⟨fun _ => ⟨_, hp⟩, fun _ => ⟨_, (hp.get 3 rfl)⟩, fun _ => ⟨_, (hp.get 5 rfl)⟩, trivial⟩ fun hS => ?_)
                  refine v_all [20] (by kernel_rfl) rfl ?_
                  refine List.forall_mem_cons.2 ⟨?_, fun _ h => absurd h (by simp)⟩
                  ·
                    refine h_op rfl ?_
                    refine s_store1 (wk0 rfl) rfl hE hp rfl rfl rfl 5 rfl varty64.size_ (OwnSl.cells hp 6 rfl) (OwnSl.one hp 6 rfl) rfl [v11, w4, w5] rfl ?_
                    intro w hp
                    have hp : Hp Z ρ (_ :: _ :: _ :: _ :: _ :: Pt bc1 (.cells #[v11, w4, w5] 66 (0, 0)) :: _ :: _ :: _ :: _ :: L) w := hp
                    refine s_nil (and_with ⟨fun _ => ⟨_, hp⟩, fun _ => ⟨_, (hp.get 3 rfl)⟩, dead (by kernel_rfl), trivial⟩ fun hS => ?_)
                    refine v_take0 21 (wk0 rfl) rfl rfl rfl hE (by kernel_rfl) (by kernel_rfl) (by kernel_rfl) rfl (by kernel_rfl) hS (v := (.pointer (some ⟨bc1, 1, none⟩))) (fun _ => ex_field rfl hE rfl (fldty66_1 _ _)) ?_
                    intro a hE hS
                    refine v_all [22] (by kernel_rfl) rfl ?_
                    refine List.forall_mem_cons.2 ⟨?_, fun _ h => absurd h (by simp)⟩
                    ·
                      refine h_op rfl ?_
                      refine s_store1 (wk0 rfl) rfl hE hp rfl rfl rfl 5 rfl varty34.size_ (OwnSl.cells hp 7 rfl) (OwnSl.one hp 7 rfl) rfl [v11, v14, w5] rfl ?_
                      intro w hp
                      have hp : Hp Z ρ (_ :: _ :: _ :: _ :: _ :: Pt bc1 (.cells #[v11, v14, w5] 66 (0, 0)) :: _ :: _ :: _ :: _ :: L) w := hp
                      refine s_nil (and_with ⟨fun _ => ⟨_, hp⟩, fun _ => ⟨_, (hp.get 3 rfl)⟩, dead (by kernel_rfl), trivial⟩ fun hS => ?_)
                      refine v_take0 23 (wk0 rfl) rfl rfl rfl hE (by kernel_rfl) (by kernel_rfl) (by kernel_rfl) rfl (by kernel_rfl) hS (v := (.pointer (some ⟨bc1, 2, none⟩))) (fun _ => ex_field rfl hE rfl (fldty66_2 _ _)) ?_
                      intro a hE hS
                      refine v_all [24] (by kernel_rfl) rfl ?_
                      refine List.forall_mem_cons.2 ⟨?_, fun _ h => absurd h (by simp)⟩
                      ·
                        refine h_op rfl ?_
                        refine s_store1 (wk0 rfl) rfl hE hp rfl rfl rfl 5 rfl varty34.size_ (OwnSl.cells hp 8 rfl) (OwnSl.one hp 8 rfl) rfl [v11, v14, v15] rfl ?_
                        intro w hp
                        have hp : Hp Z ρ (_ :: _ :: _ :: _ :: _ :: Pt bc1 (.cells #[v11, v14, v15] 66 (0, 0)) :: _ :: _ :: _ :: _ :: L) w := hp
                        refine s_nil (and_with ⟨fun _ => ⟨_, hp⟩, fun _ => ⟨_, (hp.get 3 rfl)⟩, dead (by kernel_rfl), trivial⟩ fun hS => ?_)
                        exact v_done (by kernel_rfl) ⟨_, _, _, _, _, _, hE.cut trivial, hp⟩
          ·
            refine h_op rfl ?_
            refine s_lit (wk0 rfl) rfl rfl hE hp rfl [(0, (.int .i64 c0))] ⟨⟨rfl, rfl⟩, trivial⟩ [(.int .i64 c0)] 3 (fun w => by simp [Instr.buildSlice, Instr.fill, Value.cells, go_sem]) ?_
            intro a w b17 hE hp
            have hp : Hp Z ρ (Pt b17 (.cells #[(.int .i64 c0)] 3 (0, 0)) :: _ :: _ :: _ :: _ :: _ :: _ :: _ :: _ :: _ :: L) w := hp
            refine s_nil (and_with ⟨fun _ => ⟨_, hp⟩, fun _ => ⟨_, (hp.get 3 rfl)⟩, fun _ => ⟨_, (hp.get 5 rfl)⟩, trivial⟩ fun hS => ?_)
            refine v_all [8] (by kernel_rfl) rfl ?_
            refine List.forall_mem_cons.2 ⟨?_, fun _ h => absurd h (by simp)⟩
            ·
              refine h_op rfl ?_
              refine s_app (wk0 rfl) rfl rfl hE hp rfl slty64 rfl rfl 6 rfl rfl (l2 := [(Lbl.mk p0.kind p0.text)]) rfl (fun j u hj => by have := Hp.cN 2 rfl 0 _ (sub_all rfl) w hp j u hj; simpa using this) ex5 ?_
              intro v16 a w hE hp
              have hp : Hp Z ρ (_ :: _ :: _ :: _ :: _ :: _ :: OwnSl 70 v16 x5 :: _ :: _ :: _ :: L) w := hp
              refine s_nil (and_with ⟨fun _ => ⟨_, hp⟩, fun _ => ⟨_, (hp.get 3 rfl)⟩, fun _ => ⟨_, (hp.get 5 rfl)⟩, trivial⟩ fun hS => ?_)
              refine v_take0 19 (wk0 rfl) rfl rfl rfl hE (by kernel_rfl) (by kernel_rfl) (by kernel_rfl) rfl (by kernel_rfl) hS (v := (.pointer (some ⟨bc1, 0, none⟩))) (fun _ => ex_field rfl hE rfl (fldty66_0 _ _)) ?_
              intro a hE hS
              refine v_all [13] (by kernel_rfl) rfl ?_
              refine List.forall_mem_cons.2 ⟨?_, fun _ h => absurd h (by simp)⟩
              ·
                refine h_op rfl ?_
                refine s_app (wk0 rfl) rfl rfl hE hp rfl slty34 rfl rfl 7 rfl rfl (l2 := [(c1.labels.length : Int)]) rfl (fun j u hj => by have := Hp.cN 1 rfl 0 _ (sub_all rfl) w hp j u hj; simpa using this) ex6 ?_
                intro v17 a w hE hp
                have hp : Hp Z ρ (_ :: _ :: _ :: _ :: _ :: _ :: _ :: OwnSl 3 v17 x6 :: _ :: _ :: L) w := hp
                refine s_nil (and_with ⟨fun _ => ⟨_, hp⟩, fun _ => ⟨_, (hp.get 3 rfl)⟩, fun _ => ⟨_, (hp.get 5 rfl)⟩, trivial⟩ fun hS => ?_)
                refine v_all [18] (by kernel_rfl) rfl ?_
                refine List.forall_mem_cons.2 ⟨?_, fun _ h => absurd h (by simp)⟩
                ·
                  refine h_op rfl ?_
                  refine s_app (wk0 rfl) rfl rfl hE hp rfl slty34 rfl rfl 8 rfl rfl (l2 := [c0]) rfl (fun j u hj => by have := Hp.cN 0 rfl 0 _ (sub_all rfl) w hp j u hj; simpa using this) ex7 ?_
                  intro v18 a w hE hp
                  have hp : Hp Z ρ (_ :: _ :: _ :: _ :: _ :: _ :: _ :: _ :: OwnSl 3 v18 x7 :: _ :: L) w := hp
                  refine s_nil (and_with ⟨fun _ => ⟨_, hp⟩, fun _ => ⟨_, (hp.get 3 rfl)⟩, fun _ => ⟨_, (hp.get 5 rfl)⟩, trivial⟩ fun hS => ?_)
                  refine v_all [20] (by kernel_rfl) rfl ?_
                  refine List.forall_mem_cons.2 ⟨?_, fun _ h => absurd h (by simp)⟩
                  ·
                    refine h_op rfl ?_
                    refine s_store1 (wk0 rfl) rfl hE hp rfl rfl rfl 5 rfl varty64.size_ (OwnSl.cells hp 6 rfl) (OwnSl.one hp 6 rfl) rfl [v16, w4, w5] rfl ?_
                    intro w hp
                    have hp : Hp Z ρ (_ :: _ :: _ :: _ :: _ :: Pt bc1 (.cells #[v16, w4, w5] 66 (0, 0)) :: _ :: _ :: _ :: _ :: L) w := hp
                    refine s_nil (and_with ⟨fun _ => ⟨_, hp⟩, fun _ => ⟨_, (hp.get 3 rfl)⟩, dead (by kernel_rfl), trivial⟩ fun hS => ?_)
                    refine v_take0 21 (wk0 rfl) rfl rfl rfl hE (by kernel_rfl) (by kernel_rfl) (by kernel_rfl) rfl (by kernel_rfl) hS (v := (.pointer (some ⟨bc1, 1, none⟩))) (fun _ => ex_field rfl hE rfl (fldty66_1 _ _)) ?_
                    intro a hE hS
                    refine v_all [22] (by kernel_rfl) rfl ?_
                    refine List.forall_mem_cons.2 ⟨?_, fun _ h => absurd h (by simp)⟩
                    ·
                      refine h_op rfl ?_
                      refine s_store1 (wk0 rfl) rfl hE hp rfl rfl rfl 5 rfl varty34.size_ (OwnSl.cells hp 7 rfl) (OwnSl.one hp 7 rfl) rfl [v16, v17, w5] rfl ?_
                      intro w hp
                      have hp : Hp Z ρ (_ :: _ :: _ :: _ :: _ :: Pt bc1 (.cells #[v16, v17, w5] 66 (0, 0)) :: _ :: _ :: _ :: _ :: L) w := hp
                      refine s_nil (and_with ⟨fun _ => ⟨_, hp⟩, fun _ => ⟨_, (hp.get 3 rfl)⟩, dead (by kernel_rfl), trivial⟩ fun hS => ?_)
                      refine v_take0 23 (wk0 rfl) rfl rfl rfl hE (by kernel_rfl) (by kernel_rfl) (by kernel_rfl) rfl (by kernel_rfl) hS (v := (.pointer (some ⟨bc1, 2, none⟩))) (fun _ => ex_field rfl hE rfl (fldty66_2 _ _)) ?_
                      intro a hE hS
                      refine v_all [24] (by kernel_rfl) rfl ?_
                      refine List.forall_mem_cons.2 ⟨?_, fun _ h => absurd h (by simp)⟩
                      ·
                        refine h_op rfl ?_
                        refine s_store1 (wk0 rfl) rfl hE hp rfl rfl rfl 5 rfl varty34.size_ (OwnSl.cells hp 8 rfl) (OwnSl.one hp 8 rfl) rfl [v16, v17, v18] rfl ?_
                        intro w hp
                        have hp : Hp Z ρ (_ :: _ :: _ :: _ :: _ :: Pt bc1 (.cells #[v16, v17, v18] 66 (0, 0)) :: _ :: _ :: _ :: _ :: L) w := hp
                        refine s_nil (and_with ⟨fun _ => ⟨_, hp⟩, fun _ => ⟨_, (hp.get 3 rfl)⟩, dead (by kernel_rfl), trivial⟩ fun hS => ?_)
                        exact v_done (by kernel_rfl) ⟨_, _, _, _, _, _, hE.cut trivial, hp⟩
        ·
          refine h_op rfl ?_
          refine s_lit (wk0 rfl) rfl rfl hE hp rfl [(0, (.int .i64 c0))] ⟨⟨rfl, rfl⟩, trivial⟩ [(.int .i64 c0)] 3 (fun w => by simp [Instr.buildSlice, Instr.fill, Value.cells, go_sem]) ?_
          intro a w b18 hE hp
          have hp : Hp Z ρ (Pt b18 (.cells #[(.int .i64 c0)] 3 (0, 0)) :: _ :: _ :: _ :: _ :: _ :: _ :: _ :: _ :: L) w := hp
          refine s_nil (and_with ⟨fun _ => ⟨_, hp⟩, fun _ => ⟨_, (hp.get 2 rfl)⟩, fun _ => ⟨_, (hp.get 4 rfl)⟩, trivial⟩ fun hS => ?_)
          refine v_all [8, 12] (by kernel_rfl) rfl ?_
          refine List.forall_mem_cons.2 ⟨?_, List.forall_mem_cons.2 ⟨?_, fun _ h => absurd h (by simp)⟩⟩
          ·
            refine h_op rfl ?_
            refine s_app (wk0 rfl) rfl rfl hE hp rfl slty64 rfl rfl 5 rfl rfl (l2 := [(Lbl.mk p0.kind p0.text)]) rfl (fun j u hj => by have := Hp.cN 1 rfl 0 _ (sub_all rfl) w hp j u hj; simpa using this) ex5 ?_
            intro v19 a w hE hp
            have hp : Hp Z ρ (_ :: _ :: _ :: _ :: _ :: OwnSl 70 v19 x5 :: _ :: _ :: _ :: L) w := hp
            refine s_nil (and_with ⟨fun _ => ⟨_, hp⟩, fun _ => ⟨_, (hp.get 2 rfl)⟩, fun _ => ⟨_, (hp.get 4 rfl)⟩, trivial⟩ fun hS => ?_)
            refine v_take0 19 (wk0 rfl) rfl rfl rfl hE (by kernel_rfl) (by kernel_rfl) (by kernel_rfl) rfl (by kernel_rfl) hS (v := (.pointer (some ⟨bc1, 0, none⟩))) (fun _ => ex_field rfl hE rfl (fldty66_0 _ _)) ?_
            intro a hE hS
            refine v_all [12] (by kernel_rfl) rfl ?_
            refine List.forall_mem_cons.2 ⟨?_, fun _ h => absurd h (by simp)⟩
            ·
              refine h_op rfl ?_
              refine s_lit (wk0 rfl) rfl rfl hE hp rfl [(0, (.int .i64 (c1.labels.length : Int)))] ⟨⟨rfl, rfl⟩, trivial⟩ [(.int .i64 (c1.labels.length : Int))] 3 (fun w => by simp [Instr.buildSlice, Instr.fill, Value.cells, go_sem]) ?_
              intro a w b19 hE hp
              have hp : Hp Z ρ (Pt b19 (.cells #[(.int .i64 (c1.labels.length : Int))] 3 (0, 0)) :: _ :: _ :: _ :: _ :: _ :: _ :: _ :: _ :: _ :: L) w := hp
              refine s_nil (and_with ⟨fun _ => ⟨_, hp⟩, fun _ => ⟨_, (hp.get 3 rfl)⟩, fun _ => ⟨_, (hp.get 5 rfl)⟩, trivial⟩ fun hS => ?_)
              refine v_all [13] (by kernel_rfl) rfl ?_
              refine List.forall_mem_cons.2 ⟨?_, fun _ h => absurd h (by simp)⟩
              ·
                refine h_op rfl ?_
                refine s_app (wk0 rfl) rfl rfl hE hp rfl slty34 rfl rfl 7 rfl rfl (l2 := [(c1.labels.length : Int)]) rfl (fun j u hj => by have := Hp.cN 0 rfl 0 _ (sub_all rfl) w hp j u hj; simpa using this) ex6 ?_
                intro v20 a w hE hp
                have hp : Hp Z ρ (_ :: _ :: _ :: _ :: _ :: _ :: _ :: OwnSl 3 v20 x6 :: _ :: _ :: L) w := hp
                refine s_nil (and_with ⟨fun _ => ⟨_, hp⟩, fun _ => ⟨_, (hp.get 3 rfl)⟩, fun _ => ⟨_, (hp.get 5 rfl)⟩, trivial⟩ fun hS => ?_)
                refine v_all [18] (by kernel_rfl) rfl ?_
                refine List.forall_mem_cons.2 ⟨?_, fun _ h => absurd h (by simp)⟩
                ·
                  refine h_op rfl ?_
                  refine s_app (wk0 rfl) rfl rfl hE hp rfl slty34 rfl rfl 8 rfl rfl (l2 := [c0]) rfl (fun j u hj => by have := Hp.cN 1 rfl 0 _ (sub_all rfl) w hp j u hj; simpa using this) ex7 ?_
                  intro v21 a w hE hp
                  have hp : Hp Z ρ (_ :: _ :: _ :: _ :: _ :: _ :: _ :: _ :: OwnSl 3 v21 x7 :: _ :: L) w := hp
                  refine s_nil (and_with ⟨fun _ => ⟨_, hp⟩, fun _ => ⟨_, (hp.get 3 rfl)⟩, fun _ => ⟨_, (hp.get 5 rfl)⟩, trivial⟩ fun hS => ?_)
                  refine v_all [20] (by kernel_rfl) rfl ?_
                  refine List.forall_mem_cons.2 ⟨?_, fun _ h => absurd h (by simp)⟩
                  ·
                    refine h_op rfl ?_
                    refine s_store1 (wk0 rfl) rfl hE hp rfl rfl rfl 5 rfl varty64.size_ (OwnSl.cells hp 6 rfl) (OwnSl.one hp 6 rfl) rfl [v19, w4, w5] rfl ?_
                    intro w hp
                    have hp : Hp Z ρ (_ :: _ :: _ :: _ :: _ :: Pt bc1 (.cells #[v19, w4, w5] 66 (0, 0)) :: _ :: _ :: _ :: _ :: L) w := hp
                    refine s_nil (and_with ⟨fun _ => ⟨_, hp⟩, fun _ => ⟨_, (hp.get 3 rfl)⟩, dead (by kernel_rfl), trivial⟩ fun hS => ?_)
                    refine v_take0 21 (wk0 rfl) rfl rfl rfl hE (by kernel_rfl) (by kernel_rfl) (by kernel_rfl) rfl (by kernel_rfl) hS (v := (.pointer (some ⟨bc1, 1, none⟩))) (fun _ => ex_field rfl hE rfl (fldty66_1 _ _)) ?_
                    intro a hE hS
                    refine v_all [22] (by kernel_rfl) rfl ?_
                    refine List.forall_mem_cons.2 ⟨?_, fun _ h => absurd h (by simp)⟩
                    ·
                      refine h_op rfl ?_
                      refine s_store1 (wk0 rfl) rfl hE hp rfl rfl rfl 5 rfl varty34.size_ (OwnSl.cells hp 7 rfl) (OwnSl.one hp 7 rfl) rfl [v19, v20, w5] rfl ?_
                      intro w hp
                      have hp : Hp Z ρ (_ :: _ :: _ :: _ :: _ :: Pt bc1 (.cells #[v19, v20, w5] 66 (0, 0)) :: _ :: _ :: _ :: _ :: L) w := hp
                      refine s_nil (and_with ⟨fun _ => ⟨_, hp⟩, fun _ => ⟨_, (hp.get 3 rfl)⟩, dead (by kernel_rfl), trivial⟩ fun hS => ?_)
                      refine v_take0 23 (wk0 rfl) rfl rfl rfl hE (by kernel_rfl) (by kernel_rfl) (by kernel_rfl) rfl (by kernel_rfl) hS (v := (.pointer (some ⟨bc1, 2, none⟩))) (fun _ => ex_field rfl hE rfl (fldty66_2 _ _)) ?_
                      intro a hE hS
                      refine v_all [24] (by kernel_rfl) rfl ?_
                      refine List.forall_mem_cons.2 ⟨?_, fun _ h => absurd h (by simp)⟩
                      ·
                        refine h_op rfl ?_
                        refine s_store1 (wk0 rfl) rfl hE hp rfl rfl rfl 5 rfl varty34.size_ (OwnSl.cells hp 8 rfl) (OwnSl.one hp 8 rfl) rfl [v19, v20, v21] rfl ?_
                        intro w hp
                        have hp : Hp Z ρ (_ :: _ :: _ :: _ :: _ :: Pt bc1 (.cells #[v19, v20, v21] 66 (0, 0)) :: _ :: _ :: _ :: _ :: L) w := hp
                        refine s_nil (and_with ⟨fun _ => ⟨_, hp⟩, fun _ => ⟨_, (hp.get 3 rfl)⟩, dead (by kernel_rfl), trivial⟩ fun hS => ?_)
                        exact v_done (by kernel_rfl) ⟨_, _, _, _, _, _, hE.cut trivial, ((((((((((hp.get 9 rfl).get 9 rfl).get 9 rfl).get 9 rfl).get 9 rfl).get 9 rfl).get 9 rfl).get 9 rfl).get 8 rfl).get 9 rfl)⟩
          ·
            refine h_op rfl ?_
            refine s_lit (wk0 rfl) rfl rfl hE hp rfl [(0, (.int .i64 (c1.labels.length : Int)))] ⟨⟨rfl, rfl⟩, trivial⟩ [(.int .i64 (c1.labels.length : Int))] 3 (fun w => by simp [Instr.buildSlice, Instr.fill, Value.cells, go_sem]) ?_
            intro a w b20 hE hp
            have hp : Hp Z ρ (Pt b20 (.cells #[(.int .i64 (c1.labels.length : Int))] 3 (0, 0)) :: _ :: _ :: _ :: _ :: _ :: _ :: _ :: _ :: _ :: L) w := hp
            refine s_nil (and_with ⟨fun _ => ⟨_, hp⟩, fun _ => ⟨_, (hp.get 3 rfl)⟩, fun _ => ⟨_, (hp.get 5 rfl)⟩, trivial⟩ fun hS => ?_)
            refine v_all [8] (by kernel_rfl) rfl ?_
            refine List.forall_mem_cons.2 ⟨?_, fun _ h => absurd h (by simp)⟩
            ·
              refine h_op rfl ?_
              refine s_app (wk0 rfl) rfl rfl hE hp rfl slty64 rfl rfl 6 rfl rfl (l2 := [(Lbl.mk p0.kind p0.text)]) rfl (fun j u hj => by have := Hp.cN 2 rfl 0 _ (sub_all rfl) w hp j u hj; simpa using this) ex5 ?_
              intro v22 a w hE hp
              have hp : Hp Z ρ (_ :: _ :: _ :: _ :: _ :: _ :: OwnSl 70 v22 x5 :: _ :: _ :: _ :: L) w := hp
              refine s_nil (and_with ⟨fun _ => ⟨_, hp⟩, fun _ => ⟨_, (hp.get 3 rfl)⟩, fun _ => ⟨_, (hp.get 5 rfl)⟩, trivial⟩ fun hS => ?_)
              refine v_take0 19 (wk0 rfl) rfl rfl rfl hE (by kernel_rfl) (by kernel_rfl) (by kernel_rfl) rfl (by kernel_rfl) hS (v := (.pointer (some ⟨bc1, 0, none⟩))) (fun _ => ex_field rfl hE rfl (fldty66_0 _ _)) ?_
              intro a hE hS
              refine v_all [13] (by kernel_rfl) rfl ?_
              refine List.forall_mem_cons.2 ⟨?_, fun _ h => absurd h (by simp)⟩
              ·
                refine h_op rfl ?_
                refine s_app (wk0 rfl) rfl rfl hE hp rfl slty34 rfl rfl 7 rfl rfl (l2 := [(c1.labels.length : Int)]) rfl (fun j u hj => by have := Hp.cN 0 rfl 0 _ (sub_all rfl) w hp j u hj; simpa using this) ex6 ?_
                intro v23 a w hE hp
                have hp : Hp Z ρ (_ :: _ :: _ :: _ :: _ :: _ :: _ :: OwnSl 3 v23 x6 :: _ :: _ :: L) w := hp
                refine s_nil (and_with ⟨fun _ => ⟨_, hp⟩, fun _ => ⟨_, (hp.get 3 rfl)⟩, fun _ => ⟨_, (hp.get 5 rfl)⟩, trivial⟩ fun hS => ?_)
                refine v_all [18] (by kernel_rfl) rfl ?_
                refine List.forall_mem_cons.2 ⟨?_, fun _ h => absurd h (by simp)⟩
                ·
                  refine h_op rfl ?_
                  refine s_app (wk0 rfl) rfl rfl hE hp rfl slty34 rfl rfl 8 rfl rfl (l2 := [c0]) rfl (fun j u hj => by have := Hp.cN 1 rfl 0 _ (sub_all rfl) w hp j u hj; simpa using this) ex7 ?_
                  intro v24 a w hE hp
                  have hp : Hp Z ρ (_ :: _ :: _ :: _ :: _ :: _ :: _ :: _ :: OwnSl 3 v24 x7 :: _ :: L) w := hp
                  refine s_nil (and_with ⟨fun _ => ⟨_, hp⟩, fun _ => ⟨_, (hp.get 3 rfl)⟩, fun _ => ⟨_, (hp.get 5 rfl)⟩, trivial⟩ fun hS => ?_)
                  refine v_all [20] (by kernel_rfl) rfl ?_
                  refine List.forall_mem_cons.2 ⟨?_, fun _ h => absurd h (by simp)⟩
                  ·
                    refine h_op rfl ?_
                    refine s_store1 (wk0 rfl) rfl hE hp rfl rfl rfl 5 rfl varty64.size_ (OwnSl.cells hp 6 rfl) (OwnSl.one hp 6 rfl) rfl [v22, w4, w5] rfl ?_
                    intro w hp
                    have hp : Hp Z ρ (_ :: _ :: _ :: _ :: _ :: Pt bc1 (.cells #[v22, w4, w5] 66 (0, 0)) :: _ :: _ :: _ :: _ :: L) w := hp
                    refine s_nil (and_with ⟨fun _ => ⟨_, hp⟩, fun _ => ⟨_, (hp.get 3 rfl)⟩, dead (by kernel_rfl), trivial⟩ fun hS => ?_)
                    refine v_take0 21 (wk0 rfl) rfl rfl rfl hE (by kernel_rfl) (by kernel_rfl) (by kernel_rfl) rfl (by kernel_rfl) hS (v := (.pointer (some ⟨bc1, 1, none⟩))) (fun _ => ex_field rfl hE rfl (fldty66_1 _ _)) ?_
                    intro a hE hS
                    refine v_all [22] (by kernel_rfl) rfl ?_
                    refine List.forall_mem_cons.2 ⟨?_, fun _ h => absurd h (by simp)⟩
                    ·
                      refine h_op rfl ?_
                      refine s_store1 (wk0 rfl) rfl hE hp rfl rfl rfl 5 rfl varty34.size_ (OwnSl.cells hp 7 rfl) (OwnSl.one hp 7 rfl) rfl [v22, v23, w5] rfl ?_
                      intro w hp
                      have hp : Hp Z ρ (_ :: _ :: _ :: _ :: _ :: Pt bc1 (.cells #[v22, v23, w5] 66 (0, 0)) :: _ :: _ :: _ :: _ :: L) w := hp
                      refine s_nil (and_with ⟨fun _ => ⟨_, hp⟩, fun _ => ⟨_, (hp.get 3 rfl)⟩, dead (by kernel_rfl), trivial⟩ fun hS => ?_)
                      refine v_take0 23 (wk0 rfl) rfl rfl rfl hE (by kernel_rfl) (by kernel_rfl) (by kernel_rfl) rfl (by kernel_rfl) hS (v := (.pointer (some ⟨bc1, 2, none⟩))) (fun _ => ex_field rfl hE rfl (fldty66_2 _ _)) ?_
                      intro a hE hS
                      refine v_all [24] (by kernel_rfl) rfl ?_
                      refine List.forall_mem_cons.2 ⟨?_, fun _ h => absurd h (by simp)⟩
                      ·
                        refine h_op rfl ?_
                        refine s_store1 (wk0 rfl) rfl hE hp rfl rfl rfl 5 rfl varty34.size_ (OwnSl.cells hp 8 rfl) (OwnSl.one hp 8 rfl) rfl [v22, v23, v24] rfl ?_
                        intro w hp
                        have hp : Hp Z ρ (_ :: _ :: _ :: _ :: _ :: Pt bc1 (.cells #[v22, v23, v24] 66 (0, 0)) :: _ :: _ :: _ :: _ :: L) w := hp
                        refine s_nil (and_with ⟨fun _ => ⟨_, hp⟩, fun _ => ⟨_, (hp.get 3 rfl)⟩, dead (by kernel_rfl), trivial⟩ fun hS => ?_)
                        exact v_done (by kernel_rfl) ⟨_, _, _, _, _, _, hE.cut trivial, ((((((((((hp.get 9 rfl).get 9 rfl).get 9 rfl).get 9 rfl).get 9 rfl).get 9 rfl).get 9 rfl).get 9 rfl).get 8 rfl).get 9 rfl)⟩
      ·
        refine h_op rfl ?_
        refine s_lit (wk0 rfl) rfl rfl hE hp rfl [(0, (.int .i64 (c1.labels.length : Int)))] ⟨⟨rfl, rfl⟩, trivial⟩ [(.int .i64 (c1.labels.length : Int))] 3 (fun w => by simp [Instr.buildSlice, Instr.fill, Value.cells, go_sem]) ?_
        intro a w b21 hE hp
        have hp : Hp Z ρ (Pt b21 (.cells #[(.int .i64 (c1.labels.length : Int))] 3 (0, 0)) :: _ :: Pt bc0 (.cells #[(.int .i64 b2.1)] 3 (0, 0)) :: Pt bc1 (.cells #[w3, w4, w5] 66 (0, 0)) :: OwnSl 70 w3 b2.2.1 :: OwnSl 3 w4 b2.2.2.1 :: OwnSl 3 w5 b2.2.2.2 :: _ :: L) w := hp
        refine s_nil (and_with ⟨fun _ => ⟨_, hp⟩, fun _ => ⟨_, (hp.get 1 rfl)⟩, fun _ => ⟨_, (hp.get 3 rfl)⟩, trivial⟩ fun hS => ?_)
        refine v_all [7, 17] (by kernel_rfl) rfl ?_
        refine List.forall_mem_cons.2 ⟨?_, List.forall_mem_cons.2 ⟨?_, fun _ h => absurd h (by simp)⟩⟩
        ·
          refine h_op rfl ?_
          refine s_lit (wk0 rfl) rfl rfl hE hp rfl [(0, (.agg #[(.int .i64 p0.kind), (.string p0.text)]))] ⟨⟨rfl, rfl⟩, trivial⟩ [(.int .i64 p0.kind), (.string p0.text)] 70 (fun w => by simp [Instr.buildSlice, Instr.fill, Value.cells, go_sem]) ?_
          intro a w b22 hE hp
          have hp : Hp Z ρ (Pt b22 (.cells #[(.int .i64 p0.kind), (.string p0.text)] 70 (0, 0)) :: _ :: _ :: _ :: _ :: _ :: _ :: _ :: _ :: L) w := hp
          refine s_nil (and_with ⟨fun _ => ⟨_, hp⟩, fun _ => ⟨_, (hp.get 2 rfl)⟩, fun _ => ⟨_, (hp.get 4 rfl)⟩, trivial⟩ fun hS => ?_)
          refine v_all [8, 17] (by kernel_rfl) rfl ?_
          refine List.forall_mem_cons.2 ⟨?_, List.forall_mem_cons.2 ⟨?_, fun _ h => absurd h (by simp)⟩⟩
          ·
            refine h_op rfl ?_
            refine s_app (wk0 rfl) rfl rfl hE hp rfl slty64 rfl rfl 5 rfl rfl (l2 := [(Lbl.mk p0.kind p0.text)]) rfl (fun j u hj => by have := Hp.cN 0 rfl 0 _ (sub_all rfl) w hp j u hj; simpa using this) ex5 ?_
            intro v25 a w hE hp
            have hp : Hp Z ρ (_ :: _ :: _ :: _ :: _ :: OwnSl 70 v25 x5 :: _ :: _ :: _ :: L) w := hp
            refine s_nil (and_with ⟨fun _ => ⟨_, hp⟩, fun _ => ⟨_, (hp.get 2 rfl)⟩, fun _ => ⟨_, (hp.get 4 rfl)⟩, trivial⟩ fun hS => ?_)
            refine v_take0 19 (wk0 rfl) rfl rfl rfl hE (by kernel_rfl) (by kernel_rfl) (by kernel_rfl) rfl (by kernel_rfl) hS (v := (.pointer (some ⟨bc1, 0, none⟩))) (fun _ => ex_field rfl hE rfl (fldty66_0 _ _)) ?_
            intro a hE hS
            refine v_all [13, 17] (by kernel_rfl) rfl ?_
            refine List.forall_mem_cons.2 ⟨?_, List.forall_mem_cons.2 ⟨?_, fun _ h => absurd h (by simp)⟩⟩
            ·
              refine h_op rfl ?_
              refine s_app (wk0 rfl) rfl rfl hE hp rfl slty34 rfl rfl 6 rfl rfl (l2 := [(c1.labels.length : Int)]) rfl (fun j u hj => by have := Hp.cN 1 rfl 0 _ (sub_all rfl) w hp j u hj; simpa using this) ex6 ?_
              intro v26 a w hE hp
              have hp : Hp Z ρ (_ :: _ :: _ :: _ :: _ :: _ :: OwnSl 3 v26 x6 :: _ :: _ :: L) w := hp
              refine s_nil (and_with ⟨fun _ => ⟨_, hp⟩, fun _ => ⟨_, (hp.get 2 rfl)⟩, fun _ => ⟨_, (hp.get 4 rfl)⟩, trivial⟩ fun hS => ?_)
              refine v_all [17] (by kernel_rfl) rfl ?_
              refine List.forall_mem_cons.2 ⟨?_, fun _ h => absurd h (by simp)⟩
              ·
                refine h_op rfl ?_
                refine s_lit (wk0 rfl) rfl rfl hE hp rfl [(0, (.int .i64 c0))] ⟨⟨rfl, rfl⟩, trivial⟩ [(.int .i64 c0)] 3 (fun w => by simp [Instr.buildSlice, Instr.fill, Value.cells, go_sem]) ?_
                intro a w b23 hE hp
                have hp : Hp Z ρ (Pt b23 (.cells #[(.int .i64 c0)] 3 (0, 0)) :: _ :: _ :: _ :: _ :: _ :: _ :: _ :: _ :: _ :: L) w := hp
                refine s_nil (and_with ⟨fun _ => ⟨_, hp⟩, fun _ => ⟨_, (hp.get 3 rfl)⟩, fun _ => ⟨_, (hp.get 5 rfl)⟩, trivial⟩ fun hS => ?_)
                refine v_all [18] (by kernel_rfl) rfl ?_
                refine List.forall_mem_cons.2 ⟨?_, fun _ h => absurd h (by simp)⟩
                ·
                  refine h_op rfl ?_
                  refine s_app (wk0 rfl) rfl rfl hE hp rfl slty34 rfl rfl 8 rfl rfl (l2 := [c0]) rfl (fun j u hj => by have := Hp.cN 0 rfl 0 _ (sub_all rfl) w hp j u hj; simpa using this) ex7 ?_
                  intro v27 a w hE hp
                  have hp : Hp Z ρ (_ :: _ :: _ :: _ :: _ :: _ :: _ :: _ :: OwnSl 3 v27 x7 :: _ :: L) w := hp
                  refine s_nil (and_with ⟨fun _ => ⟨_, hp⟩, fun _ => ⟨_, (hp.get 3 rfl)⟩, fun _ => ⟨_, (hp.get 5 rfl)⟩, trivial⟩ fun hS => ?_)
                  refine v_all [20] (by kernel_rfl) rfl ?_
                  refine List.forall_mem_cons.2 ⟨?_, fun _ h => absurd h (by simp)⟩
                  ·
                    refine h_op rfl ?_
                    refine s_store1 (wk0 rfl) rfl hE hp rfl rfl rfl 5 rfl varty64.size_ (OwnSl.cells hp 6 rfl) (OwnSl.one hp 6 rfl) rfl [v25, w4, w5] rfl ?_
                    intro w hp
                    have hp : Hp Z ρ (_ :: _ :: _ :: _ :: _ :: Pt bc1 (.cells #[v25, w4, w5] 66 (0, 0)) :: _ :: _ :: _ :: _ :: L) w := hp
                    refine s_nil (and_with ⟨fun _ => ⟨_, hp⟩, fun _ => ⟨_, (hp.get 3 rfl)⟩, dead (by kernel_rfl), trivial⟩ fun hS => ?_)
                    refine v_take0 21 (wk0 rfl) rfl rfl rfl hE (by kernel_rfl) (by kernel_rfl) (by kernel_rfl) rfl (by kernel_rfl) hS (v := (.pointer (some ⟨bc1, 1, none⟩))) (fun _ => ex_field rfl hE rfl (fldty66_1 _ _)) ?_
                    intro a hE hS
                    refine v_all [22] (by kernel_rfl) rfl ?_
                    refine List.forall_mem_cons.2 ⟨?_, fun _ h => absurd h (by simp)⟩
                    ·
                      refine h_op rfl ?_
                      refine s_store1 (wk0 rfl) rfl hE hp rfl rfl rfl 5 rfl varty34.size_ (OwnSl.cells hp 7 rfl) (OwnSl.one hp 7 rfl) rfl [v25, v26, w5] rfl ?_
                      intro w hp
                      have hp : Hp Z ρ (_ :: _ :: _ :: _ :: _ :: Pt bc1 (.cells #[v25, v26, w5] 66 (0, 0)) :: _ :: _ :: _ :: _ :: L) w := hp
                      refine s_nil (and_with ⟨fun _ => ⟨_, hp⟩, fun _ => ⟨_, (hp.get 3 rfl)⟩, dead (by kernel_rfl), trivial⟩ fun hS => ?_)
                      refine v_take0 23 (wk0 rfl) rfl rfl rfl hE (by kernel_rfl) (by kernel_rfl) (by kernel_rfl) rfl (by kernel_rfl) hS (v := (.pointer (some ⟨bc1, 2, none⟩))) (fun _ => ex_field rfl hE rfl (fldty66_2 _ _)) ?_
                      intro a hE hS
                      refine v_all [24] (by kernel_rfl) rfl ?_
                      refine List.forall_mem_cons.2 ⟨?_, fun _ h => absurd h (by simp)⟩
                      ·
                        refine h_op rfl ?_
                        refine s_store1 (wk0 rfl) rfl hE hp rfl rfl rfl 5 rfl varty34.size_ (OwnSl.cells hp 8 rfl) (OwnSl.one hp 8 rfl) rfl [v25, v26, v27] rfl ?_
                        intro w hp
                        have hp : Hp Z ρ (_ :: _ :: _ :: _ :: _ :: Pt bc1 (.cells #[v25, v26, v27] 66 (0, 0)) :: _ :: _ :: _ :: _ :: L) w := hp
                        refine s_nil (and_with ⟨fun _ => ⟨_, hp⟩, fun _ => ⟨_, (hp.get 3 rfl)⟩, dead (by kernel_rfl), trivial⟩ fun hS => ?_)
                        exact v_done (by kernel_rfl) ⟨_, _, _, _, _, _, hE.cut trivial, ((((((((((hp.get 9 rfl).get 9 rfl).get 9 rfl).get 9 rfl).get 9 rfl).get 9 rfl).get 9 rfl).get 8 rfl).get 9 rfl).get 9 rfl)⟩
            ·
              refine h_op rfl ?_
              refine s_lit (wk0 rfl) rfl rfl hE hp rfl [(0, (.int .i64 c0))] ⟨⟨rfl, rfl⟩, trivial⟩ [(.int .i64 c0)] 3 (fun w => by simp [Instr.buildSlice, Instr.fill, Value.cells, go_sem]) ?_
              intro a w b24 hE hp
              have hp : Hp Z ρ (Pt b24 (.cells #[(.int .i64 c0)] 3 (0, 0)) :: _ :: _ :: _ :: _ :: _ :: _ :: _ :: _ :: _ :: L) w := hp
              refine s_nil (and_with ⟨fun _ => ⟨_, hp⟩, fun _ => ⟨_, (hp.get 3 rfl)⟩, fun _ => ⟨_, (hp.get 5 rfl)⟩, trivial⟩ fun hS => ?_)
              refine v_all [13] (by kernel_rfl) rfl ?_
              refine List.forall_mem_cons.2 ⟨?_, fun _ h => absurd h (by simp)⟩
              ·
                refine h_op rfl ?_
                refine s_app (wk0 rfl) rfl rfl hE hp rfl slty34 rfl rfl 7 rfl rfl (l2 := [(c1.labels.length : Int)]) rfl (fun j u hj => by have := Hp.cN 2 rfl 0 _ (sub_all rfl) w hp j u hj; simpa using this) ex6 ?_
                intro v28 a w hE hp
                have hp : Hp Z ρ (_ :: _ :: _ :: _ :: _ :: _ :: _ :: OwnSl 3 v28 x6 :: _ :: _ :: L) w := hp
                refine s_nil (and_with ⟨fun _ => ⟨_, hp⟩, fun _ => ⟨_, (hp.get 3 rfl)⟩, fun _ => ⟨_, (hp.get 5 rfl)⟩, trivial⟩ fun hS => ?_)
                refine v_all [18] (by kernel_rfl) rfl ?_
                refine List.forall_mem_cons.2 ⟨?_, fun _ h => absurd h (by simp)⟩
                ·
                  refine h_op rfl ?_
                  refine s_app (wk0 rfl) rfl rfl hE hp rfl slty34 rfl rfl 8 rfl rfl (l2 := [c0]) rfl (fun j u hj => by have := Hp.cN 0 rfl 0 _ (sub_all rfl) w hp j u hj; simpa using this) ex7 ?_
                  intro v29 a w hE hp
                  have hp : Hp Z ρ (_ :: _ :: _ :: _ :: _ :: _ :: _ :: _ :: OwnSl 3 v29 x7 :: _ :: L) w := hp
                  refine s_nil (and_with ⟨fun _ => ⟨_, hp⟩, fun _ => ⟨_, (hp.get 3 rfl)⟩, fun _ => ⟨_, (hp.get 5 rfl)⟩, trivial⟩ fun hS => ?_)
                  refine v_all [20] (by kernel_rfl) rfl ?_
                  refine List.forall_mem_cons.2 ⟨?_, fun _ h => absurd h (by simp)⟩
                  ·
                    refine h_op rfl ?_
                    refine s_store1 (wk0 rfl) rfl hE hp rfl rfl rfl 5 rfl varty64.size_ (OwnSl.cells hp 6 rfl) (OwnSl.one hp 6 rfl) rfl [v25, w4, w5] rfl ?_
                    intro w hp
                    have hp : Hp Z ρ (_ :: _ :: _ :: _ :: _ :: Pt bc1 (.cells #[v25, w4, w5] 66 (0, 0)) :: _ :: _ :: _ :: _ :: L) w := hp
                    refine s_nil (and_with ⟨fun _ => ⟨_, hp⟩, fun _ => ⟨_, (hp.get 3 rfl)⟩, dead (by kernel_rfl), trivial⟩ fun hS => ?_)
                    refine v_take0 21 (wk0 rfl) rfl rfl rfl hE (by kernel_rfl) (by kernel_rfl) (by kernel_rfl) rfl (by kernel_rfl) hS (v := (.pointer (some ⟨bc1, 1, none⟩))) (fun _ => ex_field rfl hE rfl (fldty66_1 _ _)) ?_
                    intro a hE hS
                    refine v_all [22] (by kernel_rfl) rfl ?_
                    refine List.forall_mem_cons.2 ⟨?_, fun _ h => absurd h (by simp)⟩
                    ·
                      refine h_op rfl ?_
                      refine s_store1 (wk0 rfl) rfl hE hp rfl rfl rfl 5 rfl varty34.size_ (OwnSl.cells hp 7 rfl) (OwnSl.one hp 7 rfl) rfl [v25, v28, w5] rfl ?_
                      intro w hp
                      have hp : Hp Z ρ (_ :: _ :: _ :: _ :: _ :: Pt bc1 (.cells #[v25, v28, w5] 66 (0, 0)) :: _ :: _ :: _ :: _ :: L) w := hp
                      refine s_nil (and_with ⟨fun _ => ⟨_, hp⟩, fun _ => ⟨_, (hp.get 3 rfl)⟩, dead (by kernel_rfl), trivial⟩ fun hS => ?_)
                      refine v_take0 23 (wk0 rfl) rfl rfl rfl hE (by kernel_rfl) (by kernel_rfl) (by kernel_rfl) rfl (by kernel_rfl) hS (v := (.pointer (some ⟨bc1, 2, none⟩))) (fun _ => ex_field rfl hE rfl (fldty66_2 _ _)) ?_
                      intro a hE hS
                      refine v_all [24] (by kernel_rfl) rfl ?_
                      refine List.forall_mem_cons.2 ⟨?_, fun _ h => absurd h (by simp)⟩
                      ·
                        refine h_op rfl ?_
                        refine s_store1 (wk0 rfl) rfl hE hp rfl rfl rfl 5 rfl varty34.size_ (OwnSl.cells hp 8 rfl) (OwnSl.one hp 8 rfl) rfl [v25, v28, v29] rfl ?_
                        intro w hp
                        have hp : Hp Z ρ (_ :: _ :: _ :: _ :: _ :: Pt bc1 (.cells #[v25, v28, v29] 66 (0, 0)) :: _ :: _ :: _ :: _ :: L) w := hp
                        refine s_nil (and_with ⟨fun _ => ⟨_, hp⟩, fun _ => ⟨_, (hp.get 3 rfl)⟩, dead (by kernel_rfl), trivial⟩ fun hS => ?_)
                        exact v_done (by kernel_rfl) ⟨_, _, _, _, _, _, hE.cut trivial, ((((((((((hp.get 9 rfl).get 9 rfl).get 9 rfl).get 9 rfl).get 9 rfl).get 9 rfl).get 9 rfl).get 8 rfl).get 9 rfl).get 9 rfl)⟩
          ·
            refine h_op rfl ?_
            refine s_lit (wk0 rfl) rfl rfl hE hp rfl [(0, (.int .i64 c0))] ⟨⟨rfl, rfl⟩, trivial⟩ [(.int .i64 c0)] 3 (fun w => by simp [Instr.buildSlice, Instr.fill, Value.cells, go_sem]) ?_
            intro a w b25 hE hp
            have hp : Hp Z ρ (Pt b25 (.cells #[(.int .i64 c0)] 3 (0, 0)) :: _ :: _ :: _ :: _ :: _ :: _ :: _ :: _ :: _ :: L) w := hp
            refine s_nil (and_with ⟨fun _ => ⟨_, hp⟩, fun _ => ⟨_, (hp.get 3 rfl)⟩, fun _ => ⟨_, (hp.get 5 rfl)⟩, trivial⟩ fun hS => ?_)
            refine v_all [8] (by kernel_rfl) rfl ?_
            refine List.forall_mem_cons.2 ⟨?_, fun _ h => absurd h (by simp)⟩
            ·
              refine h_op rfl ?_
              refine s_app (wk0 rfl) rfl rfl hE hp rfl slty64 rfl rfl 6 rfl rfl (l2 := [(Lbl.mk p0.kind p0.text)]) rfl (fun j u hj => by have := Hp.cN 1 rfl 0 _ (sub_all rfl) w hp j u hj; simpa using this) ex5 ?_
              intro v30 a w hE hp
              have hp : Hp Z ρ (_ :: _ :: _ :: _ :: _ :: _ :: OwnSl 70 v30 x5 :: _ :: _ :: _ :: L) w := hp
              refine s_nil (and_with ⟨fun _ => ⟨_, hp⟩, fun _ => ⟨_, (hp.get 3 rfl)⟩, fun _ => ⟨_, (hp.get 5 rfl)⟩, trivial⟩ fun hS => ?_)
              refine v_take0 19 (wk0 rfl) rfl rfl rfl hE (by kernel_rfl) (by kernel_rfl) (by kernel_rfl) rfl (by kernel_rfl) hS (v := (.pointer (some ⟨bc1, 0, none⟩))) (fun _ => ex_field rfl hE rfl (fldty66_0 _ _)) ?_
              intro a hE hS
              refine v_all [13] (by kernel_rfl) rfl ?_
              refine List.forall_mem_cons.2 ⟨?_, fun _ h => absurd h (by simp)⟩
              ·
                refine h_op rfl ?_
                refine s_app (wk0 rfl) rfl rfl hE hp rfl slty34 rfl rfl 7 rfl rfl (l2 := [(c1.labels.length : Int)]) rfl (fun j u hj => by have := Hp.cN 2 rfl 0 _ (sub_all rfl) w hp j u hj; simpa using this) ex6 ?_
                intro v31 a w hE hp
                have hp : Hp Z ρ (_ :: _ :: _ :: _ :: _ :: _ :: _ :: OwnSl 3 v31 x6 :: _ :: _ :: L) w := hp
                refine s_nil (and_with ⟨fun _ => ⟨_, hp⟩, fun _ => ⟨_, (hp.get 3 rfl)⟩, fun _ => ⟨_, (hp.get 5 rfl)⟩, trivial⟩ fun hS => ?_)
                refine v_all [18] (by kernel_rfl) rfl ?_
                refine List.forall_mem_cons.2 ⟨?_, fun _ h => absurd h (by simp)⟩
                ·
                  refine h_op rfl ?_
                  refine s_app (wk0 rfl) rfl rfl hE hp rfl slty34 rfl rfl 8 rfl rfl (l2 := [c0]) rfl (fun j u hj => by have := Hp.cN 0 rfl 0 _ (sub_all rfl) w hp j u hj; simpa using this) ex7 ?_
                  intro v32 a w hE hp
                  have hp : Hp Z ρ (_ :: _ :: _ :: _ :: _ :: _ :: _ :: _ :: OwnSl 3 v32 x7 :: _ :: L) w := hp
                  refine s_nil (and_with ⟨fun _ => ⟨_, hp⟩, fun _ => ⟨_, (hp.get 3 rfl)⟩, fun _ => ⟨_, (hp.get 5 rfl)⟩, trivial⟩ fun hS => ?_)
                  refine v_all [20] (by kernel_rfl) rfl ?_
                  refine List.forall_mem_cons.2 ⟨?_, fun _ h => absurd h (by simp)⟩
                  ·
                    refine h_op rfl ?_
                    refine s_store1 (wk0 rfl) rfl hE hp rfl rfl rfl 5 rfl varty64.size_ (OwnSl.cells hp 6 rfl) (OwnSl.one hp 6 rfl) rfl [v30, w4, w5] rfl ?_
                    intro w hp
                    have hp : Hp Z ρ (_ :: _ :: _ :: _ :: _ :: Pt bc1 (.cells #[v30, w4, w5] 66 (0, 0)) :: _ :: _ :: _ :: _ :: L) w := hp
                    refine s_nil (and_with ⟨fun _ => ⟨_, hp⟩, fun _ => ⟨_, (hp.get 3 rfl)⟩, dead (by kernel_rfl), trivial⟩ fun hS => ?_)
                    refine v_take0 21 (wk0 rfl) rfl rfl rfl hE (by kernel_rfl) (by kernel_rfl) (by kernel_rfl) rfl (by kernel_rfl) hS (v := (.pointer (some ⟨bc1, 1, none⟩))) (fun _ => ex_field rfl hE rfl (fldty66_1 _ _)) ?_
                    intro a hE hS
                    refine v_all [22] (by kernel_rfl) rfl ?_
                    refine List.forall_mem_cons.2 ⟨?_, fun _ h => absurd h (by simp)⟩
                    ·
                      refine h_op rfl ?_
                      refine s_store1 (wk0 rfl) rfl hE hp rfl rfl rfl 5 rfl varty34.size_ (OwnSl.cells hp 7 rfl) (OwnSl.one hp 7 rfl) rfl [v30, v31, w5] rfl ?_
                      intro w hp
                      have hp : Hp Z ρ (_ :: _ :: _ :: _ :: _ :: Pt bc1 (.cells #[v30, v31, w5] 66 (0, 0)) :: _ :: _ :: _ :: _ :: L) w := hp
                      refine s_nil (and_with ⟨fun _ => ⟨_, hp⟩, fun _ => ⟨_, (hp.get 3 rfl)⟩, dead (by kernel_rfl), trivial⟩ fun hS => ?_)
                      refine v_take0 23 (wk0 rfl) rfl rfl rfl hE (by kernel_rfl) (by kernel_rfl) (by kernel_rfl) rfl (by kernel_rfl) hS (v := (.pointer (some ⟨bc1, 2, none⟩))) (fun _ => ex_field rfl hE rfl (fldty66_2 _ _)) ?_
                      intro a hE hS
                      refine v_all [24] (by kernel_rfl) rfl ?_
                      refine List.forall_mem_cons.2 ⟨?_, fun _ h => absurd h (by simp)⟩
                      ·
                        refine h_op rfl ?_
                        refine s_store1 (wk0 rfl) rfl hE hp rfl rfl rfl 5 rfl varty34.size_ (OwnSl.cells hp 8 rfl) (OwnSl.one hp 8 rfl) rfl [v30, v31, v32] rfl ?_
                        intro w hp
                        have hp : Hp Z ρ (_ :: _ :: _ :: _ :: _ :: Pt bc1 (.cells #[v30, v31, v32] 66 (0, 0)) :: _ :: _ :: _ :: _ :: L) w := hp
                        refine s_nil (and_with ⟨fun _ => ⟨_, hp⟩, fun _ => ⟨_, (hp.get 3 rfl)⟩, dead (by kernel_rfl), trivial⟩ fun hS => ?_)
                        exact v_done (by kernel_rfl) ⟨_, _, _, _, _, _, hE.cut trivial, ((((((((((hp.get 9 rfl).get 9 rfl).get 9 rfl).get 9 rfl).get 9 rfl).get 9 rfl).get 9 rfl).get 8 rfl).get 9 rfl).get 9 rfl)⟩
        ·
          refine h_op rfl ?_
          refine s_lit (wk0 rfl) rfl rfl hE hp rfl [(0, (.int .i64 c0))] ⟨⟨rfl, rfl⟩, trivial⟩ [(.int .i64 c0)] 3 (fun w => by simp [Instr.buildSlice, Instr.fill, Value.cells, go_sem]) ?_
          intro a w b26 hE hp
          have hp : Hp Z ρ (Pt b26 (.cells #[(.int .i64 c0)] 3 (0, 0)) :: _ :: _ :: _ :: _ :: _ :: _ :: _ :: _ :: L) w := hp
          refine s_nil (and_with ⟨fun _ => ⟨_, hp⟩, fun _ => ⟨_, (hp.get 2 rfl)⟩, fun _ => ⟨_, (hp.get 4 rfl)⟩, trivial⟩ fun hS => ?_)
          refine v_all [7] (by kernel_rfl) rfl ?_
          refine List.forall_mem_cons.2 ⟨?_, fun _ h => absurd h (by simp)⟩
          ·
            refine h_op rfl ?_
            refine s_lit (wk0 rfl) rfl rfl hE hp rfl [(0, (.agg #[(.int .i64 p0.kind), (.string p0.text)]))] ⟨⟨rfl, rfl⟩, trivial⟩ [(.int .i64 p0.kind), (.string p0.text)] 70 (fun w => by simp [Instr.buildSlice, Instr.fill, Value.cells, go_sem]) ?_
            intro a w b27 hE hp
            have hp : Hp Z ρ (Pt b27 (.cells #[(.int .i64 p0.kind), (.string p0.text)] 70 (0, 0)) :: _ :: _ :: _ :: _ :: _ :: _ :: _ :: _ :: _ :: L) w := hp
            refine s_nil (and_with ⟨fun _ => ⟨_, hp⟩, fun _ => ⟨_, (hp.get 3 rfl)⟩, fun _ => ⟨_, (hp.get 5 rfl)⟩, trivial⟩ fun hS => ?_)
            refine v_all [8] (by kernel_rfl) rfl ?_
            refine List.forall_mem_cons.2 ⟨?_, fun _ h => absurd h (by simp)⟩
            ·
              refine h_op rfl ?_
              refine s_app (wk0 rfl) rfl rfl hE hp rfl slty64 rfl rfl 6 rfl rfl (l2 := [(Lbl.mk p0.kind p0.text)]) rfl (fun j u hj => by have := Hp.cN 0 rfl 0 _ (sub_all rfl) w hp j u hj; simpa using this) ex5 ?_
              intro v33 a w hE hp
              have hp : Hp Z ρ (_ :: _ :: _ :: _ :: _ :: _ :: OwnSl 70 v33 x5 :: _ :: _ :: _ :: L) w := hp
              refine s_nil (and_with ⟨fun _ => ⟨_, hp⟩, fun _ => ⟨_, (hp.get 3 rfl)⟩, fun _ => ⟨_, (hp.get 5 rfl)⟩, trivial⟩ fun hS => ?_)
              refine v_take0 19 (wk0 rfl) rfl rfl rfl hE (by kernel_rfl) (by kernel_rfl) (by kernel_rfl) rfl (by kernel_rfl) hS (v := (.pointer (some ⟨bc1, 0, none⟩))) (fun _ => ex_field rfl hE rfl (fldty66_0 _ _)) ?_
              intro a hE hS
              refine v_all [13] (by kernel_rfl) rfl ?_
              refine List.forall_mem_cons.2 ⟨?_, fun _ h => absurd h (by simp)⟩
              ·
                refine h_op rfl ?_
                refine s_app (wk0 rfl) rfl rfl hE hp rfl slty34 rfl rfl 7 rfl rfl (l2 := [(c1.labels.length : Int)]) rfl (fun j u hj => by have := Hp.cN 2 rfl 0 _ (sub_all rfl) w hp j u hj; simpa using this) ex6 ?_
                intro v34 a w hE hp
                have hp : Hp Z ρ (_ :: _ :: _ :: _ :: _ :: _ :: _ :: OwnSl 3 v34 x6 :: _ :: _ :: L) w := hp
                refine s_nil (and_with ⟨fun _ => ⟨_, hp⟩, fun _ => ⟨_, (hp.get 3 rfl)⟩, fun _ => ⟨_, (hp.get 5 rfl)⟩, trivial⟩ fun hS => ?_)
                refine v_all [18] (by kernel_rfl) rfl ?_
                refine List.forall_mem_cons.2 ⟨?_, fun _ h => absurd h (by simp)⟩
                ·
                  refine h_op rfl ?_
                  refine s_app (wk0 rfl) rfl rfl hE hp rfl slty34 rfl rfl 8 rfl rfl (l2 := [c0]) rfl (fun j u hj => by have := Hp.cN 1 rfl 0 _ (sub_all rfl) w hp j u hj; simpa using this) ex7 ?_
                  intro v35 a w hE hp
                  have hp : Hp Z ρ (_ :: _ :: _ :: _ :: _ :: _ :: _ :: _ :: OwnSl 3 v35 x7 :: _ :: L) w := hp
                  refine s_nil (and_with ⟨fun _ => ⟨_, hp⟩, fun _ => ⟨_, (hp.get 3 rfl)⟩, fun _ => ⟨_, (hp.get 5 rfl)⟩, trivial⟩ fun hS => ?_)
                  refine v_all [20] (by kernel_rfl) rfl ?_
                  refine List.forall_mem_cons.2 ⟨?_, fun _ h => absurd h (by simp)⟩
                  ·
                    refine h_op rfl ?_
                    refine s_store1 (wk0 rfl) rfl hE hp rfl rfl rfl 5 rfl varty64.size_ (OwnSl.cells hp 6 rfl) (OwnSl.one hp 6 rfl) rfl [v33, w4, w5] rfl ?_
                    intro w hp
                    have hp : Hp Z ρ (_ :: _ :: _ :: _ :: _ :: Pt bc1 (.cells #[v33, w4, w5] 66 (0, 0)) :: _ :: _ :: _ :: _ :: L) w := hp
                    refine s_nil (and_with ⟨fun _ => ⟨_, hp⟩, fun _ => ⟨_, (hp.get 3 rfl)⟩, dead (by kernel_rfl), trivial⟩ fun hS => ?_)
                    refine v_take0 21 (wk0 rfl) rfl rfl rfl hE (by kernel_rfl) (by kernel_rfl) (by kernel_rfl) rfl (by kernel_rfl) hS (v := (.pointer (some ⟨bc1, 1, none⟩))) (fun _ => ex_field rfl hE rfl (fldty66_1 _ _)) ?_
                    intro a hE hS
                    refine v_all [22] (by kernel_rfl) rfl ?_
                    refine List.forall_mem_cons.2 ⟨?_, fun _ h => absurd h (by simp)⟩
                    ·
                      refine h_op rfl ?_
                      refine s_store1 (wk0 rfl) rfl hE hp rfl rfl rfl 5 rfl varty34.size_ (OwnSl.cells hp 7 rfl) (OwnSl.one hp 7 rfl) rfl [v33, v34, w5] rfl ?_
                      intro w hp
                      have hp : Hp Z ρ (_ :: _ :: _ :: _ :: _ :: Pt bc1 (.cells #[v33, v34, w5] 66 (0, 0)) :: _ :: _ :: _ :: _ :: L) w := hp
                      refine s_nil (and_with ⟨fun _ => ⟨_, hp⟩, fun _ => ⟨_, (hp.get 3 rfl)⟩, dead (by kernel_rfl), trivial⟩ fun hS => ?_)
                      refine v_take0 23 (wk0 rfl) rfl rfl rfl hE (by kernel_rfl) (by kernel_rfl) (by kernel_rfl) rfl (by kernel_rfl) hS (v := (.pointer (some ⟨bc1, 2, none⟩))) (fun _ => ex_field rfl hE rfl (fldty66_2 _ _)) ?_
                      intro a hE hS
                      refine v_all [24] (by kernel_rfl) rfl ?_
                      refine List.forall_mem_cons.2 ⟨?_, fun _ h => absurd h (by simp)⟩
                      ·
                        refine h_op rfl ?_
                        refine s_store1 (wk0 rfl) rfl hE hp rfl rfl rfl 5 rfl varty34.size_ (OwnSl.cells hp 8 rfl) (OwnSl.one hp 8 rfl) rfl [v33, v34, v35] rfl ?_
                        intro w hp
                        have hp : Hp Z ρ (_ :: _ :: _ :: _ :: _ :: Pt bc1 (.cells #[v33, v34, v35] 66 (0, 0)) :: _ :: _ :: _ :: _ :: L) w := hp
                        refine s_nil (and_with ⟨fun _ => ⟨_, hp⟩, fun _ => ⟨_, (hp.get 3 rfl)⟩, dead (by kernel_rfl), trivial⟩ fun hS => ?_)
                        exact v_done (by kernel_rfl) ⟨_, _, _, _, _, _, hE.cut trivial, ((((((((((hp.get 9 rfl).get 9 rfl).get 9 rfl).get 9 rfl).get 9 rfl).get 9 rfl).get 9 rfl).get 7 rfl).get 9 rfl).get 9 rfl)⟩
      ·
        refine h_op rfl ?_
        refine s_lit (wk0 rfl) rfl rfl hE hp rfl [(0, (.int .i64 c0))] ⟨⟨rfl, rfl⟩, trivial⟩ [(.int .i64 c0)] 3 (fun w => by simp [Instr.buildSlice, Instr.fill, Value.cells, go_sem]) ?_
        intro a w b28 hE hp
        have hp : Hp Z ρ (Pt b28 (.cells #[(.int .i64 c0)] 3 (0, 0)) :: _ :: Pt bc0 (.cells #[(.int .i64 b2.1)] 3 (0, 0)) :: Pt bc1 (.cells #[w3, w4, w5] 66 (0, 0)) :: OwnSl 70 w3 b2.2.1 :: OwnSl 3 w4 b2.2.2.1 :: OwnSl 3 w5 b2.2.2.2 :: _ :: L) w := hp
        refine s_nil (and_with ⟨fun _ => ⟨_, hp⟩, fun _ => ⟨_, (hp.get 1 rfl)⟩, fun _ => ⟨_, (hp.get 3 rfl)⟩, trivial⟩ fun hS => ?_)
        refine v_all [7, 12] (by kernel_rfl) rfl ?_
        refine List.forall_mem_cons.2 ⟨?_, List.forall_mem_cons.2 ⟨?_, fun _ h => absurd h (by simp)⟩⟩
        ·
          refine h_op rfl ?_
          refine s_lit (wk0 rfl) rfl rfl hE hp rfl [(0, (.agg #[(.int .i64 p0.kind), (.string p0.text)]))] ⟨⟨rfl, rfl⟩, trivial⟩ [(.int .i64 p0.kind), (.string p0.text)] 70 (fun w => by simp [Instr.buildSlice, Instr.fill, Value.cells, go_sem]) ?_
          intro a w b29 hE hp
          have hp : Hp Z ρ (Pt b29 (.cells #[(.int .i64 p0.kind), (.string p0.text)] 70 (0, 0)) :: _ :: _ :: _ :: _ :: _ :: _ :: _ :: _ :: L) w := hp
          refine s_nil (and_with ⟨fun _ => ⟨_, hp⟩, fun _ => ⟨_, (hp.get 2 rfl)⟩, fun _ => ⟨_, (hp.get 4 rfl)⟩, trivial⟩ fun hS => ?_)
          refine v_all [8, 12] (by kernel_rfl) rfl ?_
          refine List.forall_mem_cons.2 ⟨?_, List.forall_mem_cons.2 ⟨?_, fun _ h => absurd h (by simp)⟩⟩
          ·
            refine h_op rfl ?_
            refine s_app (wk0 rfl) rfl rfl hE hp rfl slty64 rfl rfl 5 rfl rfl (l2 := [(Lbl.mk p0.kind p0.text)]) rfl (fun j u hj => by have := Hp.cN 0 rfl 0 _ (sub_all rfl) w hp j u hj; simpa using this) ex5 ?_
            intro v36 a w hE hp
            have hp : Hp Z ρ (_ :: _ :: _ :: _ :: _ :: OwnSl 70 v36 x5 :: _ :: _ :: _ :: L) w := hp
            refine s_nil (and_with ⟨fun _ => ⟨_, hp⟩, fun _ => ⟨_, (hp.get 2 rfl)⟩, fun _ => ⟨_, (hp.get 4 rfl)⟩, trivial⟩ fun hS => ?_)
            refine v_take0 19 (wk0 rfl) rfl rfl rfl hE (by kernel_rfl) (by kernel_rfl) (by kernel_rfl) rfl (by kernel_rfl) hS (v := (.pointer (some ⟨bc1, 0, none⟩))) (fun _ => ex_field rfl hE rfl (fldty66_0 _ _)) ?_
            intro a hE hS
            refine v_all [12] (by kernel_rfl) rfl ?_
            refine List.forall_mem_cons.2 ⟨?_, fun _ h => absurd h (by simp)⟩
            ·
              refine h_op rfl ?_
              refine s_lit (wk0 rfl) rfl rfl hE hp rfl [(0, (.int .i64 (c1.labels.length : Int)))] ⟨⟨rfl, rfl⟩, trivial⟩ [(.int .i64 (c1.labels.length : Int))] 3 (fun w => by simp [Instr.buildSlice, Instr.fill, Value.cells, go_sem]) ?_
              intro a w b30 hE hp
              have hp : Hp Z ρ (Pt b30 (.cells #[(.int .i64 (c1.labels.length : Int))] 3 (0, 0)) :: _ :: _ :: _ :: _ :: _ :: _ :: _ :: _ :: _ :: L) w := hp
              refine s_nil (and_with ⟨fun _ => ⟨_, hp⟩, fun _ => ⟨_, (hp.get 3 rfl)⟩, fun _ => ⟨_, (hp.get 5 rfl)⟩, trivial⟩ fun hS => ?_)
              refine v_all [13] (by kernel_rfl) rfl ?_
              refine List.forall_mem_cons.2 ⟨?_, fun _ h => absurd h (by simp)⟩
              ·
                refine h_op rfl ?_
                refine s_app (wk0 rfl) rfl rfl hE hp rfl slty34 rfl rfl 7 rfl rfl (l2 := [(c1.labels.length : Int)]) rfl (fun j u hj => by have := Hp.cN 0 rfl 0 _ (sub_all rfl) w hp j u hj; simpa using this) ex6 ?_
                intro v37 a w hE hp
                have hp : Hp Z ρ (_ :: _ :: _ :: _ :: _ :: _ :: _ :: OwnSl 3 v37 x6 :: _ :: _ :: L) w := hp
                refine s_nil (and_with ⟨fun _ => ⟨_, hp⟩, fun _ => ⟨_, (hp.get 3 rfl)⟩, fun _ => ⟨_, (hp.get 5 rfl)⟩, trivial⟩ fun hS => ?_)
                refine v_all [18] (by kernel_rfl) rfl ?_
                refine List.forall_mem_cons.2 ⟨?_, fun _ h => absurd h (by simp)⟩
                ·
                  refine h_op rfl ?_
                  refine s_app (wk0 rfl) rfl rfl hE hp rfl slty34 rfl rfl 8 rfl rfl (l2 := [c0]) rfl (fun j u hj => by have := Hp.cN 2 rfl 0 _ (sub_all rfl) w hp j u hj; simpa using this) ex7 ?_
                  intro v38 a w hE hp
                  have hp : Hp Z ρ (_ :: _ :: _ :: _ :: _ :: _ :: _ :: _ :: OwnSl 3 v38 x7 :: _ :: L) w := hp
                  refine s_nil (and_with ⟨fun _ => ⟨_, hp⟩, fun _ => ⟨_, (hp.get 3 rfl)⟩, fun _ => ⟨_, (hp.get 5 rfl)⟩, trivial⟩ fun hS => ?_)
                  refine v_all [20] (by kernel_rfl) rfl ?_
                  refine List.forall_mem_cons.2 ⟨?_, fun _ h => absurd h (by simp)⟩
                  ·
                    refine h_op rfl ?_
                    refine s_store1 (wk0 rfl) rfl hE hp rfl rfl rfl 5 rfl varty64.size_ (OwnSl.cells hp 6 rfl) (OwnSl.one hp 6 rfl) rfl [v36, w4, w5] rfl ?_
                    intro w hp
                    have hp : Hp Z ρ (_ :: _ :: _ :: _ :: _ :: Pt bc1 (.cells #[v36, w4, w5] 66 (0, 0)) :: _ :: _ :: _ :: _ :: L) w := hp
                    refine s_nil (and_with ⟨fun _ => ⟨_, hp⟩, fun _ => ⟨_, (hp.get 3 rfl)⟩, dead (by kernel_rfl), trivial⟩ fun hS => ?_)
                    refine v_take0 21 (wk0 rfl) rfl rfl rfl hE (by kernel_rfl) (by kernel_rfl) (by kernel_rfl) rfl (by kernel_rfl) hS (v := (.pointer (some ⟨bc1, 1, none⟩))) (fun _ => ex_field rfl hE rfl (fldty66_1 _ _)) ?_
                    intro a hE hS
                    refine v_all [22] (by kernel_rfl) rfl ?_
                    refine List.forall_mem_cons.2 ⟨?_, fun _ h => absurd h (by simp)⟩
                    ·
                      refine h_op rfl ?_
                      refine s_store1 (wk0 rfl) rfl hE hp rfl rfl rfl 5 rfl varty34.size_ (OwnSl.cells hp 7 rfl) (OwnSl.one hp 7 rfl) rfl [v36, v37, w5] rfl ?_
                      intro w hp
                      have hp : Hp Z ρ (_ :: _ :: _ :: _ :: _ :: Pt bc1 (.cells #[v36, v37, w5] 66 (0, 0)) :: _ :: _ :: _ :: _ :: L) w := hp
                      refine s_nil (and_with ⟨fun _ => ⟨_, hp⟩, fun _ => ⟨_, (hp.get 3 rfl)⟩, dead (by kernel_rfl), trivial⟩ fun hS => ?_)
                      refine v_take0 23 (wk0 rfl) rfl rfl rfl hE (by kernel_rfl) (by kernel_rfl) (by kernel_rfl) rfl (by kernel_rfl) hS (v := (.pointer (some ⟨bc1, 2, none⟩))) (fun _ => ex_field rfl hE rfl (fldty66_2 _ _)) ?_
                      intro a hE hS
                      refine v_all [24] (by kernel_rfl) rfl ?_
                      refine List.forall_mem_cons.2 ⟨?_, fun _ h => absurd h (by simp)⟩
                      ·
                        refine h_op rfl ?_
                        refine s_store1 (wk0 rfl) rfl hE hp rfl rfl rfl 5 rfl varty34.size_ (OwnSl.cells hp 8 rfl) (OwnSl.one hp 8 rfl) rfl [v36, v37, v38] rfl ?_
                        intro w hp
                        have hp : Hp Z ρ (_ :: _ :: _ :: _ :: _ :: Pt bc1 (.cells #[v36, v37, v38] 66 (0, 0)) :: _ :: _ :: _ :: _ :: L) w := hp
                        refine s_nil (and_with ⟨fun _ => ⟨_, hp⟩, fun _ => ⟨_, (hp.get 3 rfl)⟩, dead (by kernel_rfl), trivial⟩ fun hS => ?_)
                        exact v_done (by kernel_rfl) ⟨_, _, _, _, _, _, hE.cut trivial, ((((((((((hp.get 9 rfl).get 9 rfl).get 9 rfl).get 9 rfl).get 9 rfl).get 9 rfl).get 9 rfl).get 8 rfl).get 8 rfl).get 9 rfl)⟩
          ·
            refine h_op rfl ?_
            refine s_lit (wk0 rfl) rfl rfl hE hp rfl [(0, (.int .i64 (c1.labels.length : Int)))] ⟨⟨rfl, rfl⟩, trivial⟩ [(.int .i64 (c1.labels.length : Int))] 3 (fun w => by simp [Instr.buildSlice, Instr.fill, Value.cells, go_sem]) ?_
            intro a w b31 hE hp
            have hp : Hp Z ρ (Pt b31 (.cells #[(.int .i64 (c1.labels.length : Int))] 3 (0, 0)) :: _ :: _ :: _ :: _ :: _ :: _ :: _ :: _ :: _ :: L) w := hp
            refine s_nil (and_with ⟨fun _ => ⟨_, hp⟩, fun _ => ⟨_, (hp.get 3 rfl)⟩, fun _ => ⟨_, (hp.get 5 rfl)⟩, trivial⟩ fun hS => ?_)
            refine v_all [8] (by kernel_rfl) rfl ?_
            refine List.forall_mem_cons.2 ⟨?_, fun _ h => absurd h (by simp)⟩
            ·
              refine h_op rfl ?_
              refine s_app (wk0 rfl) rfl rfl hE hp rfl slty64 rfl rfl 6 rfl rfl (l2 := [(Lbl.mk p0.kind p0.text)]) rfl (fun j u hj => by have := Hp.cN 1 rfl 0 _ (sub_all rfl) w hp j u hj; simpa using this) ex5 ?_
              intro v39 a w hE hp
              have hp : Hp Z ρ (_ :: _ :: _ :: _ :: _ :: _ :: OwnSl 70 v39 x5 :: _ :: _ :: _ :: L) w := hp
              refine s_nil (and_with ⟨fun _ => ⟨_, hp⟩, fun _ => ⟨_, (hp.get 3 rfl)⟩, fun _ => ⟨_, (hp.get 5 rfl)⟩, trivial⟩ fun hS => ?_)
              refine v_take0 19 (wk0 rfl) rfl rfl rfl hE (by kernel_rfl) (by kernel_rfl) (by kernel_rfl) rfl (by kernel_rfl) hS (v := (.pointer (some ⟨bc1, 0, none⟩))) (fun _ => ex_field rfl hE rfl (fldty66_0 _ _)) ?_
              intro a hE hS
              refine v_all [13] (by kernel_rfl) rfl ?_
              refine List.forall_mem_cons.2 ⟨?_, fun _ h => absurd h (by simp)⟩
              ·
                refine h_op rfl ?_
                refine s_app (wk0 rfl) rfl rfl hE hp rfl slty34 rfl rfl 7 rfl rfl (l2 := [(c1.labels.length : Int)]) rfl (fun j u hj => by have := Hp.cN 0 rfl 0 _ (sub_all rfl) w hp j u hj; simpa using this) ex6 ?_
                intro v40 a w hE hp
                have hp : Hp Z ρ (_ :: _ :: _ :: _ :: _ :: _ :: _ :: OwnSl 3 v40 x6 :: _ :: _ :: L) w := hp
                refine s_nil (and_with ⟨fun _ => ⟨_, hp⟩, fun _ => ⟨_, (hp.get 3 rfl)⟩, fun _ => ⟨_, (hp.get 5 rfl)⟩, trivial⟩ fun hS => ?_)
                refine v_all [18] (by kernel_rfl) rfl ?_
                refine List.forall_mem_cons.2 ⟨?_, fun _ h => absurd h (by simp)⟩
                ·
                  refine h_op rfl ?_
                  refine s_app (wk0 rfl) rfl rfl hE hp rfl slty34 rfl rfl 8 rfl rfl (l2 := [c0]) rfl (fun j u hj => by have := Hp.cN 2 rfl 0 _ (sub_all rfl) w hp j u hj; simpa using this) ex7 ?_
                  intro v41 a w hE hp
                  have hp : Hp Z ρ (_ :: _ :: _ :: _ :: _ :: _ :: _ :: _ :: OwnSl 3 v41 x7 :: _ :: L) w := hp
                  refine s_nil (and_with ⟨fun _ => ⟨_, hp⟩, fun _ => ⟨_, (hp.get 3 rfl)⟩, fun _ => ⟨_, (hp.get 5 rfl)⟩, trivial⟩ fun hS => ?_)
                  refine v_all [20] (by kernel_rfl) rfl ?_
                  refine List.forall_mem_cons.2 ⟨?_, fun _ h => absurd h (by simp)⟩
                  ·
                    refine h_op rfl ?_
                    refine s_store1 (wk0 rfl) rfl hE hp rfl rfl rfl 5 rfl varty64.size_ (OwnSl.cells hp 6 rfl) (OwnSl.one hp 6 rfl) rfl [v39, w4, w5] rfl ?_
                    intro w hp
                    have hp : Hp Z ρ (_ :: _ :: _ :: _ :: _ :: Pt bc1 (.cells #[v39, w4, w5] 66 (0, 0)) :: _ :: _ :: _ :: _ :: L) w := hp
                    refine s_nil (and_with ⟨fun _ => ⟨_, hp⟩, fun _ => ⟨_, (hp.get 3 rfl)⟩, dead (by kernel_rfl), trivial⟩ fun hS => ?_)
                    refine v_take0 21 (wk0 rfl) rfl rfl rfl hE (by kernel_rfl) (by kernel_rfl) (by kernel_rfl) rfl (by kernel_rfl) hS (v := (.pointer (some ⟨bc1, 1, none⟩))) (fun _ => ex_field rfl hE rfl (fldty66_1 _ _)) ?_
                    intro a hE hS
                    refine v_all [22] (by kernel_rfl) rfl ?_
                    refine List.forall_mem_cons.2 ⟨?_, fun _ h => absurd h (by simp)⟩
                    ·
                      refine h_op rfl ?_
                      refine s_store1 (wk0 rfl) rfl hE hp rfl rfl rfl 5 rfl varty34.size_ (OwnSl.cells hp 7 rfl) (OwnSl.one hp 7 rfl) rfl [v39, v40, w5] rfl ?_
                      intro w hp
                      have hp : Hp Z ρ (_ :: _ :: _ :: _ :: _ :: Pt bc1 (.cells #[v39, v40, w5] 66 (0, 0)) :: _ :: _ :: _ :: _ :: L) w := hp
                      refine s_nil (and_with ⟨fun _ => ⟨_, hp⟩, fun _ => ⟨_, (hp.get 3 rfl)⟩, dead (by kernel_rfl), trivial⟩ fun hS => ?_)
                      refine v_take0 23 (wk0 rfl) rfl rfl rfl hE (by kernel_rfl) (by kernel_rfl) (by kernel_rfl) rfl (by kernel_rfl) hS (v := (.pointer (some ⟨bc1, 2, none⟩))) (fun _ => ex_field rfl hE rfl (fldty66_2 _ _)) ?_
                      intro a hE hS
                      refine v_all [24] (by kernel_rfl) rfl ?_
                      refine List.forall_mem_cons.2 ⟨?_, fun _ h => absurd h (by simp)⟩
                      ·
                        refine h_op rfl ?_
                        refine s_store1 (wk0 rfl) rfl hE hp rfl rfl rfl 5 rfl varty34.size_ (OwnSl.cells hp 8 rfl) (OwnSl.one hp 8 rfl) rfl [v39, v40, v41] rfl ?_
                        intro w hp
                        have hp : Hp Z ρ (_ :: _ :: _ :: _ :: _ :: Pt bc1 (.cells #[v39, v40, v41] 66 (0, 0)) :: _ :: _ :: _ :: _ :: L) w := hp
                        refine s_nil (and_with ⟨fun _ => ⟨_, hp⟩, fun _ => ⟨_, (hp.get 3 rfl)⟩, dead (by kernel_rfl), trivial⟩ fun hS => ?_)
                        exact v_done (by kernel_rfl) ⟨_, _, _, _, _, _, hE.cut trivial, ((((((((((hp.get 9 rfl).get 9 rfl).get 9 rfl).get 9 rfl).get 9 rfl).get 9 rfl).get 9 rfl).get 8 rfl).get 8 rfl).get 9 rfl)⟩
        ·
          refine h_op rfl ?_
          refine s_lit (wk0 rfl) rfl rfl hE hp rfl [(0, (.int .i64 (c1.labels.length : Int)))] ⟨⟨rfl, rfl⟩, trivial⟩ [(.int .i64 (c1.labels.length : Int))] 3 (fun w => by simp [Instr.buildSlice, Instr.fill, Value.cells, go_sem]) ?_
          intro a w b32 hE hp
          have hp : Hp Z ρ (Pt b32 (.cells #[(.int .i64 (c1.labels.length : Int))] 3 (0, 0)) :: _ :: _ :: _ :: _ :: _ :: _ :: _ :: _ :: L) w := hp
          refine s_nil (and_with ⟨fun _ => ⟨_, hp⟩, fun _ => ⟨_, (hp.get 2 rfl)⟩, fun _ => ⟨_, (hp.get 4 rfl)⟩, trivial⟩ fun hS => ?_)
          refine v_all [7] (by kernel_rfl) rfl ?_
          refine List.forall_mem_cons.2 ⟨?_, fun _ h => absurd h (by simp)⟩
          ·
            refine h_op rfl ?_
            refine s_lit (wk0 rfl) rfl rfl hE hp rfl [(0, (.agg #[(.int .i64 p0.kind), (.string p0.text)]))] ⟨⟨rfl, rfl⟩, trivial⟩ [(.int .i64 p0.kind), (.string p0.text)] 70 (fun w => by simp [Instr.buildSlice, Instr.fill, Value.cells, go_sem]) ?_
            intro a w b33 hE hp
            have hp : Hp Z ρ (Pt b33 (.cells #[(.int .i64 p0.kind), (.string p0.text)] 70 (0, 0)) :: _ :: _ :: _ :: _ :: _ :: _ :: _ :: _ :: _ :: L) w := hp
            refine s_nil (and_with ⟨fun _ => ⟨_, hp⟩, fun _ => ⟨_, (hp.get 3 rfl)⟩, fun _ => ⟨_, (hp.get 5 rfl)⟩, trivial⟩ fun hS => ?_)
            refine v_all [8] (by kernel_rfl) rfl ?_
            refine List.forall_mem_cons.2 ⟨?_, fun _ h => absurd h (by simp)⟩
            ·
              refine h_op rfl ?_
              refine s_app (wk0 rfl) rfl rfl hE hp rfl slty64 rfl rfl 6 rfl rfl (l2 := [(Lbl.mk p0.kind p0.text)]) rfl (fun j u hj => by have := Hp.cN 0 rfl 0 _ (sub_all rfl) w hp j u hj; simpa using this) ex5 ?_
              intro v42 a w hE hp
              have hp : Hp Z ρ (_ :: _ :: _ :: _ :: _ :: _ :: OwnSl 70 v42 x5 :: _ :: _ :: _ :: L) w := hp
              refine s_nil (and_with ⟨fun _ => ⟨_, hp⟩, fun _ => ⟨_, (hp.get 3 rfl)⟩, fun _ => ⟨_, (hp.get 5 rfl)⟩, trivial⟩ fun hS => ?_)
              refine v_take0 19 (wk0 rfl) rfl rfl rfl hE (by kernel_rfl) (by kernel_rfl) (by kernel_rfl) rfl (by kernel_rfl) hS (v := (.pointer (some ⟨bc1, 0, none⟩))) (fun _ => ex_field rfl hE rfl (fldty66_0 _ _)) ?_
              intro a hE hS
              refine v_all [13] (by kernel_rfl) rfl ?_
              refine List.forall_mem_cons.2 ⟨?_, fun _ h => absurd h (by simp)⟩
              ·
                refine h_op rfl ?_
                refine s_app (wk0 rfl) rfl rfl hE hp rfl slty34 rfl rfl 7 rfl rfl (l2 := [(c1.labels.length : Int)]) rfl (fun j u hj => by have := Hp.cN 1 rfl 0 _ (sub_all rfl) w hp j u hj; simpa using this) ex6 ?_
                intro v43 a w hE hp
                have hp : Hp Z ρ (_ :: _ :: _ :: _ :: _ :: _ :: _ :: OwnSl 3 v43 x6 :: _ :: _ :: L) w := hp
                refine s_nil (and_with ⟨fun _ => ⟨_, hp⟩, fun _ => ⟨_, (hp.get 3 rfl)⟩, fun _ => ⟨_, (hp.get 5 rfl)⟩, trivial⟩ fun hS => ?_)
                refine v_all [18] (by kernel_rfl) rfl ?_
                refine List.forall_mem_cons.2 ⟨?_, fun _ h => absurd h (by simp)⟩
                ·
                  refine h_op rfl ?_
                  refine s_app (wk0 rfl) rfl rfl hE hp rfl slty34 rfl rfl 8 rfl rfl (l2 := [c0]) rfl (fun j u hj => by have := Hp.cN 2 rfl 0 _ (sub_all rfl) w hp j u hj; simpa using this) ex7 ?_
                  intro v44 a w hE hp
                  have hp : Hp Z ρ (_ :: _ :: _ :: _ :: _ :: _ :: _ :: _ :: OwnSl 3 v44 x7 :: _ :: L) w := hp
                  refine s_nil (and_with ⟨fun _ => ⟨_, hp⟩, fun _ => ⟨_, (hp.get 3 rfl)⟩, fun _ => ⟨_, (hp.get 5 rfl)⟩, trivial⟩ fun hS => ?_)
                  refine v_all [20] (by kernel_rfl) rfl ?_
                  refine List.forall_mem_cons.2 ⟨?_, fun _ h => absurd h (by simp)⟩
                  ·
                    refine h_op rfl ?_
                    refine s_store1 (wk0 rfl) rfl hE hp rfl rfl rfl 5 rfl varty64.size_ (OwnSl.cells hp 6 rfl) (OwnSl.one hp 6 rfl) rfl [v42, w4, w5] rfl ?_
                    intro w hp
                    have hp : Hp Z ρ (_ :: _ :: _ :: _ :: _ :: Pt bc1 (.cells #[v42, w4, w5] 66 (0, 0)) :: _ :: _ :: _ :: _ :: L) w := hp
                    refine s_nil (and_with ⟨fun _ => ⟨_, hp⟩, fun _ => ⟨_, (hp.get 3 rfl)⟩, dead (by kernel_rfl), trivial⟩ fun hS => ?_)
                    refine v_take0 21 (wk0 rfl) rfl rfl rfl hE (by kernel_rfl) (by kernel_rfl) (by kernel_rfl) rfl (by kernel_rfl) hS (v := (.pointer (some ⟨bc1, 1, none⟩))) (fun _ => ex_field rfl hE rfl (fldty66_1 _ _)) ?_
                    intro a hE hS
                    refine v_all [22] (by kernel_rfl) rfl ?_
                    refine List.forall_mem_cons.2 ⟨?_, fun _ h => absurd h (by simp)⟩
                    ·
                      refine h_op rfl ?_
                      refine s_store1 (wk0 rfl) rfl hE hp rfl rfl rfl 5 rfl varty34.size_ (OwnSl.cells hp 7 rfl) (OwnSl.one hp 7 rfl) rfl [v42, v43, w5] rfl ?_
                      intro w hp
                      have hp : Hp Z ρ (_ :: _ :: _ :: _ :: _ :: Pt bc1 (.cells #[v42, v43, w5] 66 (0, 0)) :: _ :: _ :: _ :: _ :: L) w := hp
                      refine s_nil (and_with ⟨fun _ => ⟨_, hp⟩, fun _ => ⟨_, (hp.get 3 rfl)⟩, dead (by kernel_rfl), trivial⟩ fun hS => ?_)
                      refine v_take0 23 (wk0 rfl) rfl rfl rfl hE (by kernel_rfl) (by kernel_rfl) (by kernel_rfl) rfl (by kernel_rfl) hS (v := (.pointer (some ⟨bc1, 2, none⟩))) (fun _ => ex_field rfl hE rfl (fldty66_2 _ _)) ?_
                      intro a hE hS
                      refine v_all [24] (by kernel_rfl) rfl ?_
                      refine List.forall_mem_cons.2 ⟨?_, fun _ h => absurd h (by simp)⟩
                      ·
                        refine h_op rfl ?_
                        refine s_store1 (wk0 rfl) rfl hE hp rfl rfl rfl 5 rfl varty34.size_ (OwnSl.cells hp 8 rfl) (OwnSl.one hp 8 rfl) rfl [v42, v43, v44] rfl ?_
                        intro w hp
                        have hp : Hp Z ρ (_ :: _ :: _ :: _ :: _ :: Pt bc1 (.cells #[v42, v43, v44] 66 (0, 0)) :: _ :: _ :: _ :: _ :: L) w := hp
                        refine s_nil (and_with ⟨fun _ => ⟨_, hp⟩, fun _ => ⟨_, (hp.get 3 rfl)⟩, dead (by kernel_rfl), trivial⟩ fun hS => ?_)
                        exact v_done (by kernel_rfl) ⟨_, _, _, _, _, _, hE.cut trivial, ((((((((((hp.get 9 rfl).get 9 rfl).get 9 rfl).get 9 rfl).get 9 rfl).get 9 rfl).get 9 rfl).get 7 rfl).get 8 rfl).get 9 rfl)⟩
    · rintro a w ⟨y15, y14, y13, y3, y4, y5, hE, hp⟩
      obtain rfl := Option.some.inj hm
      exact ret0n hE rfl ⟨_, rfl, _, _, _, rfl, (((((((hp.get 3 rfl).drop).get 2 rfl).drop).get 1 rfl).drop).drop)⟩
theorem c_distance_flatten_1_r : ∀ (n : Nat), ∀ {Z : World} {ρ : PH} {L : List Atom} {w : World} (p0 : Node) (vp0_kids : Value) (hp0_kids : RoSl ρ vp0_kids p0.kids) (bc0 : Nat) (c0 : Int) (bc1 : Nat) (c1 : DFlat) (vc1_labels : Value) (vc1_left : Value) (vc1_numbers : Value) (bc2 : Nat) (hp : Hp Z ρ (Pt bc0 (.cells #[(.int .i64 c0)] 3 (0, 0)) :: Pt bc1 (.cells #[vc1_labels, vc1_left, vc1_numbers] 66 (0, 0)) :: OwnSl 70 vc1_labels c1.labels :: OwnSl 3 vc1_left c1.left :: OwnSl 3 vc1_numbers c1.numbers :: Pt bc2 (.cells #[(.func (.func 43) #[] #[(.pointer (some ⟨bc0, 0, none⟩)), (.pointer (some ⟨bc1, 0, none⟩)), (.pointer (some ⟨bc2, 0, none⟩))])] 80 (0, 0)) :: L) w) (r : (Int × DFlat)) (hm : m_distance_flatten_1_r n p0 c0 c1 = some r), Calls Try.prog 43 #[(.agg #[(.int .i64 p0.kind), (.string p0.text), (.int .i64 p0.at_), (.int .i64 p0.fin), vp0_kids]), (.pointer (some ⟨bc0, 0, none⟩)), (.pointer (some ⟨bc1, 0, none⟩)), (.pointer (some ⟨bc2, 0, none⟩))] w (Ret fun v w' => ∃ (vzc1_labels : Value) (vzc1_left : Value) (vzc1_numbers : Value), v = .tuple #[] ∧ Hp Z ρ (Pt bc0 (.cells #[(.int .i64 r.1)] 3 (0, 0)) :: Pt bc1 (.cells #[vzc1_labels, vzc1_left, vzc1_numbers] 66 (0, 0)) :: OwnSl 70 vzc1_labels r.2.labels :: OwnSl 3 vzc1_left r.2.left :: OwnSl 3 vzc1_numbers r.2.numbers :: Pt bc2 (.cells #[(.func (.func 43) #[] #[(.pointer (some ⟨bc0, 0, none⟩)), (.pointer (some ⟨bc1, 0, none⟩)), (.pointer (some ⟨bc2, 0, none⟩))])] 80 (0, 0)) :: L) w') := by
  intro n
  induction n with
  | zero => intro Z ρ L w p0 vp0_kids hp0_kids bc0 c0 bc1 c1 vc1_labels vc1_left vc1_numbers bc2 hp r hm; cases hm
  | succ n ih => intro Z ρ L w p0 vp0_kids hp0_kids bc0 c0 bc1 c1 vc1_labels vc1_left vc1_numbers bc2 hp r hm; exact c_distance_flatten_1_body (m_distance_flatten_1_r n) ih p0 vp0_kids hp0_kids bc0 c0 bc1 c1 vc1_labels vc1_left vc1_numbers bc2 hp r hm
theorem c_distance_flatten_1 {Z : World} {ρ : PH} {L : List Atom} {w : World} (p0 : Node) (vp0_kids : Value) (hp0_kids : RoSl ρ vp0_kids p0.kids) (bc0 : Nat) (c0 : Int) (bc1 : Nat) (c1 : DFlat) (vc1_labels : Value) (vc1_left : Value) (vc1_numbers : Value) (bc2 : Nat) (hp : Hp Z ρ (Pt bc0 (.cells #[(.int .i64 c0)] 3 (0, 0)) :: Pt bc1 (.cells #[vc1_labels, vc1_left, vc1_numbers] 66 (0, 0)) :: OwnSl 70 vc1_labels c1.labels :: OwnSl 3 vc1_left c1.left :: OwnSl 3 vc1_numbers c1.numbers :: Pt bc2 (.cells #[(.func (.func 43) #[] #[(.pointer (some ⟨bc0, 0, none⟩)), (.pointer (some ⟨bc1, 0, none⟩)), (.pointer (some ⟨bc2, 0, none⟩))])] 80 (0, 0)) :: L) w) (r : (Int × DFlat)) (hm : m_distance_flatten_1 p0 c0 c1 = some r) :
    Calls Try.prog 43 #[(.agg #[(.int .i64 p0.kind), (.string p0.text), (.int .i64 p0.at_), (.int .i64 p0.fin), vp0_kids]), (.pointer (some ⟨bc0, 0, none⟩)), (.pointer (some ⟨bc1, 0, none⟩)), (.pointer (some ⟨bc2, 0, none⟩))] w (Ret fun v w' => ∃ (vzc1_labels : Value) (vzc1_left : Value) (vzc1_numbers : Value), v = .tuple #[] ∧ Hp Z ρ (Pt bc0 (.cells #[(.int .i64 r.1)] 3 (0, 0)) :: Pt bc1 (.cells #[vzc1_labels, vzc1_left, vzc1_numbers] 66 (0, 0)) :: OwnSl 70 vzc1_labels r.2.labels :: OwnSl 3 vzc1_left r.2.left :: OwnSl 3 vzc1_numbers r.2.numbers :: Pt bc2 (.cells #[(.func (.func 43) #[] #[(.pointer (some ⟨bc0, 0, none⟩)), (.pointer (some ⟨bc1, 0, none⟩)), (.pointer (some ⟨bc2, 0, none⟩))])] 80 (0, 0)) :: L) w') := c_distance_flatten_1_r _ p0 vp0_kids hp0_kids bc0 c0 bc1 c1 vc1_labels vc1_left vc1_numbers bc2 hp r hm
/- assessor/distance.flatten -/
set_option maxRecDepth 100000 in
set_option maxHeartbeats 4000000 in
theorem c_distance_flatten {Z : World} {ρ : PH} {L : List Atom} {w : World} (p0 : Node) (vp0_kids : Value) (hp0_kids : RoSl ρ vp0_kids p0.kids) (hp : Hp Z ρ (L) w) (r : DFlat) (hm : m_distance_flatten p0 = some r) :
    Calls Try.prog 34 #[(.agg #[(.int .i64 p0.kind), (.string p0.text), (.int .i64 p0.at_), (.int .i64 p0.fin), vp0_kids])] w (Ret fun v w' => ∃ (vr1_labels : Value) (vr1_left : Value) (vr1_numbers : Value), v = (.agg #[vr1_labels, vr1_left, vr1_numbers]) ∧ Hp Z ρ (OwnSl 70 vr1_labels r.labels :: OwnSl 3 vr1_left r.left :: OwnSl 3 vr1_numbers r.numbers :: L) w') := by
  refine enter (N := 11) Try.func34 rfl rfl [(0, (.agg #[(.int .i64 p0.kind), (.string p0.text), (.int .i64 p0.at_), (.int .i64 p0.fin), vp0_kids]))] rfl (argsIn_mem ⟨rfl, trivial⟩) fun a hE => ?_
  unfold m_distance_flatten at hm
  refine k_seq ?_
  refine k_region ?_
  refine s_box (wk0 rfl) rfl rfl hE hp rfl (v := (.agg #[(.int .i64 p0.kind), (.string p0.text), (.int .i64 p0.at_), (.int .i64 p0.fin), vp0_kids])) rfl ?_
  intro a w b1 hE hp
  have hp : Hp Z ρ (Pt b1 (.cells #[(.int .i64 p0.kind), (.string p0.text), (.int .i64 p0.at_), (.int .i64 p0.fin), vp0_kids] 24 (0, 0)) :: L) w := hp
  refine s_new (wk0 rfl) rfl rfl hE hp rfl [(.slice none 0 0), (.slice none 0 0), (.slice none 0 0)] (fun w => by simp [Instr.alloc, go_sem] <;> rfl) ?_
  intro a w b2 hE hp
  have hp : Hp Z ρ (Pt b2 (.cells #[(.slice none 0 0), (.slice none 0 0), (.slice none 0 0)] 66 (0, 0)) :: _ :: L) w := hp
  refine s_nil ?_
  refine k_seq ?_
  refine k_region ?_
  refine s_new (wk0 rfl) rfl rfl hE hp rfl [(.slice none 0 0), (.slice none 0 0), (.slice none 0 0)] (fun w => by simp [Instr.alloc, go_sem] <;> rfl) ?_
  intro a w b3 hE hp
  have hp : Hp Z ρ (Pt b3 (.cells #[(.slice none 0 0), (.slice none 0 0), (.slice none 0 0)] 66 (0, 0)) :: _ :: _ :: L) w := hp
  refine s_nil ?_
  refine k_seq ?_
  refine k_region ?_
  refine s_new (wk0 rfl) rfl rfl hE hp rfl [(.int .i64 0)] (fun w => by simp [Instr.alloc, go_sem] <;> rfl) ?_
  intro a w b4 hE hp
  have hp : Hp Z ρ (Pt b4 (.cells #[(.int .i64 0)] 3 (0, 0)) :: _ :: _ :: _ :: L) w := hp
  refine s_store (wk0 rfl) rfl hE hp rfl rfl rfl 0 rfl varty3.size_ rfl (allOne_mem ⟨rfl, trivial⟩) [(.int .i64 0)] rfl ?_
  intro w hp
  have hp : Hp Z ρ (_ :: _ :: _ :: _ :: L) w := hp
  refine s_nil ?_
  refine k_seq ?_
  refine k_region ?_
  refine s_new (wk0 rfl) rfl rfl hE hp rfl [.nilFunc] (fun w => by simp [Instr.alloc, go_sem] <;> rfl) ?_
  intro a w b5 hE hp
  have hp : Hp Z ρ (Pt b5 (.cells #[.nilFunc] 80 (0, 0)) :: _ :: _ :: _ :: _ :: L) w := hp
  refine s_nil ?_
  refine k_seq ?_
  refine k_region ?_
  refine s_val (wk0 rfl) rfl rfl hE hp (v := (.func (.func 43) #[] #[(.pointer (some ⟨b4, 0, none⟩)), (.pointer (some ⟨b3, 0, none⟩)), (.pointer (some ⟨b5, 0, none⟩))])) (ex_fn rfl hE [(.pointer (some ⟨b4, 0, none⟩)), (.pointer (some ⟨b3, 0, none⟩)), (.pointer (some ⟨b5, 0, none⟩))] (by exact ⟨rfl, rfl, rfl, trivial⟩)) ?_
  intro a hE
  refine s_store (wk0 rfl) rfl hE hp rfl rfl rfl 0 rfl varty80.size_ rfl (allOne_mem ⟨rfl, trivial⟩) [(.func (.func 43) #[] #[(.pointer (some ⟨b4, 0, none⟩)), (.pointer (some ⟨b3, 0, none⟩)), (.pointer (some ⟨b5, 0, none⟩))])] rfl ?_
  intro w hp
  have hp : Hp Z ρ (Pt b5 (.cells #[(.func (.func 43) #[] #[(.pointer (some ⟨b4, 0, none⟩)), (.pointer (some ⟨b3, 0, none⟩)), (.pointer (some ⟨b5, 0, none⟩))])] 80 (0, 0)) :: _ :: _ :: _ :: _ :: L) w := hp
  refine s_nil ?_
  refine k_seq ?_
  refine k_region ?_
  refine s_val (wk0 rfl) rfl rfl hE hp (v := (.func (.func 43) #[] #[(.pointer (some ⟨b4, 0, none⟩)), (.pointer (some ⟨b3, 0, none⟩)), (.pointer (some ⟨b5, 0, none⟩))])) (ex_load rfl hE rfl (fun w hw => run_ld1 varty80 (Hp.c 0 rfl 0 rfl w hw))) ?_
  intro a hE
  refine s_val (wk0 rfl) rfl rfl hE hp (v := (.agg #[(.int .i64 p0.kind), (.string p0.text), (.int .i64 p0.at_), (.int .i64 p0.fin), vp0_kids])) (ex_load rfl hE rfl (fun w hw => run_ldN (cs := [(.int .i64 p0.kind), (.string p0.text), (.int .i64 p0.at_), (.int .i64 p0.fin), vp0_kids]) varty24 (Hp.cN 4 rfl 0 _ (sub_all rfl) w hw))) ?_
  intro a hE
  have hp := hp.emp (OwnSl.nil (α := Lbl) 70)
  have hp : Hp Z ρ (OwnSl 70 (.slice none 0 0) ([] : List Lbl) :: _ :: _ :: _ :: _ :: _ :: L) w := hp
  have hp := hp.emp (OwnSl.nil (α := Int) 3)
  have hp : Hp Z ρ (OwnSl 3 (.slice none 0 0) ([] : List Int) :: _ :: _ :: _ :: _ :: _ :: _ :: L) w := hp
  have hp := hp.emp (OwnSl.nil (α := Int) 3)
  have hp : Hp Z ρ (OwnSl 3 (.slice none 0 0) ([] : List Int) :: _ :: _ :: _ :: _ :: _ :: _ :: _ :: L) w := hp
  have hp : Hp Z ρ (_ :: _ :: _ :: _ :: _ :: _ :: _ :: _ :: L) w := hp
  obtain ⟨x1, ex1, hm⟩ := bnd hm
  refine s_callv (wk0 rfl) rfl rfl hE rfl rfl [(.agg #[(.int .i64 p0.kind), (.string p0.text), (.int .i64 p0.at_), (.int .i64 p0.fin), vp0_kids])] ⟨rfl, trivial⟩ ent43 (c_distance_flatten_1 p0 vp0_kids hp0_kids b4 0 b3 (DFlat.mk ([]) ([]) ([])) (.slice none 0 0) (.slice none 0 0) (.slice none 0 0) b5 ((((((hp.get 3 rfl).get 1 rfl).get 2 rfl).get 3 rfl).get 5 rfl).get 5 rfl) x1 ex1) Ret.ret ?_
  intro v a w hR hE
  obtain ⟨vz2_labels, vz2_left, vz2_numbers, rfl, hp⟩ := Ret.of hR
  have hp : Hp Z ρ (Pt b4 (.cells #[(.int .i64 x1.1)] 3 (0, 0)) :: Pt b3 (.cells #[vz2_labels, vz2_left, vz2_numbers] 66 (0, 0)) :: OwnSl 70 vz2_labels x1.2.labels :: OwnSl 3 vz2_left x1.2.left :: OwnSl 3 vz2_numbers x1.2.numbers :: _ :: _ :: _ :: L) w := hp
  refine s_nil ?_
  refine k_seq ?_
  refine k_region ?_
  refine s_val (wk0 rfl) rfl rfl hE hp (v := (.agg #[vz2_labels, vz2_left, vz2_numbers])) (ex_load rfl hE rfl (fun w hw => run_ldN (cs := [vz2_labels, vz2_left, vz2_numbers]) varty66 (Hp.cN 1 rfl 0 _ (sub_all rfl) w hw))) ?_
  intro a hE
  refine s_store (wk0 rfl) rfl hE hp rfl rfl rfl 6 rfl varty66.size_ rfl (allOne_mem ⟨(OwnSl.one hp 2 rfl), (OwnSl.one hp 3 rfl), (OwnSl.one hp 4 rfl), trivial⟩) [vz2_labels, vz2_left, vz2_numbers] rfl ?_
  intro w hp
  have hp : Hp Z ρ (_ :: _ :: _ :: _ :: _ :: _ :: Pt b2 (.cells #[vz2_labels, vz2_left, vz2_numbers] 66 (0, 0)) :: _ :: L) w := hp
  refine s_nil ?_
  refine k_ret ?_
  obtain rfl := Option.some.inj hm
  exact retc1 hE rfl rfl (run_lvN (cs := [vz2_labels, vz2_left, vz2_numbers]) varty66 (Hp.cN 6 rfl 0 _ (sub_all rfl) _ hp)) ⟨_, rfl, _, _, _, rfl, (((((((((hp.get 7 rfl).drop).get 6 rfl).drop).get 5 rfl).drop).get 1 rfl).drop).drop)⟩
/- (assessor/distance.flat).roots -/
set_option maxRecDepth 100000 in
set_option maxHeartbeats 4000000 in
theorem c_distance_flat_roots {Z : World} {ρ : PH} {L : List Atom} {w : World} (p0 : DFlat) (vp0_labels : Value) (hp0_labels : RoSl ρ vp0_labels p0.labels) (vp0_left : Value) (hp0_left : RoSl ρ vp0_left p0.left) (vp0_numbers : Value) (hp0_numbers : RoSl ρ vp0_numbers p0.numbers) (hp : Hp Z ρ (L) w) (r : (List Int)) (hm : m_distance_flat_roots p0 = some r) :
    Calls Try.prog 42 #[(.agg #[vp0_labels, vp0_left, vp0_numbers])] w (Ret fun v w' => ∃ (vr1 : Value), v = vr1 ∧ Hp Z ρ (OwnSl 3 vr1 r :: L) w') := by
  refine enter (N := 22) Try.func42 rfl rfl [(0, (.agg #[vp0_labels, vp0_left, vp0_numbers]))] rfl (argsIn_mem ⟨rfl, trivial⟩) fun a hE => ?_
  unfold m_distance_flat_roots at hm
  refine k_seq ?_
  refine k_region ?_
  refine s_box (wk0 rfl) rfl rfl hE hp rfl (v := (.agg #[vp0_labels, vp0_left, vp0_numbers])) rfl ?_
  intro a w b1 hE hp
  have hp : Hp Z ρ (Pt b1 (.cells #[vp0_labels, vp0_left, vp0_numbers] 66 (0, 0)) :: L) w := hp
  refine s_val (wk0 rfl) rfl rfl hE hp (v := (.slice none 0 0)) (ex_asn rfl hE rfl) ?_
  intro a hE
  refine s_nil ?_
  refine k_seq ?_
  refine k_region ?_
  refine s_mkmap (κ := Int) (β := Int) (wk0 rfl) rfl rfl hE hp rfl ?_
  intro a w b2 hE hp
  have hp : Hp Z ρ (MapA b2 ([] : List (Int × Int)) :: _ :: L) w := hp
  refine s_val (wk0 rfl) rfl rfl hE hp (v := (.map (some b2))) (ex_asn rfl hE rfl) ?_
  intro a hE
  refine s_nil ?_
  refine k_seq ?_
  refine k_seq ?_
  refine k_region ?_
  refine s_val (wk0 rfl) rfl rfl hE hp (v := (.pointer (some ⟨b1, 1, none⟩))) (ex_field rfl hE rfl (fldty66_1 _ _)) ?_
  intro a hE
  refine s_val (wk0 rfl) rfl rfl hE hp (v := vp0_left) (ex_load rfl hE rfl (fun w hw => run_ld1 varty34 (Hp.c 1 rfl 1 rfl w hw))) ?_
  intro a hE
  refine s_val (wk0 rfl) rfl rfl hE hp (v := (.int .i64 (p0.left.length : Int))) (ex_len rfl hE rfl (RoSl.len hp0_left slty34)) ?_
  intro a hE
  refine s_val (wk0 rfl) rfl rfl hE hp (v := (.int .i64 0)) (ex_move rfl hE rfl) ?_
  intro a hE
  refine s_nil ?_
  obtain ⟨b3, hb1, hm⟩ := bnd hm
  refine k_block (fun a w => Env 22 [(3, (.map (some b2)))] a ∧ Hp Z ρ (MapA b2 (b3 : List (Int × Int)) :: Pt b1 (.cells #[vp0_labels, vp0_left, vp0_numbers] 66 (0, 0)) :: L) w) ?_ ?_
  · refine k_loop hb1 (fun s a w => Env 22 [(3, (.map (some b2))), (8, vp0_left), (9, (.int .i64 (p0.left.length : Int))), (10, (.int .i64 s.1))] a ∧ Hp Z ρ (MapA b2 (s.2 : List (Int × Int)) :: Pt b1 (.cells #[vp0_labels, vp0_left, vp0_numbers] 66 (0, 0)) :: L) w) ?_ ?_
    · exact ⟨hE.cut ⟨rfl, rfl, rfl, rfl, trivial⟩, hp⟩
    · rintro ⟨lp1_0, lp1_1⟩ st a w ⟨hE, hp⟩ hl1
      have hE : Env 22 [(3, (.map (some b2))), (8, vp0_left), (9, (.int .i64 (p0.left.length : Int))), (10, (.int .i64 lp1_0))] a := hE
      have hp : Hp Z ρ (MapA b2 (lp1_1 : List (Int × Int)) :: _ :: L) w := hp
      replace hl1 : m_distance_flat_roots_lp1 p0 lp1_0 lp1_1 = some st := hl1
      unfold m_distance_flat_roots_lp1 at hl1
      refine k_seq ?_
      refine k_region ?_
      refine s_val (wk0 rfl) rfl rfl hE hp (v := (.bool (decide (lp1_0 < (p0.left.length : Int))))) (ex_lss rfl hE rfl rfl) ?_
      intro a hE
      refine s_nil ?_
      refine k_seq ?_
      refine k_if hE rfl (fun hb2 => ?_) (fun hb2 => ?_)
      · replace hl1 := (it hb2).symm.trans hl1
        refine k_skip ?_
        refine k_seq ?_
        refine k_plain ?_
        refine k_seq ?_
        refine k_region ?_
        refine s_val (wk0 rfl) rfl rfl hE hp (v := (.int .i64 lp1_0)) (ex_move rfl hE rfl) ?_
        intro a hE
        obtain ⟨x1, ex1, hl1⟩ := bnd hl1
        obtain ⟨b4, b4o, b4c, b4r, b4k, b4f⟩ := RoSl.at hp0_left slty34 ex1
        obtain rfl : b4c = Enc.enc x1 := b4k
        have b4f : AtP ρ b4 b4o [(.int .i64 x1)] := b4f
        refine s_val (wk0 rfl) rfl rfl hE hp (v := (.pointer (some ⟨b4, b4o, none⟩))) (ex_index rfl hE rfl rfl b4r) ?_
        intro a hE
        refine s_val (wk0 rfl) rfl rfl hE hp (v := (.int .i64 x1)) (ex_load rfl hE rfl (fun w hw => run_ld1 varty3 (b4f.c 0 rfl w hw))) ?_
        intro a hE
        refine s_val (wk0 rfl) rfl rfl hE hp (v := (.int .i64 lp1_0)) (ex_asn rfl hE rfl) ?_
        intro a hE
        refine s_val (wk0 rfl) rfl rfl hE hp (v := (.int .i64 x1)) (ex_asn rfl hE rfl) ?_
        intro a hE
        refine s_nil ?_
        have hE := hE.cut (E' := [(3, (.map (some b2))), (4, (.int .i64 lp1_0)), (5, (.int .i64 x1)), (8, vp0_left), (9, (.int .i64 (p0.left.length : Int))), (10, (.int .i64 lp1_0))]) ⟨rfl, rfl, rfl, rfl, rfl, rfl, trivial⟩
        refine k_region ?_
        refine s_val (wk0 rfl) rfl rfl hE hp (v := (.map (some b2))) (ex_move rfl hE rfl) ?_
        intro a hE
        refine s_val (wk0 rfl) rfl rfl hE hp (v := (.int .i64 x1)) (ex_move rfl hE rfl) ?_
        intro a hE
        refine s_val (wk0 rfl) rfl rfl hE hp (v := (.int .i64 lp1_0)) (ex_move rfl hE rfl) ?_
        intro a hE
        refine s_mput kt3 mapty84 (wk0 rfl) rfl hE hp rfl 0 (k := x1) (v := lp1_0) rfl rfl rfl rfl ?_
        intro w hp
        have hp : Hp Z ρ (MapA b2 (mput lp1_1 x1 lp1_0 : List (Int × Int)) :: _ :: L) w := hp
        refine s_nil ?_
        refine k_region ?_
        obtain ⟨x2, ex2, hl1⟩ := bnd hl1
        refine s_val (wk0 rfl) rfl rfl hE hp (v := (.int .i64 x2)) (ex_add rfl hE rfl rfl (inK_some ex2)) ?_
        intro a hE
        refine s_val (wk0 rfl) rfl rfl hE hp (v := (.int .i64 x2)) (ex_move rfl hE rfl) ?_
        intro a hE
        refine s_nil ?_
        exact ⟨_, (Option.some.inj hl1).symm, hE.cut ⟨rfl, rfl, rfl, rfl, trivial⟩, hp⟩
      · replace hl1 := (ie hb2).symm.trans hl1
        refine k_exit ?_
        refine ⟨_, (Option.some.inj hl1).symm, fun hbb => ?_⟩
        subst hbb
        exact ⟨hE.cut ⟨rfl, trivial⟩, hp⟩
  · rintro a w ⟨hE, hp⟩
    refine k_seq ?_
    refine k_region ?_
    refine s_val (wk0 rfl) rfl rfl hE hp (v := (.map (some b2))) (ex_move rfl hE rfl) ?_
    intro a hE
    refine s_call (wk0 rfl) rfl rfl hE rfl [(.map (some b2))] ⟨rfl, trivial⟩ ent48 (c_values_ii b2 hp) Ret.ret ?_
    intro v a w hR hE
    obtain ⟨b5, rfl, hp⟩ := Ret.of hR
    have hp : Hp Z ρ (Pt b5 (.cells #[(.map (some b2))] 84 (0, 0)) :: MapA b2 (b3 : List (Int × Int)) :: _ :: L) w := hp
    obtain ⟨x3, ex3, hm⟩ := bnd hm
    refine s_call (wk0 rfl) rfl rfl hE rfl [(.func (.func 53) #[] #[.pointer (some ⟨b5, 0, none⟩)])] ⟨rfl, trivial⟩ ent47 (c_sortedV b3 ((hp.get 1 rfl).get 1 rfl) x3 ex3) Ret.ret ?_
    intro v1 a w hR hE
    obtain ⟨u, hu, hp⟩ := Ret.of hR
    rw [← hu] at hp
    have hp : Hp Z ρ (OwnSl 3 v1 x3 :: _ :: _ :: _ :: L) w := hp
    refine s_val (wk0 rfl) rfl rfl hE hp (v := v1) (ex_asn rfl hE rfl) ?_
    intro a hE
    refine s_nil ?_
    refine k_ret ?_
    obtain rfl := Option.some.inj hm
    exact ret1 hE rfl rfl ⟨_, rfl, _, rfl, ((((((hp.get 3 rfl).drop).get 2 rfl).drop).get 1 rfl).drop)⟩
/- assessor/distance.table -/
set_option maxRecDepth 100000 in
set_option maxHeartbeats 4000000 in
theorem c_distance_table {Z : World} {ρ : PH} {L : List Atom} {w : World} (p0 : Int) (p1 : Int) (hp : Hp Z ρ (L) w) (r : (List (List Int))) (hm : m_distance_table p0 p1 = some r) :
    Calls Try.prog 36 #[(.int .i64 p0), (.int .i64 p1)] w (Ret fun v w' => ∃ (vr1 : Value) (usr1 : List Sl), v = vr1 ∧ Hp Z ρ (TblA 34 3 vr1 usr1 (r : (List (List Int))) :: L) w') := by
  refine enter (N := 21) Try.func36 rfl rfl [(0, (.int .i64 p0)), (1, (.int .i64 p1))] rfl (argsIn_mem ⟨rfl, rfl, trivial⟩) fun a hE => ?_
  unfold m_distance_table at hm
  refine k_seq ?_
  refine k_region ?_
  refine s_val (wk0 rfl) rfl rfl hE hp (v := (.slice none 0 0)) (ex_asn rfl hE rfl) ?_
  intro a hE
  refine s_nil ?_
  refine k_seq ?_
  refine k_region ?_
  refine s_val (wk0 rfl) rfl rfl hE hp (v := (.int .i64 p0)) (ex_move rfl hE rfl) ?_
  intro a hE
  obtain ⟨x1, ex1, hm⟩ := bnd hm
  refine s_tmake (wk0 rfl) rfl rfl hE hp rfl (T := 34) (bytes := 24) (by kernel_rfl) (by kernel_rfl) rfl rfl rfl ex1 3 ?_
  intro v1 us1 a w hE hp
  have hp : Hp Z ρ (TblA 34 3 v1 us1 (x1 : (List (List Int))) :: L) w := hp
  refine s_val (wk0 rfl) rfl rfl hE hp (v := v1) (ex_asn rfl hE rfl) ?_
  intro a hE
  refine s_nil ?_
  refine k_seq ?_
  refine k_seq ?_
  refine k_region ?_
  refine s_val (wk0 rfl) rfl rfl hE hp (v := v1) (ex_move rfl hE rfl) ?_
  intro a hE
  refine s_val (wk0 rfl) rfl rfl hE hp (v := (.int .i64 (x1.length : Int))) (ex_len rfl hE rfl (TblA.len hp 0 rfl slty30)) ?_
  intro a hE
  refine s_val (wk0 rfl) rfl rfl hE hp (v := (.int .i64 0)) (ex_move rfl hE rfl) ?_
  intro a hE
  refine s_nil ?_
  obtain ⟨b1, hb1, hm⟩ := bnd hm
  refine k_block (fun a w => ∃ (w2 : Value) (us2 : List Sl), Env 21 [(5, w2)] a ∧ Hp Z ρ (TblA 34 3 w2 us2 (b1 : (List (List Int))) :: L) w) ?_ ?_
  · refine k_loop hb1 (fun s a w => ∃ (w2 : Value) (us2 : List Sl), Env 21 [(1, (.int .i64 p1)), (5, w2), (10, (.int .i64 (x1.length : Int))), (11, (.int .i64 s.1))] a ∧ Hp Z ρ (TblA 34 3 w2 us2 (s.2 : (List (List Int))) :: L) w) ?_ ?_
    · exact ⟨_, _, hE.cut ⟨rfl, rfl, rfl, rfl, trivial⟩, hp⟩
    · rintro ⟨lp1_0, lp1_1⟩ st a w ⟨w2, us2, hE, hp⟩ hl1
      have hE : Env 21 [(1, (.int .i64 p1)), (5, w2), (10, (.int .i64 (x1.length : Int))), (11, (.int .i64 lp1_0))] a := hE
      have hp : Hp Z ρ (TblA 34 3 w2 us2 (lp1_1 : (List (List Int))) :: L) w := hp
      replace hl1 : m_distance_table_lp1 p1 x1 lp1_0 lp1_1 = some st := hl1
      unfold m_distance_table_lp1 at hl1
      refine k_seq ?_
      refine k_region ?_
      refine s_val (wk0 rfl) rfl rfl hE hp (v := (.bool (decide (lp1_0 < (x1.length : Int))))) (ex_lss rfl hE rfl rfl) ?_
      intro a hE
      refine s_nil ?_
      refine k_seq ?_
      refine k_if hE rfl (fun hb2 => ?_) (fun hb2 => ?_)
      · replace hl1 := (it hb2).symm.trans hl1
        refine k_skip ?_
        refine k_seq ?_
        refine k_plain ?_
        refine k_seq ?_
        refine k_region ?_
        refine s_val (wk0 rfl) rfl rfl hE hp (v := (.int .i64 lp1_0)) (ex_move rfl hE rfl) ?_
        intro a hE
        refine s_val (wk0 rfl) rfl rfl hE hp (v := (.int .i64 lp1_0)) (ex_asn rfl hE rfl) ?_
        intro a hE
        refine s_nil ?_
        refine k_region ?_
        refine s_val (wk0 rfl) rfl rfl hE hp (v := w2) (ex_move rfl hE rfl) ?_
        intro a hE
        refine s_val (wk0 rfl) rfl rfl hE hp (v := (.int .i64 lp1_0)) (ex_move rfl hE rfl) ?_
        intro a hE
        refine s_val (wk0 rfl) rfl rfl hE hp (v := (.int .i64 p1)) (ex_move rfl hE rfl) ?_
        intro a hE
        obtain ⟨x2, ex2, hl1⟩ := bnd hl1
        refine s_make (wk0 rfl) rfl rfl hE hp rfl (El := 3) (bytes := 8) (by kernel_rfl) (0 : Int) (by kernel_rfl) (by kernel_rfl) rfl rfl ex2 ?_
        intro v2 a w hE hp
        have hp : Hp Z ρ (OwnSl 3 v2 x2 :: _ :: L) w := hp
        obtain ⟨x3, ex3, hl1⟩ := bnd hl1
        obtain ⟨b2u, b2, b2o, b2h, b2r, b2v, b2f⟩ := TblA.hdr hp 1 rfl slty30 ex3
        have b2f : ∀ (j : Nat) (u : Value), ([(Sl.v b2u)] : List Value)[j]? = some u → ∀ ρ' L' w, Hp Z ρ' (TblA 34 3 w2 us2 (lp1_1 : (List (List Int))) :: L') w → w.cell? ⟨b2, b2o + j, none⟩ = some u := b2f
        refine s_val (wk0 rfl) rfl rfl hE hp (v := (.pointer (some ⟨b2, b2o, none⟩))) (ex_index rfl hE rfl rfl b2r) ?_
        intro a hE
        obtain ⟨sl1, sl1e⟩ := OwnSl.toSl hp 0 rfl
        refine s_tput (wk0 rfl) rfl hE sl1e (hp.get 0 rfl) rfl rfl rfl 0 rfl b2h ex3 b2v varty34.size_ ?_
        intro w hp
        have hp : Hp Z ρ (TblA 34 3 w2 (us2.set lp1_0.toNat sl1) (lp1_1.set lp1_0.toNat x2 : (List (List Int))) :: L) w := hp
        refine s_nil ?_
        have hE := hE.cut (E' := [(1, (.int .i64 p1)), (5, w2), (10, (.int .i64 (x1.length : Int))), (11, (.int .i64 lp1_0))]) ⟨rfl, rfl, rfl, rfl, trivial⟩
        refine k_region ?_
        obtain ⟨x4, ex4, hl1⟩ := bnd hl1
        refine s_val (wk0 rfl) rfl rfl hE hp (v := (.int .i64 x4)) (ex_add rfl hE rfl rfl (inK_some ex4)) ?_
        intro a hE
        refine s_val (wk0 rfl) rfl rfl hE hp (v := (.int .i64 x4)) (ex_move rfl hE rfl) ?_
        intro a hE
        refine s_nil ?_
        exact ⟨_, (Option.some.inj hl1).symm, _, _, hE.cut ⟨rfl, rfl, rfl, rfl, trivial⟩, hp⟩
      · replace hl1 := (ie hb2).symm.trans hl1
        refine k_exit ?_
        refine ⟨_, (Option.some.inj hl1).symm, fun hbb => ?_⟩
        subst hbb
        exact ⟨_, _, hE.cut ⟨rfl, trivial⟩, hp⟩
  · rintro a w ⟨w2, us2, hE, hp⟩
    refine k_seq ?_
    refine k_region ?_
    refine s_val (wk0 rfl) rfl rfl hE hp (v := w2) (ex_move rfl hE rfl) ?_
    intro a hE
    refine s_val (wk0 rfl) rfl rfl hE hp (v := w2) (ex_asn rfl hE rfl) ?_
    intro a hE
    refine s_nil ?_
    refine k_ret ?_
    obtain rfl := Option.some.inj hm
    exact ret1 hE rfl rfl ⟨_, rfl, _, _, rfl, hp⟩
/- assessor/distance.filler -/
set_option maxRecDepth 100000 in
set_option maxHeartbeats 4000000 in
theorem c_distance_filler {Z : World} {ρ : PH} {L : List Atom} {w : World} (p0 : DFlat) (vp0_labels : Value) (hp0_labels : RoSl ρ vp0_labels p0.labels) (vp0_left : Value) (hp0_left : RoSl ρ vp0_left p0.left) (vp0_numbers : Value) (hp0_numbers : RoSl ρ vp0_numbers p0.numbers) (p1 : DFlat) (vp1_labels : Value) (hp1_labels : RoSl ρ vp1_labels p1.labels) (vp1_left : Value) (hp1_left : RoSl ρ vp1_left p1.left) (vp1_numbers : Value) (hp1_numbers : RoSl ρ vp1_numbers p1.numbers) (p2 : (List (List Int))) (vp2 : Value) (usp2 : List Sl) (hp : Hp Z ρ (TblA 34 3 vp2 usp2 (p2 : (List (List Int))) :: L) w) (r : (List (List Int))) (hm : m_distance_filler p0 p1 p2 = some r) :
    Calls Try.prog 41 #[(.agg #[vp0_labels, vp0_left, vp0_numbers]), (.agg #[vp1_labels, vp1_left, vp1_numbers]), vp2] w (Ret fun v w' => ∃ (b1 : Nat) (b2 : Nat) (b3 : Nat), v = (.func (.func 46) #[] #[.pointer (some ⟨b1, 0, none⟩), .pointer (some ⟨b2, 0, none⟩), .pointer (some ⟨b3, 0, none⟩)]) ∧ Hp Z ρ (Pt b1 (.cells #[vp0_labels, vp0_left, vp0_numbers] 66 (0, 0)) :: Pt b2 (.cells #[vp1_labels, vp1_left, vp1_numbers] 66 (0, 0)) :: Pt b3 (.cells #[vp2] 30 (0, 0)) :: TblA 34 3 vp2 usp2 (r : (List (List Int))) :: L) w') := by
  refine enter (N := 8) Try.func41 rfl rfl [(0, (.agg #[vp0_labels, vp0_left, vp0_numbers])), (1, (.agg #[vp1_labels, vp1_left, vp1_numbers])), (2, vp2)] rfl (argsIn_mem ⟨rfl, rfl, rfl, trivial⟩) fun a hE => ?_
  unfold m_distance_filler at hm
  refine k_seq ?_
  refine k_region ?_
  refine s_box (wk0 rfl) rfl rfl hE hp rfl (v := (.agg #[vp0_labels, vp0_left, vp0_numbers])) rfl ?_
  intro a w b1 hE hp
  have hp : Hp Z ρ (Pt b1 (.cells #[vp0_labels, vp0_left, vp0_numbers] 66 (0, 0)) :: TblA 34 3 vp2 usp2 (p2 : (List (List Int))) :: L) w := hp
  refine s_box (wk0 rfl) rfl rfl hE hp rfl (v := (.agg #[vp1_labels, vp1_left, vp1_numbers])) rfl ?_
  intro a w b2 hE hp
  have hp : Hp Z ρ (Pt b2 (.cells #[vp1_labels, vp1_left, vp1_numbers] 66 (0, 0)) :: _ :: _ :: L) w := hp
  refine s_box (wk0 rfl) rfl rfl hE hp rfl (v := vp2) rfl ?_
  intro a w b3 hE hp
  rw [TblA.cells hp 3 rfl] at hp
  have hp : Hp Z ρ (Pt b3 (.cells #[vp2] 30 (0, 0)) :: _ :: _ :: _ :: L) w := hp
  refine s_val (wk0 rfl) rfl rfl hE hp (v := .nilFunc) (ex_asn rfl hE rfl) ?_
  intro a hE
  refine s_nil ?_
  refine k_seq ?_
  refine k_region ?_
  refine s_val (wk0 rfl) rfl rfl hE hp (v := (.func (.func 46) #[] #[(.pointer (some ⟨b1, 0, none⟩)), (.pointer (some ⟨b2, 0, none⟩)), (.pointer (some ⟨b3, 0, none⟩))])) (ex_fn rfl hE [(.pointer (some ⟨b1, 0, none⟩)), (.pointer (some ⟨b2, 0, none⟩)), (.pointer (some ⟨b3, 0, none⟩))] (by exact ⟨rfl, rfl, rfl, trivial⟩)) ?_
  intro a hE
  refine s_val (wk0 rfl) rfl rfl hE hp (v := (.func (.func 46) #[] #[(.pointer (some ⟨b1, 0, none⟩)), (.pointer (some ⟨b2, 0, none⟩)), (.pointer (some ⟨b3, 0, none⟩))])) (ex_asn rfl hE rfl) ?_
  intro a hE
  refine s_nil ?_
  refine k_ret ?_
  obtain rfl := Option.some.inj hm
  exact ret1 hE rfl rfl ⟨_, rfl, _, _, _, rfl, ((((hp.get 3 rfl).get 1 rfl).get 2 rfl).get 3 rfl)⟩
/- assessor/distance.filler$1 -/
set_option maxRecDepth 100000 in
set_option maxHeartbeats 4000000 in
theorem c_distance_filler_1 {Z : World} {ρ : PH} {L : List Atom} {w : World} (p0 : Int) (p1 : Int) (bc0 : Nat) (c0 : DFlat) (vc0_labels : Value) (hc0_labels : RoSl ρ vc0_labels c0.labels) (vc0_left : Value) (hc0_left : RoSl ρ vc0_left c0.left) (vc0_numbers : Value) (hc0_numbers : RoSl ρ vc0_numbers c0.numbers) (bc1 : Nat) (c1 : DFlat) (vc1_labels : Value) (hc1_labels : RoSl ρ vc1_labels c1.labels) (vc1_left : Value) (hc1_left : RoSl ρ vc1_left c1.left) (vc1_numbers : Value) (hc1_numbers : RoSl ρ vc1_numbers c1.numbers) (bc2 : Nat) (c2 : (List (List Int))) (vc2 : Value) (usc2 : List Sl) (hp : Hp Z ρ (Pt bc0 (.cells #[vc0_labels, vc0_left, vc0_numbers] 66 (0, 0)) :: Pt bc1 (.cells #[vc1_labels, vc1_left, vc1_numbers] 66 (0, 0)) :: Pt bc2 (.cells #[vc2] 30 (0, 0)) :: TblA 34 3 vc2 usc2 (c2 : (List (List Int))) :: L) w) (r : (List (List Int))) (hm : m_distance_filler_1 p0 p1 c0 c1 c2 = some r) :
    Calls Try.prog 46 #[(.int .i64 p0), (.int .i64 p1), (.pointer (some ⟨bc0, 0, none⟩)), (.pointer (some ⟨bc1, 0, none⟩)), (.pointer (some ⟨bc2, 0, none⟩))] w (Ret fun v w' => v = .tuple #[] ∧ Hp Z ρ (Pt bc0 (.cells #[vc0_labels, vc0_left, vc0_numbers] 66 (0, 0)) :: Pt bc1 (.cells #[vc1_labels, vc1_left, vc1_numbers] 66 (0, 0)) :: Pt bc2 (.cells #[vc2] 30 (0, 0)) :: TblA 34 3 vc2 usc2 (r : (List (List Int))) :: L) w') := by
  refine enter (N := 196) Try.func46 rfl rfl [(0, (.int .i64 p0)), (1, (.int .i64 p1)), (2, (.pointer (some ⟨bc0, 0, none⟩))), (3, (.pointer (some ⟨bc1, 0, none⟩))), (4, (.pointer (some ⟨bc2, 0, none⟩)))] rfl (argsIn_mem ⟨rfl, rfl, rfl, rfl, rfl, trivial⟩) fun a hE => ?_
  unfold m_distance_filler_1 at hm
  refine k_seq ?_
  refine k_quiet (by kernel_rfl) (by kernel_rfl) hp ?_
  refine q_val (wk0 rfl) rfl rfl hE (v := (.pointer (some ⟨bc0, 1, none⟩))) (ex_field rfl hE rfl (fldty66_1 _ _)) ?_
  intro a hE
  refine q_val (wk0 rfl) rfl rfl hE (v := vc0_left) (ex_load rfl hE rfl (fun w hw => run_ld1 varty34 (Hp.c 0 rfl 1 rfl w hw))) ?_
  intro a hE
  refine q_val (wk0 rfl) rfl rfl hE (v := (.int .i64 p0)) (ex_move rfl hE rfl) ?_
  intro a hE
  obtain ⟨x1, ex1, hm⟩ := bnd hm
  obtain ⟨b1, b1o, b1c, b1r, b1k, b1f⟩ := RoSl.at hc0_left slty34 ex1
  obtain rfl : b1c = Enc.enc x1 := b1k
  have b1f : AtP ρ b1 b1o [(.int .i64 x1)] := b1f
  refine q_val (wk0 rfl) rfl rfl hE (v := (.pointer (some ⟨b1, b1o, none⟩))) (ex_index rfl hE rfl rfl b1r) ?_
  intro a hE
  refine q_val (wk0 rfl) rfl rfl hE (v := (.int .i64 x1)) (ex_load rfl hE rfl (fun w hw => run_ld1 varty3 (b1f.c 0 rfl w hw))) ?_
  intro a hE
  refine q_val (wk0 rfl) rfl rfl hE (v := (.pointer (some ⟨bc1, 1, none⟩))) (ex_field rfl hE rfl (fldty66_1 _ _)) ?_
  intro a hE
  refine q_val (wk0 rfl) rfl rfl hE (v := vc1_left) (ex_load rfl hE rfl (fun w hw => run_ld1 varty34 (Hp.c 1 rfl 1 rfl w hw))) ?_
  intro a hE
  refine q_val (wk0 rfl) rfl rfl hE (v := (.int .i64 p1)) (ex_move rfl hE rfl) ?_
  intro a hE
  obtain ⟨x2, ex2, hm⟩ := bnd hm
  obtain ⟨b2, b2o, b2c, b2r, b2k, b2f⟩ := RoSl.at hc1_left slty34 ex2
  obtain rfl : b2c = Enc.enc x2 := b2k
  have b2f : AtP ρ b2 b2o [(.int .i64 x2)] := b2f
  refine q_val (wk0 rfl) rfl rfl hE (v := (.pointer (some ⟨b2, b2o, none⟩))) (ex_index rfl hE rfl rfl b2r) ?_
  intro a hE
  refine q_val (wk0 rfl) rfl rfl hE (v := (.int .i64 x2)) (ex_load rfl hE rfl (fun w hw => run_ld1 varty3 (b2f.c 0 rfl w hw))) ?_
  intro a hE
  refine q_val (wk0 rfl) rfl rfl hE (v := (.int .i64 x1)) (ex_asn rfl hE rfl) ?_
  intro a hE
  refine q_val (wk0 rfl) rfl rfl hE (v := (.int .i64 x2)) (ex_asn rfl hE rfl) ?_
  intro a hE
  refine q_nil fun w hp => ?_
  have hp : Hp Z ρ (Pt bc0 (.cells #[vc0_labels, vc0_left, vc0_numbers] 66 (0, 0)) :: Pt bc1 (.cells #[vc1_labels, vc1_left, vc1_numbers] 66 (0, 0)) :: Pt bc2 (.cells #[vc2] 30 (0, 0)) :: TblA 34 3 vc2 usc2 (c2 : (List (List Int))) :: L) w := hp
  refine k_seq ?_
  refine k_region ?_
  refine s_val (wk0 rfl) rfl rfl hE hp (v := (.int .i64 p0)) (ex_move rfl hE rfl) ?_
  intro a hE
  refine s_val (wk0 rfl) rfl rfl hE hp (v := (.int .i64 x1)) (ex_move rfl hE rfl) ?_
  intro a hE
  obtain ⟨x3, ex3, hm⟩ := bnd hm
  refine s_val (wk0 rfl) rfl rfl hE hp (v := (.int .i64 x3)) (ex_sub rfl hE rfl rfl (inK_some ex3)) ?_
  intro a hE
  obtain ⟨x4, ex4, hm⟩ := bnd hm
  refine s_val (wk0 rfl) rfl rfl hE hp (v := (.int .i64 x4)) (ex_add rfl hE rfl rfl (inK_some ex4)) ?_
  intro a hE
  refine s_val (wk0 rfl) rfl rfl hE hp (v := (.int .i64 p1)) (ex_move rfl hE rfl) ?_
  intro a hE
  refine s_val (wk0 rfl) rfl rfl hE hp (v := (.int .i64 x2)) (ex_move rfl hE rfl) ?_
  intro a hE
  obtain ⟨x5, ex5, hm⟩ := bnd hm
  refine s_val (wk0 rfl) rfl rfl hE hp (v := (.int .i64 x5)) (ex_sub rfl hE rfl rfl (inK_some ex5)) ?_
  intro a hE
  obtain ⟨x6, ex6, hm⟩ := bnd hm
  refine s_val (wk0 rfl) rfl rfl hE hp (v := (.int .i64 x6)) (ex_add rfl hE rfl rfl (inK_some ex6)) ?_
  intro a hE
  obtain ⟨x7, ex7, hm⟩ := bnd hm
  refine s_call (wk0 rfl) rfl rfl hE rfl [(.int .i64 x4), (.int .i64 x6)] ⟨rfl, rfl, trivial⟩ ent36 (c_distance_table x4 x6 hp x7 ex7) Ret.ret ?_
  intro vr1 a w hR hE
  obtain ⟨u, usr1, rfl, hp⟩ := Ret.of hR
  have hp : Hp Z ρ (TblA 34 3 vr1 usr1 (x7 : (List (List Int))) :: _ :: _ :: _ :: _ :: L) w := hp
  refine s_val (wk0 rfl) rfl rfl hE hp (v := vr1) (ex_asn rfl hE rfl) ?_
  intro a hE
  refine s_nil ?_
  refine k_seq ?_
  refine k_seq ?_
  refine k_region ?_
  refine s_val (wk0 rfl) rfl rfl hE hp (v := vr1) (ex_move rfl hE rfl) ?_
  intro a hE
  refine s_val (wk0 rfl) rfl rfl hE hp (v := (.int .i64 (x7.length : Int))) (ex_len rfl hE rfl (TblA.len hp 0 rfl slty30)) ?_
  intro a hE
  refine s_val (wk0 rfl) rfl rfl hE hp (v := (.int .i64 0)) (ex_move rfl hE rfl) ?_
  intro a hE
  refine s_nil ?_
  have hE := hE.cut (E' := [(0, (.int .i64 p0)), (1, (.int .i64 p1)), (2, (.pointer (some ⟨bc0, 0, none⟩))), (3, (.pointer (some ⟨bc1, 0, none⟩))), (4, (.pointer (some ⟨bc2, 0, none⟩))), (7, (.int .i64 x1)), (8, (.int .i64 x2)), (9, vr1), (38, (.int .i64 (x7.length : Int))), (39, (.int .i64 0))]) ⟨rfl, rfl, rfl, rfl, rfl, rfl, rfl, rfl, rfl, rfl, trivial⟩
  obtain ⟨b3, hb1, hm⟩ := bnd hm
  refine k_block (fun a w => Env 196 [(0, (.int .i64 p0)), (1, (.int .i64 p1)), (2, (.pointer (some ⟨bc0, 0, none⟩))), (3, (.pointer (some ⟨bc1, 0, none⟩))), (4, (.pointer (some ⟨bc2, 0, none⟩))), (7, (.int .i64 x1)), (8, (.int .i64 x2)), (9, vr1)] a ∧ Hp Z ρ (TblA 34 3 vr1 usr1 (b3 : (List (List Int))) :: Pt bc0 (.cells #[vc0_labels, vc0_left, vc0_numbers] 66 (0, 0)) :: Pt bc1 (.cells #[vc1_labels, vc1_left, vc1_numbers] 66 (0, 0)) :: Pt bc2 (.cells #[vc2] 30 (0, 0)) :: TblA 34 3 vc2 usc2 (c2 : (List (List Int))) :: L) w) ?_ ?_
  · refine k_loop hb1 (fun s a w => Env 196 [(0, (.int .i64 p0)), (1, (.int .i64 p1)), (2, (.pointer (some ⟨bc0, 0, none⟩))), (3, (.pointer (some ⟨bc1, 0, none⟩))), (4, (.pointer (some ⟨bc2, 0, none⟩))), (7, (.int .i64 x1)), (8, (.int .i64 x2)), (9, vr1), (38, (.int .i64 (x7.length : Int))), (39, (.int .i64 s.1))] a ∧ Hp Z ρ (TblA 34 3 vr1 usr1 (s.2 : (List (List Int))) :: Pt bc0 (.cells #[vc0_labels, vc0_left, vc0_numbers] 66 (0, 0)) :: Pt bc1 (.cells #[vc1_labels, vc1_left, vc1_numbers] 66 (0, 0)) :: Pt bc2 (.cells #[vc2] 30 (0, 0)) :: TblA 34 3 vc2 usc2 (c2 : (List (List Int))) :: L) w) ?_ ?_
    · exact ⟨hE.cut ⟨rfl, rfl, rfl, rfl, rfl, rfl, rfl, rfl, rfl, rfl, trivial⟩, hp⟩
    · rintro ⟨lp1_0, lp1_1⟩ st a w ⟨hE, hp⟩ hl1
      have hE : Env 196 [(0, (.int .i64 p0)), (1, (.int .i64 p1)), (2, (.pointer (some ⟨bc0, 0, none⟩))), (3, (.pointer (some ⟨bc1, 0, none⟩))), (4, (.pointer (some ⟨bc2, 0, none⟩))), (7, (.int .i64 x1)), (8, (.int .i64 x2)), (9, vr1), (38, (.int .i64 (x7.length : Int))), (39, (.int .i64 lp1_0))] a := hE
      have hp : Hp Z ρ (TblA 34 3 vr1 usr1 (lp1_1 : (List (List Int))) :: _ :: _ :: _ :: _ :: L) w := hp
      replace hl1 : m_distance_filler_1_lp1 x7 lp1_0 lp1_1 = some st := hl1
      unfold m_distance_filler_1_lp1 at hl1
      refine k_seq ?_
      refine k_region ?_
      refine s_val (wk0 rfl) rfl rfl hE hp (v := (.bool (decide (lp1_0 < (x7.length : Int))))) (ex_lss rfl hE rfl rfl) ?_
      intro a hE
      refine s_nil ?_
      refine k_seq ?_
      refine k_if hE rfl (fun hb2 => ?_) (fun hb2 => ?_)
      · replace hl1 := (it hb2).symm.trans hl1
        refine k_skip ?_
        refine k_seq ?_
        refine k_plain ?_
        refine k_seq ?_
        refine k_region ?_
        refine s_val (wk0 rfl) rfl rfl hE hp (v := (.int .i64 lp1_0)) (ex_move rfl hE rfl) ?_
        intro a hE
        refine s_val (wk0 rfl) rfl rfl hE hp (v := (.int .i64 lp1_0)) (ex_asn rfl hE rfl) ?_
        intro a hE
        refine s_nil ?_
        refine k_region ?_
        refine s_val (wk0 rfl) rfl rfl hE hp (v := vr1) (ex_move rfl hE rfl) ?_
        intro a hE
        refine s_val (wk0 rfl) rfl rfl hE hp (v := (.int .i64 lp1_0)) (ex_move rfl hE rfl) ?_
        intro a hE
        obtain ⟨x8, ex8, hl1⟩ := bnd hl1
        obtain ⟨b4u, b4, b4o, b4h, b4r, b4v, b4f⟩ := TblA.hdr hp 0 rfl slty30 ex8
        have b4f : ∀ (j : Nat) (u : Value), ([(Sl.v b4u)] : List Value)[j]? = some u → ∀ ρ' L' w, Hp Z ρ' (TblA 34 3 vr1 usr1 (lp1_1 : (List (List Int))) :: L') w → w.cell? ⟨b4, b4o + j, none⟩ = some u := b4f
        refine s_val (wk0 rfl) rfl rfl hE hp (v := (.pointer (some ⟨b4, b4o, none⟩))) (ex_index rfl hE rfl rfl b4r) ?_
        intro a hE
        refine s_val (wk0 rfl) rfl rfl hE hp (v := (Sl.v b4u)) (ex_load rfl hE rfl (fun w hw => run_ld1 varty34 (b4f 0 _ rfl _ _ w (hw.get 0 rfl)))) ?_
        intro a hE
        refine s_val (wk0 rfl) rfl rfl hE hp (v := (.int .i64 lp1_0)) (ex_move rfl hE rfl) ?_
        intro a hE
        obtain ⟨x9, ex9, hl1⟩ := bnd hl1
        obtain ⟨b5, b5o, b5r, b5v, b5f⟩ := TblA.at hp 0 rfl slty34 b4h ex8 ex9
        have b5f : ∀ (j : Nat) (u : Value), ([(.int .i64 x9)] : List Value)[j]? = some u → ∀ ρ' L' w, Hp Z ρ' (TblA 34 3 vr1 usr1 (lp1_1 : (List (List Int))) :: L') w → w.cell? ⟨b5, b5o + j, none⟩ = some u := b5f
        refine s_val (wk0 rfl) rfl rfl hE hp (v := (.pointer (some ⟨b5, b5o, none⟩))) (ex_index rfl hE rfl rfl b5r) ?_
        intro a hE
        refine s_tstel (wk0 rfl) rfl hE hp rfl rfl rfl 0 rfl b4h ex8 ex9 b5v 0 (e' := lp1_0) varty3.size_ rfl rfl rfl ⟨rfl, rfl⟩ ?_
        intro w hp
        have hp : Hp Z ρ (TblA 34 3 vr1 usr1 (lp1_1.set lp1_0.toNat (x8.set (0 : Int).toNat lp1_0) : (List (List Int))) :: _ :: _ :: _ :: _ :: L) w := hp
        refine s_nil ?_
        have hE := hE.cut (E' := [(0, (.int .i64 p0)), (1, (.int .i64 p1)), (2, (.pointer (some ⟨bc0, 0, none⟩))), (3, (.pointer (some ⟨bc1, 0, none⟩))), (4, (.pointer (some ⟨bc2, 0, none⟩))), (7, (.int .i64 x1)), (8, (.int .i64 x2)), (9, vr1), (38, (.int .i64 (x7.length : Int))), (39, (.int .i64 lp1_0))]) ⟨rfl, rfl, rfl, rfl, rfl, rfl, rfl, rfl, rfl, rfl, trivial⟩
        refine k_region ?_
        obtain ⟨x10, ex10, hl1⟩ := bnd hl1
        refine s_val (wk0 rfl) rfl rfl hE hp (v := (.int .i64 x10)) (ex_add rfl hE rfl rfl (inK_some ex10)) ?_
        intro a hE
        refine s_val (wk0 rfl) rfl rfl hE hp (v := (.int .i64 x10)) (ex_move rfl hE rfl) ?_
        intro a hE
        refine s_nil ?_
        exact ⟨_, (Option.some.inj hl1).symm, hE.cut ⟨rfl, rfl, rfl, rfl, rfl, rfl, rfl, rfl, rfl, rfl, trivial⟩, hp⟩
      · replace hl1 := (ie hb2).symm.trans hl1
        refine k_exit ?_
        refine ⟨_, (Option.some.inj hl1).symm, fun hbb => ?_⟩
        subst hbb
        exact ⟨hE.cut ⟨rfl, rfl, rfl, rfl, rfl, rfl, rfl, rfl, trivial⟩, hp⟩
  · rintro a w ⟨hE, hp⟩
    refine k_seq ?_
    refine k_seq ?_
    refine k_region ?_
    refine s_val (wk0 rfl) rfl rfl hE hp (v := vr1) (ex_move rfl hE rfl) ?_
    intro a hE
    obtain ⟨x11, ex11, hm⟩ := bnd hm
    obtain ⟨b6u, b6, b6o, b6h, b6r, b6v, b6f⟩ := TblA.hdr hp 0 rfl slty30 ex11
    have b6f : ∀ (j : Nat) (u : Value), ([(Sl.v b6u)] : List Value)[j]? = some u → ∀ ρ' L' w, Hp Z ρ' (TblA 34 3 vr1 usr1 (b3 : (List (List Int))) :: L') w → w.cell? ⟨b6, b6o + j, none⟩ = some u := b6f
    refine s_val (wk0 rfl) rfl rfl hE hp (v := (.pointer (some ⟨b6, b6o, none⟩))) (ex_index rfl hE rfl rfl b6r) ?_
    intro a hE
    refine s_val (wk0 rfl) rfl rfl hE hp (v := (Sl.v b6u)) (ex_load rfl hE rfl (fun w hw => run_ld1 varty34 (b6f 0 _ rfl _ _ w (hw.get 0 rfl)))) ?_
    intro a hE
    refine s_val (wk0 rfl) rfl rfl hE hp (v := (.int .i64 (x11.length : Int))) (ex_len rfl hE rfl (TblA.rlen hp 0 rfl slty34 b6h ex11)) ?_
    intro a hE
    refine s_val (wk0 rfl) rfl rfl hE hp (v := (.int .i64 0)) (ex_move rfl hE rfl) ?_
    intro a hE
    refine s_nil ?_
    obtain ⟨b7, hb3, hm⟩ := bnd hm
    refine k_block (fun a w => Env 196 [(0, (.int .i64 p0)), (1, (.int .i64 p1)), (2, (.pointer (some ⟨bc0, 0, none⟩))), (3, (.pointer (some ⟨bc1, 0, none⟩))), (4, (.pointer (some ⟨bc2, 0, none⟩))), (7, (.int .i64 x1)), (8, (.int .i64 x2)), (9, vr1)] a ∧ Hp Z ρ (TblA 34 3 vr1 usr1 (b7 : (List (List Int))) :: Pt bc0 (.cells #[vc0_labels, vc0_left, vc0_numbers] 66 (0, 0)) :: Pt bc1 (.cells #[vc1_labels, vc1_left, vc1_numbers] 66 (0, 0)) :: Pt bc2 (.cells #[vc2] 30 (0, 0)) :: TblA 34 3 vc2 usc2 (c2 : (List (List Int))) :: L) w) ?_ ?_
    · refine k_loop hb3 (fun s a w => Env 196 [(0, (.int .i64 p0)), (1, (.int .i64 p1)), (2, (.pointer (some ⟨bc0, 0, none⟩))), (3, (.pointer (some ⟨bc1, 0, none⟩))), (4, (.pointer (some ⟨bc2, 0, none⟩))), (7, (.int .i64 x1)), (8, (.int .i64 x2)), (9, vr1), (52, (.int .i64 (x11.length : Int))), (53, (.int .i64 s.1))] a ∧ Hp Z ρ (TblA 34 3 vr1 usr1 (s.2 : (List (List Int))) :: Pt bc0 (.cells #[vc0_labels, vc0_left, vc0_numbers] 66 (0, 0)) :: Pt bc1 (.cells #[vc1_labels, vc1_left, vc1_numbers] 66 (0, 0)) :: Pt bc2 (.cells #[vc2] 30 (0, 0)) :: TblA 34 3 vc2 usc2 (c2 : (List (List Int))) :: L) w) ?_ ?_
      · exact ⟨hE.cut ⟨rfl, rfl, rfl, rfl, rfl, rfl, rfl, rfl, rfl, rfl, trivial⟩, hp⟩
      · rintro ⟨lp2_0, lp2_1⟩ st a w ⟨hE, hp⟩ hl2
        have hE : Env 196 [(0, (.int .i64 p0)), (1, (.int .i64 p1)), (2, (.pointer (some ⟨bc0, 0, none⟩))), (3, (.pointer (some ⟨bc1, 0, none⟩))), (4, (.pointer (some ⟨bc2, 0, none⟩))), (7, (.int .i64 x1)), (8, (.int .i64 x2)), (9, vr1), (52, (.int .i64 (x11.length : Int))), (53, (.int .i64 lp2_0))] a := hE
        have hp : Hp Z ρ (TblA 34 3 vr1 usr1 (lp2_1 : (List (List Int))) :: _ :: _ :: _ :: _ :: L) w := hp
        replace hl2 : m_distance_filler_1_lp2 x11 lp2_0 lp2_1 = some st := hl2
        unfold m_distance_filler_1_lp2 at hl2
        refine k_seq ?_
        refine k_region ?_
        refine s_val (wk0 rfl) rfl rfl hE hp (v := (.bool (decide (lp2_0 < (x11.length : Int))))) (ex_lss rfl hE rfl rfl) ?_
        intro a hE
        refine s_nil ?_
        refine k_seq ?_
        refine k_if hE rfl (fun hb4 => ?_) (fun hb4 => ?_)
        · replace hl2 := (it hb4).symm.trans hl2
          refine k_skip ?_
          refine k_seq ?_
          refine k_plain ?_
          refine k_seq ?_
          refine k_region ?_
          refine s_val (wk0 rfl) rfl rfl hE hp (v := (.int .i64 lp2_0)) (ex_move rfl hE rfl) ?_
          intro a hE
          refine s_val (wk0 rfl) rfl rfl hE hp (v := (.int .i64 lp2_0)) (ex_asn rfl hE rfl) ?_
          intro a hE
          refine s_nil ?_
          refine k_region ?_
          refine s_val (wk0 rfl) rfl rfl hE hp (v := vr1) (ex_move rfl hE rfl) ?_
          intro a hE
          obtain ⟨x12, ex12, hl2⟩ := bnd hl2
          obtain ⟨b8u, b8, b8o, b8h, b8r, b8v, b8f⟩ := TblA.hdr hp 0 rfl slty30 ex12
          have b8f : ∀ (j : Nat) (u : Value), ([(Sl.v b8u)] : List Value)[j]? = some u → ∀ ρ' L' w, Hp Z ρ' (TblA 34 3 vr1 usr1 (lp2_1 : (List (List Int))) :: L') w → w.cell? ⟨b8, b8o + j, none⟩ = some u := b8f
          refine s_val (wk0 rfl) rfl rfl hE hp (v := (.pointer (some ⟨b8, b8o, none⟩))) (ex_index rfl hE rfl rfl b8r) ?_
          intro a hE
          refine s_val (wk0 rfl) rfl rfl hE hp (v := (Sl.v b8u)) (ex_load rfl hE rfl (fun w hw => run_ld1 varty34 (b8f 0 _ rfl _ _ w (hw.get 0 rfl)))) ?_
          intro a hE
          refine s_val (wk0 rfl) rfl rfl hE hp (v := (.int .i64 lp2_0)) (ex_move rfl hE rfl) ?_
          intro a hE
          refine s_val (wk0 rfl) rfl rfl hE hp (v := (.int .i64 lp2_0)) (ex_move rfl hE rfl) ?_
          intro a hE
          obtain ⟨x13, ex13, hl2⟩ := bnd hl2
          obtain ⟨b9, b9o, b9r, b9v, b9f⟩ := TblA.at hp 0 rfl slty34 b8h ex12 ex13
          have b9f : ∀ (j : Nat) (u : Value), ([(.int .i64 x13)] : List Value)[j]? = some u → ∀ ρ' L' w, Hp Z ρ' (TblA 34 3 vr1 usr1 (lp2_1 : (List (List Int))) :: L') w → w.cell? ⟨b9, b9o + j, none⟩ = some u := b9f
          refine s_val (wk0 rfl) rfl rfl hE hp (v := (.pointer (some ⟨b9, b9o, none⟩))) (ex_index rfl hE rfl rfl b9r) ?_
          intro a hE
          refine s_tstel (wk0 rfl) rfl hE hp rfl rfl rfl 0 rfl b8h ex12 ex13 b9v 0 (e' := lp2_0) varty3.size_ rfl rfl rfl ⟨rfl, rfl⟩ ?_
          intro w hp
          have hp : Hp Z ρ (TblA 34 3 vr1 usr1 (lp2_1.set (0 : Int).toNat (x12.set lp2_0.toNat lp2_0) : (List (List Int))) :: _ :: _ :: _ :: _ :: L) w := hp
          refine s_nil ?_
          refine k_region ?_
          obtain ⟨x14, ex14, hl2⟩ := bnd hl2
          refine s_val (wk0 rfl) rfl rfl hE hp (v := (.int .i64 x14)) (ex_add rfl hE rfl rfl (inK_some ex14)) ?_
          intro a hE
          refine s_val (wk0 rfl) rfl rfl hE hp (v := (.int .i64 x14)) (ex_move rfl hE rfl) ?_
          intro a hE
          refine s_nil ?_
          exact ⟨_, (Option.some.inj hl2).symm, hE.cut ⟨rfl, rfl, rfl, rfl, rfl, rfl, rfl, rfl, rfl, rfl, trivial⟩, hp⟩
        · replace hl2 := (ie hb4).symm.trans hl2
          refine k_exit ?_
          refine ⟨_, (Option.some.inj hl2).symm, fun hbb => ?_⟩
          subst hbb
          exact ⟨hE.cut ⟨rfl, rfl, rfl, rfl, rfl, rfl, rfl, rfl, trivial⟩, hp⟩
    · rintro a w ⟨hE, hp⟩
      refine k_seq ?_
      refine k_region ?_
      refine s_val (wk0 rfl) rfl rfl hE hp (v := (.int .i64 x1)) (ex_move rfl hE rfl) ?_
      intro a hE
      refine s_val (wk0 rfl) rfl rfl hE hp (v := (.int .i64 x1)) (ex_asn rfl hE rfl) ?_
      intro a hE
      refine s_nil ?_
      have hE := hE.cut (E' := [(0, (.int .i64 p0)), (1, (.int .i64 p1)), (2, (.pointer (some ⟨bc0, 0, none⟩))), (3, (.pointer (some ⟨bc1, 0, none⟩))), (4, (.pointer (some ⟨bc2, 0, none⟩))), (7, (.int .i64 x1)), (8, (.int .i64 x2)), (9, vr1), (12, (.int .i64 x1))]) ⟨rfl, rfl, rfl, rfl, rfl, rfl, rfl, rfl, rfl, trivial⟩
      obtain ⟨b10, hb5, hm⟩ := bnd hm
      refine k_block (fun a w => Env 196 [] a ∧ Hp Z ρ (TblA 34 3 vr1 usr1 (b10.1 : (List (List Int))) :: Pt bc0 (.cells #[vc0_labels, vc0_left, vc0_numbers] 66 (0, 0)) :: Pt bc1 (.cells #[vc1_labels, vc1_left, vc1_numbers] 66 (0, 0)) :: Pt bc2 (.cells #[vc2] 30 (0, 0)) :: TblA 34 3 vc2 usc2 (b10.2 : (List (List Int))) :: L) w) ?_ ?_
      · refine k_loop hb5 (fun s a w => Env 196 [(0, (.int .i64 p0)), (1, (.int .i64 p1)), (2, (.pointer (some ⟨bc0, 0, none⟩))), (3, (.pointer (some ⟨bc1, 0, none⟩))), (4, (.pointer (some ⟨bc2, 0, none⟩))), (7, (.int .i64 x1)), (8, (.int .i64 x2)), (9, vr1), (12, (.int .i64 s.1))] a ∧ Hp Z ρ (TblA 34 3 vr1 usr1 (s.2.1 : (List (List Int))) :: Pt bc0 (.cells #[vc0_labels, vc0_left, vc0_numbers] 66 (0, 0)) :: Pt bc1 (.cells #[vc1_labels, vc1_left, vc1_numbers] 66 (0, 0)) :: Pt bc2 (.cells #[vc2] 30 (0, 0)) :: TblA 34 3 vc2 usc2 (s.2.2 : (List (List Int))) :: L) w) ?_ ?_
        · exact ⟨hE.cut ⟨rfl, rfl, rfl, rfl, rfl, rfl, rfl, rfl, rfl, trivial⟩, hp⟩
        · rintro ⟨lp3_0, lp3_1, lp3_2⟩ st a w ⟨hE, hp⟩ hl3
          have hE : Env 196 [(0, (.int .i64 p0)), (1, (.int .i64 p1)), (2, (.pointer (some ⟨bc0, 0, none⟩))), (3, (.pointer (some ⟨bc1, 0, none⟩))), (4, (.pointer (some ⟨bc2, 0, none⟩))), (7, (.int .i64 x1)), (8, (.int .i64 x2)), (9, vr1), (12, (.int .i64 lp3_0))] a := hE
          have hp : Hp Z ρ (TblA 34 3 vr1 usr1 (lp3_1 : (List (List Int))) :: _ :: _ :: _ :: TblA 34 3 vc2 usc2 (lp3_2 : (List (List Int))) :: L) w := hp
          replace hl3 : m_distance_filler_1_lp3 p0 p1 c0 c1 x1 x2 lp3_0 lp3_1 lp3_2 = some st := hl3
          unfold m_distance_filler_1_lp3 at hl3
          refine k_seq ?_
          refine k_seq ?_
          refine k_region ?_
          refine s_val (wk0 rfl) rfl rfl hE hp (v := (.int .i64 lp3_0)) (ex_move rfl hE rfl) ?_
          intro a hE
          refine s_val (wk0 rfl) rfl rfl hE hp (v := (.int .i64 p0)) (ex_move rfl hE rfl) ?_
          intro a hE
          refine s_val (wk0 rfl) rfl rfl hE hp (v := (.bool (decide (lp3_0 ≤ p0)))) (ex_leq rfl hE rfl rfl) ?_
          intro a hE
          refine s_nil ?_
          refine k_if hE rfl (fun hb6 => ?_) (fun hb6 => ?_)
          · replace hl3 := (it hb6).symm.trans hl3
            refine k_skip ?_
            refine k_seq ?_
            refine k_plain ?_
            refine k_seq ?_
            refine k_region ?_
            refine s_val (wk0 rfl) rfl rfl hE hp (v := (.int .i64 x2)) (ex_move rfl hE rfl) ?_
            intro a hE
            refine s_val (wk0 rfl) rfl rfl hE hp (v := (.int .i64 x2)) (ex_asn rfl hE rfl) ?_
            intro a hE
            refine s_nil ?_
            obtain ⟨b11, hb7, hl3⟩ := bnd hl3
            refine k_block (fun a w => Env 196 [(0, (.int .i64 p0)), (1, (.int .i64 p1)), (2, (.pointer (some ⟨bc0, 0, none⟩))), (3, (.pointer (some ⟨bc1, 0, none⟩))), (4, (.pointer (some ⟨bc2, 0, none⟩))), (7, (.int .i64 x1)), (8, (.int .i64 x2)), (9, vr1), (12, (.int .i64 lp3_0))] a ∧ Hp Z ρ (TblA 34 3 vr1 usr1 (b11.1 : (List (List Int))) :: Pt bc0 (.cells #[vc0_labels, vc0_left, vc0_numbers] 66 (0, 0)) :: Pt bc1 (.cells #[vc1_labels, vc1_left, vc1_numbers] 66 (0, 0)) :: Pt bc2 (.cells #[vc2] 30 (0, 0)) :: TblA 34 3 vc2 usc2 (b11.2 : (List (List Int))) :: L) w) ?_ ?_
            · refine k_loop hb7 (fun s a w => Env 196 [(0, (.int .i64 p0)), (1, (.int .i64 p1)), (2, (.pointer (some ⟨bc0, 0, none⟩))), (3, (.pointer (some ⟨bc1, 0, none⟩))), (4, (.pointer (some ⟨bc2, 0, none⟩))), (7, (.int .i64 x1)), (8, (.int .i64 x2)), (9, vr1), (12, (.int .i64 lp3_0)), (13, (.int .i64 s.1))] a ∧ Hp Z ρ (TblA 34 3 vr1 usr1 (s.2.1 : (List (List Int))) :: Pt bc0 (.cells #[vc0_labels, vc0_left, vc0_numbers] 66 (0, 0)) :: Pt bc1 (.cells #[vc1_labels, vc1_left, vc1_numbers] 66 (0, 0)) :: Pt bc2 (.cells #[vc2] 30 (0, 0)) :: TblA 34 3 vc2 usc2 (s.2.2 : (List (List Int))) :: L) w) ?_ ?_
              · exact ⟨hE.cut ⟨rfl, rfl, rfl, rfl, rfl, rfl, rfl, rfl, rfl, rfl, trivial⟩, hp⟩
              · rintro ⟨lp4_0, lp4_1, lp4_2⟩ st a w ⟨hE, hp⟩ hl4
                have hE : Env 196 [(0, (.int .i64 p0)), (1, (.int .i64 p1)), (2, (.pointer (some ⟨bc0, 0, none⟩))), (3, (.pointer (some ⟨bc1, 0, none⟩))), (4, (.pointer (some ⟨bc2, 0, none⟩))), (7, (.int .i64 x1)), (8, (.int .i64 x2)), (9, vr1), (12, (.int .i64 lp3_0)), (13, (.int .i64 lp4_0))] a := hE
                have hp : Hp Z ρ (TblA 34 3 vr1 usr1 (lp4_1 : (List (List Int))) :: _ :: _ :: _ :: TblA 34 3 vc2 usc2 (lp4_2 : (List (List Int))) :: L) w := hp
                replace hl4 : m_distance_filler_1_lp4 p1 c0 c1 x1 x2 lp3_0 lp4_0 lp4_1 lp4_2 = some st := hl4
                unfold m_distance_filler_1_lp4 at hl4
                refine k_seq ?_
                refine k_seq ?_
                refine k_region ?_
                refine s_val (wk0 rfl) rfl rfl hE hp (v := (.int .i64 lp4_0)) (ex_move rfl hE rfl) ?_
                intro a hE
                refine s_val (wk0 rfl) rfl rfl hE hp (v := (.int .i64 p1)) (ex_move rfl hE rfl) ?_
                intro a hE
                refine s_val (wk0 rfl) rfl rfl hE hp (v := (.bool (decide (lp4_0 ≤ p1)))) (ex_leq rfl hE rfl rfl) ?_
                intro a hE
                refine s_nil ?_
                refine k_if hE rfl (fun hb8 => ?_) (fun hb8 => ?_)
                · replace hl4 := (it hb8).symm.trans hl4
                  refine k_skip ?_
                  refine k_seq ?_
                  obtain ⟨j1, hj1, hl4⟩ := bnd hl4
                  refine k_block (fun a w => Env 196 [(0, (.int .i64 p0)), (1, (.int .i64 p1)), (2, (.pointer (some ⟨bc0, 0, none⟩))), (3, (.pointer (some ⟨bc1, 0, none⟩))), (4, (.pointer (some ⟨bc2, 0, none⟩))), (7, (.int .i64 x1)), (8, (.int .i64 x2)), (9, vr1), (12, (.int .i64 lp3_0)), (13, (.int .i64 lp4_0))] a ∧ Hp Z ρ (TblA 34 3 vr1 usr1 (j1.1 : (List (List Int))) :: Pt bc0 (.cells #[vc0_labels, vc0_left, vc0_numbers] 66 (0, 0)) :: Pt bc1 (.cells #[vc1_labels, vc1_left, vc1_numbers] 66 (0, 0)) :: Pt bc2 (.cells #[vc2] 30 (0, 0)) :: TblA 34 3 vc2 usc2 (j1.2 : (List (List Int))) :: L) w) ?_ ?_
                  ·
                    refine k_seq ?_
                    refine k_region ?_
                    refine s_val (wk0 rfl) rfl rfl hE hp (v := (.int .i64 lp3_0)) (ex_move rfl hE rfl) ?_
                    intro a hE
                    refine s_val (wk0 rfl) rfl rfl hE hp (v := (.int .i64 x1)) (ex_move rfl hE rfl) ?_
                    intro a hE
                    obtain ⟨x15, ex15, hj1⟩ := bnd hj1
                    refine s_val (wk0 rfl) rfl rfl hE hp (v := (.int .i64 x15)) (ex_sub rfl hE rfl rfl (inK_some ex15)) ?_
                    intro a hE
                    obtain ⟨x16, ex16, hj1⟩ := bnd hj1
                    refine s_val (wk0 rfl) rfl rfl hE hp (v := (.int .i64 x16)) (ex_add rfl hE rfl rfl (inK_some ex16)) ?_
                    intro a hE
                    refine s_val (wk0 rfl) rfl rfl hE hp (v := (.int .i64 lp4_0)) (ex_move rfl hE rfl) ?_
                    intro a hE
                    refine s_val (wk0 rfl) rfl rfl hE hp (v := (.int .i64 x2)) (ex_move rfl hE rfl) ?_
                    intro a hE
                    obtain ⟨x17, ex17, hj1⟩ := bnd hj1
                    refine s_val (wk0 rfl) rfl rfl hE hp (v := (.int .i64 x17)) (ex_sub rfl hE rfl rfl (inK_some ex17)) ?_
                    intro a hE
                    obtain ⟨x18, ex18, hj1⟩ := bnd hj1
                    refine s_val (wk0 rfl) rfl rfl hE hp (v := (.int .i64 x18)) (ex_add rfl hE rfl rfl (inK_some ex18)) ?_
                    intro a hE
                    refine s_val (wk0 rfl) rfl rfl hE hp (v := (.int .i64 x16)) (ex_asn rfl hE rfl) ?_
                    intro a hE
                    refine s_val (wk0 rfl) rfl rfl hE hp (v := (.int .i64 x18)) (ex_asn rfl hE rfl) ?_
                    intro a hE
                    refine s_nil ?_
                    refine k_seq ?_
                    refine k_quiet (by kernel_rfl) (by kernel_rfl) hp ?_
                    refine q_val (wk0 rfl) rfl rfl hE (v := vr1) (ex_move rfl hE rfl) ?_
                    intro a hE
                    refine q_val (wk0 rfl) rfl rfl hE (v := (.int .i64 x16)) (ex_move rfl hE rfl) ?_
                    intro a hE
                    obtain ⟨x19, ex19, hj1⟩ := bnd hj1
                    refine q_val (wk0 rfl) rfl rfl hE (v := (.int .i64 x19)) (ex_sub rfl hE rfl rfl (inK_some ex19)) ?_
                    intro a hE
                    obtain ⟨x20, ex20, hj1⟩ := bnd hj1
                    obtain ⟨b12u, b12, b12o, b12h, b12r, b12v, b12f⟩ := TblA.hdr hp 0 rfl slty30 ex20
                    have b12f : ∀ (j : Nat) (u : Value), ([(Sl.v b12u)] : List Value)[j]? = some u → ∀ ρ' L' w, Hp Z ρ' (TblA 34 3 vr1 usr1 (lp4_1 : (List (List Int))) :: L') w → w.cell? ⟨b12, b12o + j, none⟩ = some u := b12f
                    refine q_val (wk0 rfl) rfl rfl hE (v := (.pointer (some ⟨b12, b12o, none⟩))) (ex_index rfl hE rfl rfl b12r) ?_
                    intro a hE
                    refine q_val (wk0 rfl) rfl rfl hE (v := (Sl.v b12u)) (ex_load rfl hE rfl (fun w hw => run_ld1 varty34 (b12f 0 _ rfl _ _ w (hw.get 0 rfl)))) ?_
                    intro a hE
                    refine q_val (wk0 rfl) rfl rfl hE (v := (.int .i64 x18)) (ex_move rfl hE rfl) ?_
                    intro a hE
                    obtain ⟨x21, ex21, hj1⟩ := bnd hj1
                    obtain ⟨b13, b13o, b13r, b13v, b13f⟩ := TblA.at hp 0 rfl slty34 b12h ex20 ex21
                    have b13f : ∀ (j : Nat) (u : Value), ([(.int .i64 x21)] : List Value)[j]? = some u → ∀ ρ' L' w, Hp Z ρ' (TblA 34 3 vr1 usr1 (lp4_1 : (List (List Int))) :: L') w → w.cell? ⟨b13, b13o + j, none⟩ = some u := b13f
                    refine q_val (wk0 rfl) rfl rfl hE (v := (.pointer (some ⟨b13, b13o, none⟩))) (ex_index rfl hE rfl rfl b13r) ?_
                    intro a hE
                    refine q_val (wk0 rfl) rfl rfl hE (v := (.int .i64 x21)) (ex_load rfl hE rfl (fun w hw => run_ld1 varty3 (b13f 0 _ rfl _ _ w (hw.get 0 rfl)))) ?_
                    intro a hE
                    refine q_val (wk0 rfl) rfl rfl hE (v := vr1) (ex_move rfl hE rfl) ?_
                    intro a hE
                    refine q_val (wk0 rfl) rfl rfl hE (v := (.int .i64 x16)) (ex_move rfl hE rfl) ?_
                    intro a hE
                    obtain ⟨x22, ex22, hj1⟩ := bnd hj1
                    obtain ⟨b14u, b14, b14o, b14h, b14r, b14v, b14f⟩ := TblA.hdr hp 0 rfl slty30 ex22
                    have b14f : ∀ (j : Nat) (u : Value), ([(Sl.v b14u)] : List Value)[j]? = some u → ∀ ρ' L' w, Hp Z ρ' (TblA 34 3 vr1 usr1 (lp4_1 : (List (List Int))) :: L') w → w.cell? ⟨b14, b14o + j, none⟩ = some u := b14f
                    refine q_val (wk0 rfl) rfl rfl hE (v := (.pointer (some ⟨b14, b14o, none⟩))) (ex_index rfl hE rfl rfl b14r) ?_
                    intro a hE
                    refine q_val (wk0 rfl) rfl rfl hE (v := (Sl.v b14u)) (ex_load rfl hE rfl (fun w hw => run_ld1 varty34 (b14f 0 _ rfl _ _ w (hw.get 0 rfl)))) ?_
                    intro a hE
                    refine q_val (wk0 rfl) rfl rfl hE (v := (.int .i64 x18)) (ex_move rfl hE rfl) ?_
                    intro a hE
                    obtain ⟨x23, ex23, hj1⟩ := bnd hj1
                    refine q_val (wk0 rfl) rfl rfl hE (v := (.int .i64 x23)) (ex_sub rfl hE rfl rfl (inK_some ex23)) ?_
                    intro a hE
                    obtain ⟨x24, ex24, hj1⟩ := bnd hj1
                    obtain ⟨b15, b15o, b15r, b15v, b15f⟩ := TblA.at hp 0 rfl slty34 b14h ex22 ex24
                    have b15f : ∀ (j : Nat) (u : Value), ([(.int .i64 x24)] : List Value)[j]? = some u → ∀ ρ' L' w, Hp Z ρ' (TblA 34 3 vr1 usr1 (lp4_1 : (List (List Int))) :: L') w → w.cell? ⟨b15, b15o + j, none⟩ = some u := b15f
                    refine q_val (wk0 rfl) rfl rfl hE (v := (.pointer (some ⟨b15, b15o, none⟩))) (ex_index rfl hE rfl rfl b15r) ?_
                    intro a hE
                    refine q_val (wk0 rfl) rfl rfl hE (v := (.int .i64 x24)) (ex_load rfl hE rfl (fun w hw => run_ld1 varty3 (b15f 0 _ rfl _ _ w (hw.get 0 rfl)))) ?_
                    intro a hE
                    refine q_val (wk0 rfl) rfl rfl hE (v := (.int .i64 (min x21 x24))) (ex_min rfl hE rfl rfl) ?_
                    intro a hE
                    obtain ⟨x25, ex25, hj1⟩ := bnd hj1
                    refine q_val (wk0 rfl) rfl rfl hE (v := (.int .i64 x25)) (ex_add rfl hE rfl rfl (inK_some ex25)) ?_
                    intro a hE
                    refine q_val (wk0 rfl) rfl rfl hE (v := (.int .i64 x25)) (ex_asn rfl hE rfl) ?_
                    intro a hE
                    refine q_nil fun w hp => ?_
                    have hp : Hp Z ρ (_ :: _ :: _ :: _ :: _ :: L) w := hp
                    have hE := hE.cut (E' := [(0, (.int .i64 p0)), (1, (.int .i64 p1)), (2, (.pointer (some ⟨bc0, 0, none⟩))), (3, (.pointer (some ⟨bc1, 0, none⟩))), (4, (.pointer (some ⟨bc2, 0, none⟩))), (7, (.int .i64 x1)), (8, (.int .i64 x2)), (9, vr1), (12, (.int .i64 lp3_0)), (13, (.int .i64 lp4_0)), (14, (.int .i64 x16)), (15, (.int .i64 x18)), (16, (.int .i64 x25))]) ⟨rfl, rfl, rfl, rfl, rfl, rfl, rfl, rfl, rfl, rfl, rfl, rfl, rfl, trivial⟩
                    refine k_seq ?_
                    refine k_seq ?_
                    refine k_region ?_
                    refine s_val (wk0 rfl) rfl rfl hE hp (v := (.pointer (some ⟨bc0, 1, none⟩))) (ex_field rfl hE rfl (fldty66_1 _ _)) ?_
                    intro a hE
                    refine s_val (wk0 rfl) rfl rfl hE hp (v := vc0_left) (ex_load rfl hE rfl (fun w hw => run_ld1 varty34 (Hp.c 1 rfl 1 rfl w hw))) ?_
                    intro a hE
                    refine s_val (wk0 rfl) rfl rfl hE hp (v := (.int .i64 lp3_0)) (ex_move rfl hE rfl) ?_
                    intro a hE
                    obtain ⟨x26, ex26, hj1⟩ := bnd hj1
                    obtain ⟨b16, b16o, b16c, b16r, b16k, b16f⟩ := RoSl.at hc0_left slty34 ex26
                    obtain rfl : b16c = Enc.enc x26 := b16k
                    have b16f : AtP ρ b16 b16o [(.int .i64 x26)] := b16f
                    refine s_val (wk0 rfl) rfl rfl hE hp (v := (.pointer (some ⟨b16, b16o, none⟩))) (ex_index rfl hE rfl rfl b16r) ?_
                    intro a hE
                    refine s_val (wk0 rfl) rfl rfl hE hp (v := (.int .i64 x26)) (ex_load rfl hE rfl (fun w hw => run_ld1 varty3 (b16f.c 0 rfl w hw))) ?_
                    intro a hE
                    refine s_val (wk0 rfl) rfl rfl hE hp (v := (.int .i64 x1)) (ex_move rfl hE rfl) ?_
                    intro a hE
                    refine s_val (wk0 rfl) rfl rfl hE hp (v := (.bool (!decide (x26 = x1)))) (ex_neq rfl hE rfl rfl) ?_
                    intro a hE
                    refine s_val (wk0 rfl) rfl rfl hE hp (v := (.bool (!decide (x26 = x1)))) (ex_move rfl hE rfl) ?_
                    intro a hE
                    obtain ⟨m1, hg1, hj1⟩ := bnd hj1
                    refine s_cut [_, _, _, _, _, _, _, _] (fun a w => Env 196 [(116, (.bool m1)), (0, (.int .i64 p0)), (1, (.int .i64 p1)), (2, (.pointer (some ⟨bc0, 0, none⟩))), (3, (.pointer (some ⟨bc1, 0, none⟩))), (4, (.pointer (some ⟨bc2, 0, none⟩))), (7, (.int .i64 x1)), (8, (.int .i64 x2)), (9, vr1), (12, (.int .i64 lp3_0)), (13, (.int .i64 lp4_0)), (14, (.int .i64 x16)), (15, (.int .i64 x18)), (16, (.int .i64 x25))] a ∧ Hp Z ρ (TblA 34 3 vr1 usr1 (lp4_1 : (List (List Int))) :: Pt bc0 (.cells #[vc0_labels, vc0_left, vc0_numbers] 66 (0, 0)) :: Pt bc1 (.cells #[vc1_labels, vc1_left, vc1_numbers] 66 (0, 0)) :: Pt bc2 (.cells #[vc2] 30 (0, 0)) :: TblA 34 3 vc2 usc2 (lp4_2 : (List (List Int))) :: L) w) ?_ ?_
                    · rcases Bool.eq_false_or_eq_true (!decide (x26 = x1)) with hb9 | hb9
                      ·
                        replace hg1 := (it hb9).symm.trans hg1
                        refine s_skip (wk2 hE rfl rfl rfl hb9) rfl rfl hE ?_
                        intro a hE
                        refine s_skip (wk2 hE rfl rfl rfl hb9) rfl rfl hE ?_
                        intro a hE
                        refine s_skip (wk2 hE rfl rfl rfl hb9) rfl rfl hE ?_
                        intro a hE
                        refine s_skip (wk2 hE rfl rfl rfl hb9) rfl rfl hE ?_
                        intro a hE
                        refine s_skip (wk2 hE rfl rfl rfl hb9) rfl rfl hE ?_
                        intro a hE
                        refine s_skip (wk2 hE rfl rfl rfl hb9) rfl rfl hE ?_
                        intro a hE
                        refine s_skip (wk2 hE rfl rfl rfl hb9) rfl rfl hE ?_
                        intro a hE
                        refine s_val (wk0 rfl) rfl rfl hE hp (v := (.bool true)) (ex_pick1 rfl hE rfl hb9 rfl) ?_
                        intro a hE
                        obtain rfl := Option.some.inj hg1
                        exact s_nil ⟨hE.cut ⟨rfl, rfl, rfl, rfl, rfl, rfl, rfl, rfl, rfl, rfl, rfl, rfl, rfl, rfl, trivial⟩, hp⟩
                      ·
                        replace hg1 := (ie hb9).symm.trans hg1
                        refine s_val (wk1 hE rfl rfl rfl hb9) rfl rfl hE hp (v := (.pointer (some ⟨bc1, 1, none⟩))) (ex_field rfl hE rfl (fldty66_1 _ _)) ?_
                        intro a hE
                        refine s_val (wk1 hE rfl rfl rfl hb9) rfl rfl hE hp (v := vc1_left) (ex_load rfl hE rfl (fun w hw => run_ld1 varty34 (Hp.c 2 rfl 1 rfl w hw))) ?_
                        intro a hE
                        refine s_val (wk1 hE rfl rfl rfl hb9) rfl rfl hE hp (v := (.int .i64 lp4_0)) (ex_move rfl hE rfl) ?_
                        intro a hE
                        obtain ⟨x27, ex27, hg1⟩ := bnd hg1
                        obtain ⟨b17, b17o, b17c, b17r, b17k, b17f⟩ := RoSl.at hc1_left slty34 ex27
                        obtain rfl : b17c = Enc.enc x27 := b17k
                        have b17f : AtP ρ b17 b17o [(.int .i64 x27)] := b17f
                        refine s_val (wk1 hE rfl rfl rfl hb9) rfl rfl hE hp (v := (.pointer (some ⟨b17, b17o, none⟩))) (ex_index rfl hE rfl rfl b17r) ?_
                        intro a hE
                        refine s_val (wk1 hE rfl rfl rfl hb9) rfl rfl hE hp (v := (.int .i64 x27)) (ex_load rfl hE rfl (fun w hw => run_ld1 varty3 (b17f.c 0 rfl w hw))) ?_
                        intro a hE
                        refine s_val (wk1 hE rfl rfl rfl hb9) rfl rfl hE hp (v := (.int .i64 x2)) (ex_move rfl hE rfl) ?_
                        intro a hE
                        refine s_val (wk1 hE rfl rfl rfl hb9) rfl rfl hE hp (v := (.bool (!decide (x27 = x2)))) (ex_neq rfl hE rfl rfl) ?_
                        intro a hE
                        refine s_val (wk0 rfl) rfl rfl hE hp (v := (.bool (!decide (x27 = x2)))) (ex_pick0 rfl hE rfl hb9 rfl) ?_
                        intro a hE
                        obtain rfl := Option.some.inj hg1
                        exact s_nil ⟨hE.cut ⟨rfl, rfl, rfl, rfl, rfl, rfl, rfl, rfl, rfl, rfl, rfl, rfl, rfl, rfl, trivial⟩, hp⟩
                    · rintro a w ⟨hE, hp⟩
                      refine s_nil ?_
                      refine k_if hE rfl (fun hb10 => ?_) (fun hb10 => ?_)
                      · replace hj1 := (it hb10).symm.trans hj1
                        refine k_seq ?_
                        obtain ⟨x28, ex28, hj1⟩ := bnd hj1
                        obtain ⟨x29, ex29, hj1⟩ := bnd hj1
                        obtain ⟨x30, ex30, hj1⟩ := bnd hj1
                        obtain ⟨x31, ex31, hj1⟩ := bnd hj1
                        obtain ⟨x32, ex32, hj1⟩ := bnd hj1
                        obtain ⟨x33, ex33, hj1⟩ := bnd hj1
                        obtain ⟨x34, ex34, hj1⟩ := bnd hj1
                        obtain ⟨x35, ex35, hj1⟩ := bnd hj1
                        obtain ⟨x36, ex36, hj1⟩ := bnd hj1
                        obtain ⟨x37, ex37, hj1⟩ := bnd hj1
                        obtain ⟨x38, ex38, hj1⟩ := bnd hj1
                        have hp := hp.drew
                        refine k_heldV ([([], At0 Z ρ), ([35], At1 Z ρ (TblA 34 3 vr1 usr1 (lp4_1 : (List (List Int))))), ([], At1 Z ρ (Pt bc0 (.cells #[vc0_labels, vc0_left, vc0_numbers] 66 (0, 0)))), ([], At1 Z ρ (Pt bc1 (.cells #[vc1_labels, vc1_left, vc1_numbers] 66 (0, 0)))), ([], At1 Z ρ (Pt bc2 (.cells #[vc2] 30 (0, 0)))), ([], At1 Z ρ (TblA 34 3 vc2 usc2 (lp4_2 : (List (List Int)))))] : Facts) (fun a w => Env 196 [(0, (.int .i64 p0)), (1, (.int .i64 p1)), (2, (.pointer (some ⟨bc0, 0, none⟩))), (3, (.pointer (some ⟨bc1, 0, none⟩))), (4, (.pointer (some ⟨bc2, 0, none⟩))), (7, (.int .i64 x1)), (8, (.int .i64 x2)), (9, vr1), (12, (.int .i64 lp3_0)), (13, (.int .i64 lp4_0))] a ∧ Hp Z ρ (TblA 34 3 vr1 usr1 (lp4_1.set x16.toNat (x28.set x18.toNat (min x25 x37)) : (List (List Int))) :: Pt bc0 (.cells #[vc0_labels, vc0_left, vc0_numbers] 66 (0, 0)) :: Pt bc1 (.cells #[vc1_labels, vc1_left, vc1_numbers] 66 (0, 0)) :: Pt bc2 (.cells #[vc2] 30 (0, 0)) :: TblA 34 3 vc2 usc2 (lp4_2 : (List (List Int))) :: L) w) (by kernel_rfl) ⟨fun _ => ⟨_, hp⟩, fun _ => ⟨_, (hp.get 0 rfl)⟩, fun _ => ⟨_, (hp.get 1 rfl)⟩, fun _ => ⟨_, (hp.get 2 rfl)⟩, fun _ => ⟨_, (hp.get 3 rfl)⟩, fun _ => ⟨_, (hp.get 4 rfl)⟩, trivial⟩ (fun hS => ?_) ?_
                        ·
                          generalize w.drew = w at hS hp ⊢
                          refine v_take0 0 (wk0 rfl) rfl rfl rfl hE (by kernel_rfl) (by kernel_rfl) (by kernel_rfl) rfl (by kernel_rfl) hS (v := vr1) (fun _ => ex_move rfl hE rfl) ?_
                          intro a hE hS
                          refine v_take0 1 (wk0 rfl) rfl rfl rfl hE (by kernel_rfl) (by kernel_rfl) (by kernel_rfl) rfl (by kernel_rfl) hS (v := (.int .i64 x16)) (fun _ => ex_move rfl hE rfl) ?_
                          intro a hE hS
                          obtain ⟨b26u, b26, b26o, b26h, b26r, b26v, b26f⟩ := TblA.hdr hp 0 rfl slty30 ex28
                          have b26f : ∀ (j : Nat) (u : Value), ([(Sl.v b26u)] : List Value)[j]? = some u → ∀ ρ' L' w, Hp Z ρ' (TblA 34 3 vr1 usr1 (lp4_1 : (List (List Int))) :: L') w → w.cell? ⟨b26, b26o + j, none⟩ = some u := b26f
                          refine v_take0 2 (wk0 rfl) rfl rfl rfl hE (by kernel_rfl) (by kernel_rfl) (by kernel_rfl) rfl (by kernel_rfl) hS (v := (.pointer (some ⟨b26, b26o, none⟩))) (fun _ => ex_index rfl hE rfl rfl b26r) ?_
                          intro a hE hS
                          refine v_take1 3 1 (wk0 rfl) rfl rfl rfl hE (by kernel_rfl) (by kernel_rfl) (by kernel_rfl) rfl (by kernel_rfl) hS (v := (Sl.v b26u)) (fun _ => ex_load rfl hE rfl (fun w hw => run_ld1 varty34 (b26f 0 _ rfl _ _ w (hw.get 0 rfl)))) ?_
                          intro a hE hS
                          refine v_take0 4 (wk0 rfl) rfl rfl rfl hE (by kernel_rfl) (by kernel_rfl) (by kernel_rfl) rfl (by kernel_rfl) hS (v := (.int .i64 x18)) (fun _ => ex_move rfl hE rfl) ?_
                          intro a hE hS
                          refine v_take0 5 (wk0 rfl) rfl rfl rfl hE (by kernel_rfl) (by kernel_rfl) (by kernel_rfl) rfl (by kernel_rfl) hS (v := (.int .i64 x25)) (fun _ => ex_move rfl hE rfl) ?_
                          intro a hE hS
                          refine v_take0 6 (wk0 rfl) rfl rfl rfl hE (by kernel_rfl) (by kernel_rfl) (by kernel_rfl) rfl (by kernel_rfl) hS (v := vr1) (fun _ => ex_move rfl hE rfl) ?_
                          intro a hE hS
                          refine v_take0 7 (wk0 rfl) rfl rfl rfl hE (by kernel_rfl) (by kernel_rfl) (by kernel_rfl) rfl (by kernel_rfl) hS (v := (.pointer (some ⟨bc0, 1, none⟩))) (fun _ => ex_field rfl hE rfl (fldty66_1 _ _)) ?_
                          intro a hE hS
                          refine v_take1 8 2 (wk0 rfl) rfl rfl rfl hE (by kernel_rfl) (by kernel_rfl) (by kernel_rfl) rfl (by kernel_rfl) hS (v := vc0_left) (fun _ => ex_load rfl hE rfl (fun w hw => run_ld1 varty34 (Hp.c 0 rfl 1 rfl w hw))) ?_
                          intro a hE hS
                          refine v_take0 9 (wk0 rfl) rfl rfl rfl hE (by kernel_rfl) (by kernel_rfl) (by kernel_rfl) rfl (by kernel_rfl) hS (v := (.int .i64 lp3_0)) (fun _ => ex_move rfl hE rfl) ?_
                          intro a hE hS
                          obtain ⟨b27, b27o, b27c, b27r, b27k, b27f⟩ := RoSl.at hc0_left slty34 ex29
                          obtain rfl : b27c = Enc.enc x29 := b27k
                          have b27f : AtP ρ b27 b27o [(.int .i64 x29)] := b27f
                          refine v_take0 10 (wk0 rfl) rfl rfl rfl hE (by kernel_rfl) (by kernel_rfl) (by kernel_rfl) rfl (by kernel_rfl) hS (v := (.pointer (some ⟨b27, b27o, none⟩))) (fun _ => ex_index rfl hE rfl rfl b27r) ?_
                          intro a hE hS
                          refine v_take0 11 (wk0 rfl) rfl rfl rfl hE (by kernel_rfl) (by kernel_rfl) (by kernel_rfl) rfl (by kernel_rfl) hS (v := (.int .i64 x29)) (fun _ => ex_load rfl hE rfl (fun w hw => run_ld1 varty3 (b27f.c 0 rfl w hw))) ?_
                          intro a hE hS
                          refine v_take0 12 (wk0 rfl) rfl rfl rfl hE (by kernel_rfl) (by kernel_rfl) (by kernel_rfl) rfl (by kernel_rfl) hS (v := (.int .i64 x1)) (fun _ => ex_move rfl hE rfl) ?_
                          intro a hE hS
                          refine v_take0 13 (wk0 rfl) rfl rfl rfl hE (by kernel_rfl) (by kernel_rfl) (by kernel_rfl) rfl (by kernel_rfl) hS (v := (.int .i64 x30)) (fun _ => ex_sub rfl hE rfl rfl (inK_some ex30)) ?_
                          intro a hE hS
                          obtain ⟨b28u, b28, b28o, b28h, b28r, b28v, b28f⟩ := TblA.hdr hp 0 rfl slty30 ex31
                          have b28f : ∀ (j : Nat) (u : Value), ([(Sl.v b28u)] : List Value)[j]? = some u → ∀ ρ' L' w, Hp Z ρ' (TblA 34 3 vr1 usr1 (lp4_1 : (List (List Int))) :: L') w → w.cell? ⟨b28, b28o + j, none⟩ = some u := b28f
                          refine v_take0 14 (wk0 rfl) rfl rfl rfl hE (by kernel_rfl) (by kernel_rfl) (by kernel_rfl) rfl (by kernel_rfl) hS (v := (.pointer (some ⟨b28, b28o, none⟩))) (fun _ => ex_index rfl hE rfl rfl b28r) ?_
                          intro a hE hS
                          refine v_take1 15 1 (wk0 rfl) rfl rfl rfl hE (by kernel_rfl) (by kernel_rfl) (by kernel_rfl) rfl (by kernel_rfl) hS (v := (Sl.v b28u)) (fun _ => ex_load rfl hE rfl (fun w hw => run_ld1 varty34 (b28f 0 _ rfl _ _ w (hw.get 0 rfl)))) ?_
                          intro a hE hS
                          refine v_take0 16 (wk0 rfl) rfl rfl rfl hE (by kernel_rfl) (by kernel_rfl) (by kernel_rfl) rfl (by kernel_rfl) hS (v := (.pointer (some ⟨bc1, 1, none⟩))) (fun _ => ex_field rfl hE rfl (fldty66_1 _ _)) ?_
                          intro a hE hS
                          refine v_take1 17 3 (wk0 rfl) rfl rfl rfl hE (by kernel_rfl) (by kernel_rfl) (by kernel_rfl) rfl (by kernel_rfl) hS (v := vc1_left) (fun _ => ex_load rfl hE rfl (fun w hw => run_ld1 varty34 (Hp.c 0 rfl 1 rfl w hw))) ?_
                          intro a hE hS
                          refine v_take0 18 (wk0 rfl) rfl rfl rfl hE (by kernel_rfl) (by kernel_rfl) (by kernel_rfl) rfl (by kernel_rfl) hS (v := (.int .i64 lp4_0)) (fun _ => ex_move rfl hE rfl) ?_
                          intro a hE hS
                          obtain ⟨b29, b29o, b29c, b29r, b29k, b29f⟩ := RoSl.at hc1_left slty34 ex32
                          obtain rfl : b29c = Enc.enc x32 := b29k
                          have b29f : AtP ρ b29 b29o [(.int .i64 x32)] := b29f
                          refine v_take0 19 (wk0 rfl) rfl rfl rfl hE (by kernel_rfl) (by kernel_rfl) (by kernel_rfl) rfl (by kernel_rfl) hS (v := (.pointer (some ⟨b29, b29o, none⟩))) (fun _ => ex_index rfl hE rfl rfl b29r) ?_
                          intro a hE hS
                          refine v_take0 20 (wk0 rfl) rfl rfl rfl hE (by kernel_rfl) (by kernel_rfl) (by kernel_rfl) rfl (by kernel_rfl) hS (v := (.int .i64 x32)) (fun _ => ex_load rfl hE rfl (fun w hw => run_ld1 varty3 (b29f.c 0 rfl w hw))) ?_
                          intro a hE hS
                          refine v_take0 21 (wk0 rfl) rfl rfl rfl hE (by kernel_rfl) (by kernel_rfl) (by kernel_rfl) rfl (by kernel_rfl) hS (v := (.int .i64 x2)) (fun _ => ex_move rfl hE rfl) ?_
                          intro a hE hS
                          refine v_take0 22 (wk0 rfl) rfl rfl rfl hE (by kernel_rfl) (by kernel_rfl) (by kernel_rfl) rfl (by kernel_rfl) hS (v := (.int .i64 x33)) (fun _ => ex_sub rfl hE rfl rfl (inK_some ex33)) ?_
                          intro a hE hS
                          obtain ⟨b30, b30o, b30r, b30v, b30f⟩ := TblA.at hp 0 rfl slty34 b28h ex31 ex34
                          have b30f : ∀ (j : Nat) (u : Value), ([(.int .i64 x34)] : List Value)[j]? = some u → ∀ ρ' L' w, Hp Z ρ' (TblA 34 3 vr1 usr1 (lp4_1 : (List (List Int))) :: L') w → w.cell? ⟨b30, b30o + j, none⟩ = some u := b30f
                          refine v_take0 23 (wk0 rfl) rfl rfl rfl hE (by kernel_rfl) (by kernel_rfl) (by kernel_rfl) rfl (by kernel_rfl) hS (v := (.pointer (some ⟨b30, b30o, none⟩))) (fun _ => ex_index rfl hE rfl rfl b30r) ?_
                          intro a hE hS
                          refine v_take1 24 1 (wk0 rfl) rfl rfl rfl hE (by kernel_rfl) (by kernel_rfl) (by kernel_rfl) rfl (by kernel_rfl) hS (v := (.int .i64 x34)) (fun _ => ex_load rfl hE rfl (fun w hw => run_ld1 varty3 (b30f 0 _ rfl _ _ w (hw.get 0 rfl)))) ?_
                          intro a hE hS
                          refine v_take1 25 4 (wk0 rfl) rfl rfl rfl hE (by kernel_rfl) (by kernel_rfl) (by kernel_rfl) rfl (by kernel_rfl) hS (v := vc2) (fun _ => ex_load rfl hE rfl (fun w hw => run_ld1 varty30 (Hp.c 0 rfl 0 rfl w hw))) ?_
                          intro a hE hS
                          refine v_take0 26 (wk0 rfl) rfl rfl rfl hE (by kernel_rfl) (by kernel_rfl) (by kernel_rfl) rfl (by kernel_rfl) hS (v := (.int .i64 lp3_0)) (fun _ => ex_move rfl hE rfl) ?_
                          intro a hE hS
                          obtain ⟨b31u, b31, b31o, b31h, b31r, b31v, b31f⟩ := TblA.hdr hp 4 rfl slty30 ex35
                          have b31f : ∀ (j : Nat) (u : Value), ([(Sl.v b31u)] : List Value)[j]? = some u → ∀ ρ' L' w, Hp Z ρ' (TblA 34 3 vc2 usc2 (lp4_2 : (List (List Int))) :: L') w → w.cell? ⟨b31, b31o + j, none⟩ = some u := b31f
                          refine v_take0 27 (wk0 rfl) rfl rfl rfl hE (by kernel_rfl) (by kernel_rfl) (by kernel_rfl) rfl (by kernel_rfl) hS (v := (.pointer (some ⟨b31, b31o, none⟩))) (fun _ => ex_index rfl hE rfl rfl b31r) ?_
                          intro a hE hS
                          refine v_take1 28 5 (wk0 rfl) rfl rfl rfl hE (by kernel_rfl) (by kernel_rfl) (by kernel_rfl) rfl (by kernel_rfl) hS (v := (Sl.v b31u)) (fun _ => ex_load rfl hE rfl (fun w hw => run_ld1 varty34 (b31f 0 _ rfl _ _ w (hw.get 0 rfl)))) ?_
                          intro a hE hS
                          refine v_take0 29 (wk0 rfl) rfl rfl rfl hE (by kernel_rfl) (by kernel_rfl) (by kernel_rfl) rfl (by kernel_rfl) hS (v := (.int .i64 lp4_0)) (fun _ => ex_move rfl hE rfl) ?_
                          intro a hE hS
                          obtain ⟨b32, b32o, b32r, b32v, b32f⟩ := TblA.at hp 4 rfl slty34 b31h ex35 ex36
                          have b32f : ∀ (j : Nat) (u : Value), ([(.int .i64 x36)] : List Value)[j]? = some u → ∀ ρ' L' w, Hp Z ρ' (TblA 34 3 vc2 usc2 (lp4_2 : (List (List Int))) :: L') w → w.cell? ⟨b32, b32o + j, none⟩ = some u := b32f
                          refine v_take0 30 (wk0 rfl) rfl rfl rfl hE (by kernel_rfl) (by kernel_rfl) (by kernel_rfl) rfl (by kernel_rfl) hS (v := (.pointer (some ⟨b32, b32o, none⟩))) (fun _ => ex_index rfl hE rfl rfl b32r) ?_
                          intro a hE hS
                          refine v_take1 31 5 (wk0 rfl) rfl rfl rfl hE (by kernel_rfl) (by kernel_rfl) (by kernel_rfl) rfl (by kernel_rfl) hS (v := (.int .i64 x36)) (fun _ => ex_load rfl hE rfl (fun w hw => run_ld1 varty3 (b32f 0 _ rfl _ _ w (hw.get 0 rfl)))) ?_
                          intro a hE hS
                          refine v_take0 32 (wk0 rfl) rfl rfl rfl hE (by kernel_rfl) (by kernel_rfl) (by kernel_rfl) rfl (by kernel_rfl) hS (v := (.int .i64 x37)) (fun _ => ex_add rfl hE rfl rfl (inK_some ex37)) ?_
                          intro a hE hS
                          refine v_take0 33 (wk0 rfl) rfl rfl rfl hE (by kernel_rfl) (by kernel_rfl) (by kernel_rfl) rfl (by kernel_rfl) hS (v := (.int .i64 (min x25 x37))) (fun _ => ex_min rfl hE rfl rfl) ?_
                          intro a hE hS
                          obtain ⟨b33, b33o, b33r, b33v, b33f⟩ := TblA.at hp 0 rfl slty34 b26h ex28 ex38
                          have b33f : ∀ (j : Nat) (u : Value), ([(.int .i64 x38)] : List Value)[j]? = some u → ∀ ρ' L' w, Hp Z ρ' (TblA 34 3 vr1 usr1 (lp4_1 : (List (List Int))) :: L') w → w.cell? ⟨b33, b33o + j, none⟩ = some u := b33f
                          refine v_take0 34 (wk0 rfl) rfl rfl rfl hE (by kernel_rfl) (by kernel_rfl) (by kernel_rfl) rfl (by kernel_rfl) hS (v := (.pointer (some ⟨b33, b33o, none⟩))) (fun _ => ex_index rfl hE rfl rfl b33r) ?_
                          intro a hE hS
                          refine v_all [35] (by kernel_rfl) rfl ?_
                          refine List.forall_mem_cons.2 ⟨?_, fun _ h => absurd h (by simp)⟩
                          ·
                            refine h_op rfl ?_
                            refine s_tstel (wk0 rfl) rfl hE hp rfl rfl rfl 0 rfl b26h ex28 ex38 b33v 0 (e' := min x25 x37) varty3.size_ rfl rfl rfl ⟨rfl, rfl⟩ ?_
                            intro w hp
                            have hp : Hp Z ρ (TblA 34 3 vr1 usr1 (lp4_1.set x16.toNat (x28.set x18.toNat (min x25 x37)) : (List (List Int))) :: _ :: _ :: _ :: _ :: L) w := hp
                            refine s_nil (and_with ⟨fun _ => ⟨_, hp⟩, dead (by kernel_rfl), fun _ => ⟨_, (hp.get 1 rfl)⟩, fun _ => ⟨_, (hp.get 2 rfl)⟩, fun _ => ⟨_, (hp.get 3 rfl)⟩, fun _ => ⟨_, (hp.get 4 rfl)⟩, trivial⟩ fun hS => ?_)
                            exact v_done (by kernel_rfl) ⟨hE.cut ⟨rfl, rfl, rfl, rfl, rfl, rfl, rfl, rfl, rfl, rfl, trivial⟩, hp⟩
                        · rintro a w ⟨hE, hp⟩
                          refine k_exit ?_
                          obtain rfl := Option.some.inj hj1
                          exact ⟨hE.cut ⟨rfl, rfl, rfl, rfl, rfl, rfl, rfl, rfl, rfl, rfl, trivial⟩, hp⟩
                      · replace hj1 := (ie hb10).symm.trans hj1
                        refine k_skip ?_
                        refine k_seq ?_
                        refine k_region ?_
                        refine s_val (wk0 rfl) rfl rfl hE hp (v := vr1) (ex_move rfl hE rfl) ?_
                        intro a hE
                        refine s_val (wk0 rfl) rfl rfl hE hp (v := (.int .i64 x16)) (ex_move rfl hE rfl) ?_
                        intro a hE
                        obtain ⟨x39, ex39, hj1⟩ := bnd hj1
                        refine s_val (wk0 rfl) rfl rfl hE hp (v := (.int .i64 x39)) (ex_sub rfl hE rfl rfl (inK_some ex39)) ?_
                        intro a hE
                        obtain ⟨x40, ex40, hj1⟩ := bnd hj1
                        obtain ⟨b34u, b34, b34o, b34h, b34r, b34v, b34f⟩ := TblA.hdr hp 0 rfl slty30 ex40
                        have b34f : ∀ (j : Nat) (u : Value), ([(Sl.v b34u)] : List Value)[j]? = some u → ∀ ρ' L' w, Hp Z ρ' (TblA 34 3 vr1 usr1 (lp4_1 : (List (List Int))) :: L') w → w.cell? ⟨b34, b34o + j, none⟩ = some u := b34f
                        refine s_val (wk0 rfl) rfl rfl hE hp (v := (.pointer (some ⟨b34, b34o, none⟩))) (ex_index rfl hE rfl rfl b34r) ?_
                        intro a hE
                        refine s_val (wk0 rfl) rfl rfl hE hp (v := (Sl.v b34u)) (ex_load rfl hE rfl (fun w hw => run_ld1 varty34 (b34f 0 _ rfl _ _ w (hw.get 0 rfl)))) ?_
                        intro a hE
                        refine s_val (wk0 rfl) rfl rfl hE hp (v := (.int .i64 x18)) (ex_move rfl hE rfl) ?_
                        intro a hE
                        obtain ⟨x41, ex41, hj1⟩ := bnd hj1
                        refine s_val (wk0 rfl) rfl rfl hE hp (v := (.int .i64 x41)) (ex_sub rfl hE rfl rfl (inK_some ex41)) ?_
                        intro a hE
                        obtain ⟨x42, ex42, hj1⟩ := bnd hj1
                        obtain ⟨b35, b35o, b35r, b35v, b35f⟩ := TblA.at hp 0 rfl slty34 b34h ex40 ex42
                        have b35f : ∀ (j : Nat) (u : Value), ([(.int .i64 x42)] : List Value)[j]? = some u → ∀ ρ' L' w, Hp Z ρ' (TblA 34 3 vr1 usr1 (lp4_1 : (List (List Int))) :: L') w → w.cell? ⟨b35, b35o + j, none⟩ = some u := b35f
                        refine s_val (wk0 rfl) rfl rfl hE hp (v := (.pointer (some ⟨b35, b35o, none⟩))) (ex_index rfl hE rfl rfl b35r) ?_
                        intro a hE
                        refine s_val (wk0 rfl) rfl rfl hE hp (v := (.int .i64 x42)) (ex_load rfl hE rfl (fun w hw => run_ld1 varty3 (b35f 0 _ rfl _ _ w (hw.get 0 rfl)))) ?_
                        intro a hE
                        refine s_val (wk0 rfl) rfl rfl hE hp (v := (.int .i64 x42)) (ex_asn rfl hE rfl) ?_
                        intro a hE
                        refine s_nil ?_
                        refine k_seq ?_
                        refine k_seq ?_
                        refine k_quiet (by kernel_rfl) (by kernel_rfl) hp ?_
                        refine q_val (wk0 rfl) rfl rfl hE (v := (.pointer (some ⟨bc0, 0, none⟩))) (ex_field rfl hE rfl (fldty66_0 _ _)) ?_
                        intro a hE
                        refine q_val (wk0 rfl) rfl rfl hE (v := vc0_labels) (ex_load rfl hE rfl (fun w hw => run_ld1 varty64 (Hp.c 1 rfl 0 rfl w hw))) ?_
                        intro a hE
                        refine q_val (wk0 rfl) rfl rfl hE (v := (.int .i64 lp3_0)) (ex_move rfl hE rfl) ?_
                        intro a hE
                        obtain ⟨x43, ex43, hj1⟩ := bnd hj1
                        obtain ⟨b36, b36o, b36c, b36r, b36k, b36f⟩ := RoSl.at hc0_labels slty64 ex43
                        obtain rfl : b36c = Enc.enc x43 := b36k
                        have b36f : AtP ρ b36 b36o [(.int .i64 x43.kind), (.string x43.text)] := b36f
                        refine q_val (wk0 rfl) rfl rfl hE (v := (.pointer (some ⟨b36, b36o, none⟩))) (ex_index rfl hE rfl rfl b36r) ?_
                        intro a hE
                        refine q_val (wk0 rfl) rfl rfl hE (v := (.agg #[(.int .i64 x43.kind), (.string x43.text)])) (ex_load rfl hE rfl (fun w hw => run_ldN (cs := [(.int .i64 x43.kind), (.string x43.text)]) varty70 (fun j u hj => cell_of hw.le (b36f j u hj)))) ?_
                        intro a hE
                        refine q_val (wk0 rfl) rfl rfl hE (v := (.pointer (some ⟨bc1, 0, none⟩))) (ex_field rfl hE rfl (fldty66_0 _ _)) ?_
                        intro a hE
                        refine q_val (wk0 rfl) rfl rfl hE (v := vc1_labels) (ex_load rfl hE rfl (fun w hw => run_ld1 varty64 (Hp.c 2 rfl 0 rfl w hw))) ?_
                        intro a hE
                        refine q_val (wk0 rfl) rfl rfl hE (v := (.int .i64 lp4_0)) (ex_move rfl hE rfl) ?_
                        intro a hE
                        obtain ⟨x44, ex44, hj1⟩ := bnd hj1
                        obtain ⟨b37, b37o, b37c, b37r, b37k, b37f⟩ := RoSl.at hc1_labels slty64 ex44
                        obtain rfl : b37c = Enc.enc x44 := b37k
                        have b37f : AtP ρ b37 b37o [(.int .i64 x44.kind), (.string x44.text)] := b37f
                        refine q_val (wk0 rfl) rfl rfl hE (v := (.pointer (some ⟨b37, b37o, none⟩))) (ex_index rfl hE rfl rfl b37r) ?_
                        intro a hE
                        refine q_val (wk0 rfl) rfl rfl hE (v := (.agg #[(.int .i64 x44.kind), (.string x44.text)])) (ex_load rfl hE rfl (fun w hw => run_ldN (cs := [(.int .i64 x44.kind), (.string x44.text)]) varty70 (fun j u hj => cell_of hw.le (b37f j u hj)))) ?_
                        intro a hE
                        refine q_val (wk0 rfl) rfl rfl hE (v := (.bool (!((decide (x43.kind = x44.kind)) && (decide (x43.text = x44.text)))))) (ex_stneq (eqst70 x43.kind x43.text x44.kind x44.text) rfl hE rfl rfl) ?_
                        intro a hE
                        refine q_nil fun w hp => ?_
                        have hp : Hp Z ρ (_ :: _ :: _ :: _ :: _ :: L) w := hp
                        have hE := hE.cut (E' := [(0, (.int .i64 p0)), (1, (.int .i64 p1)), (2, (.pointer (some ⟨bc0, 0, none⟩))), (3, (.pointer (some ⟨bc1, 0, none⟩))), (4, (.pointer (some ⟨bc2, 0, none⟩))), (7, (.int .i64 x1)), (8, (.int .i64 x2)), (9, vr1), (12, (.int .i64 lp3_0)), (13, (.int .i64 lp4_0)), (14, (.int .i64 x16)), (15, (.int .i64 x18)), (16, (.int .i64 x25)), (17, (.int .i64 x42)), (171, (.bool (!((decide (x43.kind = x44.kind)) && (decide (x43.text = x44.text))))))]) ⟨rfl, rfl, rfl, rfl, rfl, rfl, rfl, rfl, rfl, rfl, rfl, rfl, rfl, rfl, rfl, trivial⟩
                        obtain ⟨j2, hj2, hj1⟩ := bnd hj1
                        refine k_cut (fun a w => Env 196 [(0, (.int .i64 p0)), (1, (.int .i64 p1)), (2, (.pointer (some ⟨bc0, 0, none⟩))), (3, (.pointer (some ⟨bc1, 0, none⟩))), (4, (.pointer (some ⟨bc2, 0, none⟩))), (7, (.int .i64 x1)), (8, (.int .i64 x2)), (9, vr1), (12, (.int .i64 lp3_0)), (13, (.int .i64 lp4_0)), (14, (.int .i64 x16)), (15, (.int .i64 x18)), (16, (.int .i64 x25)), (17, (.int .i64 j2))] a ∧ Hp Z ρ (TblA 34 3 vr1 usr1 (lp4_1 : (List (List Int))) :: Pt bc0 (.cells #[vc0_labels, vc0_left, vc0_numbers] 66 (0, 0)) :: Pt bc1 (.cells #[vc1_labels, vc1_left, vc1_numbers] 66 (0, 0)) :: Pt bc2 (.cells #[vc2] 30 (0, 0)) :: TblA 34 3 vc2 usc2 (lp4_2 : (List (List Int))) :: L) w) ?_ ?_
                        ·
                          refine k_if hE rfl (fun hb11 => ?_) (fun hb11 => ?_)
                          · replace hj2 := (it hb11).symm.trans hj2
                            refine k_region ?_
                            refine s_val (wk0 rfl) rfl rfl hE hp (v := (.int .i64 x42)) (ex_move rfl hE rfl) ?_
                            intro a hE
                            obtain ⟨x45, ex45, hj2⟩ := bnd hj2
                            refine s_val (wk0 rfl) rfl rfl hE hp (v := (.int .i64 x45)) (ex_add rfl hE rfl rfl (inK_some ex45)) ?_
                            intro a hE
                            refine s_val (wk0 rfl) rfl rfl hE hp (v := (.int .i64 x45)) (ex_asn rfl hE rfl) ?_
                            intro a hE
                            refine s_nil ?_
                            obtain rfl := Option.some.inj hj2
                            exact ⟨hE.cut ⟨rfl, rfl, rfl, rfl, rfl, rfl, rfl, rfl, rfl, rfl, rfl, rfl, rfl, rfl, trivial⟩, hp⟩
                          · replace hj2 := (ie hb11).symm.trans hj2
                            refine k_skip ?_
                            obtain rfl := Option.some.inj hj2
                            exact ⟨hE.cut ⟨rfl, rfl, rfl, rfl, rfl, rfl, rfl, rfl, rfl, rfl, rfl, rfl, rfl, rfl, trivial⟩, hp⟩
                        · rintro a w ⟨hE, hp⟩
                          refine k_seq ?_
                          refine k_region ?_
                          refine s_val (wk0 rfl) rfl rfl hE hp (v := vr1) (ex_move rfl hE rfl) ?_
                          intro a hE
                          refine s_val (wk0 rfl) rfl rfl hE hp (v := (.int .i64 x16)) (ex_move rfl hE rfl) ?_
                          intro a hE
                          obtain ⟨x46, ex46, hj1⟩ := bnd hj1
                          obtain ⟨b38u, b38, b38o, b38h, b38r, b38v, b38f⟩ := TblA.hdr hp 0 rfl slty30 ex46
                          have b38f : ∀ (j : Nat) (u : Value), ([(Sl.v b38u)] : List Value)[j]? = some u → ∀ ρ' L' w, Hp Z ρ' (TblA 34 3 vr1 usr1 (lp4_1 : (List (List Int))) :: L') w → w.cell? ⟨b38, b38o + j, none⟩ = some u := b38f
                          refine s_val (wk0 rfl) rfl rfl hE hp (v := (.pointer (some ⟨b38, b38o, none⟩))) (ex_index rfl hE rfl rfl b38r) ?_
                          intro a hE
                          refine s_val (wk0 rfl) rfl rfl hE hp (v := (Sl.v b38u)) (ex_load rfl hE rfl (fun w hw => run_ld1 varty34 (b38f 0 _ rfl _ _ w (hw.get 0 rfl)))) ?_
                          intro a hE
                          refine s_val (wk0 rfl) rfl rfl hE hp (v := (.int .i64 x18)) (ex_move rfl hE rfl) ?_
                          intro a hE
                          refine s_val (wk0 rfl) rfl rfl hE hp (v := (.int .i64 x25)) (ex_move rfl hE rfl) ?_
                          intro a hE
                          refine s_val (wk0 rfl) rfl rfl hE hp (v := (.int .i64 j2)) (ex_move rfl hE rfl) ?_
                          intro a hE
                          refine s_val (wk0 rfl) rfl rfl hE hp (v := (.int .i64 (min x25 j2))) (ex_min rfl hE rfl rfl) ?_
                          intro a hE
                          obtain ⟨x47, ex47, hj1⟩ := bnd hj1
                          obtain ⟨b39, b39o, b39r, b39v, b39f⟩ := TblA.at hp 0 rfl slty34 b38h ex46 ex47
                          have b39f : ∀ (j : Nat) (u : Value), ([(.int .i64 x47)] : List Value)[j]? = some u → ∀ ρ' L' w, Hp Z ρ' (TblA 34 3 vr1 usr1 (lp4_1 : (List (List Int))) :: L') w → w.cell? ⟨b39, b39o + j, none⟩ = some u := b39f
                          refine s_val (wk0 rfl) rfl rfl hE hp (v := (.pointer (some ⟨b39, b39o, none⟩))) (ex_index rfl hE rfl rfl b39r) ?_
                          intro a hE
                          refine s_tstel (wk0 rfl) rfl hE hp rfl rfl rfl 0 rfl b38h ex46 ex47 b39v 0 (e' := min x25 j2) varty3.size_ rfl rfl rfl ⟨rfl, rfl⟩ ?_
                          intro w hp
                          have hp : Hp Z ρ (TblA 34 3 vr1 usr1 (lp4_1.set x16.toNat (x46.set x18.toNat (min x25 j2)) : (List (List Int))) :: _ :: _ :: _ :: _ :: L) w := hp
                          refine s_nil ?_
                          have hE := hE.cut (E' := [(0, (.int .i64 p0)), (1, (.int .i64 p1)), (2, (.pointer (some ⟨bc0, 0, none⟩))), (3, (.pointer (some ⟨bc1, 0, none⟩))), (4, (.pointer (some ⟨bc2, 0, none⟩))), (7, (.int .i64 x1)), (8, (.int .i64 x2)), (9, vr1), (12, (.int .i64 lp3_0)), (13, (.int .i64 lp4_0)), (14, (.int .i64 x16)), (15, (.int .i64 x18))]) ⟨rfl, rfl, rfl, rfl, rfl, rfl, rfl, rfl, rfl, rfl, rfl, rfl, trivial⟩
                          obtain ⟨x48, ex48, hj1⟩ := bnd hj1
                          obtain ⟨x49, ex49, hj1⟩ := bnd hj1
                          obtain ⟨x50, ex50, hj1⟩ := bnd hj1
                          obtain ⟨x51, ex51, hj1⟩ := bnd hj1
                          have hp := hp.drew
                          refine k_heldV ([([], At0 Z ρ), ([], At1 Z ρ (TblA 34 3 vr1 usr1 (lp4_1.set x16.toNat (x46.set x18.toNat (min x25 j2)) : (List (List Int))))), ([], At1 Z ρ (Pt bc2 (.cells #[vc2] 30 (0, 0)))), ([13], At1 Z ρ (TblA 34 3 vc2 usc2 (lp4_2 : (List (List Int)))))] : Facts) (fun a w => Env 196 [(0, (.int .i64 p0)), (1, (.int .i64 p1)), (2, (.pointer (some ⟨bc0, 0, none⟩))), (3, (.pointer (some ⟨bc1, 0, none⟩))), (4, (.pointer (some ⟨bc2, 0, none⟩))), (7, (.int .i64 x1)), (8, (.int .i64 x2)), (9, vr1), (12, (.int .i64 lp3_0)), (13, (.int .i64 lp4_0))] a ∧ Hp Z ρ (TblA 34 3 vr1 usr1 (lp4_1.set x16.toNat (x46.set x18.toNat (min x25 j2)) : (List (List Int))) :: Pt bc0 (.cells #[vc0_labels, vc0_left, vc0_numbers] 66 (0, 0)) :: Pt bc1 (.cells #[vc1_labels, vc1_left, vc1_numbers] 66 (0, 0)) :: Pt bc2 (.cells #[vc2] 30 (0, 0)) :: TblA 34 3 vc2 usc2 (lp4_2.set lp3_0.toNat (x48.set lp4_0.toNat x50) : (List (List Int))) :: L) w) (by kernel_rfl) ⟨fun _ => ⟨_, hp⟩, fun _ => ⟨_, (hp.get 0 rfl)⟩, fun _ => ⟨_, (hp.get 3 rfl)⟩, fun _ => ⟨_, (hp.get 4 rfl)⟩, trivial⟩ (fun hS => ?_) ?_
                          ·
                            generalize w.drew = w at hS hp ⊢
                            refine v_take1 0 2 (wk0 rfl) rfl rfl rfl hE (by kernel_rfl) (by kernel_rfl) (by kernel_rfl) rfl (by kernel_rfl) hS (v := vc2) (fun _ => ex_load rfl hE rfl (fun w hw => run_ld1 varty30 (Hp.c 0 rfl 0 rfl w hw))) ?_
                            intro a hE hS
                            refine v_take0 1 (wk0 rfl) rfl rfl rfl hE (by kernel_rfl) (by kernel_rfl) (by kernel_rfl) rfl (by kernel_rfl) hS (v := (.int .i64 lp3_0)) (fun _ => ex_move rfl hE rfl) ?_
                            intro a hE hS
                            obtain ⟨b44u, b44, b44o, b44h, b44r, b44v, b44f⟩ := TblA.hdr hp 4 rfl slty30 ex48
                            have b44f : ∀ (j : Nat) (u : Value), ([(Sl.v b44u)] : List Value)[j]? = some u → ∀ ρ' L' w, Hp Z ρ' (TblA 34 3 vc2 usc2 (lp4_2 : (List (List Int))) :: L') w → w.cell? ⟨b44, b44o + j, none⟩ = some u := b44f
                            refine v_take0 2 (wk0 rfl) rfl rfl rfl hE (by kernel_rfl) (by kernel_rfl) (by kernel_rfl) rfl (by kernel_rfl) hS (v := (.pointer (some ⟨b44, b44o, none⟩))) (fun _ => ex_index rfl hE rfl rfl b44r) ?_
                            intro a hE hS
                            refine v_take1 3 3 (wk0 rfl) rfl rfl rfl hE (by kernel_rfl) (by kernel_rfl) (by kernel_rfl) rfl (by kernel_rfl) hS (v := (Sl.v b44u)) (fun _ => ex_load rfl hE rfl (fun w hw => run_ld1 varty34 (b44f 0 _ rfl _ _ w (hw.get 0 rfl)))) ?_
                            intro a hE hS
                            refine v_take0 4 (wk0 rfl) rfl rfl rfl hE (by kernel_rfl) (by kernel_rfl) (by kernel_rfl) rfl (by kernel_rfl) hS (v := (.int .i64 lp4_0)) (fun _ => ex_move rfl hE rfl) ?_
                            intro a hE hS
                            refine v_take0 5 (wk0 rfl) rfl rfl rfl hE (by kernel_rfl) (by kernel_rfl) (by kernel_rfl) rfl (by kernel_rfl) hS (v := vr1) (fun _ => ex_move rfl hE rfl) ?_
                            intro a hE hS
                            refine v_take0 6 (wk0 rfl) rfl rfl rfl hE (by kernel_rfl) (by kernel_rfl) (by kernel_rfl) rfl (by kernel_rfl) hS (v := (.int .i64 x16)) (fun _ => ex_move rfl hE rfl) ?_
                            intro a hE hS
                            obtain ⟨b45u, b45, b45o, b45h, b45r, b45v, b45f⟩ := TblA.hdr hp 0 rfl slty30 ex49
                            have b45f : ∀ (j : Nat) (u : Value), ([(Sl.v b45u)] : List Value)[j]? = some u → ∀ ρ' L' w, Hp Z ρ' (TblA 34 3 vr1 usr1 (lp4_1.set x16.toNat (x46.set x18.toNat (min x25 j2)) : (List (List Int))) :: L') w → w.cell? ⟨b45, b45o + j, none⟩ = some u := b45f
                            refine v_take0 7 (wk0 rfl) rfl rfl rfl hE (by kernel_rfl) (by kernel_rfl) (by kernel_rfl) rfl (by kernel_rfl) hS (v := (.pointer (some ⟨b45, b45o, none⟩))) (fun _ => ex_index rfl hE rfl rfl b45r) ?_
                            intro a hE hS
                            refine v_take1 8 1 (wk0 rfl) rfl rfl rfl hE (by kernel_rfl) (by kernel_rfl) (by kernel_rfl) rfl (by kernel_rfl) hS (v := (Sl.v b45u)) (fun _ => ex_load rfl hE rfl (fun w hw => run_ld1 varty34 (b45f 0 _ rfl _ _ w (hw.get 0 rfl)))) ?_
                            intro a hE hS
                            refine v_take0 9 (wk0 rfl) rfl rfl rfl hE (by kernel_rfl) (by kernel_rfl) (by kernel_rfl) rfl (by kernel_rfl) hS (v := (.int .i64 x18)) (fun _ => ex_move rfl hE rfl) ?_
                            intro a hE hS
                            obtain ⟨b46, b46o, b46r, b46v, b46f⟩ := TblA.at hp 0 rfl slty34 b45h ex49 ex50
                            have b46f : ∀ (j : Nat) (u : Value), ([(.int .i64 x50)] : List Value)[j]? = some u → ∀ ρ' L' w, Hp Z ρ' (TblA 34 3 vr1 usr1 (lp4_1.set x16.toNat (x46.set x18.toNat (min x25 j2)) : (List (List Int))) :: L') w → w.cell? ⟨b46, b46o + j, none⟩ = some u := b46f
                            refine v_take0 10 (wk0 rfl) rfl rfl rfl hE (by kernel_rfl) (by kernel_rfl) (by kernel_rfl) rfl (by kernel_rfl) hS (v := (.pointer (some ⟨b46, b46o, none⟩))) (fun _ => ex_index rfl hE rfl rfl b46r) ?_
                            intro a hE hS
                            refine v_take1 11 1 (wk0 rfl) rfl rfl rfl hE (by kernel_rfl) (by kernel_rfl) (by kernel_rfl) rfl (by kernel_rfl) hS (v := (.int .i64 x50)) (fun _ => ex_load rfl hE rfl (fun w hw => run_ld1 varty3 (b46f 0 _ rfl _ _ w (hw.get 0 rfl)))) ?_
                            intro a hE hS
                            obtain ⟨b47, b47o, b47r, b47v, b47f⟩ := TblA.at hp 4 rfl slty34 b44h ex48 ex51
                            have b47f : ∀ (j : Nat) (u : Value), ([(.int .i64 x51)] : List Value)[j]? = some u → ∀ ρ' L' w, Hp Z ρ' (TblA 34 3 vc2 usc2 (lp4_2 : (List (List Int))) :: L') w → w.cell? ⟨b47, b47o + j, none⟩ = some u := b47f
                            refine v_take0 12 (wk0 rfl) rfl rfl rfl hE (by kernel_rfl) (by kernel_rfl) (by kernel_rfl) rfl (by kernel_rfl) hS (v := (.pointer (some ⟨b47, b47o, none⟩))) (fun _ => ex_index rfl hE rfl rfl b47r) ?_
                            intro a hE hS
                            refine v_all [13] (by kernel_rfl) rfl ?_
                            refine List.forall_mem_cons.2 ⟨?_, fun _ h => absurd h (by simp)⟩
                            ·
                              refine h_op rfl ?_
                              refine s_tstel (wk0 rfl) rfl hE hp rfl rfl rfl 4 rfl b44h ex48 ex51 b47v 0 (e' := x50) varty3.size_ rfl rfl rfl ⟨rfl, rfl⟩ ?_
                              intro w hp
                              have hp : Hp Z ρ (_ :: _ :: _ :: _ :: TblA 34 3 vc2 usc2 (lp4_2.set lp3_0.toNat (x48.set lp4_0.toNat x50) : (List (List Int))) :: L) w := hp
                              refine s_nil (and_with ⟨fun _ => ⟨_, hp⟩, fun _ => ⟨_, (hp.get 0 rfl)⟩, fun _ => ⟨_, (hp.get 3 rfl)⟩, dead (by kernel_rfl), trivial⟩ fun hS => ?_)
                              exact v_done (by kernel_rfl) ⟨hE.cut ⟨rfl, rfl, rfl, rfl, rfl, rfl, rfl, rfl, rfl, rfl, trivial⟩, hp⟩
                          · rintro a w ⟨hE, hp⟩
                            obtain rfl := Option.some.inj hj1
                            exact ⟨hE.cut ⟨rfl, rfl, rfl, rfl, rfl, rfl, rfl, rfl, rfl, rfl, trivial⟩, hp⟩
                  · rintro a w ⟨hE, hp⟩
                    refine k_region ?_
                    refine s_val (wk0 rfl) rfl rfl hE hp (v := (.int .i64 lp4_0)) (ex_move rfl hE rfl) ?_
                    intro a hE
                    obtain ⟨x52, ex52, hl4⟩ := bnd hl4
                    refine s_val (wk0 rfl) rfl rfl hE hp (v := (.int .i64 x52)) (ex_add rfl hE rfl rfl (inK_some ex52)) ?_
                    intro a hE
                    refine s_val (wk0 rfl) rfl rfl hE hp (v := (.int .i64 x52)) (ex_asn rfl hE rfl) ?_
                    intro a hE
                    refine s_nil ?_
                    exact ⟨_, (Option.some.inj hl4).symm, hE.cut ⟨rfl, rfl, rfl, rfl, rfl, rfl, rfl, rfl, rfl, rfl, trivial⟩, hp⟩
                · replace hl4 := (ie hb8).symm.trans hl4
                  refine k_exit ?_
                  refine ⟨_, (Option.some.inj hl4).symm, fun hbb => ?_⟩
                  subst hbb
                  exact ⟨hE.cut ⟨rfl, rfl, rfl, rfl, rfl, rfl, rfl, rfl, rfl, trivial⟩, hp⟩
            · rintro a w ⟨hE, hp⟩
              refine k_region ?_
              refine s_val (wk0 rfl) rfl rfl hE hp (v := (.int .i64 lp3_0)) (ex_move rfl hE rfl) ?_
              intro a hE
              obtain ⟨x53, ex53, hl3⟩ := bnd hl3
              refine s_val (wk0 rfl) rfl rfl hE hp (v := (.int .i64 x53)) (ex_add rfl hE rfl rfl (inK_some ex53)) ?_
              intro a hE
              refine s_val (wk0 rfl) rfl rfl hE hp (v := (.int .i64 x53)) (ex_asn rfl hE rfl) ?_
              intro a hE
              refine s_nil ?_
              exact ⟨_, (Option.some.inj hl3).symm, hE.cut ⟨rfl, rfl, rfl, rfl, rfl, rfl, rfl, rfl, rfl, trivial⟩, hp⟩
          · replace hl3 := (ie hb6).symm.trans hl3
            refine k_exit ?_
            refine ⟨_, (Option.some.inj hl3).symm, fun hbb => ?_⟩
            subst hbb
            exact ⟨hE.cut trivial, hp⟩
      · rintro a w ⟨hE, hp⟩
        obtain rfl := Option.some.inj hm
        exact ret0n hE rfl ⟨_, rfl, rfl, (hp.drop)⟩
end Go.Proofs.Ytnnccbagbgndpaa

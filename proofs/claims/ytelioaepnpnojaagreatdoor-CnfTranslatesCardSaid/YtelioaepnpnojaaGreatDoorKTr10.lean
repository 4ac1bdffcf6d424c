/- The code goes as its model: (*assessor/cnf.set).add, (*assessor/cnf.set).look, assessor/cnf.Propagate$1, slices.IndexFunc[[]int,int]@assessor/cnf.Propagate$1, s -/
import Derived.Test.YtelioaepnpnojaaGreatDoorKTr4
import Derived.Test.YtelioaepnpnojaaGreatDoorKTr6
import Derived.Test.YtelioaepnpnojaaGreatDoorKTr5
set_option linter.unusedVariables false
set_option linter.unusedSimpArgs false
namespace Go.Proofs.YtelioaepnpnojaaGreatDoor
open Go.RowKit
set_option maxRecDepth 100000 in
set_option maxHeartbeats 4000000 in
theorem c_cnf_set_add {Z : World} {ρ : PH} {L : List Atom} {w : World} (hT : Tabs ρ) (bp0 : Nat) (p0 : PSet) (vp0_f_clauses : Value) (hp0_f_clauses : RoSl ρ vp0_f_clauses p0.f.clauses) (vp0_value : Value) (vp0_places : Value) (hp0_places : RoSl ρ vp0_places p0.places) (vp0_left : Value) (vp0_list : Value) (p1 : Int) (hp : Hp Z ρ (Pt bp0 (.cells #[(.int .i64 p0.f.vars), vp0_f_clauses, vp0_value, vp0_places, vp0_left, vp0_list, (.bool p0.fails)] 74 (0, 0)) :: OwnSl 3 vp0_value p0.value :: OwnSl 3 vp0_left p0.left :: OwnSl 3 vp0_list p0.list :: L) w) (r : PSet) (hm : m_cnf_set_add p0 p1 = some r) :
    Calls Tryz.prog 57 #[(.pointer (some ⟨bp0, 0, none⟩)), (.int .i64 p1)] w (Ret fun v w' => ∃ (vzp0_value : Value) (vzp0_left : Value) (vzp0_list : Value), v = .tuple #[] ∧ Hp Z ρ (Pt bp0 (.cells #[(.int .i64 p0.f.vars), vp0_f_clauses, vzp0_value, vp0_places, vzp0_left, vzp0_list, (.bool r.fails)] 74 (0, 0)) :: OwnSl 3 vzp0_value r.value :: OwnSl 3 vzp0_left r.left :: OwnSl 3 vzp0_list r.list :: L) w') := by
  refine enter (N := 40) Tryz.func57 rfl rfl [(0, (.pointer (some ⟨bp0, 0, none⟩))), (1, (.int .i64 p1))] rfl (argsIn_mem ⟨rfl, rfl, trivial⟩) fun a hE => ?_
  unfold m_cnf_set_add at hm
  refine k_seq ?_
  refine k_region ?_
  refine s_val (wk0 rfl) rfl rfl hE hp (v := (.int .i64 p1)) (ex_move rfl hE rfl) ?_
  intro a hE
  obtain ⟨x1, ex1, hm⟩ := bnd hm
  refine s_call (wk0 rfl) rfl rfl hE rfl [(.int .i64 p1)] ⟨rfl, trivial⟩ ent46 (c_cnf_variable hT p1 hp x1 ex1) Ret.ret ?_
  intro v a w hR hE
  obtain ⟨rfl, hp⟩ := Ret.of hR
  have hp : Hp Z ρ (Pt bp0 (.cells #[(.int .i64 p0.f.vars), vp0_f_clauses, vp0_value, vp0_places, vp0_left, vp0_list, (.bool p0.fails)] 74 (0, 0)) :: OwnSl 3 vp0_value p0.value :: OwnSl 3 vp0_left p0.left :: OwnSl 3 vp0_list p0.list :: L) w := hp
  refine s_val (wk0 rfl) rfl rfl hE hp (v := (.int .i64 x1)) (ex_asn rfl hE rfl) ?_
  intro a hE
  refine s_nil ?_
  refine k_seq ?_
  refine k_region ?_
  refine s_val (wk0 rfl) rfl rfl hE hp (v := (.pointer (some ⟨bp0, 0, none⟩))) (ex_move rfl hE rfl) ?_
  intro a hE
  refine s_val (wk0 rfl) rfl rfl hE hp (v := (.pointer (some ⟨bp0, 0, none⟩))) (ex_nil rfl hE rfl) ?_
  intro a hE
  refine s_val (wk0 rfl) rfl rfl hE hp (v := (.pointer (some ⟨bp0, 2, none⟩))) (ex_field rfl hE rfl (fldty74_1 _ _)) ?_
  intro a hE
  refine s_val (wk0 rfl) rfl rfl hE hp (v := vp0_value) (ex_load rfl hE rfl (fun w hw => run_ld1 varty25 (Hp.c 0 rfl 2 rfl w hw))) ?_
  intro a hE
  refine s_val (wk0 rfl) rfl rfl hE hp (v := (.int .i64 x1)) (ex_move rfl hE rfl) ?_
  intro a hE
  obtain ⟨x2, ex2, hm⟩ := bnd hm
  obtain ⟨b1, b1o, b1r, b1v, b1f⟩ := OwnSl.at hp 1 rfl slty25 ex2
  have b1f : ∀ (j : Nat) (u : Value), ([(.int .i64 x2)] : List Value)[j]? = some u → ∀ ρ' L' w, Hp Z ρ' (OwnSl 3 vp0_value p0.value :: L') w → w.cell? ⟨b1, b1o + j, none⟩ = some u := b1f
  refine s_val (wk0 rfl) rfl rfl hE hp (v := (.pointer (some ⟨b1, b1o, none⟩))) (ex_index rfl hE rfl rfl b1r) ?_
  intro a hE
  refine s_val (wk0 rfl) rfl rfl hE hp (v := (.int .i64 x2)) (ex_load rfl hE rfl (fun w hw => run_ld1 varty3 (b1f 0 _ rfl _ _ w (hw.get 1 rfl)))) ?_
  intro a hE
  refine s_nil ?_
  refine k_plain ?_
  refine k_seq ?_
  refine k_region ?_
  refine s_val (wk0 rfl) rfl rfl hE hp (v := (.bool (decide (x2 = 0)))) (ex_eql rfl hE rfl rfl) ?_
  intro a hE
  refine s_val (wk0 rfl) rfl rfl hE hp (v := (.bool (decide (x2 = 0)))) (ex_asn rfl hE rfl) ?_
  intro a hE
  refine s_nil ?_
  refine k_if hE rfl (fun hc1 => ?_) (fun hc1 => ?_)
  · replace hm := (it hc1).symm.trans hm
    refine k_seq ?_
    refine k_region ?_
    refine s_val (wk0 rfl) rfl rfl hE hp (v := (.pointer (some ⟨bp0, 0, none⟩))) (ex_move rfl hE rfl) ?_
    intro a hE
    refine s_val (wk0 rfl) rfl rfl hE hp (v := (.pointer (some ⟨bp0, 0, none⟩))) (ex_nil rfl hE rfl) ?_
    intro a hE
    refine s_val (wk0 rfl) rfl rfl hE hp (v := (.pointer (some ⟨bp0, 2, none⟩))) (ex_field rfl hE rfl (fldty74_1 _ _)) ?_
    intro a hE
    refine s_val (wk0 rfl) rfl rfl hE hp (v := vp0_value) (ex_load rfl hE rfl (fun w hw => run_ld1 varty25 (Hp.c 0 rfl 2 rfl w hw))) ?_
    intro a hE
    refine s_val (wk0 rfl) rfl rfl hE hp (v := (.int .i64 x1)) (ex_move rfl hE rfl) ?_
    intro a hE
    refine s_val (wk0 rfl) rfl rfl hE hp (v := (.int .i64 p1)) (ex_move rfl hE rfl) ?_
    intro a hE
    obtain ⟨x3, ex3, hm⟩ := bnd hm
    obtain ⟨b2, b2o, b2r, b2v, b2f⟩ := OwnSl.at hp 1 rfl slty25 ex3
    have b2f : ∀ (j : Nat) (u : Value), ([(.int .i64 x3)] : List Value)[j]? = some u → ∀ ρ' L' w, Hp Z ρ' (OwnSl 3 vp0_value p0.value :: L') w → w.cell? ⟨b2, b2o + j, none⟩ = some u := b2f
    refine s_val (wk0 rfl) rfl rfl hE hp (v := (.pointer (some ⟨b2, b2o, none⟩))) (ex_index rfl hE rfl rfl b2r) ?_
    intro a hE
    refine s_stel (wk0 rfl) rfl hE hp rfl rfl rfl 1 rfl ex3 b2v 0 (e' := p1) varty3.size_ rfl rfl rfl ⟨rfl, rfl⟩ ?_
    intro w hp
    have hp : Hp Z ρ (_ :: OwnSl 3 vp0_value (p0.value.set x1.toNat p1) :: _ :: _ :: L) w := hp
    refine s_nil ?_
    refine k_region ?_
    refine s_val (wk0 rfl) rfl rfl hE hp (v := (.pointer (some ⟨bp0, 0, none⟩))) (ex_move rfl hE rfl) ?_
    intro a hE
    refine s_val (wk0 rfl) rfl rfl hE hp (v := (.pointer (some ⟨bp0, 0, none⟩))) (ex_move rfl hE rfl) ?_
    intro a hE
    refine s_val (wk0 rfl) rfl rfl hE hp (v := (.pointer (some ⟨bp0, 0, none⟩))) (ex_nil rfl hE rfl) ?_
    intro a hE
    refine s_val (wk0 rfl) rfl rfl hE hp (v := (.pointer (some ⟨bp0, 5, none⟩))) (ex_field rfl hE rfl (fldty74_4 _ _)) ?_
    intro a hE
    refine s_val (wk0 rfl) rfl rfl hE hp (v := vp0_list) (ex_load rfl hE rfl (fun w hw => run_ld1 varty25 (Hp.c 0 rfl 5 rfl w hw))) ?_
    intro a hE
    refine s_val (wk0 rfl) rfl rfl hE hp (v := (.int .i64 p1)) (ex_move rfl hE rfl) ?_
    intro a hE
    refine s_lit (wk0 rfl) rfl rfl hE hp rfl [(0, (.int .i64 p1))] ⟨⟨rfl, rfl⟩, trivial⟩ [(.int .i64 p1)] 3 (fun w => by simp [Instr.buildSlice, Instr.fill, Value.cells, go_sem]) ?_
    intro a w b3 hE hp
    have hp : Hp Z ρ (Pt b3 (.cells #[(.int .i64 p1)] 3 (0, 0)) :: _ :: _ :: _ :: _ :: L) w := hp
    obtain ⟨x4, ex4, hm⟩ := bnd hm
    refine s_app (wk0 rfl) rfl rfl hE hp rfl slty25 rfl rfl 4 rfl rfl (l2 := [p1]) rfl (fun j u hj => by have := Hp.cN 0 rfl 0 _ (sub_all rfl) w hp j u hj; simpa using this) ex4 ?_
    intro v1 a w hE hp
    have hp : Hp Z ρ (_ :: _ :: _ :: _ :: OwnSl 3 v1 x4 :: L) w := hp
    refine s_val (wk0 rfl) rfl rfl hE hp (v := (.pointer (some ⟨bp0, 0, none⟩))) (ex_nil rfl hE rfl) ?_
    intro a hE
    refine s_val (wk0 rfl) rfl rfl hE hp (v := (.pointer (some ⟨bp0, 5, none⟩))) (ex_field rfl hE rfl (fldty74_4 _ _)) ?_
    intro a hE
    refine s_store1 (wk0 rfl) rfl hE hp rfl rfl rfl 1 rfl varty25.size_ (OwnSl.cells hp 4 rfl) (OwnSl.one hp 4 rfl) rfl [(.int .i64 p0.f.vars), vp0_f_clauses, vp0_value, vp0_places, vp0_left, v1, (.bool p0.fails)] rfl ?_
    intro w hp
    have hp : Hp Z ρ (_ :: Pt bp0 (.cells #[(.int .i64 p0.f.vars), vp0_f_clauses, vp0_value, vp0_places, vp0_left, v1, (.bool p0.fails)] 74 (0, 0)) :: _ :: _ :: _ :: L) w := hp
    refine s_nil ?_
    obtain rfl := Option.some.inj hm
    exact ret0n hE rfl ⟨_, rfl, _, _, _, rfl, (hp.drop)⟩
  · replace hm := (ie hc1).symm.trans hm
    refine k_seq ?_
    refine k_region ?_
    refine s_val (wk0 rfl) rfl rfl hE hp (v := (.int .i64 p1)) (ex_move rfl hE rfl) ?_
    intro a hE
    obtain ⟨x5, ex5, hm⟩ := bnd hm
    refine s_val (wk0 rfl) rfl rfl hE hp (v := (.int .i64 x5)) (ex_neg rfl hE rfl (inK_some ex5)) ?_
    intro a hE
    refine s_val (wk0 rfl) rfl rfl hE hp (v := (.bool (decide (x2 = x5)))) (ex_eql rfl hE rfl rfl) ?_
    intro a hE
    refine s_val (wk0 rfl) rfl rfl hE hp (v := (.bool (decide (x2 = x5)))) (ex_asn rfl hE rfl) ?_
    intro a hE
    refine s_nil ?_
    have hE := hE.cut (E' := [(0, (.pointer (some ⟨bp0, 0, none⟩))), (33, (.bool (decide (x2 = x5))))]) ⟨rfl, rfl, trivial⟩
    refine k_if hE rfl (fun hc2 => ?_) (fun hc2 => ?_)
    · replace hm := (it hc2).symm.trans hm
      refine k_region ?_
      refine s_val (wk0 rfl) rfl rfl hE hp (v := (.pointer (some ⟨bp0, 0, none⟩))) (ex_move rfl hE rfl) ?_
      intro a hE
      refine s_val (wk0 rfl) rfl rfl hE hp (v := (.pointer (some ⟨bp0, 0, none⟩))) (ex_nil rfl hE rfl) ?_
      intro a hE
      refine s_val (wk0 rfl) rfl rfl hE hp (v := (.pointer (some ⟨bp0, 6, none⟩))) (ex_field rfl hE rfl (fldty74_5 _ _)) ?_
      intro a hE
      refine s_store (wk0 rfl) rfl hE hp rfl rfl rfl 0 rfl varty4.size_ rfl (allOne_mem ⟨rfl, trivial⟩) [(.int .i64 p0.f.vars), vp0_f_clauses, vp0_value, vp0_places, vp0_left, vp0_list, (.bool true)] rfl ?_
      intro w hp
      have hp : Hp Z ρ (Pt bp0 (.cells #[(.int .i64 p0.f.vars), vp0_f_clauses, vp0_value, vp0_places, vp0_left, vp0_list, (.bool true)] 74 (0, 0)) :: _ :: _ :: _ :: L) w := hp
      refine s_nil ?_
      obtain rfl := Option.some.inj hm
      exact ret0n hE rfl ⟨_, rfl, _, _, _, rfl, hp⟩
    · replace hm := (ie hc2).symm.trans hm
      refine k_skip ?_
      obtain rfl := Option.some.inj hm
      exact ret0n hE rfl ⟨_, rfl, _, _, _, rfl, hp⟩
set_option maxRecDepth 100000 in
set_option maxHeartbeats 4000000 in
theorem c_cnf_set_look {Z : World} {ρ : PH} {L : List Atom} {w : World} (hT : Tabs ρ) (bp0 : Nat) (p0 : PSet) (vp0_f_clauses : Value) (hp0_f_clauses : RoSl ρ vp0_f_clauses p0.f.clauses) (vp0_value : Value) (vp0_places : Value) (hp0_places : RoSl ρ vp0_places p0.places) (vp0_left : Value) (vp0_list : Value) (p1 : Int) (hp : Hp Z ρ (Pt bp0 (.cells #[(.int .i64 p0.f.vars), vp0_f_clauses, vp0_value, vp0_places, vp0_left, vp0_list, (.bool p0.fails)] 74 (0, 0)) :: OwnSl 3 vp0_value p0.value :: OwnSl 3 vp0_left p0.left :: OwnSl 3 vp0_list p0.list :: L) w) (r : PSet) (hm : m_cnf_set_look p0 p1 = some r) :
    Calls Tryz.prog 58 #[(.pointer (some ⟨bp0, 0, none⟩)), (.int .i64 p1)] w (Ret fun v w' => ∃ (vzp0_value : Value) (vzp0_left : Value) (vzp0_list : Value), v = .tuple #[] ∧ Hp Z ρ (Pt bp0 (.cells #[(.int .i64 p0.f.vars), vp0_f_clauses, vzp0_value, vp0_places, vzp0_left, vzp0_list, (.bool r.fails)] 74 (0, 0)) :: OwnSl 3 vzp0_value r.value :: OwnSl 3 vzp0_left r.left :: OwnSl 3 vzp0_list r.list :: L) w') := by
  refine enter (N := 48) Tryz.func58 rfl rfl [(0, (.pointer (some ⟨bp0, 0, none⟩))), (1, (.int .i64 p1))] rfl (argsIn_mem ⟨rfl, rfl, trivial⟩) fun a hE => ?_
  unfold m_cnf_set_look at hm
  refine k_seq ?_
  refine k_region ?_
  refine s_val (wk0 rfl) rfl rfl hE hp (v := (.pointer (some ⟨bp0, 0, none⟩))) (ex_move rfl hE rfl) ?_
  intro a hE
  refine s_val (wk0 rfl) rfl rfl hE hp (v := (.pointer (some ⟨bp0, 0, none⟩))) (ex_nil rfl hE rfl) ?_
  intro a hE
  refine s_val (wk0 rfl) rfl rfl hE hp (v := (.pointer (some ⟨bp0, 4, none⟩))) (ex_field rfl hE rfl (fldty74_3 _ _)) ?_
  intro a hE
  refine s_val (wk0 rfl) rfl rfl hE hp (v := vp0_left) (ex_load rfl hE rfl (fun w hw => run_ld1 varty25 (Hp.c 0 rfl 4 rfl w hw))) ?_
  intro a hE
  refine s_val (wk0 rfl) rfl rfl hE hp (v := (.int .i64 p1)) (ex_move rfl hE rfl) ?_
  intro a hE
  obtain ⟨x1, ex1, hm⟩ := bnd hm
  obtain ⟨b1, b1o, b1r, b1v, b1f⟩ := OwnSl.at hp 2 rfl slty25 ex1
  have b1f : ∀ (j : Nat) (u : Value), ([(.int .i64 x1)] : List Value)[j]? = some u → ∀ ρ' L' w, Hp Z ρ' (OwnSl 3 vp0_left p0.left :: L') w → w.cell? ⟨b1, b1o + j, none⟩ = some u := b1f
  refine s_val (wk0 rfl) rfl rfl hE hp (v := (.pointer (some ⟨b1, b1o, none⟩))) (ex_index rfl hE rfl rfl b1r) ?_
  intro a hE
  refine s_val (wk0 rfl) rfl rfl hE hp (v := (.int .i64 x1)) (ex_load rfl hE rfl (fun w hw => run_ld1 varty3 (b1f 0 _ rfl _ _ w (hw.get 2 rfl)))) ?_
  intro a hE
  refine s_nil ?_
  refine k_plain ?_
  refine k_seq ?_
  refine k_region ?_
  refine s_val (wk0 rfl) rfl rfl hE hp (v := (.bool (decide (x1 = 0)))) (ex_eql rfl hE rfl rfl) ?_
  intro a hE
  refine s_val (wk0 rfl) rfl rfl hE hp (v := (.bool (decide (x1 = 0)))) (ex_asn rfl hE rfl) ?_
  intro a hE
  refine s_nil ?_
  refine k_if hE rfl (fun hc1 => ?_) (fun hc1 => ?_)
  · replace hm := (it hc1).symm.trans hm
    refine k_region ?_
    refine s_val (wk0 rfl) rfl rfl hE hp (v := (.pointer (some ⟨bp0, 0, none⟩))) (ex_move rfl hE rfl) ?_
    intro a hE
    refine s_val (wk0 rfl) rfl rfl hE hp (v := (.pointer (some ⟨bp0, 0, none⟩))) (ex_nil rfl hE rfl) ?_
    intro a hE
    refine s_val (wk0 rfl) rfl rfl hE hp (v := (.pointer (some ⟨bp0, 6, none⟩))) (ex_field rfl hE rfl (fldty74_5 _ _)) ?_
    intro a hE
    refine s_store (wk0 rfl) rfl hE hp rfl rfl rfl 0 rfl varty4.size_ rfl (allOne_mem ⟨rfl, trivial⟩) [(.int .i64 p0.f.vars), vp0_f_clauses, vp0_value, vp0_places, vp0_left, vp0_list, (.bool true)] rfl ?_
    intro w hp
    have hp : Hp Z ρ (Pt bp0 (.cells #[(.int .i64 p0.f.vars), vp0_f_clauses, vp0_value, vp0_places, vp0_left, vp0_list, (.bool true)] 74 (0, 0)) :: OwnSl 3 vp0_value p0.value :: OwnSl 3 vp0_left p0.left :: OwnSl 3 vp0_list p0.list :: L) w := hp
    refine s_nil ?_
    obtain rfl := Option.some.inj hm
    exact ret0n hE rfl ⟨_, rfl, _, _, _, rfl, hp⟩
  · replace hm := (ie hc1).symm.trans hm
    refine k_seq ?_
    refine k_region ?_
    refine s_val (wk0 rfl) rfl rfl hE hp (v := (.bool (decide (x1 = 1)))) (ex_eql rfl hE rfl rfl) ?_
    intro a hE
    refine s_val (wk0 rfl) rfl rfl hE hp (v := (.bool (decide (x1 = 1)))) (ex_asn rfl hE rfl) ?_
    intro a hE
    refine s_nil ?_
    refine k_if hE rfl (fun hc2 => ?_) (fun hc2 => ?_)
    · replace hm := (it hc2).symm.trans hm
      refine k_seq ?_
      refine k_region ?_
      refine s_val (wk0 rfl) rfl rfl hE hp (v := (.pointer (some ⟨bp0, 0, none⟩))) (ex_move rfl hE rfl) ?_
      intro a hE
      refine s_val (wk0 rfl) rfl rfl hE hp (v := (.pointer (some ⟨bp0, 0, none⟩))) (ex_nil rfl hE rfl) ?_
      intro a hE
      refine s_val (wk0 rfl) rfl rfl hE hp (v := (.pointer (some ⟨bp0, 0, none⟩))) (ex_field rfl hE rfl (fldty74_0 _ _)) ?_
      intro a hE
      refine s_val (wk0 rfl) rfl rfl hE hp (v := (.pointer (some ⟨bp0, 1, none⟩))) (ex_field rfl hE rfl (fldty24_1 _ _)) ?_
      intro a hE
      refine s_val (wk0 rfl) rfl rfl hE hp (v := vp0_f_clauses) (ex_load rfl hE rfl (fun w hw => run_ld1 varty22 (Hp.c 0 rfl 1 rfl w hw))) ?_
      intro a hE
      refine s_val (wk0 rfl) rfl rfl hE hp (v := (.int .i64 p1)) (ex_move rfl hE rfl) ?_
      intro a hE
      obtain ⟨x2, ex2, hm⟩ := bnd hm
      obtain ⟨b2, b2o, b2c, b2r, b2k, b2f⟩ := RoSl.at hp0_f_clauses slty22 ex2
      obtain ⟨vb2, rfl, hb2⟩ := b2k
      have b2f : AtP ρ b2 b2o [vb2] := b2f
      refine s_val (wk0 rfl) rfl rfl hE hp (v := (.pointer (some ⟨b2, b2o, none⟩))) (ex_index rfl hE rfl rfl b2r) ?_
      intro a hE
      refine s_val (wk0 rfl) rfl rfl hE hp (v := vb2) (ex_load rfl hE rfl (fun w hw => run_ld1 varty25 (b2f.c 0 rfl w hw))) ?_
      intro a hE
      refine s_val (wk0 rfl) rfl rfl hE hp (v := (.int .i64 (x2.length : Int))) (ex_len rfl hE rfl (RoSl.len hb2 slty25)) ?_
      intro a hE
      refine s_val (wk0 rfl) rfl rfl hE hp (v := (.int .i64 0)) (ex_move rfl hE rfl) ?_
      intro a hE
      refine s_nil ?_
      obtain ⟨b3, hc3, hm⟩ := bnd hm
      refine k_block (fun a w => ∃ s : Unit, b3 = .brk s ∧ (Env 48 [] a ∧ Hp Z ρ (Pt bp0 (.cells #[(.int .i64 p0.f.vars), vp0_f_clauses, vp0_value, vp0_places, vp0_left, vp0_list, (.bool p0.fails)] 74 (0, 0)) :: OwnSl 3 vp0_value p0.value :: OwnSl 3 vp0_left p0.left :: OwnSl 3 vp0_list p0.list :: L) w)) ?_ ?_
      · refine k_loop hc3 (fun s a w => Env 48 [(0, (.pointer (some ⟨bp0, 0, none⟩))), (27, vb2), (28, (.int .i64 (x2.length : Int))), (29, (.int .i64 s))] a ∧ Hp Z ρ (Pt bp0 (.cells #[(.int .i64 p0.f.vars), vp0_f_clauses, vp0_value, vp0_places, vp0_left, vp0_list, (.bool p0.fails)] 74 (0, 0)) :: OwnSl 3 vp0_value p0.value :: OwnSl 3 vp0_left p0.left :: OwnSl 3 vp0_list p0.list :: L) w) ?_ ?_
        · exact ⟨hE.cut ⟨rfl, rfl, rfl, rfl, trivial⟩, hp⟩
        · rintro lp1_0 st a w ⟨hE, hp⟩ hl1
          have hE : Env 48 [(0, (.pointer (some ⟨bp0, 0, none⟩))), (27, vb2), (28, (.int .i64 (x2.length : Int))), (29, (.int .i64 lp1_0))] a := hE
          have hp : Hp Z ρ (Pt bp0 (.cells #[(.int .i64 p0.f.vars), vp0_f_clauses, vp0_value, vp0_places, vp0_left, vp0_list, (.bool p0.fails)] 74 (0, 0)) :: OwnSl 3 vp0_value p0.value :: OwnSl 3 vp0_left p0.left :: OwnSl 3 vp0_list p0.list :: L) w := hp
          replace hl1 : m_cnf_set_look_lp1 p0 x2 lp1_0 = some st := hl1
          unfold m_cnf_set_look_lp1 at hl1
          refine k_seq ?_
          refine k_region ?_
          refine s_val (wk0 rfl) rfl rfl hE hp (v := (.bool (decide (lp1_0 < (x2.length : Int))))) (ex_lss rfl hE rfl rfl) ?_
          intro a hE
          refine s_nil ?_
          have hE := hE.cut (E' := [(0, (.pointer (some ⟨bp0, 0, none⟩))), (27, vb2), (28, (.int .i64 (x2.length : Int))), (29, (.int .i64 lp1_0)), (30, (.bool (decide (lp1_0 < (x2.length : Int)))))]) ⟨rfl, rfl, rfl, rfl, rfl, trivial⟩
          refine k_seq ?_
          refine k_if hE rfl (fun hc4 => ?_) (fun hc4 => ?_)
          · replace hl1 := (it hc4).symm.trans hl1
            refine k_skip ?_
            refine k_seq ?_
            refine k_plain ?_
            refine k_seq ?_
            refine k_region ?_
            obtain ⟨x3, ex3, hl1⟩ := bnd hl1
            obtain ⟨b4, b4o, b4c, b4r, b4k, b4f⟩ := RoSl.at hb2 slty25 ex3
            obtain rfl : b4c = Enc.enc x3 := b4k
            have b4f : AtP ρ b4 b4o [(.int .i64 x3)] := b4f
            refine s_val (wk0 rfl) rfl rfl hE hp (v := (.pointer (some ⟨b4, b4o, none⟩))) (ex_index rfl hE rfl rfl b4r) ?_
            intro a hE
            refine s_val (wk0 rfl) rfl rfl hE hp (v := (.int .i64 x3)) (ex_load rfl hE rfl (fun w hw => run_ld1 varty3 (b4f.c 0 rfl w hw))) ?_
            intro a hE
            refine s_val (wk0 rfl) rfl rfl hE hp (v := (.int .i64 x3)) (ex_asn rfl hE rfl) ?_
            intro a hE
            refine s_nil ?_
            refine k_seq ?_
            refine k_quiet (by kernel_rfl) (by kernel_rfl) hp ?_
            refine q_val (wk0 rfl) rfl rfl hE (v := (.pointer (some ⟨bp0, 0, none⟩))) (ex_move rfl hE rfl) ?_
            intro a hE
            refine q_val (wk0 rfl) rfl rfl hE (v := (.pointer (some ⟨bp0, 0, none⟩))) (ex_nil rfl hE rfl) ?_
            intro a hE
            refine q_val (wk0 rfl) rfl rfl hE (v := (.pointer (some ⟨bp0, 2, none⟩))) (ex_field rfl hE rfl (fldty74_1 _ _)) ?_
            intro a hE
            refine q_val (wk0 rfl) rfl rfl hE (v := vp0_value) (ex_load rfl hE rfl (fun w hw => run_ld1 varty25 (Hp.c 0 rfl 2 rfl w hw))) ?_
            intro a hE
            refine q_val (wk0 rfl) rfl rfl hE (v := (.int .i64 x3)) (ex_move rfl hE rfl) ?_
            intro a hE
            obtain ⟨x4, ex4, hl1⟩ := bnd hl1
            refine q_call (wk0 rfl) rfl rfl hE rfl [(.int .i64 x3)] ⟨rfl, trivial⟩ ent46 (v := (.int .i64 x4)) (fun w hw => Calls.mono (c_cnf_variable hT x3 hw x4 ex4) fun e w' ⟨v, he, hv, hh⟩ => ⟨by rw [he, hv], hh⟩) ?_
            intro a hE
            obtain ⟨x5, ex5, hl1⟩ := bnd hl1
            obtain ⟨b5, b5o, b5r, b5v, b5f⟩ := OwnSl.at hp 1 rfl slty25 ex5
            have b5f : ∀ (j : Nat) (u : Value), ([(.int .i64 x5)] : List Value)[j]? = some u → ∀ ρ' L' w, Hp Z ρ' (OwnSl 3 vp0_value p0.value :: L') w → w.cell? ⟨b5, b5o + j, none⟩ = some u := b5f
            refine q_val (wk0 rfl) rfl rfl hE (v := (.pointer (some ⟨b5, b5o, none⟩))) (ex_index rfl hE rfl rfl b5r) ?_
            intro a hE
            refine q_val (wk0 rfl) rfl rfl hE (v := (.int .i64 x5)) (ex_load rfl hE rfl (fun w hw => run_ld1 varty3 (b5f 0 _ rfl _ _ w (hw.get 1 rfl)))) ?_
            intro a hE
            refine q_val (wk0 rfl) rfl rfl hE (v := (.int .i64 x3)) (ex_move rfl hE rfl) ?_
            intro a hE
            obtain ⟨x6, ex6, hl1⟩ := bnd hl1
            refine q_val (wk0 rfl) rfl rfl hE (v := (.int .i64 x6)) (ex_neg rfl hE rfl (inK_some ex6)) ?_
            intro a hE
            refine q_val (wk0 rfl) rfl rfl hE (v := (.bool (!decide (x5 = x6)))) (ex_neq rfl hE rfl rfl) ?_
            intro a hE
            refine q_nil fun w hp => ?_
            have hp : Hp Z ρ (_ :: _ :: _ :: _ :: L) w := hp
            refine k_if hE rfl (fun hc5 => ?_) (fun hc5 => ?_)
            · replace hl1 := (it hc5).symm.trans hl1
              refine k_seq ?_
              refine k_region ?_
              refine s_val (wk0 rfl) rfl rfl hE hp (v := (.pointer (some ⟨bp0, 0, none⟩))) (ex_move rfl hE rfl) ?_
              intro a hE
              refine s_val (wk0 rfl) rfl rfl hE hp (v := (.int .i64 x3)) (ex_move rfl hE rfl) ?_
              intro a hE
              obtain ⟨x7, ex7, hl1⟩ := bnd hl1
              refine s_call (wk0 rfl) rfl rfl hE rfl [(.pointer (some ⟨bp0, 0, none⟩)), (.int .i64 x3)] ⟨rfl, rfl, trivial⟩ ent57 (c_cnf_set_add hT bp0 p0 vp0_f_clauses hp0_f_clauses vp0_value vp0_places hp0_places vp0_left vp0_list x3 ((((hp.get 3 rfl).get 3 rfl).get 3 rfl).get 3 rfl) x7 ex7) Ret.ret ?_
              intro v a w hR hE
              obtain ⟨vz1_value, vz1_left, vz1_list, rfl, hp⟩ := Ret.of hR
              have hp : Hp Z ρ (Pt bp0 (.cells #[(.int .i64 p0.f.vars), vp0_f_clauses, vz1_value, vp0_places, vz1_left, vz1_list, (.bool x7.fails)] 74 (0, 0)) :: OwnSl 3 vz1_value x7.value :: OwnSl 3 vz1_left x7.left :: OwnSl 3 vz1_list x7.list :: L) w := hp
              refine s_nil ?_
              refine k_ret ?_
              refine ⟨_, (Option.some.inj hl1).symm, fun hb => ?_⟩
              subst hb
              obtain rfl := Option.some.inj hm
              exact ret0 hE rfl ⟨_, rfl, _, _, _, rfl, hp⟩
            · replace hl1 := (ie hc5).symm.trans hl1
              refine k_skip ?_
              refine k_region ?_
              obtain ⟨x8, ex8, hl1⟩ := bnd hl1
              refine s_val (wk0 rfl) rfl rfl hE hp (v := (.int .i64 x8)) (ex_add rfl hE rfl rfl (inK_some ex8)) ?_
              intro a hE
              refine s_val (wk0 rfl) rfl rfl hE hp (v := (.int .i64 x8)) (ex_move rfl hE rfl) ?_
              intro a hE
              refine s_nil ?_
              exact ⟨_, (Option.some.inj hl1).symm, hE.cut ⟨rfl, rfl, rfl, rfl, trivial⟩, hp⟩
          · replace hl1 := (ie hc4).symm.trans hl1
            refine k_exit ?_
            refine ⟨_, (Option.some.inj hl1).symm, fun hbb => ?_⟩
            exact ⟨_, hbb.symm, hE.cut trivial, hp⟩
      · rintro a w ⟨b3s, rfl, hE, hp⟩
        dsimp only at hm
        obtain rfl := Option.some.inj hm
        exact ret0n hE rfl ⟨_, rfl, _, _, _, rfl, hp⟩
    · replace hm := (ie hc2).symm.trans hm
      refine k_skip ?_
      obtain rfl := Option.some.inj hm
      exact ret0n hE rfl ⟨_, rfl, _, _, _, rfl, hp⟩
set_option maxRecDepth 100000 in
set_option maxHeartbeats 4000000 in
theorem c_cnf_Propagate_1 {Z : World} {ρ : PH} {L : List Atom} {w : World} (hT : Tabs ρ) (p0 : Int) (bc0 : Nat) (c0 : Formula) (vc0_clauses : Value) (hc0_clauses : RoSl ρ vc0_clauses c0.clauses) (hp : Hp Z ρ (Pt bc0 (.cells #[(.int .i64 c0.vars), vc0_clauses] 24 (0, 0)) :: L) w) (r : Bool) (hm : m_cnf_Propagate_1 p0 c0 = some r) :
    Calls Tryz.prog 55 #[(.int .i64 p0), (.pointer (some ⟨bc0, 0, none⟩))] w (Ret fun v w' => v = (.bool r) ∧ Hp Z ρ (Pt bc0 (.cells #[(.int .i64 c0.vars), vc0_clauses] 24 (0, 0)) :: L) w') := by
  refine enter (N := 19) Tryz.func55 rfl rfl [(0, (.int .i64 p0)), (1, (.pointer (some ⟨bc0, 0, none⟩)))] rfl (argsIn_mem ⟨rfl, rfl, trivial⟩) fun a hE => ?_
  unfold m_cnf_Propagate_1 at hm
  refine k_seq ?_
  refine k_region ?_
  refine s_val (wk0 rfl) rfl rfl hE hp (v := (.bool false)) (ex_asn rfl hE rfl) ?_
  intro a hE
  refine s_nil ?_
  refine k_seq ?_
  refine k_region ?_
  refine s_val (wk0 rfl) rfl rfl hE hp (v := (.int .i64 p0)) (ex_move rfl hE rfl) ?_
  intro a hE
  refine s_val (wk0 rfl) rfl rfl hE hp (v := (.bool (decide (p0 = 0)))) (ex_eql rfl hE rfl rfl) ?_
  intro a hE
  refine s_val (wk0 rfl) rfl rfl hE hp (v := (.bool (decide (p0 = 0)))) (ex_move rfl hE rfl) ?_
  intro a hE
  obtain ⟨m1, hg1, hm⟩ := bnd hm
  refine s_cut [_, _, _, _, _, _] (fun a w => Env 19 [(12, (.bool m1)), (0, (.int .i64 p0)), (1, (.pointer (some ⟨bc0, 0, none⟩)))] a ∧ Hp Z ρ (Pt bc0 (.cells #[(.int .i64 c0.vars), vc0_clauses] 24 (0, 0)) :: L) w) ?_ ?_
  · rcases Bool.eq_false_or_eq_true (decide (p0 = 0)) with hc1 | hc1
    ·
      replace hg1 := (it hc1).symm.trans hg1
      refine s_skip (wk2 hE rfl rfl rfl hc1) rfl rfl hE ?_
      intro a hE
      refine s_skip (wk2 hE rfl rfl rfl hc1) rfl rfl hE ?_
      intro a hE
      refine s_skip (wk2 hE rfl rfl rfl hc1) rfl rfl hE ?_
      intro a hE
      refine s_skip (wk2 hE rfl rfl rfl hc1) rfl rfl hE ?_
      intro a hE
      refine s_skip (wk2 hE rfl rfl rfl hc1) rfl rfl hE ?_
      intro a hE
      refine s_val (wk0 rfl) rfl rfl hE hp (v := (.bool true)) (ex_pick1 rfl hE rfl hc1 rfl) ?_
      intro a hE
      obtain rfl := Option.some.inj hg1
      exact s_nil ⟨hE.cut ⟨rfl, rfl, rfl, trivial⟩, hp⟩
    ·
      replace hg1 := (ie hc1).symm.trans hg1
      refine s_val (wk1 hE rfl rfl rfl hc1) rfl rfl hE hp (v := (.int .i64 p0)) (ex_move rfl hE rfl) ?_
      intro a hE
      refine s_val (wk1 hE rfl rfl rfl hc1) rfl rfl hE hp (v := (.pointer (some ⟨bc0, 0, none⟩))) (ex_field rfl hE rfl (fldty24_0 _ _)) ?_
      intro a hE
      refine s_val (wk1 hE rfl rfl rfl hc1) rfl rfl hE hp (v := (.int .i64 c0.vars)) (ex_load rfl hE rfl (fun w hw => run_ld1 varty3 (Hp.c 0 rfl 0 rfl w hw))) ?_
      intro a hE
      obtain ⟨x1, ex1, hg1⟩ := bnd hg1
      refine s_val (wk1 hE rfl rfl rfl hc1) rfl rfl hE hp (v := (.int .i64 x1)) (ex_neg rfl hE rfl (inK_some ex1)) ?_
      intro a hE
      refine s_val (wk1 hE rfl rfl rfl hc1) rfl rfl hE hp (v := (.bool (decide (p0 < x1)))) (ex_lss rfl hE rfl rfl) ?_
      intro a hE
      refine s_val (wk0 rfl) rfl rfl hE hp (v := (.bool (decide (p0 < x1)))) (ex_pick0 rfl hE rfl hc1 rfl) ?_
      intro a hE
      obtain rfl := Option.some.inj hg1
      exact s_nil ⟨hE.cut ⟨rfl, rfl, rfl, trivial⟩, hp⟩
  · rintro a w ⟨hE, hp⟩
    refine s_val (wk0 rfl) rfl rfl hE hp (v := (.bool m1)) (ex_move rfl hE rfl) ?_
    intro a hE
    refine s_cut [_, _, _, _, _] (fun a w => Env 19 [(18, (.bool (m1 || (decide (c0.vars < p0)))))] a ∧ Hp Z ρ (Pt bc0 (.cells #[(.int .i64 c0.vars), vc0_clauses] 24 (0, 0)) :: L) w) ?_ ?_
    · rcases Bool.eq_false_or_eq_true m1 with hc2 | hc2
      ·
        refine s_skip (wk2 hE rfl rfl rfl hc2) rfl rfl hE ?_
        intro a hE
        refine s_skip (wk2 hE rfl rfl rfl hc2) rfl rfl hE ?_
        intro a hE
        refine s_skip (wk2 hE rfl rfl rfl hc2) rfl rfl hE ?_
        intro a hE
        refine s_skip (wk2 hE rfl rfl rfl hc2) rfl rfl hE ?_
        intro a hE
        refine s_val (wk0 rfl) rfl rfl hE hp (v := (.bool true)) (ex_pick1 rfl hE rfl hc2 rfl) ?_
        intro a hE
        have hE := hE.eqv (v' := (.bool (m1 || (decide (c0.vars < p0))))) (by rw [hc2]; rfl)
        exact s_nil ⟨hE.cut ⟨rfl, trivial⟩, hp⟩
      ·
        refine s_val (wk1 hE rfl rfl rfl hc2) rfl rfl hE hp (v := (.int .i64 p0)) (ex_move rfl hE rfl) ?_
        intro a hE
        refine s_val (wk1 hE rfl rfl rfl hc2) rfl rfl hE hp (v := (.pointer (some ⟨bc0, 0, none⟩))) (ex_field rfl hE rfl (fldty24_0 _ _)) ?_
        intro a hE
        refine s_val (wk1 hE rfl rfl rfl hc2) rfl rfl hE hp (v := (.int .i64 c0.vars)) (ex_load rfl hE rfl (fun w hw => run_ld1 varty3 (Hp.c 0 rfl 0 rfl w hw))) ?_
        intro a hE
        refine s_val (wk1 hE rfl rfl rfl hc2) rfl rfl hE hp (v := (.bool (decide (c0.vars < p0)))) (ex_gtr rfl hE rfl rfl) ?_
        intro a hE
        refine s_val (wk0 rfl) rfl rfl hE hp (v := (.bool (decide (c0.vars < p0)))) (ex_pick0 rfl hE rfl hc2 rfl) ?_
        intro a hE
        have hE := hE.eqv (v' := (.bool (m1 || (decide (c0.vars < p0))))) (by rw [hc2]; rfl)
        exact s_nil ⟨hE.cut ⟨rfl, trivial⟩, hp⟩
    · rintro a w ⟨hE, hp⟩
      refine s_val (wk0 rfl) rfl rfl hE hp (v := (.bool (m1 || (decide (c0.vars < p0))))) (ex_asn rfl hE rfl) ?_
      intro a hE
      refine s_nil ?_
      refine k_ret ?_
      obtain rfl := Option.some.inj hm
      exact ret1 hE rfl rfl ⟨_, rfl, rfl, hp⟩
set_option maxRecDepth 100000 in
set_option maxHeartbeats 4000000 in
theorem c_slices_IndexFunc_cnf_Propagate_1 {Z : World} {ρ : PH} {L : List Atom} {w : World} (hT : Tabs ρ) (p0 : (List Int)) (vp0 : Value) (hp0 : RoSl ρ vp0 p0) (bp1c0 : Nat) (p1c0 : Formula) (vp1c0_clauses : Value) (hp1c0_clauses : RoSl ρ vp1c0_clauses p1c0.clauses) (hp : Hp Z ρ (Pt bp1c0 (.cells #[(.int .i64 p1c0.vars), vp1c0_clauses] 24 (0, 0)) :: L) w) (r : Int) (hm : m_slices_IndexFunc_cnf_Propagate_1 p0 p1c0 = some r) :
    Calls Tryz.prog 71 #[vp0, (.func (.func 55) #[] #[(.pointer (some ⟨bp1c0, 0, none⟩))])] w (Ret fun v w' => v = (.int .i64 r) ∧ Hp Z ρ (Pt bp1c0 (.cells #[(.int .i64 p1c0.vars), vp1c0_clauses] 24 (0, 0)) :: L) w') := by
  refine enter (N := 19) Tryz.func71 rfl rfl [(0, vp0), (1, (.func (.func 55) #[] #[(.pointer (some ⟨bp1c0, 0, none⟩))]))] rfl (argsIn_mem ⟨rfl, rfl, trivial⟩) fun a hE => ?_
  unfold m_slices_IndexFunc_cnf_Propagate_1 at hm
  refine k_seq ?_
  refine k_region ?_
  refine s_val (wk0 rfl) rfl rfl hE hp (v := (.int .i64 0)) (ex_asn rfl hE rfl) ?_
  intro a hE
  refine s_nil ?_
  refine k_seq ?_
  refine k_seq ?_
  refine k_region ?_
  refine s_val (wk0 rfl) rfl rfl hE hp (v := vp0) (ex_move rfl hE rfl) ?_
  intro a hE
  refine s_val (wk0 rfl) rfl rfl hE hp (v := (.int .i64 (p0.length : Int))) (ex_len rfl hE rfl (RoSl.len hp0 slty25)) ?_
  intro a hE
  refine s_val (wk0 rfl) rfl rfl hE hp (v := (.int .i64 0)) (ex_move rfl hE rfl) ?_
  intro a hE
  refine s_nil ?_
  obtain ⟨b1, hc1, hm⟩ := bnd hm
  refine k_block (fun a w => ∃ s : Unit, b1 = .brk s ∧ (Env 19 [] a ∧ Hp Z ρ (Pt bp1c0 (.cells #[(.int .i64 p1c0.vars), vp1c0_clauses] 24 (0, 0)) :: L) w)) ?_ ?_
  · refine k_loop hc1 (fun s a w => Env 19 [(0, vp0), (1, (.func (.func 55) #[] #[(.pointer (some ⟨bp1c0, 0, none⟩))])), (7, (.int .i64 (p0.length : Int))), (8, (.int .i64 s))] a ∧ Hp Z ρ (Pt bp1c0 (.cells #[(.int .i64 p1c0.vars), vp1c0_clauses] 24 (0, 0)) :: L) w) ?_ ?_
    · exact ⟨hE.cut ⟨rfl, rfl, rfl, rfl, trivial⟩, hp⟩
    · rintro lp1_0 st a w ⟨hE, hp⟩ hl1
      have hE : Env 19 [(0, vp0), (1, (.func (.func 55) #[] #[(.pointer (some ⟨bp1c0, 0, none⟩))])), (7, (.int .i64 (p0.length : Int))), (8, (.int .i64 lp1_0))] a := hE
      have hp : Hp Z ρ (Pt bp1c0 (.cells #[(.int .i64 p1c0.vars), vp1c0_clauses] 24 (0, 0)) :: L) w := hp
      replace hl1 : m_slices_IndexFunc_cnf_Propagate_1_lp1 p0 p1c0 lp1_0 = some st := hl1
      unfold m_slices_IndexFunc_cnf_Propagate_1_lp1 at hl1
      refine k_seq ?_
      refine k_region ?_
      refine s_val (wk0 rfl) rfl rfl hE hp (v := (.bool (decide (lp1_0 < (p0.length : Int))))) (ex_lss rfl hE rfl rfl) ?_
      intro a hE
      refine s_nil ?_
      refine k_seq ?_
      refine k_if hE rfl (fun hc2 => ?_) (fun hc2 => ?_)
      · replace hl1 := (it hc2).symm.trans hl1
        refine k_skip ?_
        refine k_seq ?_
        refine k_plain ?_
        refine k_seq ?_
        refine k_region ?_
        refine s_val (wk0 rfl) rfl rfl hE hp (v := (.int .i64 lp1_0)) (ex_move rfl hE rfl) ?_
        intro a hE
        refine s_val (wk0 rfl) rfl rfl hE hp (v := (.int .i64 lp1_0)) (ex_asn rfl hE rfl) ?_
        intro a hE
        refine s_nil ?_
        refine k_seq ?_
        refine k_region ?_
        refine s_val (wk0 rfl) rfl rfl hE hp (v := (.func (.func 55) #[] #[(.pointer (some ⟨bp1c0, 0, none⟩))])) (ex_move rfl hE rfl) ?_
        intro a hE
        refine s_val (wk0 rfl) rfl rfl hE hp (v := vp0) (ex_move rfl hE rfl) ?_
        intro a hE
        refine s_val (wk0 rfl) rfl rfl hE hp (v := (.int .i64 lp1_0)) (ex_move rfl hE rfl) ?_
        intro a hE
        obtain ⟨x1, ex1, hl1⟩ := bnd hl1
        obtain ⟨b2, b2o, b2c, b2r, b2k, b2f⟩ := RoSl.at hp0 slty25 ex1
        obtain rfl : b2c = Enc.enc x1 := b2k
        have b2f : AtP ρ b2 b2o [(.int .i64 x1)] := b2f
        refine s_val (wk0 rfl) rfl rfl hE hp (v := (.pointer (some ⟨b2, b2o, none⟩))) (ex_index rfl hE rfl rfl b2r) ?_
        intro a hE
        refine s_val (wk0 rfl) rfl rfl hE hp (v := (.int .i64 x1)) (ex_load rfl hE rfl (fun w hw => run_ld1 varty3 (b2f.c 0 rfl w hw))) ?_
        intro a hE
        obtain ⟨x2, ex2, hl1⟩ := bnd hl1
        refine s_callv (wk0 rfl) rfl rfl hE rfl rfl [(.int .i64 x1)] ⟨rfl, trivial⟩ ent55 (c_cnf_Propagate_1 hT x1 bp1c0 p1c0 vp1c0_clauses hp1c0_clauses hp x2 ex2) Ret.ret ?_
        intro v a w hR hE
        obtain ⟨rfl, hp⟩ := Ret.of hR
        have hp : Hp Z ρ (_ :: L) w := hp
        refine s_nil ?_
        have hE := hE.cut (E' := [(0, vp0), (1, (.func (.func 55) #[] #[(.pointer (some ⟨bp1c0, 0, none⟩))])), (5, (.int .i64 lp1_0)), (7, (.int .i64 (p0.length : Int))), (8, (.int .i64 lp1_0)), (16, (.bool x2))]) ⟨rfl, rfl, rfl, rfl, rfl, rfl, trivial⟩
        refine k_if hE rfl (fun hc3 => ?_) (fun hc3 => ?_)
        · replace hl1 := (it hc3).symm.trans hl1
          refine k_seq ?_
          refine k_region ?_
          refine s_val (wk0 rfl) rfl rfl hE hp (v := (.int .i64 lp1_0)) (ex_move rfl hE rfl) ?_
          intro a hE
          refine s_val (wk0 rfl) rfl rfl hE hp (v := (.int .i64 lp1_0)) (ex_asn rfl hE rfl) ?_
          intro a hE
          refine s_nil ?_
          refine k_ret ?_
          refine ⟨_, (Option.some.inj hl1).symm, fun hb => ?_⟩
          subst hb
          obtain rfl := Option.some.inj hm
          exact ret1 hE rfl rfl ⟨_, rfl, rfl, hp⟩
        · replace hl1 := (ie hc3).symm.trans hl1
          refine k_skip ?_
          refine k_region ?_
          obtain ⟨x3, ex3, hl1⟩ := bnd hl1
          refine s_val (wk0 rfl) rfl rfl hE hp (v := (.int .i64 x3)) (ex_add rfl hE rfl rfl (inK_some ex3)) ?_
          intro a hE
          refine s_val (wk0 rfl) rfl rfl hE hp (v := (.int .i64 x3)) (ex_move rfl hE rfl) ?_
          intro a hE
          refine s_nil ?_
          exact ⟨_, (Option.some.inj hl1).symm, hE.cut ⟨rfl, rfl, rfl, rfl, trivial⟩, hp⟩
      · replace hl1 := (ie hc2).symm.trans hl1
        refine k_exit ?_
        refine ⟨_, (Option.some.inj hl1).symm, fun hbb => ?_⟩
        exact ⟨_, hbb.symm, hE.cut trivial, hp⟩
  · rintro a w ⟨b1s, rfl, hE, hp⟩
    dsimp only at hm
    refine k_seq ?_
    refine k_region ?_
    refine s_val (wk0 rfl) rfl rfl hE hp (v := (.int .i64 (-1))) (ex_asn rfl hE rfl) ?_
    intro a hE
    refine s_nil ?_
    refine k_ret ?_
    obtain rfl := Option.some.inj hm
    exact ret1 hE rfl rfl ⟨_, rfl, rfl, hp⟩
set_option maxRecDepth 100000 in
set_option maxHeartbeats 4000000 in
theorem c_slices_ContainsFunc_cnf_Propagate_1 {Z : World} {ρ : PH} {L : List Atom} {w : World} (hT : Tabs ρ) (p0 : (List Int)) (vp0 : Value) (hp0 : RoSl ρ vp0 p0) (bp1c0 : Nat) (p1c0 : Formula) (vp1c0_clauses : Value) (hp1c0_clauses : RoSl ρ vp1c0_clauses p1c0.clauses) (hp : Hp Z ρ (Pt bp1c0 (.cells #[(.int .i64 p1c0.vars), vp1c0_clauses] 24 (0, 0)) :: L) w) (r : Bool) (hm : m_slices_ContainsFunc_cnf_Propagate_1 p0 p1c0 = some r) :
    Calls Tryz.prog 32 #[vp0, (.func (.func 55) #[] #[(.pointer (some ⟨bp1c0, 0, none⟩))])] w (Ret fun v w' => v = (.bool r) ∧ Hp Z ρ (Pt bp1c0 (.cells #[(.int .i64 p1c0.vars), vp1c0_clauses] 24 (0, 0)) :: L) w') := by
  refine enter (N := 9) Tryz.func32 rfl rfl [(0, vp0), (1, (.func (.func 55) #[] #[(.pointer (some ⟨bp1c0, 0, none⟩))]))] rfl (argsIn_mem ⟨rfl, rfl, trivial⟩) fun a hE => ?_
  unfold m_slices_ContainsFunc_cnf_Propagate_1 at hm
  refine k_seq ?_
  refine k_region ?_
  refine s_val (wk0 rfl) rfl rfl hE hp (v := (.bool false)) (ex_asn rfl hE rfl) ?_
  intro a hE
  refine s_nil ?_
  refine k_seq ?_
  refine k_region ?_
  refine s_val (wk0 rfl) rfl rfl hE hp (v := vp0) (ex_move rfl hE rfl) ?_
  intro a hE
  refine s_val (wk0 rfl) rfl rfl hE hp (v := (.func (.func 55) #[] #[(.pointer (some ⟨bp1c0, 0, none⟩))])) (ex_move rfl hE rfl) ?_
  intro a hE
  obtain ⟨x1, ex1, hm⟩ := bnd hm
  refine s_call (wk0 rfl) rfl rfl hE rfl [vp0, (.func (.func 55) #[] #[(.pointer (some ⟨bp1c0, 0, none⟩))])] ⟨rfl, rfl, trivial⟩ ent71 (c_slices_IndexFunc_cnf_Propagate_1 hT p0 vp0 hp0 bp1c0 p1c0 vp1c0_clauses hp1c0_clauses hp x1 ex1) Ret.ret ?_
  intro v a w hR hE
  obtain ⟨rfl, hp⟩ := Ret.of hR
  have hp : Hp Z ρ (Pt bp1c0 (.cells #[(.int .i64 p1c0.vars), vp1c0_clauses] 24 (0, 0)) :: L) w := hp
  refine s_val (wk0 rfl) rfl rfl hE hp (v := (.bool (decide (0 ≤ x1)))) (ex_geq rfl hE rfl rfl) ?_
  intro a hE
  refine s_val (wk0 rfl) rfl rfl hE hp (v := (.bool (decide (0 ≤ x1)))) (ex_asn rfl hE rfl) ?_
  intro a hE
  refine s_nil ?_
  refine k_ret ?_
  obtain rfl := Option.some.inj hm
  exact ret1 hE rfl rfl ⟨_, rfl, rfl, hp⟩
set_option maxRecDepth 100000 in
set_option maxHeartbeats 4000000 in
theorem c_cnf_Propagate {Z : World} {ρ : PH} {L : List Atom} {w : World} (hT : Tabs ρ) (p0 : Formula) (vp0_clauses : Value) (hp0_clauses : RoSl ρ vp0_clauses p0.clauses) (p1 : (List Int)) (vp1 : Value) (hp1 : RoSl ρ vp1 p1) (hp : Hp Z ρ (L) w) (r : ((List Int) × Bool × Int)) (hm : m_cnf_Propagate p0 p1 = some r) :
    Calls Tryz.prog 24 #[(.agg #[(.int .i64 p0.vars), vp0_clauses]), vp1] w (Ret fun v w' => ∃ (vr1 : Value), v = .tuple #[vr1, (.bool r.2.1), (.int .i64 r.2.2)] ∧ Hp Z ρ (OwnSl 3 vr1 r.1 :: L) w') := by
  refine enter (N := 181) Tryz.func24 rfl rfl [(0, (.agg #[(.int .i64 p0.vars), vp0_clauses])), (1, vp1)] rfl (argsIn_mem ⟨rfl, rfl, trivial⟩) fun a hE => ?_
  unfold m_cnf_Propagate at hm
  refine k_seq ?_
  refine k_region ?_
  refine s_box (wk0 rfl) rfl rfl hE hp rfl (v := (.agg #[(.int .i64 p0.vars), vp0_clauses])) rfl ?_
  intro a w b1 hE hp
  have hp : Hp Z ρ (Pt b1 (.cells #[(.int .i64 p0.vars), vp0_clauses] 24 (0, 0)) :: L) w := hp
  refine s_val (wk0 rfl) rfl rfl hE hp (v := (.slice none 0 0)) (ex_asn rfl hE rfl) ?_
  intro a hE
  refine s_val (wk0 rfl) rfl rfl hE hp (v := (.bool false)) (ex_asn rfl hE rfl) ?_
  intro a hE
  refine s_val (wk0 rfl) rfl rfl hE hp (v := (.int .i64 0)) (ex_asn rfl hE rfl) ?_
  intro a hE
  refine s_nil ?_
  refine k_seq ?_
  refine k_seq ?_
  refine k_region ?_
  refine s_val (wk0 rfl) rfl rfl hE hp (v := (.agg #[(.int .i64 p0.vars), vp0_clauses])) (ex_load rfl hE rfl (fun w hw => run_ldN (cs := [(.int .i64 p0.vars), vp0_clauses]) varty24 (Hp.cN 0 rfl 0 _ (sub_all rfl) w hw))) ?_
  intro a hE
  obtain ⟨x1, ex1, hm⟩ := bnd hm
  refine s_call (wk0 rfl) rfl rfl hE rfl [(.agg #[(.int .i64 p0.vars), vp0_clauses])] ⟨rfl, trivial⟩ ent15 (c_cnf_Valid hT p0 vp0_clauses hp0_clauses hp x1 ex1) Ret.ret ?_
  intro v a w hR hE
  obtain ⟨rfl, hp⟩ := Ret.of hR
  have hp : Hp Z ρ (_ :: L) w := hp
  refine s_val (wk0 rfl) rfl rfl hE hp (v := (.bool (!x1))) (ex_not rfl hE rfl) ?_
  intro a hE
  refine s_val (wk0 rfl) rfl rfl hE hp (v := (.bool (!x1))) (ex_move rfl hE rfl) ?_
  intro a hE
  obtain ⟨m1, hg1, hm⟩ := bnd hm
  refine s_cut [_, _, _, _] (fun a w => Env 181 [(25, (.bool m1)), (1, vp1), (2, (.pointer (some ⟨b1, 0, none⟩)))] a ∧ Hp Z ρ (Pt b1 (.cells #[(.int .i64 p0.vars), vp0_clauses] 24 (0, 0)) :: L) w) ?_ ?_
  · rcases Bool.eq_false_or_eq_true (!x1) with hc1 | hc1
    ·
      replace hg1 := (it hc1).symm.trans hg1
      refine s_skip (wk2 hE rfl rfl rfl hc1) rfl rfl hE ?_
      intro a hE
      refine s_skip (wk2 hE rfl rfl rfl hc1) rfl rfl hE ?_
      intro a hE
      refine s_skip (wk2 hE rfl rfl rfl hc1) rfl rfl hE ?_
      intro a hE
      refine s_val (wk0 rfl) rfl rfl hE hp (v := (.bool true)) (ex_pick1 rfl hE rfl hc1 rfl) ?_
      intro a hE
      obtain rfl := Option.some.inj hg1
      exact s_nil ⟨hE.cut ⟨rfl, rfl, rfl, trivial⟩, hp⟩
    ·
      replace hg1 := (ie hc1).symm.trans hg1
      refine s_val (wk1 hE rfl rfl rfl hc1) rfl rfl hE hp (v := vp1) (ex_move rfl hE rfl) ?_
      intro a hE
      refine s_val (wk1 hE rfl rfl rfl hc1) rfl rfl hE hp (v := (.func (.func 55) #[] #[(.pointer (some ⟨b1, 0, none⟩))])) (ex_fn rfl hE [(.pointer (some ⟨b1, 0, none⟩))] (by exact ⟨rfl, trivial⟩)) ?_
      intro a hE
      obtain ⟨x2, ex2, hg1⟩ := bnd hg1
      refine s_call (wk1 hE rfl rfl rfl hc1) rfl rfl hE rfl [vp1, (.func (.func 55) #[] #[(.pointer (some ⟨b1, 0, none⟩))])] ⟨rfl, rfl, trivial⟩ ent32 (c_slices_ContainsFunc_cnf_Propagate_1 hT p1 vp1 hp1 b1 p0 vp0_clauses hp0_clauses hp x2 ex2) Ret.ret ?_
      intro v a w hR hE
      obtain ⟨rfl, hp⟩ := Ret.of hR
      have hp : Hp Z ρ (_ :: L) w := hp
      refine s_val (wk0 rfl) rfl rfl hE hp (v := (.bool x2)) (ex_pick0 rfl hE rfl hc1 rfl) ?_
      intro a hE
      obtain rfl := Option.some.inj hg1
      exact s_nil ⟨hE.cut ⟨rfl, rfl, rfl, trivial⟩, hp⟩
  · rintro a w ⟨hE, hp⟩
    refine s_nil ?_
    refine k_if hE rfl (fun hc2 => ?_) (fun hc2 => ?_)
    · replace hm := (it hc2).symm.trans hm
      refine k_seq ?_
      refine k_region ?_
      refine s_val (wk0 rfl) rfl rfl hE hp (v := (.slice none 0 0)) (ex_asn rfl hE rfl) ?_
      intro a hE
      refine s_val (wk0 rfl) rfl rfl hE hp (v := (.bool false)) (ex_asn rfl hE rfl) ?_
      intro a hE
      refine s_val (wk0 rfl) rfl rfl hE hp (v := (.int .i64 1)) (ex_asn rfl hE rfl) ?_
      intro a hE
      refine s_nil ?_
      refine k_ret ?_
      have hp := hp.emp (OwnSl.nil (α := Int) 3)
      have hp : Hp Z ρ (OwnSl 3 (.slice none 0 0) ([] : List Int) :: _ :: L) w := hp
      obtain rfl := Option.some.inj hm
      exact ret3 hE rfl rfl rfl rfl ⟨_, rfl, _, rfl, ((hp.get 1 rfl).drop)⟩
    · replace hm := (ie hc2).symm.trans hm
      refine k_skip ?_
      refine k_seq ?_
      obtain ⟨x3, ex3, hm⟩ := bnd hm
      obtain ⟨x4, ex4, hm⟩ := bnd hm
      obtain ⟨x5, ex5, hm⟩ := bnd hm
      obtain ⟨x6, ex6, hm⟩ := bnd hm
      obtain ⟨x7, ex7, hm⟩ := bnd hm
      have hp := hp.drew
      refine k_heldV ([([], At0 Z ρ), ([], At1 Z ρ (Pt b1 (.cells #[(.int .i64 p0.vars), vp0_clauses] 24 (0, 0))))] : Facts) (fun a w => ∃ y6 : Nat, ∃ y5 : Value, ∃ yus5 : List Sl, ∃ y4 : Value, Env 181 [(1, vp1), (2, (.pointer (some ⟨b1, 0, none⟩))), (7, (.pointer (some ⟨y6, 0, none⟩)))] a ∧ Hp Z ρ (Pt y6 (.cells #[(.int .i64 p0.vars), vp0_clauses, y4, y5, (.slice none 0 0), (.slice none 0 0), (.bool false)] 74 (0, 0)) :: TblA 25 3 y5 yus5 (x7 : (List (List Int))) :: OwnSl 3 y4 x4 :: Pt b1 (.cells #[(.int .i64 p0.vars), vp0_clauses] 24 (0, 0)) :: L) w) (by kernel_rfl) ⟨fun _ => ⟨_, hp⟩, fun _ => ⟨_, (hp.get 0 rfl)⟩, trivial⟩ (fun hS => ?_) ?_
      ·
        generalize w.drew = w at hS hp ⊢
        refine v_take1 0 1 (wk0 rfl) rfl rfl rfl hE (by kernel_rfl) (by kernel_rfl) (by kernel_rfl) rfl (by kernel_rfl) hS (v := (.agg #[(.int .i64 p0.vars), vp0_clauses])) (fun _ => ex_load rfl hE rfl (fun w hw => run_ldN (cs := [(.int .i64 p0.vars), vp0_clauses]) varty24 (Hp.cN 0 rfl 0 _ (sub_all rfl) w hw))) ?_
        intro a hE hS
        refine v_take0 1 (wk0 rfl) rfl rfl rfl hE (by kernel_rfl) (by kernel_rfl) (by kernel_rfl) rfl (by kernel_rfl) hS (v := (.pointer (some ⟨b1, 0, none⟩))) (fun _ => ex_field rfl hE rfl (fldty24_0 _ _)) ?_
        intro a hE hS
        refine v_take1 2 1 (wk0 rfl) rfl rfl rfl hE (by kernel_rfl) (by kernel_rfl) (by kernel_rfl) rfl (by kernel_rfl) hS (v := (.int .i64 p0.vars)) (fun _ => ex_load rfl hE rfl (fun w hw => run_ld1 varty3 (Hp.c 0 rfl 0 rfl w hw))) ?_
        intro a hE hS
        refine v_take0 3 (wk0 rfl) rfl rfl rfl hE (by kernel_rfl) (by kernel_rfl) (by kernel_rfl) rfl (by kernel_rfl) hS (v := (.int .i64 x3)) (fun _ => ex_add rfl hE rfl rfl (inK_some ex3)) ?_
        intro a hE hS
        refine v_take0 5 (wk0 rfl) rfl rfl rfl hE (by kernel_rfl) (by kernel_rfl) (by kernel_rfl) rfl (by kernel_rfl) hS (v := (.pointer (some ⟨b1, 0, none⟩))) (fun _ => ex_field rfl hE rfl (fldty24_0 _ _)) ?_
        intro a hE hS
        refine v_take1 6 1 (wk0 rfl) rfl rfl rfl hE (by kernel_rfl) (by kernel_rfl) (by kernel_rfl) rfl (by kernel_rfl) hS (v := (.int .i64 p0.vars)) (fun _ => ex_load rfl hE rfl (fun w hw => run_ld1 varty3 (Hp.c 0 rfl 0 rfl w hw))) ?_
        intro a hE hS
        refine v_take0 7 (wk0 rfl) rfl rfl rfl hE (by kernel_rfl) (by kernel_rfl) (by kernel_rfl) rfl (by kernel_rfl) hS (v := (.int .i64 x5)) (fun _ => ex_mul rfl hE rfl rfl (inK_some ex5)) ?_
        intro a hE hS
        refine v_take0 8 (wk0 rfl) rfl rfl rfl hE (by kernel_rfl) (by kernel_rfl) (by kernel_rfl) rfl (by kernel_rfl) hS (v := (.int .i64 x6)) (fun _ => ex_add rfl hE rfl rfl (inK_some ex6)) ?_
        intro a hE hS
        refine v_all [4, 9] (by kernel_rfl) rfl ?_
        refine List.forall_mem_cons.2 ⟨?_, List.forall_mem_cons.2 ⟨?_, fun _ h => absurd h (by simp)⟩⟩
        ·
          refine h_op rfl ?_
          refine s_make (wk0 rfl) rfl rfl hE hp rfl (El := 3) (bytes := 8) (by kernel_rfl) (0 : Int) (by kernel_rfl) (by kernel_rfl) rfl rfl ex4 ?_
          intro v3 a w hE hp
          have hp : Hp Z ρ (OwnSl 3 v3 x4 :: _ :: L) w := hp
          refine s_nil (and_with ⟨fun _ => ⟨_, hp⟩, fun _ => ⟨_, (hp.get 1 rfl)⟩, trivial⟩ fun hS => ?_)
          refine v_all [9] (by kernel_rfl) rfl ?_
          refine List.forall_mem_cons.2 ⟨?_, fun _ h => absurd h (by simp)⟩
          ·
            refine h_op rfl ?_
            refine s_tmake (wk0 rfl) rfl rfl hE hp rfl (T := 25) (bytes := 24) (by kernel_rfl) (by kernel_rfl) rfl rfl rfl ex7 3 ?_
            intro v4 us2 a w hE hp
            have hp : Hp Z ρ (TblA 25 3 v4 us2 (x7 : (List (List Int))) :: _ :: _ :: L) w := hp
            refine s_nil (and_with ⟨fun _ => ⟨_, hp⟩, fun _ => ⟨_, (hp.get 2 rfl)⟩, trivial⟩ fun hS => ?_)
            refine v_take0 10 (wk0 rfl) rfl rfl rfl hE (by kernel_rfl) (by kernel_rfl) (by kernel_rfl) rfl (by kernel_rfl) hS (v := (.agg #[(.int .i64 p0.vars), vp0_clauses, v3, v4, (.slice none 0 0), (.slice none 0 0), (.bool false)])) (fun _ => ex_bld rfl hE [(0, (.agg #[(.int .i64 p0.vars), vp0_clauses])), (1, v3), (2, v4)] (by exact ⟨⟨rfl, rfl⟩, ⟨rfl, rfl⟩, ⟨rfl, rfl⟩, trivial⟩) (fun w => by have hc0 := RoSl.cells hp0_clauses; simp only [Value.cells] at hc0; have hc1 := OwnSl.cells hp 1 rfl; simp only [Value.cells] at hc1; have hc2 := TblA.cells hp 0 rfl; simp only [Value.cells] at hc2; simp [Instr.build, Instr.fill, Value.cells, hc0, hc1, hc2, go_sem])) ?_
            intro a hE hS
            refine v_all [11] (by kernel_rfl) rfl ?_
            refine List.forall_mem_cons.2 ⟨?_, fun _ h => absurd h (by simp)⟩
            ·
              refine h_op rfl ?_
              refine s_box (wk0 rfl) rfl rfl hE hp rfl (v := (.agg #[(.int .i64 p0.vars), vp0_clauses, v3, v4, (.slice none 0 0), (.slice none 0 0), (.bool false)])) rfl ?_
              intro a w b3 hE hp
              have hp : Hp Z ρ (Pt b3 (.cells #[(.int .i64 p0.vars), vp0_clauses, v3, v4, (.slice none 0 0), (.slice none 0 0), (.bool false)] 74 (0, 0)) :: _ :: _ :: _ :: L) w := hp
              refine s_nil (and_with ⟨fun _ => ⟨_, hp⟩, fun _ => ⟨_, (hp.get 3 rfl)⟩, trivial⟩ fun hS => ?_)
              refine v_take0 12 (wk0 rfl) rfl rfl rfl hE (by kernel_rfl) (by kernel_rfl) (by kernel_rfl) rfl (by kernel_rfl) hS (v := (.pointer (some ⟨b3, 0, none⟩))) (fun _ => ex_asn rfl hE rfl) ?_
              intro a hE hS
              exact v_done (by kernel_rfl) ⟨_, _, _, _, hE.cut ⟨rfl, rfl, rfl, trivial⟩, hp⟩
        ·
          refine h_op rfl ?_
          refine s_tmake (wk0 rfl) rfl rfl hE hp rfl (T := 25) (bytes := 24) (by kernel_rfl) (by kernel_rfl) rfl rfl rfl ex7 3 ?_
          intro v5 us3 a w hE hp
          have hp : Hp Z ρ (TblA 25 3 v5 us3 (x7 : (List (List Int))) :: _ :: L) w := hp
          refine s_nil (and_with ⟨fun _ => ⟨_, hp⟩, fun _ => ⟨_, (hp.get 1 rfl)⟩, trivial⟩ fun hS => ?_)
          refine v_all [4] (by kernel_rfl) rfl ?_
          refine List.forall_mem_cons.2 ⟨?_, fun _ h => absurd h (by simp)⟩
          ·
            refine h_op rfl ?_
            refine s_make (wk0 rfl) rfl rfl hE hp rfl (El := 3) (bytes := 8) (by kernel_rfl) (0 : Int) (by kernel_rfl) (by kernel_rfl) rfl rfl ex4 ?_
            intro v6 a w hE hp
            have hp : Hp Z ρ (OwnSl 3 v6 x4 :: _ :: _ :: L) w := hp
            refine s_nil (and_with ⟨fun _ => ⟨_, hp⟩, fun _ => ⟨_, (hp.get 2 rfl)⟩, trivial⟩ fun hS => ?_)
            refine v_take0 10 (wk0 rfl) rfl rfl rfl hE (by kernel_rfl) (by kernel_rfl) (by kernel_rfl) rfl (by kernel_rfl) hS (v := (.agg #[(.int .i64 p0.vars), vp0_clauses, v6, v5, (.slice none 0 0), (.slice none 0 0), (.bool false)])) (fun _ => ex_bld rfl hE [(0, (.agg #[(.int .i64 p0.vars), vp0_clauses])), (1, v6), (2, v5)] (by exact ⟨⟨rfl, rfl⟩, ⟨rfl, rfl⟩, ⟨rfl, rfl⟩, trivial⟩) (fun w => by have hc0 := RoSl.cells hp0_clauses; simp only [Value.cells] at hc0; have hc1 := OwnSl.cells hp 0 rfl; simp only [Value.cells] at hc1; have hc2 := TblA.cells hp 1 rfl; simp only [Value.cells] at hc2; simp [Instr.build, Instr.fill, Value.cells, hc0, hc1, hc2, go_sem])) ?_
            intro a hE hS
            refine v_all [11] (by kernel_rfl) rfl ?_
            refine List.forall_mem_cons.2 ⟨?_, fun _ h => absurd h (by simp)⟩
            ·
              refine h_op rfl ?_
              refine s_box (wk0 rfl) rfl rfl hE hp rfl (v := (.agg #[(.int .i64 p0.vars), vp0_clauses, v6, v5, (.slice none 0 0), (.slice none 0 0), (.bool false)])) rfl ?_
              intro a w b4 hE hp
              have hp : Hp Z ρ (Pt b4 (.cells #[(.int .i64 p0.vars), vp0_clauses, v6, v5, (.slice none 0 0), (.slice none 0 0), (.bool false)] 74 (0, 0)) :: _ :: _ :: _ :: L) w := hp
              refine s_nil (and_with ⟨fun _ => ⟨_, hp⟩, fun _ => ⟨_, (hp.get 3 rfl)⟩, trivial⟩ fun hS => ?_)
              refine v_take0 12 (wk0 rfl) rfl rfl rfl hE (by kernel_rfl) (by kernel_rfl) (by kernel_rfl) rfl (by kernel_rfl) hS (v := (.pointer (some ⟨b4, 0, none⟩))) (fun _ => ex_asn rfl hE rfl) ?_
              intro a hE hS
              exact v_done (by kernel_rfl) ⟨_, _, _, _, hE.cut ⟨rfl, rfl, rfl, trivial⟩, ((((hp.get 3 rfl).get 2 rfl).get 3 rfl).get 3 rfl)⟩
      · rintro a w ⟨y6, y5, yus5, y4, hE, hp⟩
        refine k_seq ?_
        refine k_seq ?_
        refine k_region ?_
        refine s_val (wk0 rfl) rfl rfl hE hp (v := (.pointer (some ⟨b1, 1, none⟩))) (ex_field rfl hE rfl (fldty24_1 _ _)) ?_
        intro a hE
        refine s_val (wk0 rfl) rfl rfl hE hp (v := vp0_clauses) (ex_load rfl hE rfl (fun w hw => run_ld1 varty22 (Hp.c 3 rfl 1 rfl w hw))) ?_
        intro a hE
        refine s_val (wk0 rfl) rfl rfl hE hp (v := (.int .i64 (p0.clauses.length : Int))) (ex_len rfl hE rfl (RoSl.len hp0_clauses slty22)) ?_
        intro a hE
        refine s_val (wk0 rfl) rfl rfl hE hp (v := (.int .i64 0)) (ex_move rfl hE rfl) ?_
        intro a hE
        refine s_nil ?_
        have hp := hp.emp (OwnSl.nil (α := Int) 3)
        have hp : Hp Z ρ (OwnSl 3 (.slice none 0 0) ([] : List Int) :: Pt y6 (.cells #[(.int .i64 p0.vars), vp0_clauses, y4, y5, (.slice none 0 0), (.slice none 0 0), (.bool false)] 74 (0, 0)) :: TblA 25 3 y5 yus5 (x7 : (List (List Int))) :: OwnSl 3 y4 x4 :: _ :: L) w := hp
        have hp : Hp Z ρ (_ :: _ :: _ :: _ :: _ :: L) w := hp
        obtain ⟨b5, hc3, hm⟩ := bnd hm
        refine k_block (fun a w => ∃ (w13 : Value) (w5 : Value) (us5 : List Sl), Env 181 [(1, vp1), (2, (.pointer (some ⟨b1, 0, none⟩))), (7, (.pointer (some ⟨y6, 0, none⟩)))] a ∧ Hp Z ρ (OwnSl 3 w13 b5.1 :: Pt y6 (.cells #[(.int .i64 p0.vars), vp0_clauses, y4, w5, w13, (.slice none 0 0), (.bool false)] 74 (0, 0)) :: TblA 25 3 w5 us5 (b5.2 : (List (List Int))) :: OwnSl 3 y4 x4 :: Pt b1 (.cells #[(.int .i64 p0.vars), vp0_clauses] 24 (0, 0)) :: L) w) ?_ ?_
        · refine k_loop hc3 (fun s a w => ∃ (w13 : Value) (w5 : Value) (us5 : List Sl), Env 181 [(1, vp1), (2, (.pointer (some ⟨b1, 0, none⟩))), (7, (.pointer (some ⟨y6, 0, none⟩))), (39, vp0_clauses), (40, (.int .i64 (p0.clauses.length : Int))), (41, (.int .i64 s.1))] a ∧ Hp Z ρ (OwnSl 3 w13 s.2.1 :: Pt y6 (.cells #[(.int .i64 p0.vars), vp0_clauses, y4, w5, w13, (.slice none 0 0), (.bool false)] 74 (0, 0)) :: TblA 25 3 w5 us5 (s.2.2 : (List (List Int))) :: OwnSl 3 y4 x4 :: Pt b1 (.cells #[(.int .i64 p0.vars), vp0_clauses] 24 (0, 0)) :: L) w) ?_ ?_
          · exact ⟨_, _, _, hE.cut ⟨rfl, rfl, rfl, rfl, rfl, rfl, trivial⟩, hp⟩
          · rintro ⟨lp1_0, lp1_1, lp1_2⟩ st a w ⟨w13, w5, us5, hE, hp⟩ hl1
            have hE : Env 181 [(1, vp1), (2, (.pointer (some ⟨b1, 0, none⟩))), (7, (.pointer (some ⟨y6, 0, none⟩))), (39, vp0_clauses), (40, (.int .i64 (p0.clauses.length : Int))), (41, (.int .i64 lp1_0))] a := hE
            have hp : Hp Z ρ (OwnSl 3 w13 lp1_1 :: Pt y6 (.cells #[(.int .i64 p0.vars), vp0_clauses, y4, w5, w13, (.slice none 0 0), (.bool false)] 74 (0, 0)) :: TblA 25 3 w5 us5 (lp1_2 : (List (List Int))) :: _ :: _ :: L) w := hp
            replace hl1 : m_cnf_Propagate_lp1 p0 lp1_0 lp1_1 lp1_2 = some st := hl1
            unfold m_cnf_Propagate_lp1 at hl1
            refine k_seq ?_
            refine k_region ?_
            refine s_val (wk0 rfl) rfl rfl hE hp (v := (.bool (decide (lp1_0 < (p0.clauses.length : Int))))) (ex_lss rfl hE rfl rfl) ?_
            intro a hE
            refine s_nil ?_
            refine k_seq ?_
            refine k_if hE rfl (fun hc4 => ?_) (fun hc4 => ?_)
            · replace hl1 := (it hc4).symm.trans hl1
              refine k_skip ?_
              refine k_seq ?_
              refine k_plain ?_
              refine k_seq ?_
              refine k_region ?_
              refine s_val (wk0 rfl) rfl rfl hE hp (v := (.int .i64 lp1_0)) (ex_move rfl hE rfl) ?_
              intro a hE
              obtain ⟨x8, ex8, hl1⟩ := bnd hl1
              obtain ⟨b6, b6o, b6c, b6r, b6k, b6f⟩ := RoSl.at hp0_clauses slty22 ex8
              obtain ⟨vb6, rfl, hb6⟩ := b6k
              have b6f : AtP ρ b6 b6o [vb6] := b6f
              refine s_val (wk0 rfl) rfl rfl hE hp (v := (.pointer (some ⟨b6, b6o, none⟩))) (ex_index rfl hE rfl rfl b6r) ?_
              intro a hE
              refine s_val (wk0 rfl) rfl rfl hE hp (v := vb6) (ex_load rfl hE rfl (fun w hw => run_ld1 varty25 (b6f.c 0 rfl w hw))) ?_
              intro a hE
              refine s_val (wk0 rfl) rfl rfl hE hp (v := (.int .i64 lp1_0)) (ex_asn rfl hE rfl) ?_
              intro a hE
              refine s_val (wk0 rfl) rfl rfl hE hp (v := vb6) (ex_asn rfl hE rfl) ?_
              intro a hE
              refine s_nil ?_
              refine k_seq ?_
              refine k_region ?_
              refine s_val (wk0 rfl) rfl rfl hE hp (v := (.pointer (some ⟨y6, 0, none⟩))) (ex_move rfl hE rfl) ?_
              intro a hE
              refine s_val (wk0 rfl) rfl rfl hE hp (v := (.pointer (some ⟨y6, 0, none⟩))) (ex_move rfl hE rfl) ?_
              intro a hE
              refine s_val (wk0 rfl) rfl rfl hE hp (v := (.pointer (some ⟨y6, 0, none⟩))) (ex_nil rfl hE rfl) ?_
              intro a hE
              refine s_val (wk0 rfl) rfl rfl hE hp (v := (.pointer (some ⟨y6, 4, none⟩))) (ex_field rfl hE rfl (fldty74_3 _ _)) ?_
              intro a hE
              refine s_val (wk0 rfl) rfl rfl hE hp (v := w13) (ex_load rfl hE rfl (fun w hw => run_ld1 varty25 (Hp.c 1 rfl 4 rfl w hw))) ?_
              intro a hE
              refine s_val (wk0 rfl) rfl rfl hE hp (v := vb6) (ex_move rfl hE rfl) ?_
              intro a hE
              refine s_val (wk0 rfl) rfl rfl hE hp (v := (.int .i64 (x8.length : Int))) (ex_len rfl hE rfl (RoSl.len hb6 slty25)) ?_
              intro a hE
              refine s_lit (wk0 rfl) rfl rfl hE hp rfl [(0, (.int .i64 (x8.length : Int)))] ⟨⟨rfl, rfl⟩, trivial⟩ [(.int .i64 (x8.length : Int))] 3 (fun w => by simp [Instr.buildSlice, Instr.fill, Value.cells, go_sem]) ?_
              intro a w b7 hE hp
              have hp : Hp Z ρ (Pt b7 (.cells #[(.int .i64 (x8.length : Int))] 3 (0, 0)) :: _ :: _ :: _ :: _ :: _ :: L) w := hp
              obtain ⟨x9, ex9, hl1⟩ := bnd hl1
              refine s_app (wk0 rfl) rfl rfl hE hp rfl slty25 rfl rfl 1 rfl rfl (l2 := [(x8.length : Int)]) rfl (fun j u hj => by have := Hp.cN 0 rfl 0 _ (sub_all rfl) w hp j u hj; simpa using this) ex9 ?_
              intro v7 a w hE hp
              have hp : Hp Z ρ (_ :: OwnSl 3 v7 x9 :: _ :: _ :: _ :: _ :: L) w := hp
              refine s_val (wk0 rfl) rfl rfl hE hp (v := (.pointer (some ⟨y6, 0, none⟩))) (ex_nil rfl hE rfl) ?_
              intro a hE
              refine s_val (wk0 rfl) rfl rfl hE hp (v := (.pointer (some ⟨y6, 4, none⟩))) (ex_field rfl hE rfl (fldty74_3 _ _)) ?_
              intro a hE
              refine s_store1 (wk0 rfl) rfl hE hp rfl rfl rfl 2 rfl varty25.size_ (OwnSl.cells hp 1 rfl) (OwnSl.one hp 1 rfl) rfl [(.int .i64 p0.vars), vp0_clauses, y4, w5, v7, (.slice none 0 0), (.bool false)] rfl ?_
              intro w hp
              have hp : Hp Z ρ (_ :: _ :: Pt y6 (.cells #[(.int .i64 p0.vars), vp0_clauses, y4, w5, v7, (.slice none 0 0), (.bool false)] 74 (0, 0)) :: _ :: _ :: _ :: L) w := hp
              refine s_nil ?_
              have hE := hE.cut (E' := [(1, vp1), (2, (.pointer (some ⟨b1, 0, none⟩))), (7, (.pointer (some ⟨y6, 0, none⟩))), (8, (.int .i64 lp1_0)), (9, vb6), (39, vp0_clauses), (40, (.int .i64 (p0.clauses.length : Int))), (41, (.int .i64 lp1_0))]) ⟨rfl, rfl, rfl, rfl, rfl, rfl, rfl, rfl, trivial⟩
              refine k_seq ?_
              refine k_region ?_
              refine s_val (wk0 rfl) rfl rfl hE hp (v := vb6) (ex_move rfl hE rfl) ?_
              intro a hE
              refine s_val (wk0 rfl) rfl rfl hE hp (v := (.int .i64 (x8.length : Int))) (ex_len rfl hE rfl (RoSl.len hb6 slty25)) ?_
              intro a hE
              refine s_val (wk0 rfl) rfl rfl hE hp (v := (.int .i64 0)) (ex_move rfl hE rfl) ?_
              intro a hE
              refine s_nil ?_
              obtain ⟨b8, hc5, hl1⟩ := bnd hl1
              refine k_block (fun a w => ∃ (w5q : Value) (us5q : List Sl), Env 181 [(1, vp1), (2, (.pointer (some ⟨b1, 0, none⟩))), (7, (.pointer (some ⟨y6, 0, none⟩))), (39, vp0_clauses), (40, (.int .i64 (p0.clauses.length : Int))), (41, (.int .i64 lp1_0))] a ∧ Hp Z ρ (Pt b7 (.cells #[(.int .i64 (x8.length : Int))] 3 (0, 0)) :: OwnSl 3 v7 x9 :: Pt y6 (.cells #[(.int .i64 p0.vars), vp0_clauses, y4, w5q, v7, (.slice none 0 0), (.bool false)] 74 (0, 0)) :: TblA 25 3 w5q us5q (b8 : (List (List Int))) :: OwnSl 3 y4 x4 :: Pt b1 (.cells #[(.int .i64 p0.vars), vp0_clauses] 24 (0, 0)) :: L) w) ?_ ?_
              · refine k_loop hc5 (fun s a w => ∃ (w5q : Value) (us5q : List Sl), Env 181 [(1, vp1), (2, (.pointer (some ⟨b1, 0, none⟩))), (7, (.pointer (some ⟨y6, 0, none⟩))), (8, (.int .i64 lp1_0)), (39, vp0_clauses), (40, (.int .i64 (p0.clauses.length : Int))), (41, (.int .i64 lp1_0)), (57, vb6), (58, (.int .i64 (x8.length : Int))), (59, (.int .i64 s.1))] a ∧ Hp Z ρ (Pt b7 (.cells #[(.int .i64 (x8.length : Int))] 3 (0, 0)) :: OwnSl 3 v7 x9 :: Pt y6 (.cells #[(.int .i64 p0.vars), vp0_clauses, y4, w5q, v7, (.slice none 0 0), (.bool false)] 74 (0, 0)) :: TblA 25 3 w5q us5q (s.2 : (List (List Int))) :: OwnSl 3 y4 x4 :: Pt b1 (.cells #[(.int .i64 p0.vars), vp0_clauses] 24 (0, 0)) :: L) w) ?_ ?_
                · exact ⟨_, _, hE.cut ⟨rfl, rfl, rfl, rfl, rfl, rfl, rfl, rfl, rfl, rfl, trivial⟩, hp⟩
                · rintro ⟨lp2_0, lp2_1⟩ st a w ⟨w5q, us5q, hE, hp⟩ hl2
                  have hE : Env 181 [(1, vp1), (2, (.pointer (some ⟨b1, 0, none⟩))), (7, (.pointer (some ⟨y6, 0, none⟩))), (8, (.int .i64 lp1_0)), (39, vp0_clauses), (40, (.int .i64 (p0.clauses.length : Int))), (41, (.int .i64 lp1_0)), (57, vb6), (58, (.int .i64 (x8.length : Int))), (59, (.int .i64 lp2_0))] a := hE
                  have hp : Hp Z ρ (_ :: _ :: Pt y6 (.cells #[(.int .i64 p0.vars), vp0_clauses, y4, w5q, v7, (.slice none 0 0), (.bool false)] 74 (0, 0)) :: TblA 25 3 w5q us5q (lp2_1 : (List (List Int))) :: _ :: _ :: L) w := hp
                  replace hl2 : m_cnf_Propagate_lp2 lp1_0 x8 lp2_0 lp2_1 = some st := hl2
                  unfold m_cnf_Propagate_lp2 at hl2
                  refine k_seq ?_
                  refine k_region ?_
                  refine s_val (wk0 rfl) rfl rfl hE hp (v := (.bool (decide (lp2_0 < (x8.length : Int))))) (ex_lss rfl hE rfl rfl) ?_
                  intro a hE
                  refine s_nil ?_
                  refine k_seq ?_
                  refine k_if hE rfl (fun hc6 => ?_) (fun hc6 => ?_)
                  · replace hl2 := (it hc6).symm.trans hl2
                    refine k_skip ?_
                    refine k_seq ?_
                    refine k_plain ?_
                    refine k_seq ?_
                    refine k_region ?_
                    obtain ⟨x10, ex10, hl2⟩ := bnd hl2
                    obtain ⟨b9, b9o, b9c, b9r, b9k, b9f⟩ := RoSl.at hb6 slty25 ex10
                    obtain rfl : b9c = Enc.enc x10 := b9k
                    have b9f : AtP ρ b9 b9o [(.int .i64 x10)] := b9f
                    refine s_val (wk0 rfl) rfl rfl hE hp (v := (.pointer (some ⟨b9, b9o, none⟩))) (ex_index rfl hE rfl rfl b9r) ?_
                    intro a hE
                    refine s_val (wk0 rfl) rfl rfl hE hp (v := (.int .i64 x10)) (ex_load rfl hE rfl (fun w hw => run_ld1 varty3 (b9f.c 0 rfl w hw))) ?_
                    intro a hE
                    refine s_val (wk0 rfl) rfl rfl hE hp (v := (.int .i64 x10)) (ex_asn rfl hE rfl) ?_
                    intro a hE
                    refine s_nil ?_
                    obtain ⟨x11, ex11, hl2⟩ := bnd hl2
                    obtain ⟨x12, ex12, hl2⟩ := bnd hl2
                    obtain ⟨x13, ex13, hl2⟩ := bnd hl2
                    obtain ⟨x14, ex14, hl2⟩ := bnd hl2
                    obtain ⟨x15, ex15, hl2⟩ := bnd hl2
                    have hp := hp.drew
                    refine k_heldV ([([], At0 Z ρ), ([], At1 Z ρ (Pt y6 (.cells #[(.int .i64 p0.vars), vp0_clauses, y4, w5q, v7, (.slice none 0 0), (.bool false)] 74 (0, 0)))), ([16, 18], At1 Z ρ (TblA 25 3 w5q us5q (lp2_1 : (List (List Int)))))] : Facts) (fun a w => ∃ yus5 : List Sl, ∃ y22 : Nat, Env 181 [(1, vp1), (2, (.pointer (some ⟨b1, 0, none⟩))), (7, (.pointer (some ⟨y6, 0, none⟩))), (8, (.int .i64 lp1_0)), (39, vp0_clauses), (40, (.int .i64 (p0.clauses.length : Int))), (41, (.int .i64 lp1_0)), (57, vb6), (58, (.int .i64 (x8.length : Int))), (59, (.int .i64 lp2_0))] a ∧ Hp Z ρ (TblA 25 3 w5q yus5 (lp2_1.set x12.toNat x14 : (List (List Int))) :: Pt y22 (.cells #[(.int .i64 lp1_0)] 3 (0, 0)) :: Pt b7 (.cells #[(.int .i64 (x8.length : Int))] 3 (0, 0)) :: OwnSl 3 v7 x9 :: Pt y6 (.cells #[(.int .i64 p0.vars), vp0_clauses, y4, w5q, v7, (.slice none 0 0), (.bool false)] 74 (0, 0)) :: OwnSl 3 y4 x4 :: Pt b1 (.cells #[(.int .i64 p0.vars), vp0_clauses] 24 (0, 0)) :: L) w) (by kernel_rfl) ⟨fun _ => ⟨_, hp⟩, fun _ => ⟨_, (hp.get 2 rfl)⟩, fun _ => ⟨_, (hp.get 3 rfl)⟩, trivial⟩ (fun hS => ?_) ?_
                    ·
                      generalize w.drew = w at hS hp ⊢
                      refine v_take0 0 (wk0 rfl) rfl rfl rfl hE (by kernel_rfl) (by kernel_rfl) (by kernel_rfl) rfl (by kernel_rfl) hS (v := (.pointer (some ⟨y6, 0, none⟩))) (fun _ => ex_move rfl hE rfl) ?_
                      intro a hE hS
                      refine v_take0 1 (wk0 rfl) rfl rfl rfl hE (by kernel_rfl) (by kernel_rfl) (by kernel_rfl) rfl (by kernel_rfl) hS (v := (.pointer (some ⟨y6, 0, none⟩))) (fun _ => ex_nil rfl hE rfl) ?_
                      intro a hE hS
                      refine v_take0 2 (wk0 rfl) rfl rfl rfl hE (by kernel_rfl) (by kernel_rfl) (by kernel_rfl) rfl (by kernel_rfl) hS (v := (.pointer (some ⟨y6, 3, none⟩))) (fun _ => ex_field rfl hE rfl (fldty74_2 _ _)) ?_
                      intro a hE hS
                      refine v_take1 3 1 (wk0 rfl) rfl rfl rfl hE (by kernel_rfl) (by kernel_rfl) (by kernel_rfl) rfl (by kernel_rfl) hS (v := w5q) (fun _ => ex_load rfl hE rfl (fun w hw => run_ld1 varty22 (Hp.c 0 rfl 3 rfl w hw))) ?_
                      intro a hE hS
                      refine v_take0 4 (wk0 rfl) rfl rfl rfl hE (by kernel_rfl) (by kernel_rfl) (by kernel_rfl) rfl (by kernel_rfl) hS (v := (.int .i64 x10)) (fun _ => ex_move rfl hE rfl) ?_
                      intro a hE hS
                      refine v_take0 6 (wk0 rfl) rfl rfl rfl hE (by kernel_rfl) (by kernel_rfl) (by kernel_rfl) rfl (by kernel_rfl) hS (v := (.pointer (some ⟨y6, 0, none⟩))) (fun _ => ex_move rfl hE rfl) ?_
                      intro a hE hS
                      refine v_take0 7 (wk0 rfl) rfl rfl rfl hE (by kernel_rfl) (by kernel_rfl) (by kernel_rfl) rfl (by kernel_rfl) hS (v := (.pointer (some ⟨y6, 0, none⟩))) (fun _ => ex_nil rfl hE rfl) ?_
                      intro a hE hS
                      refine v_take0 8 (wk0 rfl) rfl rfl rfl hE (by kernel_rfl) (by kernel_rfl) (by kernel_rfl) rfl (by kernel_rfl) hS (v := (.pointer (some ⟨y6, 3, none⟩))) (fun _ => ex_field rfl hE rfl (fldty74_2 _ _)) ?_
                      intro a hE hS
                      refine v_take1 9 1 (wk0 rfl) rfl rfl rfl hE (by kernel_rfl) (by kernel_rfl) (by kernel_rfl) rfl (by kernel_rfl) hS (v := w5q) (fun _ => ex_load rfl hE rfl (fun w hw => run_ld1 varty22 (Hp.c 0 rfl 3 rfl w hw))) ?_
                      intro a hE hS
                      refine v_take0 10 (wk0 rfl) rfl rfl rfl hE (by kernel_rfl) (by kernel_rfl) (by kernel_rfl) rfl (by kernel_rfl) hS (v := (.int .i64 x10)) (fun _ => ex_move rfl hE rfl) ?_
                      intro a hE hS
                      refine v_take0 14 (wk0 rfl) rfl rfl rfl hE (by kernel_rfl) (by kernel_rfl) (by kernel_rfl) rfl (by kernel_rfl) hS (v := (.int .i64 lp1_0)) (fun _ => ex_move rfl hE rfl) ?_
                      intro a hE hS
                      refine v_all [5, 15] (by kernel_rfl) rfl ?_
                      refine List.forall_mem_cons.2 ⟨?_, List.forall_mem_cons.2 ⟨?_, fun _ h => absurd h (by simp)⟩⟩
                      ·
                        refine h_op rfl ?_
                        refine s_call (wk0 rfl) rfl rfl hE rfl [(.int .i64 x10)] ⟨rfl, trivial⟩ ent56 (c_cnf_index hT x10 hp x11 ex11) Ret.ret ?_
                        intro v a w hR hE
                        obtain ⟨rfl, hp⟩ := Ret.of hR
                        have hp : Hp Z ρ (_ :: _ :: _ :: _ :: _ :: _ :: L) w := hp
                        refine s_nil (and_with ⟨fun _ => ⟨_, hp⟩, fun _ => ⟨_, (hp.get 2 rfl)⟩, fun _ => ⟨_, (hp.get 3 rfl)⟩, trivial⟩ fun hS => ?_)
                        refine v_all [11, 15] (by kernel_rfl) rfl ?_
                        refine List.forall_mem_cons.2 ⟨?_, List.forall_mem_cons.2 ⟨?_, fun _ h => absurd h (by simp)⟩⟩
                        ·
                          refine h_op rfl ?_
                          refine s_call (wk0 rfl) rfl rfl hE rfl [(.int .i64 x10)] ⟨rfl, trivial⟩ ent56 (c_cnf_index hT x10 hp x12 ex12) Ret.ret ?_
                          intro v a w hR hE
                          obtain ⟨rfl, hp⟩ := Ret.of hR
                          have hp : Hp Z ρ (_ :: _ :: _ :: _ :: _ :: _ :: L) w := hp
                          refine s_nil (and_with ⟨fun _ => ⟨_, hp⟩, fun _ => ⟨_, (hp.get 2 rfl)⟩, fun _ => ⟨_, (hp.get 3 rfl)⟩, trivial⟩ fun hS => ?_)
                          obtain ⟨b13u, b13, b13o, b13h, b13r, b13v, b13f⟩ := TblA.hdr hp 3 rfl slty22 ex13
                          have b13f : ∀ (j : Nat) (u : Value), ([(Sl.v b13u)] : List Value)[j]? = some u → ∀ ρ' L' w, Hp Z ρ' (TblA 25 3 w5q us5q (lp2_1 : (List (List Int))) :: L') w → w.cell? ⟨b13, b13o + j, none⟩ = some u := b13f
                          refine v_take0 12 (wk0 rfl) rfl rfl rfl hE (by kernel_rfl) (by kernel_rfl) (by kernel_rfl) rfl (by kernel_rfl) hS (v := (.pointer (some ⟨b13, b13o, none⟩))) (fun _ => ex_index rfl hE rfl rfl b13r) ?_
                          intro a hE hS
                          refine v_take1 13 2 (wk0 rfl) rfl rfl rfl hE (by kernel_rfl) (by kernel_rfl) (by kernel_rfl) rfl (by kernel_rfl) hS (v := (Sl.v b13u)) (fun _ => ex_load rfl hE rfl (fun w hw => run_ld1 varty25 (b13f 0 _ rfl _ _ w (hw.get 0 rfl)))) ?_
                          intro a hE hS
                          refine v_all [15] (by kernel_rfl) rfl ?_
                          refine List.forall_mem_cons.2 ⟨?_, fun _ h => absurd h (by simp)⟩
                          ·
                            refine h_op rfl ?_
                            refine s_lit (wk0 rfl) rfl rfl hE hp rfl [(0, (.int .i64 lp1_0))] ⟨⟨rfl, rfl⟩, trivial⟩ [(.int .i64 lp1_0)] 3 (fun w => by simp [Instr.buildSlice, Instr.fill, Value.cells, go_sem]) ?_
                            intro a w b14 hE hp
                            have hp : Hp Z ρ (Pt b14 (.cells #[(.int .i64 lp1_0)] 3 (0, 0)) :: _ :: _ :: _ :: _ :: _ :: _ :: L) w := hp
                            refine s_nil (and_with ⟨fun _ => ⟨_, hp⟩, fun _ => ⟨_, (hp.get 3 rfl)⟩, fun _ => ⟨_, (hp.get 4 rfl)⟩, trivial⟩ fun hS => ?_)
                            refine v_all [16] (by kernel_rfl) rfl ?_
                            refine List.forall_mem_cons.2 ⟨?_, fun _ h => absurd h (by simp)⟩
                            ·
                              refine h_op rfl ?_
                              have hp := TblA.takeRow hp 4 rfl b13h ex13
                              have hp : Hp Z ρ (OwnSl 3 (Sl.v b13u) x13 :: TblX 25 3 w5q us5q (lp2_1 : (List (List Int))) x12 :: _ :: _ :: _ :: _ :: _ :: _ :: L) w := hp
                              refine s_app (wk0 rfl) rfl rfl hE hp rfl slty25 rfl rfl 0 rfl rfl (l2 := [lp1_0]) rfl (fun j u hj => by have := Hp.cN 2 rfl 0 _ (sub_all rfl) w hp j u hj; simpa using this) ex14 ?_
                              intro v9 a w hE hp
                              have hp : Hp Z ρ (OwnSl 3 v9 x14 :: _ :: _ :: _ :: _ :: _ :: _ :: _ :: L) w := hp
                              refine s_nil (and_with ⟨fun _ => ⟨_, hp⟩, fun _ => ⟨_, (hp.get 5 rfl)⟩, dead (by kernel_rfl), trivial⟩ fun hS => ?_)
                              obtain ⟨b15, b15o, b15r, b15v⟩ := TblX.adr hp 1 rfl slty22 b13h
                              rw [← guardEq_some ex15] at b15r
                              refine v_take0 17 (wk0 rfl) rfl rfl rfl hE (by kernel_rfl) (by kernel_rfl) (by kernel_rfl) rfl (by kernel_rfl) hS (v := (.pointer (some ⟨b15, b15o, none⟩))) (fun _ => ex_index rfl hE rfl rfl b15r) ?_
                              intro a hE hS
                              refine v_all [18] (by kernel_rfl) rfl ?_
                              refine List.forall_mem_cons.2 ⟨?_, fun _ h => absurd h (by simp)⟩
                              ·
                                refine h_op rfl ?_
                                obtain ⟨sl2, sl2e⟩ := OwnSl.toSl hp 0 rfl
                                refine s_tputX (wk0 rfl) rfl hE sl2e (hp.get 0 rfl) rfl rfl rfl 0 rfl b13h ex13 b15v varty25.size_ ?_
                                intro w hp
                                have hp : Hp Z ρ (TblA 25 3 w5q (us5q.set x12.toNat sl2) (lp2_1.set x12.toNat x14 : (List (List Int))) :: _ :: _ :: _ :: _ :: _ :: _ :: L) w := hp
                                refine s_nil (and_with ⟨fun _ => ⟨_, hp⟩, fun _ => ⟨_, (hp.get 4 rfl)⟩, dead (by kernel_rfl), trivial⟩ fun hS => ?_)
                                exact v_done (by kernel_rfl) ⟨_, _, hE.cut ⟨rfl, rfl, rfl, rfl, rfl, rfl, rfl, rfl, rfl, rfl, trivial⟩, hp⟩
                        ·
                          refine h_op rfl ?_
                          refine s_lit (wk0 rfl) rfl rfl hE hp rfl [(0, (.int .i64 lp1_0))] ⟨⟨rfl, rfl⟩, trivial⟩ [(.int .i64 lp1_0)] 3 (fun w => by simp [Instr.buildSlice, Instr.fill, Value.cells, go_sem]) ?_
                          intro a w b16 hE hp
                          have hp : Hp Z ρ (Pt b16 (.cells #[(.int .i64 lp1_0)] 3 (0, 0)) :: _ :: _ :: _ :: _ :: _ :: _ :: L) w := hp
                          refine s_nil (and_with ⟨fun _ => ⟨_, hp⟩, fun _ => ⟨_, (hp.get 3 rfl)⟩, fun _ => ⟨_, (hp.get 4 rfl)⟩, trivial⟩ fun hS => ?_)
                          refine v_all [11] (by kernel_rfl) rfl ?_
                          refine List.forall_mem_cons.2 ⟨?_, fun _ h => absurd h (by simp)⟩
                          ·
                            refine h_op rfl ?_
                            refine s_call (wk0 rfl) rfl rfl hE rfl [(.int .i64 x10)] ⟨rfl, trivial⟩ ent56 (c_cnf_index hT x10 hp x12 ex12) Ret.ret ?_
                            intro v a w hR hE
                            obtain ⟨rfl, hp⟩ := Ret.of hR
                            have hp : Hp Z ρ (_ :: _ :: _ :: _ :: _ :: _ :: _ :: L) w := hp
                            refine s_nil (and_with ⟨fun _ => ⟨_, hp⟩, fun _ => ⟨_, (hp.get 3 rfl)⟩, fun _ => ⟨_, (hp.get 4 rfl)⟩, trivial⟩ fun hS => ?_)
                            obtain ⟨b17u, b17, b17o, b17h, b17r, b17v, b17f⟩ := TblA.hdr hp 4 rfl slty22 ex13
                            have b17f : ∀ (j : Nat) (u : Value), ([(Sl.v b17u)] : List Value)[j]? = some u → ∀ ρ' L' w, Hp Z ρ' (TblA 25 3 w5q us5q (lp2_1 : (List (List Int))) :: L') w → w.cell? ⟨b17, b17o + j, none⟩ = some u := b17f
                            refine v_take0 12 (wk0 rfl) rfl rfl rfl hE (by kernel_rfl) (by kernel_rfl) (by kernel_rfl) rfl (by kernel_rfl) hS (v := (.pointer (some ⟨b17, b17o, none⟩))) (fun _ => ex_index rfl hE rfl rfl b17r) ?_
                            intro a hE hS
                            refine v_take1 13 2 (wk0 rfl) rfl rfl rfl hE (by kernel_rfl) (by kernel_rfl) (by kernel_rfl) rfl (by kernel_rfl) hS (v := (Sl.v b17u)) (fun _ => ex_load rfl hE rfl (fun w hw => run_ld1 varty25 (b17f 0 _ rfl _ _ w (hw.get 0 rfl)))) ?_
                            intro a hE hS
                            refine v_all [16] (by kernel_rfl) rfl ?_
                            refine List.forall_mem_cons.2 ⟨?_, fun _ h => absurd h (by simp)⟩
                            ·
                              refine h_op rfl ?_
                              have hp := TblA.takeRow hp 4 rfl b17h ex13
                              have hp : Hp Z ρ (OwnSl 3 (Sl.v b17u) x13 :: TblX 25 3 w5q us5q (lp2_1 : (List (List Int))) x12 :: _ :: _ :: _ :: _ :: _ :: _ :: L) w := hp
                              refine s_app (wk0 rfl) rfl rfl hE hp rfl slty25 rfl rfl 0 rfl rfl (l2 := [lp1_0]) rfl (fun j u hj => by have := Hp.cN 2 rfl 0 _ (sub_all rfl) w hp j u hj; simpa using this) ex14 ?_
                              intro v10 a w hE hp
                              have hp : Hp Z ρ (OwnSl 3 v10 x14 :: _ :: _ :: _ :: _ :: _ :: _ :: _ :: L) w := hp
                              refine s_nil (and_with ⟨fun _ => ⟨_, hp⟩, fun _ => ⟨_, (hp.get 5 rfl)⟩, dead (by kernel_rfl), trivial⟩ fun hS => ?_)
                              obtain ⟨b18, b18o, b18r, b18v⟩ := TblX.adr hp 1 rfl slty22 b17h
                              rw [← guardEq_some ex15] at b18r
                              refine v_take0 17 (wk0 rfl) rfl rfl rfl hE (by kernel_rfl) (by kernel_rfl) (by kernel_rfl) rfl (by kernel_rfl) hS (v := (.pointer (some ⟨b18, b18o, none⟩))) (fun _ => ex_index rfl hE rfl rfl b18r) ?_
                              intro a hE hS
                              refine v_all [18] (by kernel_rfl) rfl ?_
                              refine List.forall_mem_cons.2 ⟨?_, fun _ h => absurd h (by simp)⟩
                              ·
                                refine h_op rfl ?_
                                obtain ⟨sl3, sl3e⟩ := OwnSl.toSl hp 0 rfl
                                refine s_tputX (wk0 rfl) rfl hE sl3e (hp.get 0 rfl) rfl rfl rfl 0 rfl b17h ex13 b18v varty25.size_ ?_
                                intro w hp
                                have hp : Hp Z ρ (TblA 25 3 w5q (us5q.set x12.toNat sl3) (lp2_1.set x12.toNat x14 : (List (List Int))) :: _ :: _ :: _ :: _ :: _ :: _ :: L) w := hp
                                refine s_nil (and_with ⟨fun _ => ⟨_, hp⟩, fun _ => ⟨_, (hp.get 4 rfl)⟩, dead (by kernel_rfl), trivial⟩ fun hS => ?_)
                                exact v_done (by kernel_rfl) ⟨_, _, hE.cut ⟨rfl, rfl, rfl, rfl, rfl, rfl, rfl, rfl, rfl, rfl, trivial⟩, hp⟩
                      ·
                        refine h_op rfl ?_
                        refine s_lit (wk0 rfl) rfl rfl hE hp rfl [(0, (.int .i64 lp1_0))] ⟨⟨rfl, rfl⟩, trivial⟩ [(.int .i64 lp1_0)] 3 (fun w => by simp [Instr.buildSlice, Instr.fill, Value.cells, go_sem]) ?_
                        intro a w b19 hE hp
                        have hp : Hp Z ρ (Pt b19 (.cells #[(.int .i64 lp1_0)] 3 (0, 0)) :: _ :: _ :: _ :: _ :: _ :: _ :: L) w := hp
                        refine s_nil (and_with ⟨fun _ => ⟨_, hp⟩, fun _ => ⟨_, (hp.get 3 rfl)⟩, fun _ => ⟨_, (hp.get 4 rfl)⟩, trivial⟩ fun hS => ?_)
                        refine v_all [5] (by kernel_rfl) rfl ?_
                        refine List.forall_mem_cons.2 ⟨?_, fun _ h => absurd h (by simp)⟩
                        ·
                          refine h_op rfl ?_
                          refine s_call (wk0 rfl) rfl rfl hE rfl [(.int .i64 x10)] ⟨rfl, trivial⟩ ent56 (c_cnf_index hT x10 hp x11 ex11) Ret.ret ?_
                          intro v a w hR hE
                          obtain ⟨rfl, hp⟩ := Ret.of hR
                          have hp : Hp Z ρ (_ :: _ :: _ :: _ :: _ :: _ :: _ :: L) w := hp
                          refine s_nil (and_with ⟨fun _ => ⟨_, hp⟩, fun _ => ⟨_, (hp.get 3 rfl)⟩, fun _ => ⟨_, (hp.get 4 rfl)⟩, trivial⟩ fun hS => ?_)
                          refine v_all [11] (by kernel_rfl) rfl ?_
                          refine List.forall_mem_cons.2 ⟨?_, fun _ h => absurd h (by simp)⟩
                          ·
                            refine h_op rfl ?_
                            refine s_call (wk0 rfl) rfl rfl hE rfl [(.int .i64 x10)] ⟨rfl, trivial⟩ ent56 (c_cnf_index hT x10 hp x12 ex12) Ret.ret ?_
                            intro v a w hR hE
                            obtain ⟨rfl, hp⟩ := Ret.of hR
                            have hp : Hp Z ρ (_ :: _ :: _ :: _ :: _ :: _ :: _ :: L) w := hp
                            refine s_nil (and_with ⟨fun _ => ⟨_, hp⟩, fun _ => ⟨_, (hp.get 3 rfl)⟩, fun _ => ⟨_, (hp.get 4 rfl)⟩, trivial⟩ fun hS => ?_)
                            obtain ⟨b20u, b20, b20o, b20h, b20r, b20v, b20f⟩ := TblA.hdr hp 4 rfl slty22 ex13
                            have b20f : ∀ (j : Nat) (u : Value), ([(Sl.v b20u)] : List Value)[j]? = some u → ∀ ρ' L' w, Hp Z ρ' (TblA 25 3 w5q us5q (lp2_1 : (List (List Int))) :: L') w → w.cell? ⟨b20, b20o + j, none⟩ = some u := b20f
                            refine v_take0 12 (wk0 rfl) rfl rfl rfl hE (by kernel_rfl) (by kernel_rfl) (by kernel_rfl) rfl (by kernel_rfl) hS (v := (.pointer (some ⟨b20, b20o, none⟩))) (fun _ => ex_index rfl hE rfl rfl b20r) ?_
                            intro a hE hS
                            refine v_take1 13 2 (wk0 rfl) rfl rfl rfl hE (by kernel_rfl) (by kernel_rfl) (by kernel_rfl) rfl (by kernel_rfl) hS (v := (Sl.v b20u)) (fun _ => ex_load rfl hE rfl (fun w hw => run_ld1 varty25 (b20f 0 _ rfl _ _ w (hw.get 0 rfl)))) ?_
                            intro a hE hS
                            refine v_all [16] (by kernel_rfl) rfl ?_
                            refine List.forall_mem_cons.2 ⟨?_, fun _ h => absurd h (by simp)⟩
                            ·
                              refine h_op rfl ?_
                              have hp := TblA.takeRow hp 4 rfl b20h ex13
                              have hp : Hp Z ρ (OwnSl 3 (Sl.v b20u) x13 :: TblX 25 3 w5q us5q (lp2_1 : (List (List Int))) x12 :: _ :: _ :: _ :: _ :: _ :: _ :: L) w := hp
                              refine s_app (wk0 rfl) rfl rfl hE hp rfl slty25 rfl rfl 0 rfl rfl (l2 := [lp1_0]) rfl (fun j u hj => by have := Hp.cN 2 rfl 0 _ (sub_all rfl) w hp j u hj; simpa using this) ex14 ?_
                              intro v11 a w hE hp
                              have hp : Hp Z ρ (OwnSl 3 v11 x14 :: _ :: _ :: _ :: _ :: _ :: _ :: _ :: L) w := hp
                              refine s_nil (and_with ⟨fun _ => ⟨_, hp⟩, fun _ => ⟨_, (hp.get 5 rfl)⟩, dead (by kernel_rfl), trivial⟩ fun hS => ?_)
                              obtain ⟨b21, b21o, b21r, b21v⟩ := TblX.adr hp 1 rfl slty22 b20h
                              rw [← guardEq_some ex15] at b21r
                              refine v_take0 17 (wk0 rfl) rfl rfl rfl hE (by kernel_rfl) (by kernel_rfl) (by kernel_rfl) rfl (by kernel_rfl) hS (v := (.pointer (some ⟨b21, b21o, none⟩))) (fun _ => ex_index rfl hE rfl rfl b21r) ?_
                              intro a hE hS
                              refine v_all [18] (by kernel_rfl) rfl ?_
                              refine List.forall_mem_cons.2 ⟨?_, fun _ h => absurd h (by simp)⟩
                              ·
                                refine h_op rfl ?_
                                obtain ⟨sl4, sl4e⟩ := OwnSl.toSl hp 0 rfl
                                refine s_tputX (wk0 rfl) rfl hE sl4e (hp.get 0 rfl) rfl rfl rfl 0 rfl b20h ex13 b21v varty25.size_ ?_
                                intro w hp
                                have hp : Hp Z ρ (TblA 25 3 w5q (us5q.set x12.toNat sl4) (lp2_1.set x12.toNat x14 : (List (List Int))) :: _ :: _ :: _ :: _ :: _ :: _ :: L) w := hp
                                refine s_nil (and_with ⟨fun _ => ⟨_, hp⟩, fun _ => ⟨_, (hp.get 4 rfl)⟩, dead (by kernel_rfl), trivial⟩ fun hS => ?_)
                                exact v_done (by kernel_rfl) ⟨_, _, hE.cut ⟨rfl, rfl, rfl, rfl, rfl, rfl, rfl, rfl, rfl, rfl, trivial⟩, hp⟩
                    · rintro a w ⟨yus5, y22, hE, hp⟩
                      refine k_region ?_
                      obtain ⟨x16, ex16, hl2⟩ := bnd hl2
                      refine s_val (wk0 rfl) rfl rfl hE hp (v := (.int .i64 x16)) (ex_add rfl hE rfl rfl (inK_some ex16)) ?_
                      intro a hE
                      refine s_val (wk0 rfl) rfl rfl hE hp (v := (.int .i64 x16)) (ex_move rfl hE rfl) ?_
                      intro a hE
                      refine s_nil ?_
                      exact ⟨_, (Option.some.inj hl2).symm, _, _, hE.cut ⟨rfl, rfl, rfl, rfl, rfl, rfl, rfl, rfl, rfl, rfl, trivial⟩, ((((((((hp.get 6 rfl).get 6 rfl).get 2 rfl).get 6 rfl).get 6 rfl).get 6 rfl).get 6 rfl).drop)⟩
                  · replace hl2 := (ie hc6).symm.trans hl2
                    refine k_exit ?_
                    refine ⟨_, (Option.some.inj hl2).symm, fun hbb => ?_⟩
                    subst hbb
                    exact ⟨_, _, hE.cut ⟨rfl, rfl, rfl, rfl, rfl, rfl, trivial⟩, hp⟩
              · rintro a w ⟨w5q, us5q, hE, hp⟩
                refine k_region ?_
                obtain ⟨x17, ex17, hl1⟩ := bnd hl1
                refine s_val (wk0 rfl) rfl rfl hE hp (v := (.int .i64 x17)) (ex_add rfl hE rfl rfl (inK_some ex17)) ?_
                intro a hE
                refine s_val (wk0 rfl) rfl rfl hE hp (v := (.int .i64 x17)) (ex_move rfl hE rfl) ?_
                intro a hE
                refine s_nil ?_
                exact ⟨_, (Option.some.inj hl1).symm, _, _, _, hE.cut ⟨rfl, rfl, rfl, rfl, rfl, rfl, trivial⟩, (hp.drop)⟩
            · replace hl1 := (ie hc4).symm.trans hl1
              refine k_exit ?_
              refine ⟨_, (Option.some.inj hl1).symm, fun hbb => ?_⟩
              subst hbb
              exact ⟨_, _, _, hE.cut ⟨rfl, rfl, rfl, trivial⟩, hp⟩
        · rintro a w ⟨w13, w5, us5, hE, hp⟩
          refine k_seq ?_
          refine k_seq ?_
          refine k_region ?_
          obtain ⟨k1, k1a, k1d, hp⟩ := (hp.get 2 rfl).lend
          have f1 : RoSl (ρ.un k1) w5 (b5.2 : (List (List Int))) := TblA.ro k1d k1a
          have hp : Hp Z (ρ.un k1) (OwnSl 3 w13 b5.1 :: Pt y6 (.cells #[(.int .i64 p0.vars), vp0_clauses, y4, w5, w13, (.slice none 0 0), (.bool false)] 74 (0, 0)) :: _ :: _ :: L) w := hp
          have hp : Hp Z (ρ.un k1) (_ :: _ :: _ :: _ :: L) w := hp
          refine s_val (wk0 rfl) rfl rfl hE hp (v := vp1) (ex_move rfl hE rfl) ?_
          intro a hE
          refine s_val (wk0 rfl) rfl rfl hE hp (v := (.int .i64 (p1.length : Int))) (ex_len rfl hE rfl (RoSl.len (RoSl.mono hp1 (PH.le_un _ k1)) slty25)) ?_
          intro a hE
          refine s_val (wk0 rfl) rfl rfl hE hp (v := (.int .i64 0)) (ex_move rfl hE rfl) ?_
          intro a hE
          refine s_nil ?_
          have hp := hp.emp (OwnSl.nil (α := Int) 3)
          have hp : Hp Z (ρ.un k1) (OwnSl 3 (.slice none 0 0) ([] : List Int) :: _ :: _ :: _ :: _ :: L) w := hp
          have hp : Hp Z (ρ.un k1) (_ :: _ :: _ :: _ :: _ :: L) w := hp
          obtain ⟨b22, hc7, hm⟩ := bnd hm
          refine k_block (fun a w => ∃ (w25 : Value) (w13 : Value) (w4 : Value), Env 181 [(2, (.pointer (some ⟨b1, 0, none⟩))), (7, (.pointer (some ⟨y6, 0, none⟩)))] a ∧ Hp Z (ρ.un k1) (OwnSl 3 w25 b22.1 :: OwnSl 3 w13 b22.2.1 :: Pt y6 (.cells #[(.int .i64 p0.vars), vp0_clauses, w4, w5, w13, w25, (.bool b22.2.2.1)] 74 (0, 0)) :: OwnSl 3 w4 b22.2.2.2 :: Pt b1 (.cells #[(.int .i64 p0.vars), vp0_clauses] 24 (0, 0)) :: L) w) ?_ ?_
          · refine k_loop hc7 (fun s a w => ∃ (w25 : Value) (w13 : Value) (w4 : Value), Env 181 [(2, (.pointer (some ⟨b1, 0, none⟩))), (7, (.pointer (some ⟨y6, 0, none⟩))), (83, vp1), (84, (.int .i64 (p1.length : Int))), (85, (.int .i64 s.1))] a ∧ Hp Z (ρ.un k1) (OwnSl 3 w25 s.2.1 :: OwnSl 3 w13 s.2.2.1 :: Pt y6 (.cells #[(.int .i64 p0.vars), vp0_clauses, w4, w5, w13, w25, (.bool s.2.2.2.1)] 74 (0, 0)) :: OwnSl 3 w4 s.2.2.2.2 :: Pt b1 (.cells #[(.int .i64 p0.vars), vp0_clauses] 24 (0, 0)) :: L) w) ?_ ?_
            · exact ⟨_, _, _, hE.cut ⟨rfl, rfl, rfl, rfl, rfl, trivial⟩, hp⟩
            · rintro ⟨lp3_0, lp3_1, lp3_2, lp3_3, lp3_4⟩ st a w ⟨w25, w13, w4, hE, hp⟩ hl3
              have hE : Env 181 [(2, (.pointer (some ⟨b1, 0, none⟩))), (7, (.pointer (some ⟨y6, 0, none⟩))), (83, vp1), (84, (.int .i64 (p1.length : Int))), (85, (.int .i64 lp3_0))] a := hE
              have hp : Hp Z (ρ.un k1) (OwnSl 3 w25 lp3_1 :: OwnSl 3 w13 lp3_2 :: Pt y6 (.cells #[(.int .i64 p0.vars), vp0_clauses, w4, w5, w13, w25, (.bool lp3_3)] 74 (0, 0)) :: OwnSl 3 w4 lp3_4 :: _ :: L) w := hp
              replace hl3 : m_cnf_Propagate_lp3 p0 p1 b5 lp3_0 lp3_1 lp3_2 lp3_3 lp3_4 = some st := hl3
              unfold m_cnf_Propagate_lp3 at hl3
              refine k_seq ?_
              refine k_region ?_
              refine s_val (wk0 rfl) rfl rfl hE hp (v := (.bool (decide (lp3_0 < (p1.length : Int))))) (ex_lss rfl hE rfl rfl) ?_
              intro a hE
              refine s_nil ?_
              refine k_seq ?_
              refine k_if hE rfl (fun hc8 => ?_) (fun hc8 => ?_)
              · replace hl3 := (it hc8).symm.trans hl3
                refine k_skip ?_
                refine k_seq ?_
                refine k_plain ?_
                refine k_seq ?_
                refine k_region ?_
                obtain ⟨x18, ex18, hl3⟩ := bnd hl3
                obtain ⟨b23, b23o, b23c, b23r, b23k, b23f⟩ := RoSl.at (RoSl.mono hp1 (PH.le_un _ k1)) slty25 ex18
                obtain rfl : b23c = Enc.enc x18 := b23k
                have b23f : AtP (ρ.un k1) b23 b23o [(.int .i64 x18)] := b23f
                refine s_val (wk0 rfl) rfl rfl hE hp (v := (.pointer (some ⟨b23, b23o, none⟩))) (ex_index rfl hE rfl rfl b23r) ?_
                intro a hE
                refine s_val (wk0 rfl) rfl rfl hE hp (v := (.int .i64 x18)) (ex_load rfl hE rfl (fun w hw => run_ld1 varty3 (b23f.c 0 rfl w hw))) ?_
                intro a hE
                refine s_val (wk0 rfl) rfl rfl hE hp (v := (.int .i64 x18)) (ex_asn rfl hE rfl) ?_
                intro a hE
                refine s_nil ?_
                refine k_region ?_
                refine s_val (wk0 rfl) rfl rfl hE hp (v := (.pointer (some ⟨y6, 0, none⟩))) (ex_move rfl hE rfl) ?_
                intro a hE
                refine s_val (wk0 rfl) rfl rfl hE hp (v := (.int .i64 x18)) (ex_move rfl hE rfl) ?_
                intro a hE
                obtain ⟨x19, ex19, hl3⟩ := bnd hl3
                refine s_call (wk0 rfl) rfl rfl hE rfl [(.pointer (some ⟨y6, 0, none⟩)), (.int .i64 x18)] ⟨rfl, rfl, trivial⟩ ent57 (c_cnf_set_add (Tabs.mono hT (PH.le_un _ k1)) y6 (PSet.mk p0 lp3_4 b5.2 lp3_2 lp3_1 lp3_3) vp0_clauses (RoSl.mono hp0_clauses (PH.le_un _ k1)) w4 w5 f1 w13 w25 x18 (((hp.get 1 rfl).get 3 rfl).get 3 rfl) x19 ex19) Ret.ret ?_
                intro v a w hR hE
                obtain ⟨vz1_value, vz1_left, vz1_list, rfl, hp⟩ := Ret.of hR
                have hp : Hp Z (ρ.un k1) (Pt y6 (.cells #[(.int .i64 p0.vars), vp0_clauses, vz1_value, w5, vz1_left, vz1_list, (.bool x19.fails)] 74 (0, 0)) :: OwnSl 3 vz1_value x19.value :: OwnSl 3 vz1_left x19.left :: OwnSl 3 vz1_list x19.list :: _ :: L) w := hp
                refine s_nil ?_
                refine k_region ?_
                obtain ⟨x20, ex20, hl3⟩ := bnd hl3
                refine s_val (wk0 rfl) rfl rfl hE hp (v := (.int .i64 x20)) (ex_add rfl hE rfl rfl (inK_some ex20)) ?_
                intro a hE
                refine s_val (wk0 rfl) rfl rfl hE hp (v := (.int .i64 x20)) (ex_move rfl hE rfl) ?_
                intro a hE
                refine s_nil ?_
                exact ⟨_, (Option.some.inj hl3).symm, _, _, _, hE.cut ⟨rfl, rfl, rfl, rfl, rfl, trivial⟩, (((((hp.get 4 rfl).get 2 rfl).get 2 rfl).get 3 rfl).get 4 rfl)⟩
              · replace hl3 := (ie hc8).symm.trans hl3
                refine k_exit ?_
                refine ⟨_, (Option.some.inj hl3).symm, fun hbb => ?_⟩
                subst hbb
                exact ⟨_, _, _, hE.cut ⟨rfl, rfl, trivial⟩, hp⟩
          · rintro a w ⟨w25, w13, w4, hE, hp⟩
            refine k_seq ?_
            refine k_seq ?_
            refine k_region ?_
            refine s_val (wk0 rfl) rfl rfl hE hp (v := (.pointer (some ⟨b1, 1, none⟩))) (ex_field rfl hE rfl (fldty24_1 _ _)) ?_
            intro a hE
            refine s_val (wk0 rfl) rfl rfl hE hp (v := vp0_clauses) (ex_load rfl hE rfl (fun w hw => run_ld1 varty22 (Hp.c 4 rfl 1 rfl w hw))) ?_
            intro a hE
            refine s_val (wk0 rfl) rfl rfl hE hp (v := (.int .i64 (p0.clauses.length : Int))) (ex_len rfl hE rfl (RoSl.len (RoSl.mono hp0_clauses (PH.le_un _ k1)) slty22)) ?_
            intro a hE
            refine s_val (wk0 rfl) rfl rfl hE hp (v := (.int .i64 0)) (ex_move rfl hE rfl) ?_
            intro a hE
            refine s_nil ?_
            have hE := hE.cut (E' := [(7, (.pointer (some ⟨y6, 0, none⟩))), (95, (.int .i64 (p0.clauses.length : Int))), (96, (.int .i64 0))]) ⟨rfl, rfl, rfl, trivial⟩
            obtain ⟨b24, hc9, hm⟩ := bnd hm
            refine k_block (fun a w => ∃ (w25 : Value) (w13 : Value) (w4 : Value), Env 181 [(7, (.pointer (some ⟨y6, 0, none⟩)))] a ∧ Hp Z (ρ.un k1) (OwnSl 3 w25 b24.1 :: OwnSl 3 w13 b24.2.1 :: Pt y6 (.cells #[(.int .i64 p0.vars), vp0_clauses, w4, w5, w13, w25, (.bool b24.2.2.1)] 74 (0, 0)) :: OwnSl 3 w4 b24.2.2.2 :: Pt b1 (.cells #[(.int .i64 p0.vars), vp0_clauses] 24 (0, 0)) :: L) w) ?_ ?_
            · refine k_loop hc9 (fun s a w => ∃ (w25 : Value) (w13 : Value) (w4 : Value), Env 181 [(7, (.pointer (some ⟨y6, 0, none⟩))), (95, (.int .i64 (p0.clauses.length : Int))), (96, (.int .i64 s.1))] a ∧ Hp Z (ρ.un k1) (OwnSl 3 w25 s.2.1 :: OwnSl 3 w13 s.2.2.1 :: Pt y6 (.cells #[(.int .i64 p0.vars), vp0_clauses, w4, w5, w13, w25, (.bool s.2.2.2.1)] 74 (0, 0)) :: OwnSl 3 w4 s.2.2.2.2 :: Pt b1 (.cells #[(.int .i64 p0.vars), vp0_clauses] 24 (0, 0)) :: L) w) ?_ ?_
              · exact ⟨_, _, _, hE.cut ⟨rfl, rfl, rfl, trivial⟩, hp⟩
              · rintro ⟨lp4_0, lp4_1, lp4_2, lp4_3, lp4_4⟩ st a w ⟨w25, w13, w4, hE, hp⟩ hl4
                have hE : Env 181 [(7, (.pointer (some ⟨y6, 0, none⟩))), (95, (.int .i64 (p0.clauses.length : Int))), (96, (.int .i64 lp4_0))] a := hE
                have hp : Hp Z (ρ.un k1) (OwnSl 3 w25 lp4_1 :: OwnSl 3 w13 lp4_2 :: Pt y6 (.cells #[(.int .i64 p0.vars), vp0_clauses, w4, w5, w13, w25, (.bool lp4_3)] 74 (0, 0)) :: OwnSl 3 w4 lp4_4 :: _ :: L) w := hp
                replace hl4 : m_cnf_Propagate_lp4 p0 b5 lp4_0 lp4_1 lp4_2 lp4_3 lp4_4 = some st := hl4
                unfold m_cnf_Propagate_lp4 at hl4
                refine k_seq ?_
                refine k_region ?_
                refine s_val (wk0 rfl) rfl rfl hE hp (v := (.bool (decide (lp4_0 < (p0.clauses.length : Int))))) (ex_lss rfl hE rfl rfl) ?_
                intro a hE
                refine s_nil ?_
                refine k_seq ?_
                refine k_if hE rfl (fun hc10 => ?_) (fun hc10 => ?_)
                · replace hl4 := (it hc10).symm.trans hl4
                  refine k_skip ?_
                  refine k_seq ?_
                  refine k_plain ?_
                  refine k_seq ?_
                  refine k_region ?_
                  refine s_val (wk0 rfl) rfl rfl hE hp (v := (.int .i64 lp4_0)) (ex_move rfl hE rfl) ?_
                  intro a hE
                  refine s_val (wk0 rfl) rfl rfl hE hp (v := (.int .i64 lp4_0)) (ex_asn rfl hE rfl) ?_
                  intro a hE
                  refine s_nil ?_
                  refine k_seq ?_
                  refine k_region ?_
                  refine s_val (wk0 rfl) rfl rfl hE hp (v := (.pointer (some ⟨y6, 0, none⟩))) (ex_move rfl hE rfl) ?_
                  intro a hE
                  refine s_val (wk0 rfl) rfl rfl hE hp (v := (.pointer (some ⟨y6, 0, none⟩))) (ex_nil rfl hE rfl) ?_
                  intro a hE
                  refine s_val (wk0 rfl) rfl rfl hE hp (v := (.pointer (some ⟨y6, 4, none⟩))) (ex_field rfl hE rfl (fldty74_3 _ _)) ?_
                  intro a hE
                  refine s_val (wk0 rfl) rfl rfl hE hp (v := w13) (ex_load rfl hE rfl (fun w hw => run_ld1 varty25 (Hp.c 2 rfl 4 rfl w hw))) ?_
                  intro a hE
                  refine s_val (wk0 rfl) rfl rfl hE hp (v := (.int .i64 lp4_0)) (ex_move rfl hE rfl) ?_
                  intro a hE
                  obtain ⟨x21, ex21, hl4⟩ := bnd hl4
                  obtain ⟨b25, b25o, b25r, b25v, b25f⟩ := OwnSl.at hp 1 rfl slty25 ex21
                  have b25f : ∀ (j : Nat) (u : Value), ([(.int .i64 x21)] : List Value)[j]? = some u → ∀ ρ' L' w, Hp Z ρ' (OwnSl 3 w13 lp4_2 :: L') w → w.cell? ⟨b25, b25o + j, none⟩ = some u := b25f
                  refine s_val (wk0 rfl) rfl rfl hE hp (v := (.pointer (some ⟨b25, b25o, none⟩))) (ex_index rfl hE rfl rfl b25r) ?_
                  intro a hE
                  refine s_val (wk0 rfl) rfl rfl hE hp (v := (.int .i64 x21)) (ex_load rfl hE rfl (fun w hw => run_ld1 varty3 (b25f 0 _ rfl _ _ w (hw.get 1 rfl)))) ?_
                  intro a hE
                  refine s_val (wk0 rfl) rfl rfl hE hp (v := (.bool (decide (x21 < 2)))) (ex_lss rfl hE rfl rfl) ?_
                  intro a hE
                  refine s_nil ?_
                  have hE := hE.cut (E' := [(7, (.pointer (some ⟨y6, 0, none⟩))), (14, (.int .i64 lp4_0)), (95, (.int .i64 (p0.clauses.length : Int))), (96, (.int .i64 lp4_0)), (106, (.bool (decide (x21 < 2))))]) ⟨rfl, rfl, rfl, rfl, rfl, trivial⟩
                  refine k_if hE rfl (fun hc11 => ?_) (fun hc11 => ?_)
                  · replace hl4 := (it hc11).symm.trans hl4
                    refine k_region ?_
                    refine s_val (wk0 rfl) rfl rfl hE hp (v := (.pointer (some ⟨y6, 0, none⟩))) (ex_move rfl hE rfl) ?_
                    intro a hE
                    refine s_val (wk0 rfl) rfl rfl hE hp (v := (.int .i64 lp4_0)) (ex_move rfl hE rfl) ?_
                    intro a hE
                    obtain ⟨x22, ex22, hl4⟩ := bnd hl4
                    refine s_call (wk0 rfl) rfl rfl hE rfl [(.pointer (some ⟨y6, 0, none⟩)), (.int .i64 lp4_0)] ⟨rfl, rfl, trivial⟩ ent58 (c_cnf_set_look (Tabs.mono hT (PH.le_un _ k1)) y6 (PSet.mk p0 lp4_4 b5.2 lp4_2 lp4_1 lp4_3) vp0_clauses (RoSl.mono hp0_clauses (PH.le_un _ k1)) w4 w5 f1 w13 w25 lp4_0 (((hp.get 1 rfl).get 3 rfl).get 3 rfl) x22 ex22) Ret.ret ?_
                    intro v a w hR hE
                    obtain ⟨vz2_value, vz2_left, vz2_list, rfl, hp⟩ := Ret.of hR
                    have hp : Hp Z (ρ.un k1) (Pt y6 (.cells #[(.int .i64 p0.vars), vp0_clauses, vz2_value, w5, vz2_left, vz2_list, (.bool x22.fails)] 74 (0, 0)) :: OwnSl 3 vz2_value x22.value :: OwnSl 3 vz2_left x22.left :: OwnSl 3 vz2_list x22.list :: _ :: L) w := hp
                    refine s_nil ?_
                    refine k_region ?_
                    obtain ⟨x23, ex23, hl4⟩ := bnd hl4
                    refine s_val (wk0 rfl) rfl rfl hE hp (v := (.int .i64 x23)) (ex_add rfl hE rfl rfl (inK_some ex23)) ?_
                    intro a hE
                    refine s_val (wk0 rfl) rfl rfl hE hp (v := (.int .i64 x23)) (ex_move rfl hE rfl) ?_
                    intro a hE
                    refine s_nil ?_
                    exact ⟨_, (Option.some.inj hl4).symm, _, _, _, hE.cut ⟨rfl, rfl, rfl, trivial⟩, (((((hp.get 4 rfl).get 2 rfl).get 2 rfl).get 3 rfl).get 4 rfl)⟩
                  · replace hl4 := (ie hc11).symm.trans hl4
                    refine k_skip ?_
                    refine k_region ?_
                    obtain ⟨x24, ex24, hl4⟩ := bnd hl4
                    refine s_val (wk0 rfl) rfl rfl hE hp (v := (.int .i64 x24)) (ex_add rfl hE rfl rfl (inK_some ex24)) ?_
                    intro a hE
                    refine s_val (wk0 rfl) rfl rfl hE hp (v := (.int .i64 x24)) (ex_move rfl hE rfl) ?_
                    intro a hE
                    refine s_nil ?_
                    exact ⟨_, (Option.some.inj hl4).symm, _, _, _, hE.cut ⟨rfl, rfl, rfl, trivial⟩, hp⟩
                · replace hl4 := (ie hc10).symm.trans hl4
                  refine k_exit ?_
                  refine ⟨_, (Option.some.inj hl4).symm, fun hbb => ?_⟩
                  subst hbb
                  exact ⟨_, _, _, hE.cut ⟨rfl, trivial⟩, hp⟩
            · rintro a w ⟨w25, w13, w4, hE, hp⟩
              refine k_seq ?_
              refine k_seq ?_
              refine k_region ?_
              refine s_val (wk0 rfl) rfl rfl hE hp (v := (.int .i64 0)) (ex_asn rfl hE rfl) ?_
              intro a hE
              refine s_nil ?_
              obtain ⟨b26, hc12, hm⟩ := bnd hm
              refine k_block (fun a w => ∃ (w25 : Value) (w13 : Value) (w4 : Value), Env 181 [(7, (.pointer (some ⟨y6, 0, none⟩)))] a ∧ Hp Z (ρ.un k1) (OwnSl 3 w25 b26.1 :: OwnSl 3 w13 b26.2.1 :: Pt y6 (.cells #[(.int .i64 p0.vars), vp0_clauses, w4, w5, w13, w25, (.bool b26.2.2.1)] 74 (0, 0)) :: OwnSl 3 w4 b26.2.2.2 :: Pt b1 (.cells #[(.int .i64 p0.vars), vp0_clauses] 24 (0, 0)) :: L) w) ?_ ?_
              · refine k_loop hc12 (fun s a w => ∃ (w25 : Value) (w13 : Value) (w4 : Value), Env 181 [(7, (.pointer (some ⟨y6, 0, none⟩))), (15, (.int .i64 s.1))] a ∧ Hp Z (ρ.un k1) (OwnSl 3 w25 s.2.1 :: OwnSl 3 w13 s.2.2.1 :: Pt y6 (.cells #[(.int .i64 p0.vars), vp0_clauses, w4, w5, w13, w25, (.bool s.2.2.2.1)] 74 (0, 0)) :: OwnSl 3 w4 s.2.2.2.2 :: Pt b1 (.cells #[(.int .i64 p0.vars), vp0_clauses] 24 (0, 0)) :: L) w) ?_ ?_
                · exact ⟨_, _, _, hE.cut ⟨rfl, rfl, trivial⟩, hp⟩
                · rintro ⟨lp5_0, lp5_1, lp5_2, lp5_3, lp5_4⟩ st a w ⟨w25, w13, w4, hE, hp⟩ hl5
                  have hE : Env 181 [(7, (.pointer (some ⟨y6, 0, none⟩))), (15, (.int .i64 lp5_0))] a := hE
                  have hp : Hp Z (ρ.un k1) (OwnSl 3 w25 lp5_1 :: OwnSl 3 w13 lp5_2 :: Pt y6 (.cells #[(.int .i64 p0.vars), vp0_clauses, w4, w5, w13, w25, (.bool lp5_3)] 74 (0, 0)) :: OwnSl 3 w4 lp5_4 :: _ :: L) w := hp
                  replace hl5 : m_cnf_Propagate_lp5 p0 b5 lp5_0 lp5_1 lp5_2 lp5_3 lp5_4 = some st := hl5
                  unfold m_cnf_Propagate_lp5 at hl5
                  refine k_seq ?_
                  refine k_seq ?_
                  refine k_region ?_
                  refine s_val (wk0 rfl) rfl rfl hE hp (v := (.int .i64 lp5_0)) (ex_move rfl hE rfl) ?_
                  intro a hE
                  refine s_val (wk0 rfl) rfl rfl hE hp (v := (.pointer (some ⟨y6, 0, none⟩))) (ex_move rfl hE rfl) ?_
                  intro a hE
                  refine s_val (wk0 rfl) rfl rfl hE hp (v := (.pointer (some ⟨y6, 0, none⟩))) (ex_nil rfl hE rfl) ?_
                  intro a hE
                  refine s_val (wk0 rfl) rfl rfl hE hp (v := (.pointer (some ⟨y6, 5, none⟩))) (ex_field rfl hE rfl (fldty74_4 _ _)) ?_
                  intro a hE
                  refine s_val (wk0 rfl) rfl rfl hE hp (v := w25) (ex_load rfl hE rfl (fun w hw => run_ld1 varty25 (Hp.c 2 rfl 5 rfl w hw))) ?_
                  intro a hE
                  refine s_val (wk0 rfl) rfl rfl hE hp (v := (.int .i64 (lp5_1.length : Int))) (ex_len rfl hE rfl (OwnSl.len hp 0 rfl slty25)) ?_
                  intro a hE
                  refine s_val (wk0 rfl) rfl rfl hE hp (v := (.bool (decide (lp5_0 < (lp5_1.length : Int))))) (ex_lss rfl hE rfl rfl) ?_
                  intro a hE
                  refine s_val (wk0 rfl) rfl rfl hE hp (v := (.bool (decide (lp5_0 < (lp5_1.length : Int))))) (ex_move rfl hE rfl) ?_
                  intro a hE
                  refine s_cut [_, _, _, _, _, _] (fun a w => Env 181 [(124, (.bool ((decide (lp5_0 < (lp5_1.length : Int))) && (!lp5_3)))), (7, (.pointer (some ⟨y6, 0, none⟩))), (15, (.int .i64 lp5_0))] a ∧ Hp Z (ρ.un k1) (OwnSl 3 w25 lp5_1 :: OwnSl 3 w13 lp5_2 :: Pt y6 (.cells #[(.int .i64 p0.vars), vp0_clauses, w4, w5, w13, w25, (.bool lp5_3)] 74 (0, 0)) :: OwnSl 3 w4 lp5_4 :: Pt b1 (.cells #[(.int .i64 p0.vars), vp0_clauses] 24 (0, 0)) :: L) w) ?_ ?_
                  · rcases Bool.eq_false_or_eq_true (decide (lp5_0 < (lp5_1.length : Int))) with hc13 | hc13
                    ·
                      refine s_val (wk1 hE rfl rfl rfl hc13) rfl rfl hE hp (v := (.pointer (some ⟨y6, 0, none⟩))) (ex_move rfl hE rfl) ?_
                      intro a hE
                      refine s_val (wk1 hE rfl rfl rfl hc13) rfl rfl hE hp (v := (.pointer (some ⟨y6, 0, none⟩))) (ex_nil rfl hE rfl) ?_
                      intro a hE
                      refine s_val (wk1 hE rfl rfl rfl hc13) rfl rfl hE hp (v := (.pointer (some ⟨y6, 6, none⟩))) (ex_field rfl hE rfl (fldty74_5 _ _)) ?_
                      intro a hE
                      refine s_val (wk1 hE rfl rfl rfl hc13) rfl rfl hE hp (v := (.bool lp5_3)) (ex_load rfl hE rfl (fun w hw => run_ld1 varty4 (Hp.c 2 rfl 6 rfl w hw))) ?_
                      intro a hE
                      refine s_val (wk1 hE rfl rfl rfl hc13) rfl rfl hE hp (v := (.bool (!lp5_3))) (ex_not rfl hE rfl) ?_
                      intro a hE
                      refine s_val (wk0 rfl) rfl rfl hE hp (v := (.bool (!lp5_3))) (ex_pick1 rfl hE rfl hc13 rfl) ?_
                      intro a hE
                      have hE := hE.eqv (v' := (.bool ((decide (lp5_0 < (lp5_1.length : Int))) && (!lp5_3)))) (by rw [hc13]; rfl)
                      exact s_nil ⟨hE.cut ⟨rfl, rfl, rfl, trivial⟩, hp⟩
                    ·
                      refine s_skip (wk2 hE rfl rfl rfl hc13) rfl rfl hE ?_
                      intro a hE
                      refine s_skip (wk2 hE rfl rfl rfl hc13) rfl rfl hE ?_
                      intro a hE
                      refine s_skip (wk2 hE rfl rfl rfl hc13) rfl rfl hE ?_
                      intro a hE
                      refine s_skip (wk2 hE rfl rfl rfl hc13) rfl rfl hE ?_
                      intro a hE
                      refine s_skip (wk2 hE rfl rfl rfl hc13) rfl rfl hE ?_
                      intro a hE
                      refine s_val (wk0 rfl) rfl rfl hE hp (v := (.bool false)) (ex_pick0 rfl hE rfl hc13 rfl) ?_
                      intro a hE
                      have hE := hE.eqv (v' := (.bool ((decide (lp5_0 < (lp5_1.length : Int))) && (!lp5_3)))) (by rw [hc13]; rfl)
                      exact s_nil ⟨hE.cut ⟨rfl, rfl, rfl, trivial⟩, hp⟩
                  · rintro a w ⟨hE, hp⟩
                    refine s_nil ?_
                    refine k_if hE rfl (fun hc14 => ?_) (fun hc14 => ?_)
                    · replace hl5 := (it hc14).symm.trans hl5
                      refine k_skip ?_
                      refine k_seq ?_
                      refine k_plain ?_
                      refine k_seq ?_
                      refine k_quiet (by kernel_rfl) (by kernel_rfl) hp ?_
                      refine q_val (wk0 rfl) rfl rfl hE (v := (.pointer (some ⟨y6, 0, none⟩))) (ex_move rfl hE rfl) ?_
                      intro a hE
                      refine q_val (wk0 rfl) rfl rfl hE (v := (.pointer (some ⟨y6, 0, none⟩))) (ex_nil rfl hE rfl) ?_
                      intro a hE
                      refine q_val (wk0 rfl) rfl rfl hE (v := (.pointer (some ⟨y6, 3, none⟩))) (ex_field rfl hE rfl (fldty74_2 _ _)) ?_
                      intro a hE
                      refine q_val (wk0 rfl) rfl rfl hE (v := w5) (ex_load rfl hE rfl (fun w hw => run_ld1 varty22 (Hp.c 2 rfl 3 rfl w hw))) ?_
                      intro a hE
                      refine q_val (wk0 rfl) rfl rfl hE (v := (.pointer (some ⟨y6, 0, none⟩))) (ex_move rfl hE rfl) ?_
                      intro a hE
                      refine q_val (wk0 rfl) rfl rfl hE (v := (.pointer (some ⟨y6, 0, none⟩))) (ex_nil rfl hE rfl) ?_
                      intro a hE
                      refine q_val (wk0 rfl) rfl rfl hE (v := (.pointer (some ⟨y6, 5, none⟩))) (ex_field rfl hE rfl (fldty74_4 _ _)) ?_
                      intro a hE
                      refine q_val (wk0 rfl) rfl rfl hE (v := w25) (ex_load rfl hE rfl (fun w hw => run_ld1 varty25 (Hp.c 2 rfl 5 rfl w hw))) ?_
                      intro a hE
                      refine q_val (wk0 rfl) rfl rfl hE (v := (.int .i64 lp5_0)) (ex_move rfl hE rfl) ?_
                      intro a hE
                      obtain ⟨x25, ex25, hl5⟩ := bnd hl5
                      obtain ⟨b27, b27o, b27r, b27v, b27f⟩ := OwnSl.at hp 0 rfl slty25 ex25
                      have b27f : ∀ (j : Nat) (u : Value), ([(.int .i64 x25)] : List Value)[j]? = some u → ∀ ρ' L' w, Hp Z ρ' (OwnSl 3 w25 lp5_1 :: L') w → w.cell? ⟨b27, b27o + j, none⟩ = some u := b27f
                      refine q_val (wk0 rfl) rfl rfl hE (v := (.pointer (some ⟨b27, b27o, none⟩))) (ex_index rfl hE rfl rfl b27r) ?_
                      intro a hE
                      refine q_val (wk0 rfl) rfl rfl hE (v := (.int .i64 x25)) (ex_load rfl hE rfl (fun w hw => run_ld1 varty3 (b27f 0 _ rfl _ _ w (hw.get 0 rfl)))) ?_
                      intro a hE
                      obtain ⟨x26, ex26, hl5⟩ := bnd hl5
                      refine q_val (wk0 rfl) rfl rfl hE (v := (.int .i64 x26)) (ex_neg rfl hE rfl (inK_some ex26)) ?_
                      intro a hE
                      obtain ⟨x27, ex27, hl5⟩ := bnd hl5
                      refine q_call (wk0 rfl) rfl rfl hE rfl [(.int .i64 x26)] ⟨rfl, trivial⟩ ent56 (v := (.int .i64 x27)) (fun w hw => Calls.mono (c_cnf_index (Tabs.mono hT (PH.le_un _ k1)) x26 hw x27 ex27) fun e w' ⟨v, he, hv, hh⟩ => ⟨by rw [he, hv], hh⟩) ?_
                      intro a hE
                      obtain ⟨x28, ex28, hl5⟩ := bnd hl5
                      obtain ⟨b28, b28o, b28c, b28r, b28k, b28f⟩ := RoSl.at f1 slty22 ex28
                      obtain ⟨vb28, rfl, hb28⟩ := b28k
                      have b28f : AtP (ρ.un k1) b28 b28o [vb28] := b28f
                      refine q_val (wk0 rfl) rfl rfl hE (v := (.pointer (some ⟨b28, b28o, none⟩))) (ex_index rfl hE rfl rfl b28r) ?_
                      intro a hE
                      refine q_val (wk0 rfl) rfl rfl hE (v := vb28) (ex_load rfl hE rfl (fun w hw => run_ld1 varty25 (b28f.c 0 rfl w hw))) ?_
                      intro a hE
                      refine q_val (wk0 rfl) rfl rfl hE (v := (.int .i64 (x28.length : Int))) (ex_len rfl hE rfl (RoSl.len hb28 slty25)) ?_
                      intro a hE
                      refine q_val (wk0 rfl) rfl rfl hE (v := (.int .i64 0)) (ex_move rfl hE rfl) ?_
                      intro a hE
                      refine q_nil fun w hp => ?_
                      have hp : Hp Z (ρ.un k1) (_ :: _ :: _ :: _ :: _ :: L) w := hp
                      obtain ⟨b29, hc15, hl5⟩ := bnd hl5
                      refine k_block (fun a w => ∃ (w25 : Value) (w13 : Value) (w4 : Value), Env 181 [(7, (.pointer (some ⟨y6, 0, none⟩))), (15, (.int .i64 lp5_0))] a ∧ Hp Z (ρ.un k1) (OwnSl 3 w25 b29.1 :: OwnSl 3 w13 b29.2.1 :: Pt y6 (.cells #[(.int .i64 p0.vars), vp0_clauses, w4, w5, w13, w25, (.bool b29.2.2.1)] 74 (0, 0)) :: OwnSl 3 w4 b29.2.2.2 :: Pt b1 (.cells #[(.int .i64 p0.vars), vp0_clauses] 24 (0, 0)) :: L) w) ?_ ?_
                      · refine k_loop hc15 (fun s a w => ∃ (w25 : Value) (w13 : Value) (w4 : Value), Env 181 [(7, (.pointer (some ⟨y6, 0, none⟩))), (15, (.int .i64 lp5_0)), (141, vb28), (142, (.int .i64 (x28.length : Int))), (143, (.int .i64 s.1))] a ∧ Hp Z (ρ.un k1) (OwnSl 3 w25 s.2.1 :: OwnSl 3 w13 s.2.2.1 :: Pt y6 (.cells #[(.int .i64 p0.vars), vp0_clauses, w4, w5, w13, w25, (.bool s.2.2.2.1)] 74 (0, 0)) :: OwnSl 3 w4 s.2.2.2.2 :: Pt b1 (.cells #[(.int .i64 p0.vars), vp0_clauses] 24 (0, 0)) :: L) w) ?_ ?_
                        · exact ⟨_, _, _, hE.cut ⟨rfl, rfl, rfl, rfl, rfl, trivial⟩, hp⟩
                        · rintro ⟨lp6_0, lp6_1, lp6_2, lp6_3, lp6_4⟩ st a w ⟨w25, w13, w4, hE, hp⟩ hl6
                          have hE : Env 181 [(7, (.pointer (some ⟨y6, 0, none⟩))), (15, (.int .i64 lp5_0)), (141, vb28), (142, (.int .i64 (x28.length : Int))), (143, (.int .i64 lp6_0))] a := hE
                          have hp : Hp Z (ρ.un k1) (OwnSl 3 w25 lp6_1 :: OwnSl 3 w13 lp6_2 :: Pt y6 (.cells #[(.int .i64 p0.vars), vp0_clauses, w4, w5, w13, w25, (.bool lp6_3)] 74 (0, 0)) :: OwnSl 3 w4 lp6_4 :: _ :: L) w := hp
                          replace hl6 : m_cnf_Propagate_lp6 p0 b5 x28 lp6_0 lp6_1 lp6_2 lp6_3 lp6_4 = some st := hl6
                          unfold m_cnf_Propagate_lp6 at hl6
                          refine k_seq ?_
                          refine k_region ?_
                          refine s_val (wk0 rfl) rfl rfl hE hp (v := (.bool (decide (lp6_0 < (x28.length : Int))))) (ex_lss rfl hE rfl rfl) ?_
                          intro a hE
                          refine s_nil ?_
                          refine k_seq ?_
                          refine k_if hE rfl (fun hc16 => ?_) (fun hc16 => ?_)
                          · replace hl6 := (it hc16).symm.trans hl6
                            refine k_skip ?_
                            refine k_seq ?_
                            refine k_plain ?_
                            refine k_seq ?_
                            refine k_region ?_
                            obtain ⟨x29, ex29, hl6⟩ := bnd hl6
                            obtain ⟨b30, b30o, b30c, b30r, b30k, b30f⟩ := RoSl.at hb28 slty25 ex29
                            obtain rfl : b30c = Enc.enc x29 := b30k
                            have b30f : AtP (ρ.un k1) b30 b30o [(.int .i64 x29)] := b30f
                            refine s_val (wk0 rfl) rfl rfl hE hp (v := (.pointer (some ⟨b30, b30o, none⟩))) (ex_index rfl hE rfl rfl b30r) ?_
                            intro a hE
                            refine s_val (wk0 rfl) rfl rfl hE hp (v := (.int .i64 x29)) (ex_load rfl hE rfl (fun w hw => run_ld1 varty3 (b30f.c 0 rfl w hw))) ?_
                            intro a hE
                            refine s_val (wk0 rfl) rfl rfl hE hp (v := (.int .i64 x29)) (ex_asn rfl hE rfl) ?_
                            intro a hE
                            refine s_nil ?_
                            have hE := hE.cut (E' := [(7, (.pointer (some ⟨y6, 0, none⟩))), (15, (.int .i64 lp5_0)), (17, (.int .i64 x29)), (141, vb28), (142, (.int .i64 (x28.length : Int))), (143, (.int .i64 lp6_0))]) ⟨rfl, rfl, rfl, rfl, rfl, rfl, trivial⟩
                            refine k_seq ?_
                            refine k_region ?_
                            refine s_val (wk0 rfl) rfl rfl hE hp (v := (.pointer (some ⟨y6, 0, none⟩))) (ex_move rfl hE rfl) ?_
                            intro a hE
                            refine s_val (wk0 rfl) rfl rfl hE hp (v := (.pointer (some ⟨y6, 0, none⟩))) (ex_nil rfl hE rfl) ?_
                            intro a hE
                            refine s_val (wk0 rfl) rfl rfl hE hp (v := (.pointer (some ⟨y6, 4, none⟩))) (ex_field rfl hE rfl (fldty74_3 _ _)) ?_
                            intro a hE
                            refine s_val (wk0 rfl) rfl rfl hE hp (v := w13) (ex_load rfl hE rfl (fun w hw => run_ld1 varty25 (Hp.c 2 rfl 4 rfl w hw))) ?_
                            intro a hE
                            refine s_val (wk0 rfl) rfl rfl hE hp (v := (.int .i64 x29)) (ex_move rfl hE rfl) ?_
                            intro a hE
                            obtain ⟨x30, ex30, hl6⟩ := bnd hl6
                            obtain ⟨b31, b31o, b31r, b31v, b31f⟩ := OwnSl.at hp 1 rfl slty25 ex30
                            have b31f : ∀ (j : Nat) (u : Value), ([(.int .i64 x30)] : List Value)[j]? = some u → ∀ ρ' L' w, Hp Z ρ' (OwnSl 3 w13 lp6_2 :: L') w → w.cell? ⟨b31, b31o + j, none⟩ = some u := b31f
                            refine s_val (wk0 rfl) rfl rfl hE hp (v := (.pointer (some ⟨b31, b31o, none⟩))) (ex_index rfl hE rfl rfl b31r) ?_
                            intro a hE
                            refine s_val (wk0 rfl) rfl rfl hE hp (v := (.int .i64 x30)) (ex_load rfl hE rfl (fun w hw => run_ld1 varty3 (b31f 0 _ rfl _ _ w (hw.get 1 rfl)))) ?_
                            intro a hE
                            obtain ⟨x31, ex31, hl6⟩ := bnd hl6
                            refine s_val (wk0 rfl) rfl rfl hE hp (v := (.int .i64 x31)) (ex_sub rfl hE rfl rfl (inK_some ex31)) ?_
                            intro a hE
                            obtain ⟨x32, ex32, hl6⟩ := bnd hl6
                            obtain ⟨b32, b32o, b32r, b32v, b32f⟩ := OwnSl.at hp 1 rfl slty25 ex32
                            have b32f : ∀ (j : Nat) (u : Value), ([(.int .i64 x32)] : List Value)[j]? = some u → ∀ ρ' L' w, Hp Z ρ' (OwnSl 3 w13 lp6_2 :: L') w → w.cell? ⟨b32, b32o + j, none⟩ = some u := b32f
                            refine s_val (wk0 rfl) rfl rfl hE hp (v := (.pointer (some ⟨b32, b32o, none⟩))) (ex_index rfl hE rfl rfl b32r) ?_
                            intro a hE
                            refine s_stel (wk0 rfl) rfl hE hp rfl rfl rfl 1 rfl ex32 b32v 0 (e' := x31) varty3.size_ rfl rfl rfl ⟨rfl, rfl⟩ ?_
                            intro w hp
                            have hp : Hp Z (ρ.un k1) (_ :: OwnSl 3 w13 (lp6_2.set x29.toNat x31) :: _ :: _ :: _ :: L) w := hp
                            refine s_nil ?_
                            refine k_seq ?_
                            refine k_region ?_
                            refine s_val (wk0 rfl) rfl rfl hE hp (v := (.pointer (some ⟨y6, 0, none⟩))) (ex_move rfl hE rfl) ?_
                            intro a hE
                            refine s_val (wk0 rfl) rfl rfl hE hp (v := (.pointer (some ⟨y6, 0, none⟩))) (ex_nil rfl hE rfl) ?_
                            intro a hE
                            refine s_val (wk0 rfl) rfl rfl hE hp (v := (.pointer (some ⟨y6, 4, none⟩))) (ex_field rfl hE rfl (fldty74_3 _ _)) ?_
                            intro a hE
                            refine s_val (wk0 rfl) rfl rfl hE hp (v := w13) (ex_load rfl hE rfl (fun w hw => run_ld1 varty25 (Hp.c 2 rfl 4 rfl w hw))) ?_
                            intro a hE
                            refine s_val (wk0 rfl) rfl rfl hE hp (v := (.int .i64 x29)) (ex_move rfl hE rfl) ?_
                            intro a hE
                            obtain ⟨x33, ex33, hl6⟩ := bnd hl6
                            obtain ⟨b33, b33o, b33r, b33v, b33f⟩ := OwnSl.at hp 1 rfl slty25 ex33
                            have b33f : ∀ (j : Nat) (u : Value), ([(.int .i64 x33)] : List Value)[j]? = some u → ∀ ρ' L' w, Hp Z ρ' (OwnSl 3 w13 (lp6_2.set x29.toNat x31) :: L') w → w.cell? ⟨b33, b33o + j, none⟩ = some u := b33f
                            refine s_val (wk0 rfl) rfl rfl hE hp (v := (.pointer (some ⟨b33, b33o, none⟩))) (ex_index rfl hE rfl rfl b33r) ?_
                            intro a hE
                            refine s_val (wk0 rfl) rfl rfl hE hp (v := (.int .i64 x33)) (ex_load rfl hE rfl (fun w hw => run_ld1 varty3 (b33f 0 _ rfl _ _ w (hw.get 1 rfl)))) ?_
                            intro a hE
                            refine s_val (wk0 rfl) rfl rfl hE hp (v := (.bool (decide (x33 < 2)))) (ex_lss rfl hE rfl rfl) ?_
                            intro a hE
                            refine s_nil ?_
                            refine k_if hE rfl (fun hc17 => ?_) (fun hc17 => ?_)
                            · replace hl6 := (it hc17).symm.trans hl6
                              refine k_region ?_
                              refine s_val (wk0 rfl) rfl rfl hE hp (v := (.pointer (some ⟨y6, 0, none⟩))) (ex_move rfl hE rfl) ?_
                              intro a hE
                              refine s_val (wk0 rfl) rfl rfl hE hp (v := (.int .i64 x29)) (ex_move rfl hE rfl) ?_
                              intro a hE
                              obtain ⟨x34, ex34, hl6⟩ := bnd hl6
                              refine s_call (wk0 rfl) rfl rfl hE rfl [(.pointer (some ⟨y6, 0, none⟩)), (.int .i64 x29)] ⟨rfl, rfl, trivial⟩ ent58 (c_cnf_set_look (Tabs.mono hT (PH.le_un _ k1)) y6 (PSet.mk p0 lp6_4 b5.2 (lp6_2.set x29.toNat x31) lp6_1 lp6_3) vp0_clauses (RoSl.mono hp0_clauses (PH.le_un _ k1)) w4 w5 f1 w13 w25 x29 (((hp.get 1 rfl).get 3 rfl).get 3 rfl) x34 ex34) Ret.ret ?_
                              intro v a w hR hE
                              obtain ⟨vz3_value, vz3_left, vz3_list, rfl, hp⟩ := Ret.of hR
                              have hp : Hp Z (ρ.un k1) (Pt y6 (.cells #[(.int .i64 p0.vars), vp0_clauses, vz3_value, w5, vz3_left, vz3_list, (.bool x34.fails)] 74 (0, 0)) :: OwnSl 3 vz3_value x34.value :: OwnSl 3 vz3_left x34.left :: OwnSl 3 vz3_list x34.list :: _ :: L) w := hp
                              refine s_nil ?_
                              have hE := hE.cut (E' := [(7, (.pointer (some ⟨y6, 0, none⟩))), (15, (.int .i64 lp5_0)), (141, vb28), (142, (.int .i64 (x28.length : Int))), (143, (.int .i64 lp6_0))]) ⟨rfl, rfl, rfl, rfl, rfl, trivial⟩
                              refine k_region ?_
                              obtain ⟨x35, ex35, hl6⟩ := bnd hl6
                              refine s_val (wk0 rfl) rfl rfl hE hp (v := (.int .i64 x35)) (ex_add rfl hE rfl rfl (inK_some ex35)) ?_
                              intro a hE
                              refine s_val (wk0 rfl) rfl rfl hE hp (v := (.int .i64 x35)) (ex_move rfl hE rfl) ?_
                              intro a hE
                              refine s_nil ?_
                              exact ⟨_, (Option.some.inj hl6).symm, _, _, _, hE.cut ⟨rfl, rfl, rfl, rfl, rfl, trivial⟩, (((((hp.get 4 rfl).get 2 rfl).get 2 rfl).get 3 rfl).get 4 rfl)⟩
                            · replace hl6 := (ie hc17).symm.trans hl6
                              refine k_skip ?_
                              refine k_region ?_
                              obtain ⟨x36, ex36, hl6⟩ := bnd hl6
                              refine s_val (wk0 rfl) rfl rfl hE hp (v := (.int .i64 x36)) (ex_add rfl hE rfl rfl (inK_some ex36)) ?_
                              intro a hE
                              refine s_val (wk0 rfl) rfl rfl hE hp (v := (.int .i64 x36)) (ex_move rfl hE rfl) ?_
                              intro a hE
                              refine s_nil ?_
                              exact ⟨_, (Option.some.inj hl6).symm, _, _, _, hE.cut ⟨rfl, rfl, rfl, rfl, rfl, trivial⟩, hp⟩
                          · replace hl6 := (ie hc16).symm.trans hl6
                            refine k_exit ?_
                            refine ⟨_, (Option.some.inj hl6).symm, fun hbb => ?_⟩
                            subst hbb
                            exact ⟨_, _, _, hE.cut ⟨rfl, rfl, trivial⟩, hp⟩
                      · rintro a w ⟨w25, w13, w4, hE, hp⟩
                        refine k_region ?_
                        refine s_val (wk0 rfl) rfl rfl hE hp (v := (.int .i64 lp5_0)) (ex_move rfl hE rfl) ?_
                        intro a hE
                        obtain ⟨x37, ex37, hl5⟩ := bnd hl5
                        refine s_val (wk0 rfl) rfl rfl hE hp (v := (.int .i64 x37)) (ex_add rfl hE rfl rfl (inK_some ex37)) ?_
                        intro a hE
                        refine s_val (wk0 rfl) rfl rfl hE hp (v := (.int .i64 x37)) (ex_asn rfl hE rfl) ?_
                        intro a hE
                        refine s_nil ?_
                        exact ⟨_, (Option.some.inj hl5).symm, _, _, _, hE.cut ⟨rfl, rfl, trivial⟩, hp⟩
                    · replace hl5 := (ie hc14).symm.trans hl5
                      refine k_exit ?_
                      refine ⟨_, (Option.some.inj hl5).symm, fun hbb => ?_⟩
                      subst hbb
                      exact ⟨_, _, _, hE.cut ⟨rfl, trivial⟩, hp⟩
              · rintro a w ⟨w25, w13, w4, hE, hp⟩
                refine k_seq ?_
                refine k_seq ?_
                refine k_region ?_
                refine s_val (wk0 rfl) rfl rfl hE hp (v := (.pointer (some ⟨y6, 0, none⟩))) (ex_move rfl hE rfl) ?_
                intro a hE
                refine s_val (wk0 rfl) rfl rfl hE hp (v := (.pointer (some ⟨y6, 0, none⟩))) (ex_nil rfl hE rfl) ?_
                intro a hE
                refine s_val (wk0 rfl) rfl rfl hE hp (v := (.pointer (some ⟨y6, 6, none⟩))) (ex_field rfl hE rfl (fldty74_5 _ _)) ?_
                intro a hE
                refine s_val (wk0 rfl) rfl rfl hE hp (v := (.bool b26.2.2.1)) (ex_load rfl hE rfl (fun w hw => run_ld1 varty4 (Hp.c 2 rfl 6 rfl w hw))) ?_
                intro a hE
                refine s_nil ?_
                refine k_if hE rfl (fun hc18 => ?_) (fun hc18 => ?_)
                · replace hm := (it hc18).symm.trans hm
                  refine k_seq ?_
                  refine k_region ?_
                  refine s_val (wk0 rfl) rfl rfl hE hp (v := (.slice none 0 0)) (ex_asn rfl hE rfl) ?_
                  intro a hE
                  refine s_val (wk0 rfl) rfl rfl hE hp (v := (.bool false)) (ex_asn rfl hE rfl) ?_
                  intro a hE
                  refine s_val (wk0 rfl) rfl rfl hE hp (v := (.int .i64 0)) (ex_asn rfl hE rfl) ?_
                  intro a hE
                  refine s_nil ?_
                  refine k_ret ?_
                  have hp := hp.emp (OwnSl.nil (α := Int) 3)
                  have hp : Hp Z (ρ.un k1) (OwnSl 3 (.slice none 0 0) ([] : List Int) :: OwnSl 3 w25 b26.1 :: OwnSl 3 w13 b26.2.1 :: Pt y6 (.cells #[(.int .i64 p0.vars), vp0_clauses, w4, w5, w13, w25, (.bool b26.2.2.1)] 74 (0, 0)) :: OwnSl 3 w4 b26.2.2.2 :: _ :: L) w := hp
                  obtain rfl := Option.some.inj hm
                  exact ret3 hE rfl rfl rfl rfl ⟨_, rfl, _, rfl, (((((((((((hp.get 5 rfl).drop).get 4 rfl).drop).get 3 rfl).drop).get 2 rfl).drop).get 1 rfl).drop).less (PH.le_un _ k1))⟩
                · replace hm := (ie hc18).symm.trans hm
                  refine k_skip ?_
                  refine k_seq ?_
                  refine k_region ?_
                  refine s_val (wk0 rfl) rfl rfl hE hp (v := (.pointer (some ⟨y6, 0, none⟩))) (ex_move rfl hE rfl) ?_
                  intro a hE
                  refine s_val (wk0 rfl) rfl rfl hE hp (v := (.pointer (some ⟨y6, 0, none⟩))) (ex_nil rfl hE rfl) ?_
                  intro a hE
                  refine s_val (wk0 rfl) rfl rfl hE hp (v := (.pointer (some ⟨y6, 5, none⟩))) (ex_field rfl hE rfl (fldty74_4 _ _)) ?_
                  intro a hE
                  refine s_val (wk0 rfl) rfl rfl hE hp (v := w25) (ex_load rfl hE rfl (fun w hw => run_ld1 varty25 (Hp.c 2 rfl 5 rfl w hw))) ?_
                  intro a hE
                  obtain ⟨x38, ex38, hm⟩ := bnd hm
                  refine s_call (wk0 rfl) rfl rfl hE rfl [w25, (.func (.func 59) #[] #[])] ⟨rfl, rfl, trivial⟩ ent42 (c_sortV b26.1 w25 hp x38 ex38) Ret.ret ?_
                  intro v a w hR hE
                  obtain ⟨rfl, hp⟩ := Ret.of hR
                  have hp : Hp Z (ρ.un k1) (OwnSl 3 w25 x38 :: OwnSl 3 w13 b26.2.1 :: Pt y6 (.cells #[(.int .i64 p0.vars), vp0_clauses, w4, w5, w13, w25, (.bool b26.2.2.1)] 74 (0, 0)) :: OwnSl 3 w4 b26.2.2.2 :: _ :: L) w := hp
                  refine s_nil ?_
                  refine k_seq ?_
                  refine k_region ?_
                  refine s_val (wk0 rfl) rfl rfl hE hp (v := (.pointer (some ⟨y6, 0, none⟩))) (ex_move rfl hE rfl) ?_
                  intro a hE
                  refine s_val (wk0 rfl) rfl rfl hE hp (v := (.pointer (some ⟨y6, 0, none⟩))) (ex_nil rfl hE rfl) ?_
                  intro a hE
                  refine s_val (wk0 rfl) rfl rfl hE hp (v := (.pointer (some ⟨y6, 5, none⟩))) (ex_field rfl hE rfl (fldty74_4 _ _)) ?_
                  intro a hE
                  refine s_val (wk0 rfl) rfl rfl hE hp (v := w25) (ex_load rfl hE rfl (fun w hw => run_ld1 varty25 (Hp.c 2 rfl 5 rfl w hw))) ?_
                  intro a hE
                  refine s_val (wk0 rfl) rfl rfl hE hp (v := w25) (ex_asn rfl hE rfl) ?_
                  intro a hE
                  refine s_val (wk0 rfl) rfl rfl hE hp (v := (.bool true)) (ex_asn rfl hE rfl) ?_
                  intro a hE
                  refine s_val (wk0 rfl) rfl rfl hE hp (v := (.int .i64 0)) (ex_asn rfl hE rfl) ?_
                  intro a hE
                  refine s_nil ?_
                  have hE := hE.cut (E' := [(4, w25), (5, (.bool true)), (6, (.int .i64 0))]) ⟨rfl, rfl, rfl, trivial⟩
                  refine k_ret ?_
                  obtain rfl := Option.some.inj hm
                  exact ret3 hE rfl rfl rfl rfl ⟨_, rfl, _, rfl, (((((((((hp.get 4 rfl).drop).get 3 rfl).drop).get 2 rfl).drop).get 1 rfl).drop).less (PH.le_un _ k1))⟩
end Go.Proofs.YtelioaepnpnojaaGreatDoor

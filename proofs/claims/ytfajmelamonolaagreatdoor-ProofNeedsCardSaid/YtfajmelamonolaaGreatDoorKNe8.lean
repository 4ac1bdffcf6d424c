/- The code goes as its model: (*assessor/proof.engine).of, (*assessor/proof.engine).hold, (*assessor/proof.engine).propagate, (*assessor/proof.engine).add, (*asse -/
import Derived.Test.YtfajmelamonolaaGreatDoorKNe4
import Derived.Test.YtfajmelamonolaaGreatDoorKNe7
import Derived.Test.YtfajmelamonolaaGreatDoorKNe6
set_option linter.unusedVariables false
set_option linter.unusedSimpArgs false
namespace Go.Proofs.YtfajmelamonolaaGreatDoor
open Go.RowKit
set_option maxRecDepth 100000 in
set_option maxHeartbeats 4000000 in
theorem c_proof_engine_of {Z : World} {ρ : PH} {L : List Atom} {w : World} {li : Option Int} {ai : Option (Nat × Value)} (hT : Tabs ρ) (bp0 : Nat) (p0 : PEng) (vp0_value : Value) (vp0_trail : Value) (vp0_watches : Value) (utp0_watches : List Sl × List Sl) (p1 : Int) (hp : Hp Z ρ (Pt bp0 (.cells #[vp0_value, vp0_trail, (.int .i64 p0.head), vp0_watches, (.bool p0.fails)] 87 (0, 0)) :: OwnSl 3 vp0_value p0.value :: OwnSl 3 vp0_trail p0.trail :: WTbG 105 107 3 vp0_watches utp0_watches (p0.watches : (List (List Nat) × List (List Int))) li ai :: L) w) (r : Int) (hm : m_proof_engine_of p0 p1 = some r) :
    Calls Tryz.prog 57 #[(.pointer (some ⟨bp0, 0, none⟩)), (.int .i64 p1)] w (Ret fun v w' => v = (.int .i64 r) ∧ Hp Z ρ (Pt bp0 (.cells #[vp0_value, vp0_trail, (.int .i64 p0.head), vp0_watches, (.bool p0.fails)] 87 (0, 0)) :: OwnSl 3 vp0_value p0.value :: OwnSl 3 vp0_trail p0.trail :: WTbG 105 107 3 vp0_watches utp0_watches (p0.watches : (List (List Nat) × List (List Int))) li ai :: L) w') := by
  refine enter (N := 20) Tryz.func57 rfl rfl [(0, (.pointer (some ⟨bp0, 0, none⟩))), (1, (.int .i64 p1))] rfl (argsIn_mem ⟨rfl, rfl, trivial⟩) fun a hE => ?_
  unfold m_proof_engine_of at hm
  refine k_seq ?_
  refine k_region ?_
  refine s_val (wk0 rfl) rfl rfl hE hp (v := (.int .i64 0)) (ex_asn rfl hE rfl) ?_
  intro a hE
  refine s_nil ?_
  refine k_seq ?_
  refine k_seq ?_
  refine k_region ?_
  refine s_val (wk0 rfl) rfl rfl hE hp (v := (.pointer (some ⟨bp0, 0, none⟩))) (ex_move rfl hE rfl) ?_
  intro a hE
  refine s_val (wk0 rfl) rfl rfl hE hp (v := (.pointer (some ⟨bp0, 0, none⟩))) (ex_nil rfl hE rfl) ?_
  intro a hE
  refine s_val (wk0 rfl) rfl rfl hE hp (v := (.pointer (some ⟨bp0, 0, none⟩))) (ex_field rfl hE rfl (fldty87_0 _ _)) ?_
  intro a hE
  refine s_val (wk0 rfl) rfl rfl hE hp (v := vp0_value) (ex_load rfl hE rfl (fun w hw => run_ld1 varty25 (Hp.c 0 rfl 0 rfl w hw))) ?_
  intro a hE
  refine s_val (wk0 rfl) rfl rfl hE hp (v := (.int .i64 p1)) (ex_move rfl hE rfl) ?_
  intro a hE
  refine s_val (wk0 rfl) rfl rfl hE hp (v := (.int .i64 p1)) (ex_move rfl hE rfl) ?_
  intro a hE
  obtain ⟨x1, ex1, hm⟩ := bnd hm
  refine s_val (wk0 rfl) rfl rfl hE hp (v := (.int .i64 x1)) (ex_neg rfl hE rfl (inK_some ex1)) ?_
  intro a hE
  refine s_val (wk0 rfl) rfl rfl hE hp (v := (.int .i64 (max p1 x1))) (ex_max rfl hE rfl rfl) ?_
  intro a hE
  obtain ⟨x2, ex2, hm⟩ := bnd hm
  obtain ⟨b1, b1o, b1r, b1v, b1f⟩ := OwnSl.at hp 1 rfl slty25 ex2
  have b1f : ∀ (j : Nat) (u : Value), ([(.int .i64 x2)] : List Value)[j]? = some u → ∀ ρ' L' w, Hp Z ρ' (OwnSl 3 vp0_value p0.value :: L') w → w.cell? ⟨b1, b1o + j, none⟩ = some u := b1f
  refine s_val (wk0 rfl) rfl rfl hE hp (v := (.pointer (some ⟨b1, b1o, none⟩))) (ex_index rfl hE rfl rfl b1r) ?_
  intro a hE
  refine s_val (wk0 rfl) rfl rfl hE hp (v := (.int .i64 x2)) (ex_load rfl hE rfl (fun w hw => run_ld1 varty3 (b1f 0 _ rfl _ _ w (hw.get 1 rfl)))) ?_
  intro a hE
  refine s_nil ?_
  refine k_plain ?_
  refine k_seq ?_
  refine k_region ?_
  refine s_val (wk0 rfl) rfl rfl hE hp (v := (.bool (decide (x2 = 0)))) (ex_eql rfl hE rfl rfl) ?_
  intro a hE
  refine s_val (wk0 rfl) rfl rfl hE hp (v := (.bool (decide (x2 = 0)))) (ex_asn rfl hE rfl) ?_
  intro a hE
  refine s_nil ?_
  refine k_if hE rfl (fun hc1 => ?_) (fun hc1 => ?_)
  · replace hm := (it hc1).symm.trans hm
    refine k_seq ?_
    refine k_region ?_
    refine s_val (wk0 rfl) rfl rfl hE hp (v := (.int .i64 0)) (ex_asn rfl hE rfl) ?_
    intro a hE
    refine s_nil ?_
    refine k_ret ?_
    obtain rfl := Option.some.inj hm
    exact ret1 hE rfl rfl ⟨_, rfl, rfl, hp⟩
  · replace hm := (ie hc1).symm.trans hm
    refine k_seq ?_
    refine k_region ?_
    refine s_val (wk0 rfl) rfl rfl hE hp (v := (.int .i64 p1)) (ex_move rfl hE rfl) ?_
    intro a hE
    refine s_val (wk0 rfl) rfl rfl hE hp (v := (.bool (decide (x2 = p1)))) (ex_eql rfl hE rfl rfl) ?_
    intro a hE
    refine s_val (wk0 rfl) rfl rfl hE hp (v := (.bool (decide (x2 = p1)))) (ex_asn rfl hE rfl) ?_
    intro a hE
    refine s_nil ?_
    refine k_if hE rfl (fun hc2 => ?_) (fun hc2 => ?_)
    · replace hm := (it hc2).symm.trans hm
      refine k_seq ?_
      refine k_region ?_
      refine s_val (wk0 rfl) rfl rfl hE hp (v := (.int .i64 1)) (ex_asn rfl hE rfl) ?_
      intro a hE
      refine s_nil ?_
      refine k_ret ?_
      obtain rfl := Option.some.inj hm
      exact ret1 hE rfl rfl ⟨_, rfl, rfl, hp⟩
    · replace hm := (ie hc2).symm.trans hm
      refine k_skip ?_
      refine k_seq ?_
      refine k_region ?_
      refine s_val (wk0 rfl) rfl rfl hE hp (v := (.int .i64 (-1))) (ex_asn rfl hE rfl) ?_
      intro a hE
      refine s_nil ?_
      refine k_ret ?_
      obtain rfl := Option.some.inj hm
      exact ret1 hE rfl rfl ⟨_, rfl, rfl, hp⟩
set_option maxRecDepth 100000 in
set_option maxHeartbeats 4000000 in
theorem c_proof_engine_hold {Z : World} {ρ : PH} {L : List Atom} {w : World} {li : Option Int} {ai : Option (Nat × Value)} (hT : Tabs ρ) (bp0 : Nat) (p0 : PEng) (vp0_value : Value) (vp0_trail : Value) (vp0_watches : Value) (utp0_watches : List Sl × List Sl) (p1 : Int) (hp : Hp Z ρ (Pt bp0 (.cells #[vp0_value, vp0_trail, (.int .i64 p0.head), vp0_watches, (.bool p0.fails)] 87 (0, 0)) :: OwnSl 3 vp0_value p0.value :: OwnSl 3 vp0_trail p0.trail :: WTbG 105 107 3 vp0_watches utp0_watches (p0.watches : (List (List Nat) × List (List Int))) li ai :: L) w) (r : PEng) (hm : m_proof_engine_hold p0 p1 = some r) :
    Calls Tryz.prog 58 #[(.pointer (some ⟨bp0, 0, none⟩)), (.int .i64 p1)] w (Ret fun v w' => ∃ (vzp0_value : Value) (vzp0_trail : Value), v = .tuple #[] ∧ Hp Z ρ (Pt bp0 (.cells #[vzp0_value, vzp0_trail, (.int .i64 r.head), vp0_watches, (.bool r.fails)] 87 (0, 0)) :: OwnSl 3 vzp0_value r.value :: OwnSl 3 vzp0_trail r.trail :: WTbG 105 107 3 vp0_watches utp0_watches (p0.watches : (List (List Nat) × List (List Int))) li ai :: L) w') := by
  refine enter (N := 24) Tryz.func58 rfl rfl [(0, (.pointer (some ⟨bp0, 0, none⟩))), (1, (.int .i64 p1))] rfl (argsIn_mem ⟨rfl, rfl, trivial⟩) fun a hE => ?_
  unfold m_proof_engine_hold at hm
  refine k_seq ?_
  refine k_region ?_
  refine s_val (wk0 rfl) rfl rfl hE hp (v := (.pointer (some ⟨bp0, 0, none⟩))) (ex_move rfl hE rfl) ?_
  intro a hE
  refine s_val (wk0 rfl) rfl rfl hE hp (v := (.pointer (some ⟨bp0, 0, none⟩))) (ex_nil rfl hE rfl) ?_
  intro a hE
  refine s_val (wk0 rfl) rfl rfl hE hp (v := (.pointer (some ⟨bp0, 0, none⟩))) (ex_field rfl hE rfl (fldty87_0 _ _)) ?_
  intro a hE
  refine s_val (wk0 rfl) rfl rfl hE hp (v := vp0_value) (ex_load rfl hE rfl (fun w hw => run_ld1 varty25 (Hp.c 0 rfl 0 rfl w hw))) ?_
  intro a hE
  refine s_val (wk0 rfl) rfl rfl hE hp (v := (.int .i64 p1)) (ex_move rfl hE rfl) ?_
  intro a hE
  refine s_val (wk0 rfl) rfl rfl hE hp (v := (.int .i64 p1)) (ex_move rfl hE rfl) ?_
  intro a hE
  obtain ⟨x1, ex1, hm⟩ := bnd hm
  refine s_val (wk0 rfl) rfl rfl hE hp (v := (.int .i64 x1)) (ex_neg rfl hE rfl (inK_some ex1)) ?_
  intro a hE
  refine s_val (wk0 rfl) rfl rfl hE hp (v := (.int .i64 (max p1 x1))) (ex_max rfl hE rfl rfl) ?_
  intro a hE
  refine s_val (wk0 rfl) rfl rfl hE hp (v := (.int .i64 p1)) (ex_move rfl hE rfl) ?_
  intro a hE
  obtain ⟨x2, ex2, hm⟩ := bnd hm
  obtain ⟨b1, b1o, b1r, b1v, b1f⟩ := OwnSl.at hp 1 rfl slty25 ex2
  have b1f : ∀ (j : Nat) (u : Value), ([(.int .i64 x2)] : List Value)[j]? = some u → ∀ ρ' L' w, Hp Z ρ' (OwnSl 3 vp0_value p0.value :: L') w → w.cell? ⟨b1, b1o + j, none⟩ = some u := b1f
  refine s_val (wk0 rfl) rfl rfl hE hp (v := (.pointer (some ⟨b1, b1o, none⟩))) (ex_index rfl hE rfl rfl b1r) ?_
  intro a hE
  refine s_stel (wk0 rfl) rfl hE hp rfl rfl rfl 1 rfl ex2 b1v 0 (e' := p1) varty3.size_ rfl rfl rfl ⟨rfl, rfl⟩ ?_
  intro w hp
  have hp : Hp Z ρ (Pt bp0 (.cells #[vp0_value, vp0_trail, (.int .i64 p0.head), vp0_watches, (.bool p0.fails)] 87 (0, 0)) :: OwnSl 3 vp0_value (p0.value.set (max p1 x1).toNat p1) :: OwnSl 3 vp0_trail p0.trail :: WTbG 105 107 3 vp0_watches utp0_watches (p0.watches : (List (List Nat) × List (List Int))) li ai :: L) w := hp
  refine s_nil ?_
  refine k_region ?_
  refine s_val (wk0 rfl) rfl rfl hE hp (v := (.pointer (some ⟨bp0, 0, none⟩))) (ex_move rfl hE rfl) ?_
  intro a hE
  refine s_val (wk0 rfl) rfl rfl hE hp (v := (.pointer (some ⟨bp0, 0, none⟩))) (ex_move rfl hE rfl) ?_
  intro a hE
  refine s_val (wk0 rfl) rfl rfl hE hp (v := (.pointer (some ⟨bp0, 0, none⟩))) (ex_nil rfl hE rfl) ?_
  intro a hE
  refine s_val (wk0 rfl) rfl rfl hE hp (v := (.pointer (some ⟨bp0, 1, none⟩))) (ex_field rfl hE rfl (fldty87_1 _ _)) ?_
  intro a hE
  refine s_val (wk0 rfl) rfl rfl hE hp (v := vp0_trail) (ex_load rfl hE rfl (fun w hw => run_ld1 varty25 (Hp.c 0 rfl 1 rfl w hw))) ?_
  intro a hE
  refine s_val (wk0 rfl) rfl rfl hE hp (v := (.int .i64 p1)) (ex_move rfl hE rfl) ?_
  intro a hE
  refine s_lit (wk0 rfl) rfl rfl hE hp rfl [(0, (.int .i64 p1))] ⟨⟨rfl, rfl⟩, trivial⟩ [(.int .i64 p1)] 3 (fun w => by simp [Instr.buildSlice, Instr.fill, Value.cells, go_sem]) ?_
  intro a w b2 hE hp
  have hp : Hp Z ρ (Pt b2 (.cells #[(.int .i64 p1)] 3 (0, 0)) :: _ :: _ :: _ :: _ :: L) w := hp
  obtain ⟨x3, ex3, hm⟩ := bnd hm
  refine s_app (wk0 rfl) rfl rfl hE hp rfl slty25 rfl rfl 3 rfl rfl (l2 := [p1]) rfl (fun j u hj => by have := Hp.cN 0 rfl 0 _ (sub_all rfl) w hp j u hj; simpa using this) ex3 ?_
  intro v1 a w hE hp
  have hp : Hp Z ρ (_ :: _ :: _ :: OwnSl 3 v1 x3 :: _ :: L) w := hp
  refine s_val (wk0 rfl) rfl rfl hE hp (v := (.pointer (some ⟨bp0, 0, none⟩))) (ex_nil rfl hE rfl) ?_
  intro a hE
  refine s_val (wk0 rfl) rfl rfl hE hp (v := (.pointer (some ⟨bp0, 1, none⟩))) (ex_field rfl hE rfl (fldty87_1 _ _)) ?_
  intro a hE
  refine s_store1 (wk0 rfl) rfl hE hp rfl rfl rfl 1 rfl varty25.size_ (OwnSl.cells hp 3 rfl) (OwnSl.one hp 3 rfl) rfl [vp0_value, v1, (.int .i64 p0.head), vp0_watches, (.bool p0.fails)] rfl ?_
  intro w hp
  have hp : Hp Z ρ (_ :: Pt bp0 (.cells #[vp0_value, v1, (.int .i64 p0.head), vp0_watches, (.bool p0.fails)] 87 (0, 0)) :: _ :: _ :: _ :: L) w := hp
  refine s_nil ?_
  obtain rfl := Option.some.inj hm
  exact ret0n hE rfl ⟨_, rfl, _, _, rfl, (hp.drop)⟩
set_option maxRecDepth 100000 in
set_option maxHeartbeats 4000000 in
theorem c_proof_engine_propagate {Z : World} {ρ : PH} {L : List Atom} {w : World} (hT : Tabs ρ) (bp0 : Nat) (p0 : PEng) (vp0_value : Value) (vp0_trail : Value) (vp0_watches : Value) (utp0_watches : List Sl × List Sl) (hp : Hp Z ρ (Pt bp0 (.cells #[vp0_value, vp0_trail, (.int .i64 p0.head), vp0_watches, (.bool p0.fails)] 87 (0, 0)) :: OwnSl 3 vp0_value p0.value :: OwnSl 3 vp0_trail p0.trail :: WTbG 105 107 3 vp0_watches utp0_watches (p0.watches : (List (List Nat) × List (List Int))) none none :: L) w) (r : (Bool × PEng)) (hm : m_proof_engine_propagate p0 = some r) :
    Calls Tryz.prog 59 #[(.pointer (some ⟨bp0, 0, none⟩))] w (Ret fun v w' => ∃ (vzp0_value : Value) (vzp0_trail : Value) (vzp0_watches : Value) (utzp0_watches : List Sl × List Sl), v = (.bool r.1) ∧ Hp Z ρ (Pt bp0 (.cells #[vzp0_value, vzp0_trail, (.int .i64 r.2.head), vzp0_watches, (.bool r.2.fails)] 87 (0, 0)) :: OwnSl 3 vzp0_value r.2.value :: OwnSl 3 vzp0_trail r.2.trail :: WTbG 105 107 3 vzp0_watches utzp0_watches (r.2.watches : (List (List Nat) × List (List Int))) none none :: L) w') := by
  refine enter (N := 174) Tryz.func59 rfl rfl [(0, (.pointer (some ⟨bp0, 0, none⟩)))] rfl (argsIn_mem ⟨rfl, trivial⟩) fun a hE => ?_
  unfold m_proof_engine_propagate at hm
  refine k_seq ?_
  refine k_region ?_
  refine s_val (wk0 rfl) rfl rfl hE hp (v := (.bool false)) (ex_asn rfl hE rfl) ?_
  intro a hE
  refine s_nil ?_
  refine k_seq ?_
  obtain ⟨b1, hc1, hm⟩ := bnd hm
  refine k_block (fun a w => ∃ s : (Int × Bool × (List Int) × (List Int) × (List (List Nat) × List (List Int))), b1 = .brk s ∧ (∃ (w2 : Value) (w3 : Value) (w4 : Value) (utw4 : List Sl × List Sl), Env 174 [] a ∧ Hp Z ρ (Pt bp0 (.cells #[w2, w3, (.int .i64 s.1), w4, (.bool s.2.1)] 87 (0, 0)) :: OwnSl 3 w2 s.2.2.1 :: OwnSl 3 w3 s.2.2.2.1 :: WTbG 105 107 3 w4 utw4 (s.2.2.2.2 : (List (List Nat) × List (List Int))) none none :: L) w)) ?_ ?_
  · refine k_loop hc1 (fun s a w => ∃ (w2 : Value) (w3 : Value) (w4 : Value) (utw4 : List Sl × List Sl), Env 174 [(0, (.pointer (some ⟨bp0, 0, none⟩)))] a ∧ Hp Z ρ (Pt bp0 (.cells #[w2, w3, (.int .i64 s.1), w4, (.bool s.2.1)] 87 (0, 0)) :: OwnSl 3 w2 s.2.2.1 :: OwnSl 3 w3 s.2.2.2.1 :: WTbG 105 107 3 w4 utw4 (s.2.2.2.2 : (List (List Nat) × List (List Int))) none none :: L) w) ?_ ?_
    · exact ⟨_, _, _, utp0_watches, hE.cut ⟨rfl, trivial⟩, hp⟩
    · rintro ⟨lp1_0, lp1_1, lp1_2, lp1_3, lp1_4⟩ st a w ⟨w2, w3, w4, utw4, hE, hp⟩ hl1
      have hE : Env 174 [(0, (.pointer (some ⟨bp0, 0, none⟩)))] a := hE
      have hp : Hp Z ρ (Pt bp0 (.cells #[w2, w3, (.int .i64 lp1_0), w4, (.bool lp1_1)] 87 (0, 0)) :: OwnSl 3 w2 lp1_2 :: OwnSl 3 w3 lp1_3 :: WTbG 105 107 3 w4 utw4 (lp1_4 : (List (List Nat) × List (List Int))) none none :: L) w := hp
      replace hl1 : m_proof_engine_propagate_lp1  lp1_0 lp1_1 lp1_2 lp1_3 lp1_4 = some st := hl1
      unfold m_proof_engine_propagate_lp1 at hl1
      refine k_seq ?_
      refine k_seq ?_
      refine k_quiet (by kernel_rfl) (by kernel_rfl) hp ?_
      refine q_val (wk0 rfl) rfl rfl hE (v := (.pointer (some ⟨bp0, 0, none⟩))) (ex_move rfl hE rfl) ?_
      intro a hE
      refine q_val (wk0 rfl) rfl rfl hE (v := (.pointer (some ⟨bp0, 0, none⟩))) (ex_nil rfl hE rfl) ?_
      intro a hE
      refine q_val (wk0 rfl) rfl rfl hE (v := (.pointer (some ⟨bp0, 2, none⟩))) (ex_field rfl hE rfl (fldty87_2 _ _)) ?_
      intro a hE
      refine q_val (wk0 rfl) rfl rfl hE (v := (.int .i64 lp1_0)) (ex_load rfl hE rfl (fun w hw => run_ld1 varty3 (Hp.c 0 rfl 2 rfl w hw))) ?_
      intro a hE
      refine q_val (wk0 rfl) rfl rfl hE (v := (.pointer (some ⟨bp0, 0, none⟩))) (ex_move rfl hE rfl) ?_
      intro a hE
      refine q_val (wk0 rfl) rfl rfl hE (v := (.pointer (some ⟨bp0, 0, none⟩))) (ex_nil rfl hE rfl) ?_
      intro a hE
      refine q_val (wk0 rfl) rfl rfl hE (v := (.pointer (some ⟨bp0, 1, none⟩))) (ex_field rfl hE rfl (fldty87_1 _ _)) ?_
      intro a hE
      refine q_val (wk0 rfl) rfl rfl hE (v := w3) (ex_load rfl hE rfl (fun w hw => run_ld1 varty25 (Hp.c 0 rfl 1 rfl w hw))) ?_
      intro a hE
      refine q_val (wk0 rfl) rfl rfl hE (v := (.int .i64 (lp1_3.length : Int))) (ex_len rfl hE rfl (OwnSl.len hp 2 rfl slty25)) ?_
      intro a hE
      refine q_val (wk0 rfl) rfl rfl hE (v := (.bool (decide (lp1_0 < (lp1_3.length : Int))))) (ex_lss rfl hE rfl rfl) ?_
      intro a hE
      refine q_nil fun w hp => ?_
      have hp : Hp Z ρ (_ :: _ :: _ :: _ :: L) w := hp
      refine k_if hE rfl (fun hc2 => ?_) (fun hc2 => ?_)
      · replace hl1 := (it hc2).symm.trans hl1
        refine k_skip ?_
        refine k_plain ?_
        refine k_seq ?_
        refine k_quiet (by kernel_rfl) (by kernel_rfl) hp ?_
        refine q_val (wk0 rfl) rfl rfl hE (v := (.pointer (some ⟨bp0, 0, none⟩))) (ex_move rfl hE rfl) ?_
        intro a hE
        refine q_val (wk0 rfl) rfl rfl hE (v := (.pointer (some ⟨bp0, 0, none⟩))) (ex_nil rfl hE rfl) ?_
        intro a hE
        refine q_val (wk0 rfl) rfl rfl hE (v := (.pointer (some ⟨bp0, 1, none⟩))) (ex_field rfl hE rfl (fldty87_1 _ _)) ?_
        intro a hE
        refine q_val (wk0 rfl) rfl rfl hE (v := w3) (ex_load rfl hE rfl (fun w hw => run_ld1 varty25 (Hp.c 0 rfl 1 rfl w hw))) ?_
        intro a hE
        refine q_val (wk0 rfl) rfl rfl hE (v := (.pointer (some ⟨bp0, 0, none⟩))) (ex_move rfl hE rfl) ?_
        intro a hE
        refine q_val (wk0 rfl) rfl rfl hE (v := (.pointer (some ⟨bp0, 0, none⟩))) (ex_nil rfl hE rfl) ?_
        intro a hE
        refine q_val (wk0 rfl) rfl rfl hE (v := (.pointer (some ⟨bp0, 2, none⟩))) (ex_field rfl hE rfl (fldty87_2 _ _)) ?_
        intro a hE
        refine q_val (wk0 rfl) rfl rfl hE (v := (.int .i64 lp1_0)) (ex_load rfl hE rfl (fun w hw => run_ld1 varty3 (Hp.c 0 rfl 2 rfl w hw))) ?_
        intro a hE
        obtain ⟨x1, ex1, hl1⟩ := bnd hl1
        obtain ⟨b2, b2o, b2r, b2v, b2f⟩ := OwnSl.at hp 2 rfl slty25 ex1
        have b2f : ∀ (j : Nat) (u : Value), ([(.int .i64 x1)] : List Value)[j]? = some u → ∀ ρ' L' w, Hp Z ρ' (OwnSl 3 w3 lp1_3 :: L') w → w.cell? ⟨b2, b2o + j, none⟩ = some u := b2f
        refine q_val (wk0 rfl) rfl rfl hE (v := (.pointer (some ⟨b2, b2o, none⟩))) (ex_index rfl hE rfl rfl b2r) ?_
        intro a hE
        refine q_val (wk0 rfl) rfl rfl hE (v := (.int .i64 x1)) (ex_load rfl hE rfl (fun w hw => run_ld1 varty3 (b2f 0 _ rfl _ _ w (hw.get 2 rfl)))) ?_
        intro a hE
        obtain ⟨x2, ex2, hl1⟩ := bnd hl1
        refine q_val (wk0 rfl) rfl rfl hE (v := (.int .i64 x2)) (ex_neg rfl hE rfl (inK_some ex2)) ?_
        intro a hE
        refine q_val (wk0 rfl) rfl rfl hE (v := (.int .i64 x2)) (ex_asn rfl hE rfl) ?_
        intro a hE
        refine q_nil fun w hp => ?_
        have hp : Hp Z ρ (_ :: _ :: _ :: _ :: L) w := hp
        refine k_seq ?_
        refine k_region ?_
        refine s_val (wk0 rfl) rfl rfl hE hp (v := (.pointer (some ⟨bp0, 0, none⟩))) (ex_move rfl hE rfl) ?_
        intro a hE
        refine s_val (wk0 rfl) rfl rfl hE hp (v := (.pointer (some ⟨bp0, 0, none⟩))) (ex_nil rfl hE rfl) ?_
        intro a hE
        refine s_val (wk0 rfl) rfl rfl hE hp (v := (.pointer (some ⟨bp0, 2, none⟩))) (ex_field rfl hE rfl (fldty87_2 _ _)) ?_
        intro a hE
        refine s_val (wk0 rfl) rfl rfl hE hp (v := (.int .i64 lp1_0)) (ex_load rfl hE rfl (fun w hw => run_ld1 varty3 (Hp.c 0 rfl 2 rfl w hw))) ?_
        intro a hE
        obtain ⟨x3, ex3, hl1⟩ := bnd hl1
        refine s_val (wk0 rfl) rfl rfl hE hp (v := (.int .i64 x3)) (ex_add rfl hE rfl rfl (inK_some ex3)) ?_
        intro a hE
        refine s_val (wk0 rfl) rfl rfl hE hp (v := (.pointer (some ⟨bp0, 0, none⟩))) (ex_nil rfl hE rfl) ?_
        intro a hE
        refine s_val (wk0 rfl) rfl rfl hE hp (v := (.pointer (some ⟨bp0, 2, none⟩))) (ex_field rfl hE rfl (fldty87_2 _ _)) ?_
        intro a hE
        refine s_store (wk0 rfl) rfl hE hp rfl rfl rfl 0 rfl varty3.size_ rfl (allOne_mem ⟨rfl, trivial⟩) [w2, w3, (.int .i64 x3), w4, (.bool lp1_1)] rfl ?_
        intro w hp
        have hp : Hp Z ρ (Pt bp0 (.cells #[w2, w3, (.int .i64 x3), w4, (.bool lp1_1)] 87 (0, 0)) :: _ :: _ :: _ :: L) w := hp
        refine s_nil ?_
        have hE := hE.cut (E' := [(0, (.pointer (some ⟨bp0, 0, none⟩))), (3, (.int .i64 x2))]) ⟨rfl, rfl, trivial⟩
        refine k_seq ?_
        refine k_quiet (by kernel_rfl) (by kernel_rfl) hp ?_
        refine q_val (wk0 rfl) rfl rfl hE (v := (.pointer (some ⟨bp0, 0, none⟩))) (ex_move rfl hE rfl) ?_
        intro a hE
        refine q_val (wk0 rfl) rfl rfl hE (v := (.pointer (some ⟨bp0, 0, none⟩))) (ex_nil rfl hE rfl) ?_
        intro a hE
        refine q_val (wk0 rfl) rfl rfl hE (v := (.pointer (some ⟨bp0, 3, none⟩))) (ex_field rfl hE rfl (fldty87_3 _ _)) ?_
        intro a hE
        refine q_val (wk0 rfl) rfl rfl hE (v := w4) (ex_load rfl hE rfl (fun w hw => run_ld1 varty85 (Hp.c 0 rfl 3 rfl w hw))) ?_
        intro a hE
        refine q_val (wk0 rfl) rfl rfl hE (v := (.int .i64 x2)) (ex_move rfl hE rfl) ?_
        intro a hE
        obtain ⟨x4, ex4, hl1⟩ := bnd hl1
        refine q_call (wk0 rfl) rfl rfl hE rfl [(.int .i64 x2)] ⟨rfl, trivial⟩ ent77 (v := (.int .i64 x4)) (fun w hw => Calls.mono (c_proof_index hT x2 hw x4 ex4) fun e w' ⟨v, he, hv, hh⟩ => ⟨by rw [he, hv], hh⟩) ?_
        intro a hE
        obtain ⟨x5, ex5, hl1⟩ := bnd hl1
        obtain ⟨b3u, b3, b3o, b3h, b3r, b3v, b3f⟩ := WTbG.hdr (hp.get 3 rfl) slty85 ex5
        have b3f : ∀ (j : Nat) (u : Value), ([(Sl.v b3u)] : List Value)[j]? = some u → ∀ ρ' L' w, Hp Z ρ' (WTbG 105 107 3 w4 utw4 (lp1_4 : (List (List Nat) × List (List Int))) none none :: L') w → w.cell? ⟨b3, b3o + j, none⟩ = some u := b3f
        refine q_val (wk0 rfl) rfl rfl hE (v := (.pointer (some ⟨b3, b3o, none⟩))) (ex_index rfl hE rfl rfl b3r) ?_
        intro a hE
        refine q_val (wk0 rfl) rfl rfl hE (v := (Sl.v b3u)) (ex_load rfl hE rfl (fun w hw => run_ld1 varty105 (b3f 0 _ rfl _ _ w (hw.get 3 rfl)))) ?_
        intro a hE
        refine q_val (wk0 rfl) rfl rfl hE (v := (Sl.v b3u)) (ex_asn rfl hE rfl) ?_
        intro a hE
        refine q_nil fun w hp => ?_
        have hp : Hp Z ρ (_ :: _ :: _ :: _ :: L) w := hp
        refine k_seq ?_
        refine k_region ?_
        refine s_val (wk0 rfl) rfl rfl hE hp (v := (Sl.v b3u)) (ex_move rfl hE rfl) ?_
        intro a hE
        have hp := WTbG.lend b3h ex5 (hp.get 3 rfl)
        have hp : Hp Z ρ (OwnSl 107 (Sl.v b3u) (List.map (hd (utw4).2) (x5 : List Nat)) :: WTbG 105 107 3 w4 utw4 (lp1_4 : (List (List Nat) × List (List Int))) (some (x4 : Int)) none :: _ :: _ :: _ :: L) w := hp
        obtain ⟨A1, A1r⟩ := OwnSl.sl30 hp 0 rfl slty105 .i64 .i64
        have hp := hp.emp (OwnSl.nilA (α := Sl) 107 A1)
        have hp : Hp Z ρ (OwnSl 107 (.slice A1 0 0) (List.map (hd (utw4).2) ([] : List Nat)) :: _ :: _ :: _ :: _ :: _ :: L) w := hp
        refine s_val (wk0 rfl) rfl rfl hE hp (v := (.slice A1 0 0)) (ex_sl3 rfl hE rfl rfl rfl A1r) ?_
        intro a hE
        refine s_val (wk0 rfl) rfl rfl hE hp (v := (.slice A1 0 0)) (ex_asn rfl hE rfl) ?_
        intro a hE
        refine s_nil ?_
        refine k_seq ?_
        refine k_seq ?_
        refine k_region ?_
        refine s_val (wk0 rfl) rfl rfl hE hp (v := (Sl.v b3u)) (ex_move rfl hE rfl) ?_
        intro a hE
        refine s_val (wk0 rfl) rfl rfl hE hp (v := (.int .i64 (x5.length : Int))) (ex_len rfl hE rfl (OwnH.len hp 1 rfl slty105)) ?_
        intro a hE
        refine s_val (wk0 rfl) rfl rfl hE hp (v := (.int .i64 0)) (ex_move rfl hE rfl) ?_
        intro a hE
        refine s_nil ?_
        obtain ⟨b4, hc3, hl1⟩ := bnd hl1
        refine k_block (fun a w => ∃ s : ((List Nat) × (List (List Nat) × List (List Int)) × Int × Bool × (List Int) × (List Int)), b4 = .brk s ∧ (∃ (w23 : Value) (w4q : Value) (utw4q : List Sl × List Sl) (w2 : Value) (w3 : Value), Env 174 [(0, (.pointer (some ⟨bp0, 0, none⟩))), (3, (.int .i64 x2)), (5, w23)] a ∧ Hp Z ρ (OwnSl 107 w23 (List.map (hd (utw4q).2) (s.1 : List Nat)) :: OwnSl 107 (Sl.v b3u) (List.map (hd (utw4q).2) (x5 : List Nat)) :: WTbG 105 107 3 w4q utw4q (s.2.1 : (List (List Nat) × List (List Int))) (some (x4 : Int)) none :: Pt bp0 (.cells #[w2, w3, (.int .i64 s.2.2.1), w4q, (.bool s.2.2.2.1)] 87 (0, 0)) :: OwnSl 3 w2 s.2.2.2.2.1 :: OwnSl 3 w3 s.2.2.2.2.2 :: L) w)) ?_ ?_
        · refine k_loop hc3 (fun s a w => ∃ (w23 : Value) (w4q : Value) (utw4q : List Sl × List Sl) (w2 : Value) (w3 : Value), Env 174 [(0, (.pointer (some ⟨bp0, 0, none⟩))), (3, (.int .i64 x2)), (4, (Sl.v b3u)), (5, w23), (48, (Sl.v b3u)), (49, (.int .i64 (x5.length : Int))), (50, (.int .i64 s.1))] a ∧ Hp Z ρ (OwnSl 107 w23 (List.map (hd (utw4q).2) (s.2.1 : List Nat)) :: OwnSl 107 (Sl.v b3u) (List.map (hd (utw4q).2) (x5 : List Nat)) :: WTbG 105 107 3 w4q utw4q (s.2.2.1 : (List (List Nat) × List (List Int))) (some (x4 : Int)) none :: Pt bp0 (.cells #[w2, w3, (.int .i64 s.2.2.2.1), w4q, (.bool s.2.2.2.2.1)] 87 (0, 0)) :: OwnSl 3 w2 s.2.2.2.2.2.1 :: OwnSl 3 w3 s.2.2.2.2.2.2 :: L) w) ?_ ?_
          · exact ⟨_, _, utw4, _, _, hE.cut ⟨rfl, rfl, rfl, rfl, rfl, rfl, rfl, trivial⟩, hp⟩
          · rintro ⟨lp2_0, lp2_1, lp2_2, lp2_3, lp2_4, lp2_5, lp2_6⟩ st a w ⟨w23, w4q, utw4q, w2, w3, hE, hp⟩ hl2
            have hE : Env 174 [(0, (.pointer (some ⟨bp0, 0, none⟩))), (3, (.int .i64 x2)), (4, (Sl.v b3u)), (5, w23), (48, (Sl.v b3u)), (49, (.int .i64 (x5.length : Int))), (50, (.int .i64 lp2_0))] a := hE
            have hp : Hp Z ρ (OwnSl 107 w23 (List.map (hd (utw4q).2) (lp2_1 : List Nat)) :: _ :: WTbG 105 107 3 w4q utw4q (lp2_2 : (List (List Nat) × List (List Int))) (some (x4 : Int)) none :: Pt bp0 (.cells #[w2, w3, (.int .i64 lp2_3), w4q, (.bool lp2_4)] 87 (0, 0)) :: OwnSl 3 w2 lp2_5 :: OwnSl 3 w3 lp2_6 :: L) w := hp
            replace hl2 : m_proof_engine_propagate_lp2 x2 x4 x5 lp2_0 lp2_1 lp2_2 lp2_3 lp2_4 lp2_5 lp2_6 = some st := hl2
            unfold m_proof_engine_propagate_lp2 at hl2
            refine k_seq ?_
            refine k_region ?_
            refine s_val (wk0 rfl) rfl rfl hE hp (v := (.bool (decide (lp2_0 < (x5.length : Int))))) (ex_lss rfl hE rfl rfl) ?_
            intro a hE
            refine s_nil ?_
            refine k_seq ?_
            refine k_if hE rfl (fun hc4 => ?_) (fun hc4 => ?_)
            · replace hl2 := (it hc4).symm.trans hl2
              refine k_skip ?_
              refine k_seq ?_
              refine k_plain ?_
              refine k_seq ?_
              refine k_region ?_
              refine s_val (wk0 rfl) rfl rfl hE hp (v := (.int .i64 lp2_0)) (ex_move rfl hE rfl) ?_
              intro a hE
              obtain ⟨x6, ex6, hl2⟩ := bnd hl2
              obtain ⟨b5, b5o, b5r, b5f⟩ := OwnH.at hp 1 rfl slty105 ex6
              have b5f : ∀ (j : Nat) (u : Value), ([(Sl.v (hd (utw4q).2 x6))] : List Value)[j]? = some u → ∀ ρ' L' w, Hp Z ρ' (OwnSl 107 (Sl.v b3u) (List.map (hd (utw4q).2) (x5 : List Nat)) :: L') w → w.cell? ⟨b5, b5o + j, none⟩ = some u := b5f
              refine s_val (wk0 rfl) rfl rfl hE hp (v := (.pointer (some ⟨b5, b5o, none⟩))) (ex_index rfl hE rfl rfl b5r) ?_
              intro a hE
              refine s_val (wk0 rfl) rfl rfl hE hp (v := (.agg #[(Sl.v (hd (utw4q).2 x6))])) (ex_load rfl hE rfl (fun w hw => run_ldN (cs := [(Sl.v (hd (utw4q).2 x6))]) varty107 (fun j u hj => b5f j u hj _ _ w (hw.get 1 rfl)))) ?_
              intro a hE
              refine s_new (wk0 rfl) rfl rfl hE hp rfl [(.slice none 0 0)] (fun w => by simp [Instr.alloc, go_sem] <;> rfl) ?_
              intro a w b6 hE hp
              have hp : Hp Z ρ (Pt b6 (.cells #[(.slice none 0 0)] 107 (0, 0)) :: _ :: _ :: _ :: _ :: _ :: _ :: L) w := hp
              refine s_val (wk0 rfl) rfl rfl hE hp (v := (.int .i64 lp2_0)) (ex_asn rfl hE rfl) ?_
              intro a hE
              refine s_store (wk0 rfl) rfl hE hp rfl rfl rfl 0 rfl varty107.size_ rfl (allOne_mem ⟨(Sl.one _), trivial⟩) [(Sl.v (hd (utw4q).2 x6))] rfl ?_
              intro w hp
              have hp : Hp Z ρ (Pt b6 (.cells #[(Sl.v (hd (utw4q).2 x6))] 107 (0, 0)) :: _ :: _ :: _ :: _ :: _ :: _ :: L) w := hp
              refine s_nil ?_
              refine k_seq ?_
              refine k_region ?_
              refine s_val (wk0 rfl) rfl rfl hE hp (v := (.pointer (some ⟨b6, 0, none⟩))) (ex_field rfl hE rfl (fldty107_0 _ _)) ?_
              intro a hE
              refine s_val (wk0 rfl) rfl rfl hE hp (v := (Sl.v (hd (utw4q).2 x6))) (ex_load rfl hE rfl (fun w hw => run_ld1 varty25 (Hp.c 0 rfl 0 rfl w hw))) ?_
              intro a hE
              refine s_val (wk0 rfl) rfl rfl hE hp (v := (Sl.v (hd (utw4q).2 x6))) (ex_asn rfl hE rfl) ?_
              intro a hE
              refine s_nil ?_
              refine k_seq ?_
              refine k_seq ?_
              refine k_region ?_
              refine s_val (wk0 rfl) rfl rfl hE hp (v := (Sl.v (hd (utw4q).2 x6))) (ex_move rfl hE rfl) ?_
              intro a hE
              obtain ⟨x7, ex7, hl2⟩ := bnd hl2
              obtain ⟨vc1, vc1h, hp⟩ := WTbG.take ex7 (hp.get 3 rfl)
              rw [vc1h] at hE
              try rw [vc1h] at hp
              have hp : Hp Z ρ (OwnSl 3 vc1 x7 :: WTbG 105 107 3 w4q utw4q (lp2_2 : (List (List Nat) × List (List Int))) (some (x4 : Int)) (some ((x6, vc1) : Nat × Value)) :: Pt b6 (.cells #[vc1] 107 (0, 0)) :: _ :: _ :: _ :: _ :: _ :: L) w := hp
              obtain ⟨x8, ex8, hl2⟩ := bnd hl2
              obtain ⟨b7, b7o, b7r, b7v, b7f⟩ := OwnSl.at hp 0 rfl slty25 ex8
              have b7f : ∀ (j : Nat) (u : Value), ([(.int .i64 x8)] : List Value)[j]? = some u → ∀ ρ' L' w, Hp Z ρ' (OwnSl 3 vc1 x7 :: L') w → w.cell? ⟨b7, b7o + j, none⟩ = some u := b7f
              refine s_val (wk0 rfl) rfl rfl hE hp (v := (.pointer (some ⟨b7, b7o, none⟩))) (ex_index rfl hE rfl rfl b7r) ?_
              intro a hE
              refine s_val (wk0 rfl) rfl rfl hE hp (v := (.int .i64 x8)) (ex_load rfl hE rfl (fun w hw => run_ld1 varty3 (b7f 0 _ rfl _ _ w (hw.get 0 rfl)))) ?_
              intro a hE
              refine s_val (wk0 rfl) rfl rfl hE hp (v := (.int .i64 x2)) (ex_move rfl hE rfl) ?_
              intro a hE
              refine s_val (wk0 rfl) rfl rfl hE hp (v := (.bool (decide (x8 = x2)))) (ex_eql rfl hE rfl rfl) ?_
              intro a hE
              refine s_nil ?_
              have hE := hE.cut (E' := [(0, (.pointer (some ⟨bp0, 0, none⟩))), (3, (.int .i64 x2)), (4, (Sl.v b3u)), (5, w23), (6, (.int .i64 lp2_0)), (7, (.pointer (some ⟨b6, 0, none⟩))), (8, vc1), (48, (Sl.v b3u)), (49, (.int .i64 (x5.length : Int))), (50, (.int .i64 lp2_0)), (61, (.bool (decide (x8 = x2))))]) ⟨rfl, rfl, rfl, rfl, rfl, rfl, rfl, rfl, rfl, rfl, rfl, trivial⟩
              obtain ⟨j1, hj1, hl2⟩ := bnd hl2
              refine k_cut (fun a w => Env 174 [(0, (.pointer (some ⟨bp0, 0, none⟩))), (3, (.int .i64 x2)), (4, (Sl.v b3u)), (5, w23), (6, (.int .i64 lp2_0)), (7, (.pointer (some ⟨b6, 0, none⟩))), (8, vc1), (48, (Sl.v b3u)), (49, (.int .i64 (x5.length : Int))), (50, (.int .i64 lp2_0))] a ∧ Hp Z ρ (OwnSl 3 vc1 j1 :: WTbG 105 107 3 w4q utw4q (lp2_2 : (List (List Nat) × List (List Int))) (some (x4 : Int)) (some ((x6, vc1) : Nat × Value)) :: Pt b6 (.cells #[vc1] 107 (0, 0)) :: OwnSl 107 w23 (List.map (hd (utw4q).2) (lp2_1 : List Nat)) :: OwnSl 107 (Sl.v b3u) (List.map (hd (utw4q).2) (x5 : List Nat)) :: Pt bp0 (.cells #[w2, w3, (.int .i64 lp2_3), w4q, (.bool lp2_4)] 87 (0, 0)) :: OwnSl 3 w2 lp2_5 :: OwnSl 3 w3 lp2_6 :: L) w) ?_ ?_
              ·
                refine k_if hE rfl (fun hc5 => ?_) (fun hc5 => ?_)
                · replace hj1 := (it hc5).symm.trans hj1
                  obtain ⟨x9, ex9, hj1⟩ := bnd hj1
                  obtain ⟨x10, ex10, hj1⟩ := bnd hj1
                  obtain ⟨x11, ex11, hj1⟩ := bnd hj1
                  obtain ⟨x12, ex12, hj1⟩ := bnd hj1
                  have hp := hp.drew
                  refine k_heldV ([([], At0 Z ρ), ([9, 11], At1 Z ρ (OwnSl 3 vc1 x7))] : Facts) (fun a w => Env 174 [(0, (.pointer (some ⟨bp0, 0, none⟩))), (3, (.int .i64 x2)), (4, (Sl.v b3u)), (5, w23), (6, (.int .i64 lp2_0)), (7, (.pointer (some ⟨b6, 0, none⟩))), (8, vc1), (48, (Sl.v b3u)), (49, (.int .i64 (x5.length : Int))), (50, (.int .i64 lp2_0))] a ∧ Hp Z ρ (OwnSl 3 vc1 ((x7.set (0 : Int).toNat x9).set (1 : Int).toNat x10) :: WTbG 105 107 3 w4q utw4q (lp2_2 : (List (List Nat) × List (List Int))) (some (x4 : Int)) (some ((x6, vc1) : Nat × Value)) :: Pt b6 (.cells #[vc1] 107 (0, 0)) :: OwnSl 107 w23 (List.map (hd (utw4q).2) (lp2_1 : List Nat)) :: OwnSl 107 (Sl.v b3u) (List.map (hd (utw4q).2) (x5 : List Nat)) :: Pt bp0 (.cells #[w2, w3, (.int .i64 lp2_3), w4q, (.bool lp2_4)] 87 (0, 0)) :: OwnSl 3 w2 lp2_5 :: OwnSl 3 w3 lp2_6 :: L) w) (by kernel_rfl) ⟨fun _ => ⟨_, hp⟩, fun _ => ⟨_, (hp.get 0 rfl)⟩, trivial⟩ (fun hS => ?_) ?_
                  ·
                    generalize w.drew = w at hS hp ⊢
                    refine v_take0 0 (wk0 rfl) rfl rfl rfl hE (by kernel_rfl) (by kernel_rfl) (by kernel_rfl) rfl (by kernel_rfl) hS (v := vc1) (fun _ => ex_move rfl hE rfl) ?_
                    intro a hE hS
                    refine v_take0 1 (wk0 rfl) rfl rfl rfl hE (by kernel_rfl) (by kernel_rfl) (by kernel_rfl) rfl (by kernel_rfl) hS (v := vc1) (fun _ => ex_move rfl hE rfl) ?_
                    intro a hE hS
                    refine v_take0 2 (wk0 rfl) rfl rfl rfl hE (by kernel_rfl) (by kernel_rfl) (by kernel_rfl) rfl (by kernel_rfl) hS (v := vc1) (fun _ => ex_move rfl hE rfl) ?_
                    intro a hE hS
                    obtain ⟨b12, b12o, b12r, b12v, b12f⟩ := OwnSl.at hp 0 rfl slty25 ex9
                    have b12f : ∀ (j : Nat) (u : Value), ([(.int .i64 x9)] : List Value)[j]? = some u → ∀ ρ' L' w, Hp Z ρ' (OwnSl 3 vc1 x7 :: L') w → w.cell? ⟨b12, b12o + j, none⟩ = some u := b12f
                    refine v_take0 3 (wk0 rfl) rfl rfl rfl hE (by kernel_rfl) (by kernel_rfl) (by kernel_rfl) rfl (by kernel_rfl) hS (v := (.pointer (some ⟨b12, b12o, none⟩))) (fun _ => ex_index rfl hE rfl rfl b12r) ?_
                    intro a hE hS
                    refine v_take1 4 1 (wk0 rfl) rfl rfl rfl hE (by kernel_rfl) (by kernel_rfl) (by kernel_rfl) rfl (by kernel_rfl) hS (v := (.int .i64 x9)) (fun _ => ex_load rfl hE rfl (fun w hw => run_ld1 varty3 (b12f 0 _ rfl _ _ w (hw.get 0 rfl)))) ?_
                    intro a hE hS
                    refine v_take0 5 (wk0 rfl) rfl rfl rfl hE (by kernel_rfl) (by kernel_rfl) (by kernel_rfl) rfl (by kernel_rfl) hS (v := vc1) (fun _ => ex_move rfl hE rfl) ?_
                    intro a hE hS
                    obtain ⟨b13, b13o, b13r, b13v, b13f⟩ := OwnSl.at hp 0 rfl slty25 ex10
                    have b13f : ∀ (j : Nat) (u : Value), ([(.int .i64 x10)] : List Value)[j]? = some u → ∀ ρ' L' w, Hp Z ρ' (OwnSl 3 vc1 x7 :: L') w → w.cell? ⟨b13, b13o + j, none⟩ = some u := b13f
                    refine v_take0 6 (wk0 rfl) rfl rfl rfl hE (by kernel_rfl) (by kernel_rfl) (by kernel_rfl) rfl (by kernel_rfl) hS (v := (.pointer (some ⟨b13, b13o, none⟩))) (fun _ => ex_index rfl hE rfl rfl b13r) ?_
                    intro a hE hS
                    refine v_take1 7 1 (wk0 rfl) rfl rfl rfl hE (by kernel_rfl) (by kernel_rfl) (by kernel_rfl) rfl (by kernel_rfl) hS (v := (.int .i64 x10)) (fun _ => ex_load rfl hE rfl (fun w hw => run_ld1 varty3 (b13f 0 _ rfl _ _ w (hw.get 0 rfl)))) ?_
                    intro a hE hS
                    obtain ⟨b14, b14o, b14r, b14v, b14f⟩ := OwnSl.at hp 0 rfl slty25 ex11
                    have b14f : ∀ (j : Nat) (u : Value), ([(.int .i64 x11)] : List Value)[j]? = some u → ∀ ρ' L' w, Hp Z ρ' (OwnSl 3 vc1 x7 :: L') w → w.cell? ⟨b14, b14o + j, none⟩ = some u := b14f
                    refine v_take0 8 (wk0 rfl) rfl rfl rfl hE (by kernel_rfl) (by kernel_rfl) (by kernel_rfl) rfl (by kernel_rfl) hS (v := (.pointer (some ⟨b14, b14o, none⟩))) (fun _ => ex_index rfl hE rfl rfl b14r) ?_
                    intro a hE hS
                    refine v_all [9] (by kernel_rfl) rfl ?_
                    refine List.forall_mem_cons.2 ⟨?_, fun _ h => absurd h (by simp)⟩
                    ·
                      refine h_op rfl ?_
                      refine s_stel (wk0 rfl) rfl hE hp rfl rfl rfl 0 rfl ex11 b14v 0 (e' := x9) varty3.size_ rfl rfl rfl ⟨rfl, rfl⟩ ?_
                      intro w hp
                      have hp : Hp Z ρ (OwnSl 3 vc1 (x7.set (0 : Int).toNat x9) :: _ :: _ :: _ :: _ :: _ :: _ :: _ :: L) w := hp
                      refine s_nil (and_with ⟨fun _ => ⟨_, hp⟩, dead (by kernel_rfl), trivial⟩ fun hS => ?_)
                      obtain ⟨b15, b15o, b15r, b15v, b15f⟩ := OwnSl.at hp 0 rfl slty25 ex12
                      have b15f : ∀ (j : Nat) (u : Value), ([(.int .i64 x12)] : List Value)[j]? = some u → ∀ ρ' L' w, Hp Z ρ' (OwnSl 3 vc1 (x7.set (0 : Int).toNat x9) :: L') w → w.cell? ⟨b15, b15o + j, none⟩ = some u := b15f
                      refine v_take0 10 (wk0 rfl) rfl rfl rfl hE (by kernel_rfl) (by kernel_rfl) (by kernel_rfl) rfl (by kernel_rfl) hS (v := (.pointer (some ⟨b15, b15o, none⟩))) (fun _ => ex_index rfl hE rfl rfl b15r) ?_
                      intro a hE hS
                      refine v_all [11] (by kernel_rfl) rfl ?_
                      refine List.forall_mem_cons.2 ⟨?_, fun _ h => absurd h (by simp)⟩
                      ·
                        refine h_op rfl ?_
                        refine s_stel (wk0 rfl) rfl hE hp rfl rfl rfl 0 rfl ex12 b15v 0 (e' := x10) varty3.size_ rfl rfl rfl ⟨rfl, rfl⟩ ?_
                        intro w hp
                        have hp : Hp Z ρ (OwnSl 3 vc1 ((x7.set (0 : Int).toNat x9).set (1 : Int).toNat x10) :: _ :: _ :: _ :: _ :: _ :: _ :: _ :: L) w := hp
                        refine s_nil (and_with ⟨fun _ => ⟨_, hp⟩, dead (by kernel_rfl), trivial⟩ fun hS => ?_)
                        exact v_done (by kernel_rfl) ⟨hE.cut ⟨rfl, rfl, rfl, rfl, rfl, rfl, rfl, rfl, rfl, rfl, trivial⟩, hp⟩
                  · rintro a w ⟨hE, hp⟩
                    obtain rfl := Option.some.inj hj1
                    exact ⟨hE.cut ⟨rfl, rfl, rfl, rfl, rfl, rfl, rfl, rfl, rfl, rfl, trivial⟩, hp⟩
                · replace hj1 := (ie hc5).symm.trans hj1
                  refine k_skip ?_
                  obtain rfl := Option.some.inj hj1
                  exact ⟨hE.cut ⟨rfl, rfl, rfl, rfl, rfl, rfl, rfl, rfl, rfl, rfl, trivial⟩, hp⟩
              · rintro a w ⟨hE, hp⟩
                refine k_seq ?_
                refine k_region ?_
                refine s_val (wk0 rfl) rfl rfl hE hp (v := (.int .i64 2)) (ex_asn rfl hE rfl) ?_
                intro a hE
                refine s_nil ?_
                refine k_seq ?_
                obtain ⟨b16, hc6, hl2⟩ := bnd hl2
                refine k_block (fun a w => Env 174 [(0, (.pointer (some ⟨bp0, 0, none⟩))), (3, (.int .i64 x2)), (4, (Sl.v b3u)), (5, w23), (6, (.int .i64 lp2_0)), (7, (.pointer (some ⟨b6, 0, none⟩))), (8, vc1), (9, (.int .i64 b16)), (48, (Sl.v b3u)), (49, (.int .i64 (x5.length : Int))), (50, (.int .i64 lp2_0))] a ∧ Hp Z ρ (OwnSl 3 vc1 j1 :: WTbG 105 107 3 w4q utw4q (lp2_2 : (List (List Nat) × List (List Int))) (some (x4 : Int)) (some ((x6, vc1) : Nat × Value)) :: Pt b6 (.cells #[vc1] 107 (0, 0)) :: OwnSl 107 w23 (List.map (hd (utw4q).2) (lp2_1 : List Nat)) :: OwnSl 107 (Sl.v b3u) (List.map (hd (utw4q).2) (x5 : List Nat)) :: Pt bp0 (.cells #[w2, w3, (.int .i64 lp2_3), w4q, (.bool lp2_4)] 87 (0, 0)) :: OwnSl 3 w2 lp2_5 :: OwnSl 3 w3 lp2_6 :: L) w) ?_ ?_
                · refine k_loop hc6 (fun s a w => Env 174 [(0, (.pointer (some ⟨bp0, 0, none⟩))), (3, (.int .i64 x2)), (4, (Sl.v b3u)), (5, w23), (6, (.int .i64 lp2_0)), (7, (.pointer (some ⟨b6, 0, none⟩))), (8, vc1), (9, (.int .i64 s)), (48, (Sl.v b3u)), (49, (.int .i64 (x5.length : Int))), (50, (.int .i64 lp2_0))] a ∧ Hp Z ρ (OwnSl 3 vc1 j1 :: WTbG 105 107 3 w4q utw4q (lp2_2 : (List (List Nat) × List (List Int))) (some (x4 : Int)) (some ((x6, vc1) : Nat × Value)) :: Pt b6 (.cells #[vc1] 107 (0, 0)) :: OwnSl 107 w23 (List.map (hd (utw4q).2) (lp2_1 : List Nat)) :: OwnSl 107 (Sl.v b3u) (List.map (hd (utw4q).2) (x5 : List Nat)) :: Pt bp0 (.cells #[w2, w3, (.int .i64 lp2_3), w4q, (.bool lp2_4)] 87 (0, 0)) :: OwnSl 3 w2 lp2_5 :: OwnSl 3 w3 lp2_6 :: L) w) ?_ ?_
                  · exact ⟨hE.cut ⟨rfl, rfl, rfl, rfl, rfl, rfl, rfl, rfl, rfl, rfl, rfl, trivial⟩, hp⟩
                  · rintro lp3_0 st a w ⟨hE, hp⟩ hl3
                    have hE : Env 174 [(0, (.pointer (some ⟨bp0, 0, none⟩))), (3, (.int .i64 x2)), (4, (Sl.v b3u)), (5, w23), (6, (.int .i64 lp2_0)), (7, (.pointer (some ⟨b6, 0, none⟩))), (8, vc1), (9, (.int .i64 lp3_0)), (48, (Sl.v b3u)), (49, (.int .i64 (x5.length : Int))), (50, (.int .i64 lp2_0))] a := hE
                    have hp : Hp Z ρ (OwnSl 3 vc1 j1 :: _ :: _ :: _ :: _ :: _ :: _ :: _ :: L) w := hp
                    replace hl3 : m_proof_engine_propagate_lp3 lp2_2 lp2_3 lp2_4 lp2_5 lp2_6 j1 lp3_0 = some st := hl3
                    unfold m_proof_engine_propagate_lp3 at hl3
                    refine k_seq ?_
                    refine k_seq ?_
                    refine k_region ?_
                    refine s_val (wk0 rfl) rfl rfl hE hp (v := (.int .i64 lp3_0)) (ex_move rfl hE rfl) ?_
                    intro a hE
                    refine s_val (wk0 rfl) rfl rfl hE hp (v := vc1) (ex_move rfl hE rfl) ?_
                    intro a hE
                    refine s_val (wk0 rfl) rfl rfl hE hp (v := (.int .i64 (j1.length : Int))) (ex_len rfl hE rfl (OwnSl.len hp 0 rfl slty25)) ?_
                    intro a hE
                    refine s_val (wk0 rfl) rfl rfl hE hp (v := (.bool (decide (lp3_0 < (j1.length : Int))))) (ex_lss rfl hE rfl rfl) ?_
                    intro a hE
                    refine s_val (wk0 rfl) rfl rfl hE hp (v := (.bool (decide (lp3_0 < (j1.length : Int))))) (ex_move rfl hE rfl) ?_
                    intro a hE
                    obtain ⟨m1, hg1, hl3⟩ := bnd hl3
                    refine s_cut [_, _, _, _, _, _, _, _] (fun a w => Env 174 [(84, (.bool m1)), (0, (.pointer (some ⟨bp0, 0, none⟩))), (3, (.int .i64 x2)), (4, (Sl.v b3u)), (5, w23), (6, (.int .i64 lp2_0)), (7, (.pointer (some ⟨b6, 0, none⟩))), (8, vc1), (9, (.int .i64 lp3_0)), (48, (Sl.v b3u)), (49, (.int .i64 (x5.length : Int))), (50, (.int .i64 lp2_0))] a ∧ Hp Z ρ (OwnSl 3 vc1 j1 :: WTbG 105 107 3 w4q utw4q (lp2_2 : (List (List Nat) × List (List Int))) (some (x4 : Int)) (some ((x6, vc1) : Nat × Value)) :: Pt b6 (.cells #[vc1] 107 (0, 0)) :: OwnSl 107 w23 (List.map (hd (utw4q).2) (lp2_1 : List Nat)) :: OwnSl 107 (Sl.v b3u) (List.map (hd (utw4q).2) (x5 : List Nat)) :: Pt bp0 (.cells #[w2, w3, (.int .i64 lp2_3), w4q, (.bool lp2_4)] 87 (0, 0)) :: OwnSl 3 w2 lp2_5 :: OwnSl 3 w3 lp2_6 :: L) w) ?_ ?_
                    · rcases Bool.eq_false_or_eq_true (decide (lp3_0 < (j1.length : Int))) with hc7 | hc7
                      ·
                        replace hg1 := (it hc7).symm.trans hg1
                        refine s_val (wk1 hE rfl rfl rfl hc7) rfl rfl hE hp (v := (.pointer (some ⟨bp0, 0, none⟩))) (ex_move rfl hE rfl) ?_
                        intro a hE
                        refine s_val (wk1 hE rfl rfl rfl hc7) rfl rfl hE hp (v := vc1) (ex_move rfl hE rfl) ?_
                        intro a hE
                        refine s_val (wk1 hE rfl rfl rfl hc7) rfl rfl hE hp (v := (.int .i64 lp3_0)) (ex_move rfl hE rfl) ?_
                        intro a hE
                        obtain ⟨x13, ex13, hg1⟩ := bnd hg1
                        obtain ⟨b17, b17o, b17r, b17v, b17f⟩ := OwnSl.at hp 0 rfl slty25 ex13
                        have b17f : ∀ (j : Nat) (u : Value), ([(.int .i64 x13)] : List Value)[j]? = some u → ∀ ρ' L' w, Hp Z ρ' (OwnSl 3 vc1 j1 :: L') w → w.cell? ⟨b17, b17o + j, none⟩ = some u := b17f
                        refine s_val (wk1 hE rfl rfl rfl hc7) rfl rfl hE hp (v := (.pointer (some ⟨b17, b17o, none⟩))) (ex_index rfl hE rfl rfl b17r) ?_
                        intro a hE
                        refine s_val (wk1 hE rfl rfl rfl hc7) rfl rfl hE hp (v := (.int .i64 x13)) (ex_load rfl hE rfl (fun w hw => run_ld1 varty3 (b17f 0 _ rfl _ _ w (hw.get 0 rfl)))) ?_
                        intro a hE
                        obtain ⟨x14, ex14, hg1⟩ := bnd hg1
                        refine s_call (wk1 hE rfl rfl rfl hc7) rfl rfl hE rfl [(.pointer (some ⟨bp0, 0, none⟩)), (.int .i64 x13)] ⟨rfl, rfl, trivial⟩ ent57 (c_proof_engine_of hT bp0 (PEng.mk lp2_5 lp2_6 lp2_3 lp2_2 lp2_4) w2 w3 w4q utw4q x13 ((((hp.get 1 rfl).get 7 rfl).get 7 rfl).get 7 rfl) x14 ex14) Ret.ret ?_
                        intro v a w hR hE
                        obtain ⟨rfl, hp⟩ := Ret.of hR
                        have hp : Hp Z ρ (_ :: _ :: _ :: _ :: _ :: _ :: _ :: _ :: L) w := hp
                        refine s_val (wk1 hE rfl rfl rfl hc7) rfl rfl hE hp (v := (.bool (decide (x14 < 0)))) (ex_lss rfl hE rfl rfl) ?_
                        intro a hE
                        refine s_val (wk0 rfl) rfl rfl hE hp (v := (.bool (decide (x14 < 0)))) (ex_pick1 rfl hE rfl hc7 rfl) ?_
                        intro a hE
                        obtain rfl := Option.some.inj hg1
                        exact s_nil ⟨hE.cut ⟨rfl, rfl, rfl, rfl, rfl, rfl, rfl, rfl, rfl, rfl, rfl, rfl, trivial⟩, ((((((((hp.get 2 rfl).get 2 rfl).get 2 rfl).get 7 rfl).get 7 rfl).get 7 rfl).get 6 rfl).get 7 rfl)⟩
                      ·
                        replace hg1 := (ie hc7).symm.trans hg1
                        refine s_skip (wk2 hE rfl rfl rfl hc7) rfl rfl hE ?_
                        intro a hE
                        refine s_skip (wk2 hE rfl rfl rfl hc7) rfl rfl hE ?_
                        intro a hE
                        refine s_skip (wk2 hE rfl rfl rfl hc7) rfl rfl hE ?_
                        intro a hE
                        refine s_skip (wk2 hE rfl rfl rfl hc7) rfl rfl hE ?_
                        intro a hE
                        refine s_skip (wk2 hE rfl rfl rfl hc7) rfl rfl hE ?_
                        intro a hE
                        refine s_skip (wk2 hE rfl rfl rfl hc7) rfl rfl hE ?_
                        intro a hE
                        refine s_skip (wk2 hE rfl rfl rfl hc7) rfl rfl hE ?_
                        intro a hE
                        refine s_val (wk0 rfl) rfl rfl hE hp (v := (.bool false)) (ex_pick0 rfl hE rfl hc7 rfl) ?_
                        intro a hE
                        obtain rfl := Option.some.inj hg1
                        exact s_nil ⟨hE.cut ⟨rfl, rfl, rfl, rfl, rfl, rfl, rfl, rfl, rfl, rfl, rfl, rfl, trivial⟩, hp⟩
                    · rintro a w ⟨hE, hp⟩
                      refine s_nil ?_
                      refine k_if hE rfl (fun hc8 => ?_) (fun hc8 => ?_)
                      · replace hl3 := (it hc8).symm.trans hl3
                        refine k_skip ?_
                        refine k_plain ?_
                        refine k_region ?_
                        refine s_val (wk0 rfl) rfl rfl hE hp (v := (.int .i64 lp3_0)) (ex_move rfl hE rfl) ?_
                        intro a hE
                        obtain ⟨x15, ex15, hl3⟩ := bnd hl3
                        refine s_val (wk0 rfl) rfl rfl hE hp (v := (.int .i64 x15)) (ex_add rfl hE rfl rfl (inK_some ex15)) ?_
                        intro a hE
                        refine s_val (wk0 rfl) rfl rfl hE hp (v := (.int .i64 x15)) (ex_asn rfl hE rfl) ?_
                        intro a hE
                        refine s_nil ?_
                        exact ⟨_, (Option.some.inj hl3).symm, hE.cut ⟨rfl, rfl, rfl, rfl, rfl, rfl, rfl, rfl, rfl, rfl, rfl, trivial⟩, hp⟩
                      · replace hl3 := (ie hc8).symm.trans hl3
                        refine k_exit ?_
                        refine ⟨_, (Option.some.inj hl3).symm, fun hbb => ?_⟩
                        subst hbb
                        exact ⟨hE.cut ⟨rfl, rfl, rfl, rfl, rfl, rfl, rfl, rfl, rfl, rfl, rfl, trivial⟩, hp⟩
                · rintro a w ⟨hE, hp⟩
                  refine k_plain ?_
                  refine k_seq ?_
                  refine k_region ?_
                  refine s_val (wk0 rfl) rfl rfl hE hp (v := (.pointer (some ⟨bp0, 0, none⟩))) (ex_move rfl hE rfl) ?_
                  intro a hE
                  refine s_val (wk0 rfl) rfl rfl hE hp (v := vc1) (ex_move rfl hE rfl) ?_
                  intro a hE
                  obtain ⟨x16, ex16, hl2⟩ := bnd hl2
                  obtain ⟨b18, b18o, b18r, b18v, b18f⟩ := OwnSl.at hp 0 rfl slty25 ex16
                  have b18f : ∀ (j : Nat) (u : Value), ([(.int .i64 x16)] : List Value)[j]? = some u → ∀ ρ' L' w, Hp Z ρ' (OwnSl 3 vc1 j1 :: L') w → w.cell? ⟨b18, b18o + j, none⟩ = some u := b18f
                  refine s_val (wk0 rfl) rfl rfl hE hp (v := (.pointer (some ⟨b18, b18o, none⟩))) (ex_index rfl hE rfl rfl b18r) ?_
                  intro a hE
                  refine s_val (wk0 rfl) rfl rfl hE hp (v := (.int .i64 x16)) (ex_load rfl hE rfl (fun w hw => run_ld1 varty3 (b18f 0 _ rfl _ _ w (hw.get 0 rfl)))) ?_
                  intro a hE
                  obtain ⟨x17, ex17, hl2⟩ := bnd hl2
                  refine s_call (wk0 rfl) rfl rfl hE rfl [(.pointer (some ⟨bp0, 0, none⟩)), (.int .i64 x16)] ⟨rfl, rfl, trivial⟩ ent57 (c_proof_engine_of hT bp0 (PEng.mk lp2_5 lp2_6 lp2_3 lp2_2 lp2_4) w2 w3 w4q utw4q x16 ((((hp.get 1 rfl).get 7 rfl).get 7 rfl).get 7 rfl) x17 ex17) Ret.ret ?_
                  intro v a w hR hE
                  obtain ⟨rfl, hp⟩ := Ret.of hR
                  have hp : Hp Z ρ (_ :: _ :: _ :: _ :: OwnSl 3 vc1 j1 :: _ :: _ :: _ :: L) w := hp
                  refine s_val (wk0 rfl) rfl rfl hE hp (v := (.bool (decide (0 < x17)))) (ex_gtr rfl hE rfl rfl) ?_
                  intro a hE
                  refine s_val (wk0 rfl) rfl rfl hE hp (v := (.bool (decide (0 < x17)))) (ex_asn rfl hE rfl) ?_
                  intro a hE
                  refine s_nil ?_
                  refine k_if hE rfl (fun hc9 => ?_) (fun hc9 => ?_)
                  · replace hl2 := (it hc9).symm.trans hl2
                    refine k_region ?_
                    refine s_val (wk0 rfl) rfl rfl hE hp (v := w23) (ex_move rfl hE rfl) ?_
                    intro a hE
                    refine s_val (wk0 rfl) rfl rfl hE hp (v := (.agg #[vc1])) (ex_load rfl hE rfl (fun w hw => run_ldN (cs := [vc1]) varty107 (Hp.cN 5 rfl 0 _ (sub_all rfl) w hw))) ?_
                    intro a hE
                    refine s_lit (wk0 rfl) rfl rfl hE hp rfl [(0, (.agg #[vc1]))] ⟨⟨rfl, rfl⟩, trivial⟩ [vc1] 107 (fun w => by have hc0 := OwnSl.cells hp 4 rfl; simp only [Value.cells] at hc0; simp [Instr.buildSlice, Instr.fill, Value.cells, hc0, go_sem]) ?_
                    intro a w b19 hE hp
                    have hp : Hp Z ρ (Pt b19 (.cells #[vc1] 107 (0, 0)) :: _ :: _ :: _ :: _ :: _ :: _ :: _ :: _ :: L) w := hp
                    obtain ⟨x18, ex18, hl2⟩ := bnd hl2
                    have hwx18 := WTbG.away hp 4 rfl
                    refine s_app (wk0 rfl) rfl rfl hE hp rfl slty105 rfl rfl 7 rfl rfl (l2 := List.map (hd (utw4q).2) ([x6] : List Nat)) rfl (fun j u hj => by have := Hp.cN 0 rfl 0 _ (sub_all rfl) w hp j u (by simpa [flat, Enc.enc, hwx18] using hj); simpa using this) (app_map ex18) ?_
                    intro v1 a w hE hp
                    have hp : Hp Z ρ (_ :: _ :: _ :: _ :: _ :: _ :: _ :: OwnSl 107 v1 (List.map (hd (utw4q).2) (x18 : List Nat)) :: _ :: L) w := hp
                    refine s_val (wk0 rfl) rfl rfl hE hp (v := v1) (ex_asn rfl hE rfl) ?_
                    intro a hE
                    refine s_nil ?_
                    have hE := hE.cut (E' := [(0, (.pointer (some ⟨bp0, 0, none⟩))), (3, (.int .i64 x2)), (4, (Sl.v b3u)), (5, v1), (48, (Sl.v b3u)), (49, (.int .i64 (x5.length : Int))), (50, (.int .i64 lp2_0))]) ⟨rfl, rfl, rfl, rfl, rfl, rfl, rfl, trivial⟩
                    refine k_region ?_
                    obtain ⟨x19, ex19, hl2⟩ := bnd hl2
                    refine s_val (wk0 rfl) rfl rfl hE hp (v := (.int .i64 x19)) (ex_add rfl hE rfl rfl (inK_some ex19)) ?_
                    intro a hE
                    refine s_val (wk0 rfl) rfl rfl hE hp (v := (.int .i64 x19)) (ex_move rfl hE rfl) ?_
                    intro a hE
                    refine s_nil ?_
                    have hp := (hp.get 0 rfl).drop
                    have hp := (hp.get 5 rfl).drop
                    have hp := WTbG.back ((hp.get 3 rfl).get 4 rfl)
                    have hp : Hp Z ρ (WTbG 105 107 3 w4q utw4q ((lp2_2.1, lp2_2.2.set x6 j1) : (List (List Nat) × List (List Int))) (some (x4 : Int)) none :: _ :: _ :: _ :: _ :: _ :: L) w := hp
                    exact ⟨_, (Option.some.inj hl2).symm, _, _, utw4q, _, _, hE.cut ⟨rfl, rfl, rfl, rfl, rfl, rfl, rfl, trivial⟩, ((((((hp.get 3 rfl).get 3 rfl).get 3 rfl).get 3 rfl).get 5 rfl).get 5 rfl)⟩
                  · replace hl2 := (ie hc9).symm.trans hl2
                    refine k_seq ?_
                    refine k_region ?_
                    refine s_val (wk0 rfl) rfl rfl hE hp (v := (.int .i64 b16)) (ex_move rfl hE rfl) ?_
                    intro a hE
                    refine s_val (wk0 rfl) rfl rfl hE hp (v := vc1) (ex_move rfl hE rfl) ?_
                    intro a hE
                    refine s_val (wk0 rfl) rfl rfl hE hp (v := (.int .i64 (j1.length : Int))) (ex_len rfl hE rfl (OwnSl.len hp 4 rfl slty25)) ?_
                    intro a hE
                    refine s_val (wk0 rfl) rfl rfl hE hp (v := (.bool (decide (b16 < (j1.length : Int))))) (ex_lss rfl hE rfl rfl) ?_
                    intro a hE
                    refine s_val (wk0 rfl) rfl rfl hE hp (v := (.bool (decide (b16 < (j1.length : Int))))) (ex_asn rfl hE rfl) ?_
                    intro a hE
                    refine s_nil ?_
                    refine k_if hE rfl (fun hc10 => ?_) (fun hc10 => ?_)
                    · replace hl2 := (it hc10).symm.trans hl2
                      refine k_seq ?_
                      obtain ⟨x20, ex20, hl2⟩ := bnd hl2
                      obtain ⟨x21, ex21, hl2⟩ := bnd hl2
                      obtain ⟨x22, ex22, hl2⟩ := bnd hl2
                      obtain ⟨x23, ex23, hl2⟩ := bnd hl2
                      have hp := hp.drew
                      refine k_heldV ([([], At0 Z ρ), ([11, 13], At1 Z ρ (OwnSl 3 vc1 j1))] : Facts) (fun a w => Env 174 [(0, (.pointer (some ⟨bp0, 0, none⟩))), (3, (.int .i64 x2)), (4, (Sl.v b3u)), (5, w23), (7, (.pointer (some ⟨b6, 0, none⟩))), (8, vc1), (48, (Sl.v b3u)), (49, (.int .i64 (x5.length : Int))), (50, (.int .i64 lp2_0))] a ∧ Hp Z ρ (Pt bp0 (.cells #[w2, w3, (.int .i64 lp2_3), w4q, (.bool lp2_4)] 87 (0, 0)) :: OwnSl 3 w2 lp2_5 :: OwnSl 3 w3 lp2_6 :: WTbG 105 107 3 w4q utw4q (lp2_2 : (List (List Nat) × List (List Int))) (some (x4 : Int)) (some ((x6, vc1) : Nat × Value)) :: OwnSl 3 vc1 ((j1.set (1 : Int).toNat x20).set b16.toNat x21) :: Pt b6 (.cells #[vc1] 107 (0, 0)) :: OwnSl 107 w23 (List.map (hd (utw4q).2) (lp2_1 : List Nat)) :: OwnSl 107 (Sl.v b3u) (List.map (hd (utw4q).2) (x5 : List Nat)) :: L) w) (by kernel_rfl) ⟨fun _ => ⟨_, hp⟩, fun _ => ⟨_, (hp.get 4 rfl)⟩, trivial⟩ (fun hS => ?_) ?_
                      ·
                        generalize w.drew = w at hS hp ⊢
                        refine v_take0 0 (wk0 rfl) rfl rfl rfl hE (by kernel_rfl) (by kernel_rfl) (by kernel_rfl) rfl (by kernel_rfl) hS (v := vc1) (fun _ => ex_move rfl hE rfl) ?_
                        intro a hE hS
                        refine v_take0 1 (wk0 rfl) rfl rfl rfl hE (by kernel_rfl) (by kernel_rfl) (by kernel_rfl) rfl (by kernel_rfl) hS (v := vc1) (fun _ => ex_move rfl hE rfl) ?_
                        intro a hE hS
                        refine v_take0 2 (wk0 rfl) rfl rfl rfl hE (by kernel_rfl) (by kernel_rfl) (by kernel_rfl) rfl (by kernel_rfl) hS (v := (.int .i64 b16)) (fun _ => ex_move rfl hE rfl) ?_
                        intro a hE hS
                        refine v_take0 3 (wk0 rfl) rfl rfl rfl hE (by kernel_rfl) (by kernel_rfl) (by kernel_rfl) rfl (by kernel_rfl) hS (v := vc1) (fun _ => ex_move rfl hE rfl) ?_
                        intro a hE hS
                        refine v_take0 4 (wk0 rfl) rfl rfl rfl hE (by kernel_rfl) (by kernel_rfl) (by kernel_rfl) rfl (by kernel_rfl) hS (v := (.int .i64 b16)) (fun _ => ex_move rfl hE rfl) ?_
                        intro a hE hS
                        obtain ⟨b24, b24o, b24r, b24v, b24f⟩ := OwnSl.at hp 4 rfl slty25 ex20
                        have b24f : ∀ (j : Nat) (u : Value), ([(.int .i64 x20)] : List Value)[j]? = some u → ∀ ρ' L' w, Hp Z ρ' (OwnSl 3 vc1 j1 :: L') w → w.cell? ⟨b24, b24o + j, none⟩ = some u := b24f
                        refine v_take0 5 (wk0 rfl) rfl rfl rfl hE (by kernel_rfl) (by kernel_rfl) (by kernel_rfl) rfl (by kernel_rfl) hS (v := (.pointer (some ⟨b24, b24o, none⟩))) (fun _ => ex_index rfl hE rfl rfl b24r) ?_
                        intro a hE hS
                        refine v_take1 6 1 (wk0 rfl) rfl rfl rfl hE (by kernel_rfl) (by kernel_rfl) (by kernel_rfl) rfl (by kernel_rfl) hS (v := (.int .i64 x20)) (fun _ => ex_load rfl hE rfl (fun w hw => run_ld1 varty3 (b24f 0 _ rfl _ _ w (hw.get 0 rfl)))) ?_
                        intro a hE hS
                        refine v_take0 7 (wk0 rfl) rfl rfl rfl hE (by kernel_rfl) (by kernel_rfl) (by kernel_rfl) rfl (by kernel_rfl) hS (v := vc1) (fun _ => ex_move rfl hE rfl) ?_
                        intro a hE hS
                        obtain ⟨b25, b25o, b25r, b25v, b25f⟩ := OwnSl.at hp 4 rfl slty25 ex21
                        have b25f : ∀ (j : Nat) (u : Value), ([(.int .i64 x21)] : List Value)[j]? = some u → ∀ ρ' L' w, Hp Z ρ' (OwnSl 3 vc1 j1 :: L') w → w.cell? ⟨b25, b25o + j, none⟩ = some u := b25f
                        refine v_take0 8 (wk0 rfl) rfl rfl rfl hE (by kernel_rfl) (by kernel_rfl) (by kernel_rfl) rfl (by kernel_rfl) hS (v := (.pointer (some ⟨b25, b25o, none⟩))) (fun _ => ex_index rfl hE rfl rfl b25r) ?_
                        intro a hE hS
                        refine v_take1 9 1 (wk0 rfl) rfl rfl rfl hE (by kernel_rfl) (by kernel_rfl) (by kernel_rfl) rfl (by kernel_rfl) hS (v := (.int .i64 x21)) (fun _ => ex_load rfl hE rfl (fun w hw => run_ld1 varty3 (b25f 0 _ rfl _ _ w (hw.get 0 rfl)))) ?_
                        intro a hE hS
                        obtain ⟨b26, b26o, b26r, b26v, b26f⟩ := OwnSl.at hp 4 rfl slty25 ex22
                        have b26f : ∀ (j : Nat) (u : Value), ([(.int .i64 x22)] : List Value)[j]? = some u → ∀ ρ' L' w, Hp Z ρ' (OwnSl 3 vc1 j1 :: L') w → w.cell? ⟨b26, b26o + j, none⟩ = some u := b26f
                        refine v_take0 10 (wk0 rfl) rfl rfl rfl hE (by kernel_rfl) (by kernel_rfl) (by kernel_rfl) rfl (by kernel_rfl) hS (v := (.pointer (some ⟨b26, b26o, none⟩))) (fun _ => ex_index rfl hE rfl rfl b26r) ?_
                        intro a hE hS
                        refine v_all [11] (by kernel_rfl) rfl ?_
                        refine List.forall_mem_cons.2 ⟨?_, fun _ h => absurd h (by simp)⟩
                        ·
                          refine h_op rfl ?_
                          refine s_stel (wk0 rfl) rfl hE hp rfl rfl rfl 4 rfl ex22 b26v 0 (e' := x20) varty3.size_ rfl rfl rfl ⟨rfl, rfl⟩ ?_
                          intro w hp
                          have hp : Hp Z ρ (_ :: _ :: _ :: _ :: OwnSl 3 vc1 (j1.set (1 : Int).toNat x20) :: _ :: _ :: _ :: L) w := hp
                          refine s_nil (and_with ⟨fun _ => ⟨_, hp⟩, dead (by kernel_rfl), trivial⟩ fun hS => ?_)
                          obtain ⟨b27, b27o, b27r, b27v, b27f⟩ := OwnSl.at hp 4 rfl slty25 ex23
                          have b27f : ∀ (j : Nat) (u : Value), ([(.int .i64 x23)] : List Value)[j]? = some u → ∀ ρ' L' w, Hp Z ρ' (OwnSl 3 vc1 (j1.set (1 : Int).toNat x20) :: L') w → w.cell? ⟨b27, b27o + j, none⟩ = some u := b27f
                          refine v_take0 12 (wk0 rfl) rfl rfl rfl hE (by kernel_rfl) (by kernel_rfl) (by kernel_rfl) rfl (by kernel_rfl) hS (v := (.pointer (some ⟨b27, b27o, none⟩))) (fun _ => ex_index rfl hE rfl rfl b27r) ?_
                          intro a hE hS
                          refine v_all [13] (by kernel_rfl) rfl ?_
                          refine List.forall_mem_cons.2 ⟨?_, fun _ h => absurd h (by simp)⟩
                          ·
                            refine h_op rfl ?_
                            refine s_stel (wk0 rfl) rfl hE hp rfl rfl rfl 4 rfl ex23 b27v 0 (e' := x21) varty3.size_ rfl rfl rfl ⟨rfl, rfl⟩ ?_
                            intro w hp
                            have hp : Hp Z ρ (_ :: _ :: _ :: _ :: OwnSl 3 vc1 ((j1.set (1 : Int).toNat x20).set b16.toNat x21) :: _ :: _ :: _ :: L) w := hp
                            refine s_nil (and_with ⟨fun _ => ⟨_, hp⟩, dead (by kernel_rfl), trivial⟩ fun hS => ?_)
                            exact v_done (by kernel_rfl) ⟨hE.cut ⟨rfl, rfl, rfl, rfl, rfl, rfl, rfl, rfl, rfl, trivial⟩, hp⟩
                      · rintro a w ⟨hE, hp⟩
                        obtain ⟨x24, ex24, hl2⟩ := bnd hl2
                        obtain ⟨x25, ex25, hl2⟩ := bnd hl2
                        obtain ⟨x26, ex26, hl2⟩ := bnd hl2
                        obtain ⟨x27, ex27, hl2⟩ := bnd hl2
                        obtain ⟨x28, ex28, hl2⟩ := bnd hl2
                        obtain ⟨x29, ex29, hl2⟩ := bnd hl2
                        obtain ⟨x30, ex30, hl2⟩ := bnd hl2
                        obtain ⟨x31, ex31, hl2⟩ := bnd hl2
                        have hp := hp.drew
                        refine k_heldV ([([], At0 Z ρ), ([], At1 Z ρ (Pt bp0 (.cells #[w2, w3, (.int .i64 lp2_3), w4q, (.bool lp2_4)] 87 (0, 0)))), ([20, 22], At1 Z ρ (WTbG 105 107 3 w4q utw4q (lp2_2 : (List (List Nat) × List (List Int))) (some (x4 : Int)) (some ((x6, vc1) : Nat × Value)))), ([], At1 Z ρ (OwnSl 3 vc1 ((j1.set (1 : Int).toNat x20).set b16.toNat x21))), ([], At1 Z ρ (Pt b6 (.cells #[vc1] 107 (0, 0))))] : Facts) (fun a w => ∃ yut4 : List Sl × List Sl, ∃ y33 : Nat, Env 174 [(0, (.pointer (some ⟨bp0, 0, none⟩))), (3, (.int .i64 x2)), (4, (Sl.v b3u)), (5, w23), (48, (Sl.v b3u)), (49, (.int .i64 (x5.length : Int))), (50, (.int .i64 lp2_0))] a ∧ Hp Z ρ (WTbG 105 107 3 w4q yut4 ((lp2_2.1.set x27.toNat x30, lp2_2.2) : (List (List Nat) × List (List Int))) (some (x4 : Int)) (some ((x6, vc1) : Nat × Value)) :: Pt y33 (.cells #[vc1] 107 (0, 0)) :: Pt bp0 (.cells #[w2, w3, (.int .i64 lp2_3), w4q, (.bool lp2_4)] 87 (0, 0)) :: OwnSl 3 w2 lp2_5 :: OwnSl 3 w3 lp2_6 :: OwnSl 3 vc1 ((j1.set (1 : Int).toNat x20).set b16.toNat x21) :: Pt b6 (.cells #[vc1] 107 (0, 0)) :: OwnSl 107 w23 (List.map (hd (yut4).2) (lp2_1 : List Nat)) :: OwnSl 107 (Sl.v b3u) (List.map (hd (yut4).2) (x5 : List Nat)) :: L) w) (by kernel_rfl) ⟨fun _ => ⟨_, hp⟩, fun _ => ⟨_, (hp.get 0 rfl)⟩, fun _ => ⟨_, (hp.get 3 rfl)⟩, fun _ => ⟨_, (hp.get 4 rfl)⟩, fun _ => ⟨_, (hp.get 5 rfl)⟩, trivial⟩ (fun hS => ?_) ?_
                        ·
                          generalize w.drew = w at hS hp ⊢
                          refine v_take0 0 (wk0 rfl) rfl rfl rfl hE (by kernel_rfl) (by kernel_rfl) (by kernel_rfl) rfl (by kernel_rfl) hS (v := (.pointer (some ⟨bp0, 0, none⟩))) (fun _ => ex_move rfl hE rfl) ?_
                          intro a hE hS
                          refine v_take0 1 (wk0 rfl) rfl rfl rfl hE (by kernel_rfl) (by kernel_rfl) (by kernel_rfl) rfl (by kernel_rfl) hS (v := (.pointer (some ⟨bp0, 0, none⟩))) (fun _ => ex_nil rfl hE rfl) ?_
                          intro a hE hS
                          refine v_take0 2 (wk0 rfl) rfl rfl rfl hE (by kernel_rfl) (by kernel_rfl) (by kernel_rfl) rfl (by kernel_rfl) hS (v := (.pointer (some ⟨bp0, 3, none⟩))) (fun _ => ex_field rfl hE rfl (fldty87_3 _ _)) ?_
                          intro a hE hS
                          refine v_take1 3 1 (wk0 rfl) rfl rfl rfl hE (by kernel_rfl) (by kernel_rfl) (by kernel_rfl) rfl (by kernel_rfl) hS (v := w4q) (fun _ => ex_load rfl hE rfl (fun w hw => run_ld1 varty85 (Hp.c 0 rfl 3 rfl w hw))) ?_
                          intro a hE hS
                          refine v_take0 4 (wk0 rfl) rfl rfl rfl hE (by kernel_rfl) (by kernel_rfl) (by kernel_rfl) rfl (by kernel_rfl) hS (v := vc1) (fun _ => ex_move rfl hE rfl) ?_
                          intro a hE hS
                          obtain ⟨b33, b33o, b33r, b33v, b33f⟩ := OwnSl.at hp 4 rfl slty25 ex24
                          have b33f : ∀ (j : Nat) (u : Value), ([(.int .i64 x24)] : List Value)[j]? = some u → ∀ ρ' L' w, Hp Z ρ' (OwnSl 3 vc1 ((j1.set (1 : Int).toNat x20).set b16.toNat x21) :: L') w → w.cell? ⟨b33, b33o + j, none⟩ = some u := b33f
                          refine v_take0 5 (wk0 rfl) rfl rfl rfl hE (by kernel_rfl) (by kernel_rfl) (by kernel_rfl) rfl (by kernel_rfl) hS (v := (.pointer (some ⟨b33, b33o, none⟩))) (fun _ => ex_index rfl hE rfl rfl b33r) ?_
                          intro a hE hS
                          refine v_take1 6 3 (wk0 rfl) rfl rfl rfl hE (by kernel_rfl) (by kernel_rfl) (by kernel_rfl) rfl (by kernel_rfl) hS (v := (.int .i64 x24)) (fun _ => ex_load rfl hE rfl (fun w hw => run_ld1 varty3 (b33f 0 _ rfl _ _ w (hw.get 0 rfl)))) ?_
                          intro a hE hS
                          refine v_take0 8 (wk0 rfl) rfl rfl rfl hE (by kernel_rfl) (by kernel_rfl) (by kernel_rfl) rfl (by kernel_rfl) hS (v := (.pointer (some ⟨bp0, 0, none⟩))) (fun _ => ex_move rfl hE rfl) ?_
                          intro a hE hS
                          refine v_take0 9 (wk0 rfl) rfl rfl rfl hE (by kernel_rfl) (by kernel_rfl) (by kernel_rfl) rfl (by kernel_rfl) hS (v := (.pointer (some ⟨bp0, 0, none⟩))) (fun _ => ex_nil rfl hE rfl) ?_
                          intro a hE hS
                          refine v_take0 10 (wk0 rfl) rfl rfl rfl hE (by kernel_rfl) (by kernel_rfl) (by kernel_rfl) rfl (by kernel_rfl) hS (v := (.pointer (some ⟨bp0, 3, none⟩))) (fun _ => ex_field rfl hE rfl (fldty87_3 _ _)) ?_
                          intro a hE hS
                          refine v_take1 11 1 (wk0 rfl) rfl rfl rfl hE (by kernel_rfl) (by kernel_rfl) (by kernel_rfl) rfl (by kernel_rfl) hS (v := w4q) (fun _ => ex_load rfl hE rfl (fun w hw => run_ld1 varty85 (Hp.c 0 rfl 3 rfl w hw))) ?_
                          intro a hE hS
                          refine v_take0 12 (wk0 rfl) rfl rfl rfl hE (by kernel_rfl) (by kernel_rfl) (by kernel_rfl) rfl (by kernel_rfl) hS (v := vc1) (fun _ => ex_move rfl hE rfl) ?_
                          intro a hE hS
                          obtain ⟨b34, b34o, b34r, b34v, b34f⟩ := OwnSl.at hp 4 rfl slty25 ex26
                          have b34f : ∀ (j : Nat) (u : Value), ([(.int .i64 x26)] : List Value)[j]? = some u → ∀ ρ' L' w, Hp Z ρ' (OwnSl 3 vc1 ((j1.set (1 : Int).toNat x20).set b16.toNat x21) :: L') w → w.cell? ⟨b34, b34o + j, none⟩ = some u := b34f
                          refine v_take0 13 (wk0 rfl) rfl rfl rfl hE (by kernel_rfl) (by kernel_rfl) (by kernel_rfl) rfl (by kernel_rfl) hS (v := (.pointer (some ⟨b34, b34o, none⟩))) (fun _ => ex_index rfl hE rfl rfl b34r) ?_
                          intro a hE hS
                          refine v_take1 14 3 (wk0 rfl) rfl rfl rfl hE (by kernel_rfl) (by kernel_rfl) (by kernel_rfl) rfl (by kernel_rfl) hS (v := (.int .i64 x26)) (fun _ => ex_load rfl hE rfl (fun w hw => run_ld1 varty3 (b34f 0 _ rfl _ _ w (hw.get 0 rfl)))) ?_
                          intro a hE hS
                          refine v_take1 18 4 (wk0 rfl) rfl rfl rfl hE (by kernel_rfl) (by kernel_rfl) (by kernel_rfl) rfl (by kernel_rfl) hS (v := (.agg #[vc1])) (fun _ => ex_load rfl hE rfl (fun w hw => run_ldN (cs := [vc1]) varty107 (Hp.cN 0 rfl 0 _ (sub_all rfl) w hw))) ?_
                          intro a hE hS
                          refine v_all [7, 19] (by kernel_rfl) rfl ?_
                          refine List.forall_mem_cons.2 ⟨?_, List.forall_mem_cons.2 ⟨?_, fun _ h => absurd h (by simp)⟩⟩
                          ·
                            refine h_op rfl ?_
                            refine s_call (wk0 rfl) rfl rfl hE rfl [(.int .i64 x24)] ⟨rfl, trivial⟩ ent77 (c_proof_index hT x24 hp x25 ex25) Ret.ret ?_
                            intro v a w hR hE
                            obtain ⟨rfl, hp⟩ := Ret.of hR
                            have hp : Hp Z ρ (_ :: _ :: _ :: _ :: _ :: _ :: _ :: _ :: L) w := hp
                            refine s_nil (and_with ⟨fun _ => ⟨_, hp⟩, fun _ => ⟨_, (hp.get 0 rfl)⟩, fun _ => ⟨_, (hp.get 3 rfl)⟩, fun _ => ⟨_, (hp.get 4 rfl)⟩, fun _ => ⟨_, (hp.get 5 rfl)⟩, trivial⟩ fun hS => ?_)
                            refine v_all [15, 19] (by kernel_rfl) rfl ?_
                            refine List.forall_mem_cons.2 ⟨?_, List.forall_mem_cons.2 ⟨?_, fun _ h => absurd h (by simp)⟩⟩
                            ·
                              refine h_op rfl ?_
                              refine s_call (wk0 rfl) rfl rfl hE rfl [(.int .i64 x26)] ⟨rfl, trivial⟩ ent77 (c_proof_index hT x26 hp x27 ex27) Ret.ret ?_
                              intro v a w hR hE
                              obtain ⟨rfl, hp⟩ := Ret.of hR
                              have hp : Hp Z ρ (_ :: _ :: _ :: _ :: _ :: _ :: _ :: _ :: L) w := hp
                              refine s_nil (and_with ⟨fun _ => ⟨_, hp⟩, fun _ => ⟨_, (hp.get 0 rfl)⟩, fun _ => ⟨_, (hp.get 3 rfl)⟩, fun _ => ⟨_, (hp.get 4 rfl)⟩, fun _ => ⟨_, (hp.get 5 rfl)⟩, trivial⟩ fun hS => ?_)
                              obtain ⟨b35u, b35, b35o, b35h, b35r, b35v, b35f⟩ := WTbG.hdr (hp.get 3 rfl) slty85 ex28
                              have b35f : ∀ (j : Nat) (u : Value), ([(Sl.v b35u)] : List Value)[j]? = some u → ∀ ρ' L' w, Hp Z ρ' (WTbG 105 107 3 w4q utw4q (lp2_2 : (List (List Nat) × List (List Int))) (some (x4 : Int)) (some ((x6, vc1) : Nat × Value)) :: L') w → w.cell? ⟨b35, b35o + j, none⟩ = some u := b35f
                              refine v_take0 16 (wk0 rfl) rfl rfl rfl hE (by kernel_rfl) (by kernel_rfl) (by kernel_rfl) rfl (by kernel_rfl) hS (v := (.pointer (some ⟨b35, b35o, none⟩))) (fun _ => ex_index rfl hE rfl rfl b35r) ?_
                              intro a hE hS
                              refine v_take1 17 2 (wk0 rfl) rfl rfl rfl hE (by kernel_rfl) (by kernel_rfl) (by kernel_rfl) rfl (by kernel_rfl) hS (v := (Sl.v b35u)) (fun _ => ex_load rfl hE rfl (fun w hw => run_ld1 varty105 (b35f 0 _ rfl _ _ w (hw.get 0 rfl)))) ?_
                              intro a hE hS
                              refine v_all [19] (by kernel_rfl) rfl ?_
                              refine List.forall_mem_cons.2 ⟨?_, fun _ h => absurd h (by simp)⟩
                              ·
                                refine h_op rfl ?_
                                refine s_lit (wk0 rfl) rfl rfl hE hp rfl [(0, (.agg #[vc1]))] ⟨⟨rfl, rfl⟩, trivial⟩ [vc1] 107 (fun w => by have hc0 := OwnSl.cells hp 4 rfl; simp only [Value.cells] at hc0; simp [Instr.buildSlice, Instr.fill, Value.cells, hc0, go_sem]) ?_
                                intro a w b36 hE hp
                                have hp : Hp Z ρ (Pt b36 (.cells #[vc1] 107 (0, 0)) :: _ :: _ :: _ :: _ :: _ :: _ :: _ :: _ :: L) w := hp
                                refine s_nil (and_with ⟨fun _ => ⟨_, hp⟩, fun _ => ⟨_, (hp.get 1 rfl)⟩, fun _ => ⟨_, (hp.get 4 rfl)⟩, fun _ => ⟨_, (hp.get 5 rfl)⟩, fun _ => ⟨_, (hp.get 6 rfl)⟩, trivial⟩ fun hS => ?_)
                                refine v_all [20] (by kernel_rfl) rfl ?_
                                refine List.forall_mem_cons.2 ⟨?_, fun _ h => absurd h (by simp)⟩
                                ·
                                  refine h_op rfl ?_
                                  have nx29 : neL x27 (some (x4 : Int)) := guardNe_some ex29
                                  have hp := WTbG.takeRow nx29 b35h ex28 (hp.get 4 rfl)
                                  have hp : Hp Z ρ (OwnSl 107 (Sl.v b35u) (List.map (hd (utw4q).2) (x28 : List Nat)) :: WTbR 105 107 3 w4q utw4q (lp2_2 : (List (List Nat) × List (List Int))) (some (x4 : Int)) (some ((x6, vc1) : Nat × Value)) x27 :: _ :: _ :: _ :: _ :: _ :: _ :: _ :: _ :: L) w := hp
                                  have hwx30 := WTbR.away hp 1 rfl
                                  refine s_app (wk0 rfl) rfl rfl hE hp rfl slty105 rfl rfl 0 rfl rfl (l2 := List.map (hd (utw4q).2) ([x6] : List Nat)) rfl (fun j u hj => by have := Hp.cN 2 rfl 0 _ (sub_all rfl) w hp j u (by simpa [flat, Enc.enc, hwx30] using hj); simpa using this) (app_map ex30) ?_
                                  intro v3 a w hE hp
                                  have hp : Hp Z ρ (OwnSl 107 v3 (List.map (hd (utw4q).2) (x30 : List Nat)) :: _ :: _ :: _ :: _ :: _ :: _ :: _ :: _ :: _ :: L) w := hp
                                  refine s_nil (and_with ⟨fun _ => ⟨_, hp⟩, fun _ => ⟨_, (hp.get 3 rfl)⟩, dead (by kernel_rfl), fun _ => ⟨_, (hp.get 6 rfl)⟩, fun _ => ⟨_, (hp.get 7 rfl)⟩, trivial⟩ fun hS => ?_)
                                  obtain ⟨b37, b37o, b37r, b37v⟩ := WTbR.adr (hp.get 1 rfl) slty85 b35h
                                  rw [← guardEq_some ex31] at b37r
                                  refine v_take0 21 (wk0 rfl) rfl rfl rfl hE (by kernel_rfl) (by kernel_rfl) (by kernel_rfl) rfl (by kernel_rfl) hS (v := (.pointer (some ⟨b37, b37o, none⟩))) (fun _ => ex_index rfl hE rfl rfl b37r) ?_
                                  intro a hE hS
                                  refine v_all [22] (by kernel_rfl) rfl ?_
                                  refine List.forall_mem_cons.2 ⟨?_, fun _ h => absurd h (by simp)⟩
                                  ·
                                    refine h_op rfl ?_
                                    obtain ⟨sl2, sl2e⟩ := OwnSl.toSl hp 0 rfl
                                    refine s_wput (wk0 rfl) rfl hE sl2e ((hp.get 1 rfl).get 1 rfl) rfl rfl rfl nx29 b35h ex28 b37v varty105.size_ ?_
                                    intro w hp
                                    have hp : Hp Z ρ (WTbG 105 107 3 w4q (utw4q.1.set x27.toNat sl2, utw4q.2) ((lp2_2.1.set x27.toNat x30, lp2_2.2) : (List (List Nat) × List (List Int))) (some (x4 : Int)) (some ((x6, vc1) : Nat × Value)) :: _ :: _ :: _ :: _ :: _ :: _ :: _ :: _ :: L) w := hp
                                    refine s_nil (and_with ⟨fun _ => ⟨_, hp⟩, fun _ => ⟨_, (hp.get 2 rfl)⟩, dead (by kernel_rfl), fun _ => ⟨_, (hp.get 5 rfl)⟩, fun _ => ⟨_, (hp.get 6 rfl)⟩, trivial⟩ fun hS => ?_)
                                    exact v_done (by kernel_rfl) ⟨(utw4q.1.set x27.toNat sl2, utw4q.2), _, hE.cut ⟨rfl, rfl, rfl, rfl, rfl, rfl, rfl, trivial⟩, hp⟩
                            ·
                              refine h_op rfl ?_
                              refine s_lit (wk0 rfl) rfl rfl hE hp rfl [(0, (.agg #[vc1]))] ⟨⟨rfl, rfl⟩, trivial⟩ [vc1] 107 (fun w => by have hc0 := OwnSl.cells hp 4 rfl; simp only [Value.cells] at hc0; simp [Instr.buildSlice, Instr.fill, Value.cells, hc0, go_sem]) ?_
                              intro a w b38 hE hp
                              have hp : Hp Z ρ (Pt b38 (.cells #[vc1] 107 (0, 0)) :: _ :: _ :: _ :: _ :: _ :: _ :: _ :: _ :: L) w := hp
                              refine s_nil (and_with ⟨fun _ => ⟨_, hp⟩, fun _ => ⟨_, (hp.get 1 rfl)⟩, fun _ => ⟨_, (hp.get 4 rfl)⟩, fun _ => ⟨_, (hp.get 5 rfl)⟩, fun _ => ⟨_, (hp.get 6 rfl)⟩, trivial⟩ fun hS => ?_)
                              refine v_all [15] (by kernel_rfl) rfl ?_
                              refine List.forall_mem_cons.2 ⟨?_, fun _ h => absurd h (by simp)⟩
                              ·
                                refine h_op rfl ?_
                                refine s_call (wk0 rfl) rfl rfl hE rfl [(.int .i64 x26)] ⟨rfl, trivial⟩ ent77 (c_proof_index hT x26 hp x27 ex27) Ret.ret ?_
                                intro v a w hR hE
                                obtain ⟨rfl, hp⟩ := Ret.of hR
                                have hp : Hp Z ρ (_ :: _ :: _ :: _ :: _ :: _ :: _ :: _ :: _ :: L) w := hp
                                refine s_nil (and_with ⟨fun _ => ⟨_, hp⟩, fun _ => ⟨_, (hp.get 1 rfl)⟩, fun _ => ⟨_, (hp.get 4 rfl)⟩, fun _ => ⟨_, (hp.get 5 rfl)⟩, fun _ => ⟨_, (hp.get 6 rfl)⟩, trivial⟩ fun hS => ?_)
                                obtain ⟨b39u, b39, b39o, b39h, b39r, b39v, b39f⟩ := WTbG.hdr (hp.get 4 rfl) slty85 ex28
                                have b39f : ∀ (j : Nat) (u : Value), ([(Sl.v b39u)] : List Value)[j]? = some u → ∀ ρ' L' w, Hp Z ρ' (WTbG 105 107 3 w4q utw4q (lp2_2 : (List (List Nat) × List (List Int))) (some (x4 : Int)) (some ((x6, vc1) : Nat × Value)) :: L') w → w.cell? ⟨b39, b39o + j, none⟩ = some u := b39f
                                refine v_take0 16 (wk0 rfl) rfl rfl rfl hE (by kernel_rfl) (by kernel_rfl) (by kernel_rfl) rfl (by kernel_rfl) hS (v := (.pointer (some ⟨b39, b39o, none⟩))) (fun _ => ex_index rfl hE rfl rfl b39r) ?_
                                intro a hE hS
                                refine v_take1 17 2 (wk0 rfl) rfl rfl rfl hE (by kernel_rfl) (by kernel_rfl) (by kernel_rfl) rfl (by kernel_rfl) hS (v := (Sl.v b39u)) (fun _ => ex_load rfl hE rfl (fun w hw => run_ld1 varty105 (b39f 0 _ rfl _ _ w (hw.get 0 rfl)))) ?_
                                intro a hE hS
                                refine v_all [20] (by kernel_rfl) rfl ?_
                                refine List.forall_mem_cons.2 ⟨?_, fun _ h => absurd h (by simp)⟩
                                ·
                                  refine h_op rfl ?_
                                  have nx29 : neL x27 (some (x4 : Int)) := guardNe_some ex29
                                  have hp := WTbG.takeRow nx29 b39h ex28 (hp.get 4 rfl)
                                  have hp : Hp Z ρ (OwnSl 107 (Sl.v b39u) (List.map (hd (utw4q).2) (x28 : List Nat)) :: WTbR 105 107 3 w4q utw4q (lp2_2 : (List (List Nat) × List (List Int))) (some (x4 : Int)) (some ((x6, vc1) : Nat × Value)) x27 :: _ :: _ :: _ :: _ :: _ :: _ :: _ :: _ :: L) w := hp
                                  have hwx30 := WTbR.away hp 1 rfl
                                  refine s_app (wk0 rfl) rfl rfl hE hp rfl slty105 rfl rfl 0 rfl rfl (l2 := List.map (hd (utw4q).2) ([x6] : List Nat)) rfl (fun j u hj => by have := Hp.cN 2 rfl 0 _ (sub_all rfl) w hp j u (by simpa [flat, Enc.enc, hwx30] using hj); simpa using this) (app_map ex30) ?_
                                  intro v4 a w hE hp
                                  have hp : Hp Z ρ (OwnSl 107 v4 (List.map (hd (utw4q).2) (x30 : List Nat)) :: _ :: _ :: _ :: _ :: _ :: _ :: _ :: _ :: _ :: L) w := hp
                                  refine s_nil (and_with ⟨fun _ => ⟨_, hp⟩, fun _ => ⟨_, (hp.get 3 rfl)⟩, dead (by kernel_rfl), fun _ => ⟨_, (hp.get 6 rfl)⟩, fun _ => ⟨_, (hp.get 7 rfl)⟩, trivial⟩ fun hS => ?_)
                                  obtain ⟨b40, b40o, b40r, b40v⟩ := WTbR.adr (hp.get 1 rfl) slty85 b39h
                                  rw [← guardEq_some ex31] at b40r
                                  refine v_take0 21 (wk0 rfl) rfl rfl rfl hE (by kernel_rfl) (by kernel_rfl) (by kernel_rfl) rfl (by kernel_rfl) hS (v := (.pointer (some ⟨b40, b40o, none⟩))) (fun _ => ex_index rfl hE rfl rfl b40r) ?_
                                  intro a hE hS
                                  refine v_all [22] (by kernel_rfl) rfl ?_
                                  refine List.forall_mem_cons.2 ⟨?_, fun _ h => absurd h (by simp)⟩
                                  ·
                                    refine h_op rfl ?_
                                    obtain ⟨sl3, sl3e⟩ := OwnSl.toSl hp 0 rfl
                                    refine s_wput (wk0 rfl) rfl hE sl3e ((hp.get 1 rfl).get 1 rfl) rfl rfl rfl nx29 b39h ex28 b40v varty105.size_ ?_
                                    intro w hp
                                    have hp : Hp Z ρ (WTbG 105 107 3 w4q (utw4q.1.set x27.toNat sl3, utw4q.2) ((lp2_2.1.set x27.toNat x30, lp2_2.2) : (List (List Nat) × List (List Int))) (some (x4 : Int)) (some ((x6, vc1) : Nat × Value)) :: _ :: _ :: _ :: _ :: _ :: _ :: _ :: _ :: L) w := hp
                                    refine s_nil (and_with ⟨fun _ => ⟨_, hp⟩, fun _ => ⟨_, (hp.get 2 rfl)⟩, dead (by kernel_rfl), fun _ => ⟨_, (hp.get 5 rfl)⟩, fun _ => ⟨_, (hp.get 6 rfl)⟩, trivial⟩ fun hS => ?_)
                                    exact v_done (by kernel_rfl) ⟨(utw4q.1.set x27.toNat sl3, utw4q.2), _, hE.cut ⟨rfl, rfl, rfl, rfl, rfl, rfl, rfl, trivial⟩, hp⟩
                          ·
                            refine h_op rfl ?_
                            refine s_lit (wk0 rfl) rfl rfl hE hp rfl [(0, (.agg #[vc1]))] ⟨⟨rfl, rfl⟩, trivial⟩ [vc1] 107 (fun w => by have hc0 := OwnSl.cells hp 4 rfl; simp only [Value.cells] at hc0; simp [Instr.buildSlice, Instr.fill, Value.cells, hc0, go_sem]) ?_
                            intro a w b41 hE hp
                            have hp : Hp Z ρ (Pt b41 (.cells #[vc1] 107 (0, 0)) :: _ :: _ :: _ :: _ :: _ :: _ :: _ :: _ :: L) w := hp
                            refine s_nil (and_with ⟨fun _ => ⟨_, hp⟩, fun _ => ⟨_, (hp.get 1 rfl)⟩, fun _ => ⟨_, (hp.get 4 rfl)⟩, fun _ => ⟨_, (hp.get 5 rfl)⟩, fun _ => ⟨_, (hp.get 6 rfl)⟩, trivial⟩ fun hS => ?_)
                            refine v_all [7] (by kernel_rfl) rfl ?_
                            refine List.forall_mem_cons.2 ⟨?_, fun _ h => absurd h (by simp)⟩
                            ·
                              refine h_op rfl ?_
                              refine s_call (wk0 rfl) rfl rfl hE rfl [(.int .i64 x24)] ⟨rfl, trivial⟩ ent77 (c_proof_index hT x24 hp x25 ex25) Ret.ret ?_
                              intro v a w hR hE
                              obtain ⟨rfl, hp⟩ := Ret.of hR
                              have hp : Hp Z ρ (_ :: _ :: _ :: _ :: _ :: _ :: _ :: _ :: _ :: L) w := hp
                              refine s_nil (and_with ⟨fun _ => ⟨_, hp⟩, fun _ => ⟨_, (hp.get 1 rfl)⟩, fun _ => ⟨_, (hp.get 4 rfl)⟩, fun _ => ⟨_, (hp.get 5 rfl)⟩, fun _ => ⟨_, (hp.get 6 rfl)⟩, trivial⟩ fun hS => ?_)
                              refine v_all [15] (by kernel_rfl) rfl ?_
                              refine List.forall_mem_cons.2 ⟨?_, fun _ h => absurd h (by simp)⟩
                              ·
                                refine h_op rfl ?_
                                refine s_call (wk0 rfl) rfl rfl hE rfl [(.int .i64 x26)] ⟨rfl, trivial⟩ ent77 (c_proof_index hT x26 hp x27 ex27) Ret.ret ?_
                                intro v a w hR hE
                                obtain ⟨rfl, hp⟩ := Ret.of hR
                                have hp : Hp Z ρ (_ :: _ :: _ :: _ :: _ :: _ :: _ :: _ :: _ :: L) w := hp
                                refine s_nil (and_with ⟨fun _ => ⟨_, hp⟩, fun _ => ⟨_, (hp.get 1 rfl)⟩, fun _ => ⟨_, (hp.get 4 rfl)⟩, fun _ => ⟨_, (hp.get 5 rfl)⟩, fun _ => ⟨_, (hp.get 6 rfl)⟩, trivial⟩ fun hS => ?_)
                                obtain ⟨b42u, b42, b42o, b42h, b42r, b42v, b42f⟩ := WTbG.hdr (hp.get 4 rfl) slty85 ex28
                                have b42f : ∀ (j : Nat) (u : Value), ([(Sl.v b42u)] : List Value)[j]? = some u → ∀ ρ' L' w, Hp Z ρ' (WTbG 105 107 3 w4q utw4q (lp2_2 : (List (List Nat) × List (List Int))) (some (x4 : Int)) (some ((x6, vc1) : Nat × Value)) :: L') w → w.cell? ⟨b42, b42o + j, none⟩ = some u := b42f
                                refine v_take0 16 (wk0 rfl) rfl rfl rfl hE (by kernel_rfl) (by kernel_rfl) (by kernel_rfl) rfl (by kernel_rfl) hS (v := (.pointer (some ⟨b42, b42o, none⟩))) (fun _ => ex_index rfl hE rfl rfl b42r) ?_
                                intro a hE hS
                                refine v_take1 17 2 (wk0 rfl) rfl rfl rfl hE (by kernel_rfl) (by kernel_rfl) (by kernel_rfl) rfl (by kernel_rfl) hS (v := (Sl.v b42u)) (fun _ => ex_load rfl hE rfl (fun w hw => run_ld1 varty105 (b42f 0 _ rfl _ _ w (hw.get 0 rfl)))) ?_
                                intro a hE hS
                                refine v_all [20] (by kernel_rfl) rfl ?_
                                refine List.forall_mem_cons.2 ⟨?_, fun _ h => absurd h (by simp)⟩
                                ·
                                  refine h_op rfl ?_
                                  have nx29 : neL x27 (some (x4 : Int)) := guardNe_some ex29
                                  have hp := WTbG.takeRow nx29 b42h ex28 (hp.get 4 rfl)
                                  have hp : Hp Z ρ (OwnSl 107 (Sl.v b42u) (List.map (hd (utw4q).2) (x28 : List Nat)) :: WTbR 105 107 3 w4q utw4q (lp2_2 : (List (List Nat) × List (List Int))) (some (x4 : Int)) (some ((x6, vc1) : Nat × Value)) x27 :: _ :: _ :: _ :: _ :: _ :: _ :: _ :: _ :: L) w := hp
                                  have hwx30 := WTbR.away hp 1 rfl
                                  refine s_app (wk0 rfl) rfl rfl hE hp rfl slty105 rfl rfl 0 rfl rfl (l2 := List.map (hd (utw4q).2) ([x6] : List Nat)) rfl (fun j u hj => by have := Hp.cN 2 rfl 0 _ (sub_all rfl) w hp j u (by simpa [flat, Enc.enc, hwx30] using hj); simpa using this) (app_map ex30) ?_
                                  intro v5 a w hE hp
                                  have hp : Hp Z ρ (OwnSl 107 v5 (List.map (hd (utw4q).2) (x30 : List Nat)) :: _ :: _ :: _ :: _ :: _ :: _ :: _ :: _ :: _ :: L) w := hp
                                  refine s_nil (and_with ⟨fun _ => ⟨_, hp⟩, fun _ => ⟨_, (hp.get 3 rfl)⟩, dead (by kernel_rfl), fun _ => ⟨_, (hp.get 6 rfl)⟩, fun _ => ⟨_, (hp.get 7 rfl)⟩, trivial⟩ fun hS => ?_)
                                  obtain ⟨b43, b43o, b43r, b43v⟩ := WTbR.adr (hp.get 1 rfl) slty85 b42h
                                  rw [← guardEq_some ex31] at b43r
                                  refine v_take0 21 (wk0 rfl) rfl rfl rfl hE (by kernel_rfl) (by kernel_rfl) (by kernel_rfl) rfl (by kernel_rfl) hS (v := (.pointer (some ⟨b43, b43o, none⟩))) (fun _ => ex_index rfl hE rfl rfl b43r) ?_
                                  intro a hE hS
                                  refine v_all [22] (by kernel_rfl) rfl ?_
                                  refine List.forall_mem_cons.2 ⟨?_, fun _ h => absurd h (by simp)⟩
                                  ·
                                    refine h_op rfl ?_
                                    obtain ⟨sl4, sl4e⟩ := OwnSl.toSl hp 0 rfl
                                    refine s_wput (wk0 rfl) rfl hE sl4e ((hp.get 1 rfl).get 1 rfl) rfl rfl rfl nx29 b42h ex28 b43v varty105.size_ ?_
                                    intro w hp
                                    have hp : Hp Z ρ (WTbG 105 107 3 w4q (utw4q.1.set x27.toNat sl4, utw4q.2) ((lp2_2.1.set x27.toNat x30, lp2_2.2) : (List (List Nat) × List (List Int))) (some (x4 : Int)) (some ((x6, vc1) : Nat × Value)) :: _ :: _ :: _ :: _ :: _ :: _ :: _ :: _ :: L) w := hp
                                    refine s_nil (and_with ⟨fun _ => ⟨_, hp⟩, fun _ => ⟨_, (hp.get 2 rfl)⟩, dead (by kernel_rfl), fun _ => ⟨_, (hp.get 5 rfl)⟩, fun _ => ⟨_, (hp.get 6 rfl)⟩, trivial⟩ fun hS => ?_)
                                    exact v_done (by kernel_rfl) ⟨(utw4q.1.set x27.toNat sl4, utw4q.2), _, hE.cut ⟨rfl, rfl, rfl, rfl, rfl, rfl, rfl, trivial⟩, hp⟩
                        · rintro a w ⟨yut4, y33, hE, hp⟩
                          refine k_region ?_
                          obtain ⟨x32, ex32, hl2⟩ := bnd hl2
                          refine s_val (wk0 rfl) rfl rfl hE hp (v := (.int .i64 x32)) (ex_add rfl hE rfl rfl (inK_some ex32)) ?_
                          intro a hE
                          refine s_val (wk0 rfl) rfl rfl hE hp (v := (.int .i64 x32)) (ex_move rfl hE rfl) ?_
                          intro a hE
                          refine s_nil ?_
                          have hp := (hp.get 1 rfl).drop
                          have hp := (hp.get 5 rfl).drop
                          have hp := WTbG.back (hp.get 4 rfl)
                          have hp : Hp Z ρ (WTbG 105 107 3 w4q yut4 (((lp2_2.1.set x27.toNat x30, lp2_2.2).1, (lp2_2.1.set x27.toNat x30, lp2_2.2).2.set x6 ((j1.set (1 : Int).toNat x20).set b16.toNat x21)) : (List (List Nat) × List (List Int))) (some (x4 : Int)) none :: _ :: _ :: _ :: _ :: _ :: L) w := hp
                          exact ⟨_, (Option.some.inj hl2).symm, _, _, yut4, _, _, hE.cut ⟨rfl, rfl, rfl, rfl, rfl, rfl, rfl, trivial⟩, ((((((hp.get 3 rfl).get 3 rfl).get 3 rfl).get 3 rfl).get 5 rfl).get 5 rfl)⟩
                    · replace hl2 := (ie hc10).symm.trans hl2
                      refine k_seq ?_
                      refine k_region ?_
                      refine s_val (wk0 rfl) rfl rfl hE hp (v := (.pointer (some ⟨bp0, 0, none⟩))) (ex_move rfl hE rfl) ?_
                      intro a hE
                      refine s_val (wk0 rfl) rfl rfl hE hp (v := vc1) (ex_move rfl hE rfl) ?_
                      intro a hE
                      obtain ⟨x33, ex33, hl2⟩ := bnd hl2
                      obtain ⟨b44, b44o, b44r, b44v, b44f⟩ := OwnSl.at hp 4 rfl slty25 ex33
                      have b44f : ∀ (j : Nat) (u : Value), ([(.int .i64 x33)] : List Value)[j]? = some u → ∀ ρ' L' w, Hp Z ρ' (OwnSl 3 vc1 j1 :: L') w → w.cell? ⟨b44, b44o + j, none⟩ = some u := b44f
                      refine s_val (wk0 rfl) rfl rfl hE hp (v := (.pointer (some ⟨b44, b44o, none⟩))) (ex_index rfl hE rfl rfl b44r) ?_
                      intro a hE
                      refine s_val (wk0 rfl) rfl rfl hE hp (v := (.int .i64 x33)) (ex_load rfl hE rfl (fun w hw => run_ld1 varty3 (b44f 0 _ rfl _ _ w (hw.get 4 rfl)))) ?_
                      intro a hE
                      obtain ⟨x34, ex34, hl2⟩ := bnd hl2
                      refine s_call (wk0 rfl) rfl rfl hE rfl [(.pointer (some ⟨bp0, 0, none⟩)), (.int .i64 x33)] ⟨rfl, rfl, trivial⟩ ent57 (c_proof_engine_of hT bp0 (PEng.mk lp2_5 lp2_6 lp2_3 lp2_2 lp2_4) w2 w3 w4q utw4q x33 ((((hp.get 3 rfl).get 3 rfl).get 3 rfl).get 3 rfl) x34 ex34) Ret.ret ?_
                      intro v a w hR hE
                      obtain ⟨rfl, hp⟩ := Ret.of hR
                      have hp : Hp Z ρ (_ :: _ :: _ :: _ :: _ :: _ :: _ :: _ :: L) w := hp
                      refine s_val (wk0 rfl) rfl rfl hE hp (v := (.bool (decide (x34 < 0)))) (ex_lss rfl hE rfl rfl) ?_
                      intro a hE
                      refine s_val (wk0 rfl) rfl rfl hE hp (v := (.bool (decide (x34 < 0)))) (ex_asn rfl hE rfl) ?_
                      intro a hE
                      refine s_nil ?_
                      refine k_if hE rfl (fun hc11 => ?_) (fun hc11 => ?_)
                      · replace hl2 := (it hc11).symm.trans hl2
                        refine k_seq ?_
                        obtain ⟨x35, ex35, hl2⟩ := bnd hl2
                        obtain ⟨x36, ex36, hl2⟩ := bnd hl2
                        obtain ⟨x37, ex37, hl2⟩ := bnd hl2
                        obtain ⟨x38, ex38, hl2⟩ := bnd hl2
                        obtain ⟨x39, ex39, hl2⟩ := bnd hl2
                        have hp := hp.drew
                        refine k_heldV ([([], At0 Z ρ), ([], At1 Z ρ (Pt bp0 (.cells #[w2, w3, (.int .i64 lp2_3), w4q, (.bool lp2_4)] 87 (0, 0))))] : Facts) (fun a w => ∃ yut4 : List Sl × List Sl, ∃ y22 : Value, Env 174 [] a ∧ Hp Z ρ (WTbG 105 107 3 w4q yut4 ((lp2_2.1.set x4.toNat x37, lp2_2.2) : (List (List Nat) × List (List Int))) none (some ((x6, vc1) : Nat × Value)) :: OwnSl 107 y22 (List.map (hd (yut4).2) (x36 : List Nat)) :: Pt bp0 (.cells #[w2, w3, (.int .i64 lp2_3), w4q, (.bool lp2_4)] 87 (0, 0)) :: OwnSl 3 w2 lp2_5 :: OwnSl 3 w3 lp2_6 :: OwnSl 3 vc1 j1 :: Pt b6 (.cells #[vc1] 107 (0, 0)) :: L) w) (by kernel_rfl) ⟨fun _ => ⟨_, hp⟩, fun _ => ⟨_, (hp.get 0 rfl)⟩, trivial⟩ (fun hS => ?_) ?_
                        ·
                          generalize w.drew = w at hS hp ⊢
                          refine v_take0 0 (wk0 rfl) rfl rfl rfl hE (by kernel_rfl) (by kernel_rfl) (by kernel_rfl) rfl (by kernel_rfl) hS (v := (.pointer (some ⟨bp0, 0, none⟩))) (fun _ => ex_move rfl hE rfl) ?_
                          intro a hE hS
                          refine v_take0 1 (wk0 rfl) rfl rfl rfl hE (by kernel_rfl) (by kernel_rfl) (by kernel_rfl) rfl (by kernel_rfl) hS (v := (.pointer (some ⟨bp0, 0, none⟩))) (fun _ => ex_nil rfl hE rfl) ?_
                          intro a hE hS
                          refine v_take0 2 (wk0 rfl) rfl rfl rfl hE (by kernel_rfl) (by kernel_rfl) (by kernel_rfl) rfl (by kernel_rfl) hS (v := (.pointer (some ⟨bp0, 3, none⟩))) (fun _ => ex_field rfl hE rfl (fldty87_3 _ _)) ?_
                          intro a hE hS
                          refine v_take1 3 1 (wk0 rfl) rfl rfl rfl hE (by kernel_rfl) (by kernel_rfl) (by kernel_rfl) rfl (by kernel_rfl) hS (v := w4q) (fun _ => ex_load rfl hE rfl (fun w hw => run_ld1 varty85 (Hp.c 0 rfl 3 rfl w hw))) ?_
                          intro a hE hS
                          refine v_take0 4 (wk0 rfl) rfl rfl rfl hE (by kernel_rfl) (by kernel_rfl) (by kernel_rfl) rfl (by kernel_rfl) hS (v := (.int .i64 x2)) (fun _ => ex_move rfl hE rfl) ?_
                          intro a hE hS
                          refine v_take0 6 (wk0 rfl) rfl rfl rfl hE (by kernel_rfl) (by kernel_rfl) (by kernel_rfl) rfl (by kernel_rfl) hS (v := w23) (fun _ => ex_move rfl hE rfl) ?_
                          intro a hE hS
                          refine v_take0 7 (wk0 rfl) rfl rfl rfl hE (by kernel_rfl) (by kernel_rfl) (by kernel_rfl) rfl (by kernel_rfl) hS (v := (Sl.v b3u)) (fun _ => ex_move rfl hE rfl) ?_
                          intro a hE hS
                          refine v_take0 8 (wk0 rfl) rfl rfl rfl hE (by kernel_rfl) (by kernel_rfl) (by kernel_rfl) rfl (by kernel_rfl) hS (v := (.int .i64 lp2_0)) (fun _ => ex_move rfl hE rfl) ?_
                          intro a hE hS
                          refine v_all [5, 9] (by kernel_rfl) rfl ?_
                          refine List.forall_mem_cons.2 ⟨?_, List.forall_mem_cons.2 ⟨?_, fun _ h => absurd h (by simp)⟩⟩
                          ·
                            refine h_op rfl ?_
                            refine s_call (wk0 rfl) rfl rfl hE rfl [(.int .i64 x2)] ⟨rfl, trivial⟩ ent77 (c_proof_index hT x2 hp x35 ex35) Ret.ret ?_
                            intro v a w hR hE
                            obtain ⟨rfl, hp⟩ := Ret.of hR
                            have hp : Hp Z ρ (_ :: _ :: _ :: _ :: _ :: _ :: _ :: _ :: L) w := hp
                            refine s_nil (and_with ⟨fun _ => ⟨_, hp⟩, fun _ => ⟨_, (hp.get 0 rfl)⟩, trivial⟩ fun hS => ?_)
                            refine v_all [9] (by kernel_rfl) rfl ?_
                            refine List.forall_mem_cons.2 ⟨?_, fun _ h => absurd h (by simp)⟩
                            ·
                              refine h_op rfl ?_
                              obtain ⟨v8, v8r, hp⟩ := OwnSl.part (hp.get 7 rfl) slty105 (some (.i64, lp2_0)) none rfl (by simp) (sub_map ex36)
                              have hp : Hp Z ρ (OwnSl 107 v8 (List.map (hd (utw4q).2) (x36 : List Nat)) :: _ :: _ :: _ :: _ :: _ :: _ :: _ :: L) w := hp
                              refine s_val (wk0 rfl) rfl rfl hE hp (v := v8) (ex_sl rfl hE rfl (some (.i64, lp2_0)) none (by exact rfl) (by exact trivial) v8r) ?_
                              intro a hE
                              refine s_nil (and_with ⟨fun _ => ⟨_, hp⟩, fun _ => ⟨_, (hp.get 1 rfl)⟩, trivial⟩ fun hS => ?_)
                              refine v_all [10] (by kernel_rfl) rfl ?_
                              refine List.forall_mem_cons.2 ⟨?_, fun _ h => absurd h (by simp)⟩
                              ·
                                refine h_op rfl ?_
                                obtain ⟨k2, k2a, k2d, k2h⟩ := (hp.get 0 rfl).lend
                                refine s_apps (wk0 rfl) rfl rfl hE k2h rfl slty105 rfl rfl 6 rfl rfl (OwnSl.ro k2d k2a) (app_map ex37) ?_
                                intro v9 a w hE hp
                                have hp := Hp.back k2a k2d hp
                                have hp : Hp Z ρ (_ :: _ :: _ :: _ :: _ :: _ :: _ :: OwnSl 107 v9 (List.map (hd (utw4q).2) (x37 : List Nat)) :: L) w := hp
                                refine s_nil (and_with ⟨fun _ => ⟨_, hp⟩, fun _ => ⟨_, (hp.get 1 rfl)⟩, trivial⟩ fun hS => ?_)
                                obtain ⟨b46u, b46, b46o, b46h, b46r, b46v, b46f⟩ := WTbG.hdr (hp.get 4 rfl) slty85 ex38
                                have b46f : ∀ (j : Nat) (u : Value), ([(Sl.v b46u)] : List Value)[j]? = some u → ∀ ρ' L' w, Hp Z ρ' (WTbG 105 107 3 w4q utw4q (lp2_2 : (List (List Nat) × List (List Int))) (some (x4 : Int)) (some ((x6, vc1) : Nat × Value)) :: L') w → w.cell? ⟨b46, b46o + j, none⟩ = some u := b46f
                                refine v_take0 11 (wk0 rfl) rfl rfl rfl hE (by kernel_rfl) (by kernel_rfl) (by kernel_rfl) rfl (by kernel_rfl) hS (v := (.pointer (some ⟨b46, b46o, none⟩))) (fun _ => ex_index rfl hE rfl rfl b46r) ?_
                                intro a hE hS
                                refine v_all [12] (by kernel_rfl) rfl ?_
                                refine List.forall_mem_cons.2 ⟨?_, fun _ h => absurd h (by simp)⟩
                                ·
                                  refine h_op rfl ?_
                                  obtain ⟨sl6, sl6e⟩ := OwnSl.toSl hp 7 rfl
                                  refine s_wputI (wk0 rfl) rfl hE sl6e (guardEq_some ex39) ((hp.get 4 rfl).get 7 rfl) rfl rfl rfl b46h ex38 b46v varty105.size_ ?_
                                  intro w hp
                                  have hp : Hp Z ρ (WTbG 105 107 3 w4q (utw4q.1.set x4.toNat sl6, utw4q.2) ((lp2_2.1.set x4.toNat x37, lp2_2.2) : (List (List Nat) × List (List Int))) none (some ((x6, vc1) : Nat × Value)) :: _ :: _ :: _ :: _ :: _ :: _ :: L) w := hp
                                  refine s_nil (and_with ⟨fun _ => ⟨_, hp⟩, fun _ => ⟨_, (hp.get 2 rfl)⟩, trivial⟩ fun hS => ?_)
                                  exact v_done (by kernel_rfl) ⟨(utw4q.1.set x4.toNat sl6, utw4q.2), _, hE.cut trivial, hp⟩
                          ·
                            refine h_op rfl ?_
                            obtain ⟨v10, v10r, hp⟩ := OwnSl.part (hp.get 7 rfl) slty105 (some (.i64, lp2_0)) none rfl (by simp) (sub_map ex36)
                            have hp : Hp Z ρ (OwnSl 107 v10 (List.map (hd (utw4q).2) (x36 : List Nat)) :: _ :: _ :: _ :: _ :: _ :: _ :: _ :: L) w := hp
                            refine s_val (wk0 rfl) rfl rfl hE hp (v := v10) (ex_sl rfl hE rfl (some (.i64, lp2_0)) none (by exact rfl) (by exact trivial) v10r) ?_
                            intro a hE
                            refine s_nil (and_with ⟨fun _ => ⟨_, hp⟩, fun _ => ⟨_, (hp.get 1 rfl)⟩, trivial⟩ fun hS => ?_)
                            refine v_all [5] (by kernel_rfl) rfl ?_
                            refine List.forall_mem_cons.2 ⟨?_, fun _ h => absurd h (by simp)⟩
                            ·
                              refine h_op rfl ?_
                              refine s_call (wk0 rfl) rfl rfl hE rfl [(.int .i64 x2)] ⟨rfl, trivial⟩ ent77 (c_proof_index hT x2 hp x35 ex35) Ret.ret ?_
                              intro v a w hR hE
                              obtain ⟨rfl, hp⟩ := Ret.of hR
                              have hp : Hp Z ρ (_ :: _ :: _ :: _ :: _ :: _ :: _ :: _ :: L) w := hp
                              refine s_nil (and_with ⟨fun _ => ⟨_, hp⟩, fun _ => ⟨_, (hp.get 1 rfl)⟩, trivial⟩ fun hS => ?_)
                              refine v_all [10] (by kernel_rfl) rfl ?_
                              refine List.forall_mem_cons.2 ⟨?_, fun _ h => absurd h (by simp)⟩
                              ·
                                refine h_op rfl ?_
                                obtain ⟨k3, k3a, k3d, k3h⟩ := (hp.get 0 rfl).lend
                                refine s_apps (wk0 rfl) rfl rfl hE k3h rfl slty105 rfl rfl 6 rfl rfl (OwnSl.ro k3d k3a) (app_map ex37) ?_
                                intro v11 a w hE hp
                                have hp := Hp.back k3a k3d hp
                                have hp : Hp Z ρ (_ :: _ :: _ :: _ :: _ :: _ :: _ :: OwnSl 107 v11 (List.map (hd (utw4q).2) (x37 : List Nat)) :: L) w := hp
                                refine s_nil (and_with ⟨fun _ => ⟨_, hp⟩, fun _ => ⟨_, (hp.get 1 rfl)⟩, trivial⟩ fun hS => ?_)
                                obtain ⟨b47u, b47, b47o, b47h, b47r, b47v, b47f⟩ := WTbG.hdr (hp.get 4 rfl) slty85 ex38
                                have b47f : ∀ (j : Nat) (u : Value), ([(Sl.v b47u)] : List Value)[j]? = some u → ∀ ρ' L' w, Hp Z ρ' (WTbG 105 107 3 w4q utw4q (lp2_2 : (List (List Nat) × List (List Int))) (some (x4 : Int)) (some ((x6, vc1) : Nat × Value)) :: L') w → w.cell? ⟨b47, b47o + j, none⟩ = some u := b47f
                                refine v_take0 11 (wk0 rfl) rfl rfl rfl hE (by kernel_rfl) (by kernel_rfl) (by kernel_rfl) rfl (by kernel_rfl) hS (v := (.pointer (some ⟨b47, b47o, none⟩))) (fun _ => ex_index rfl hE rfl rfl b47r) ?_
                                intro a hE hS
                                refine v_all [12] (by kernel_rfl) rfl ?_
                                refine List.forall_mem_cons.2 ⟨?_, fun _ h => absurd h (by simp)⟩
                                ·
                                  refine h_op rfl ?_
                                  obtain ⟨sl7, sl7e⟩ := OwnSl.toSl hp 7 rfl
                                  refine s_wputI (wk0 rfl) rfl hE sl7e (guardEq_some ex39) ((hp.get 4 rfl).get 7 rfl) rfl rfl rfl b47h ex38 b47v varty105.size_ ?_
                                  intro w hp
                                  have hp : Hp Z ρ (WTbG 105 107 3 w4q (utw4q.1.set x4.toNat sl7, utw4q.2) ((lp2_2.1.set x4.toNat x37, lp2_2.2) : (List (List Nat) × List (List Int))) none (some ((x6, vc1) : Nat × Value)) :: _ :: _ :: _ :: _ :: _ :: _ :: L) w := hp
                                  refine s_nil (and_with ⟨fun _ => ⟨_, hp⟩, fun _ => ⟨_, (hp.get 2 rfl)⟩, trivial⟩ fun hS => ?_)
                                  exact v_done (by kernel_rfl) ⟨(utw4q.1.set x4.toNat sl7, utw4q.2), _, hE.cut trivial, hp⟩
                        · rintro a w ⟨yut4, y22, hE, hp⟩
                          refine k_seq ?_
                          refine k_region ?_
                          refine s_val (wk0 rfl) rfl rfl hE hp (v := (.bool false)) (ex_asn rfl hE rfl) ?_
                          intro a hE
                          refine s_nil ?_
                          refine k_ret ?_
                          refine ⟨_, (Option.some.inj hl2).symm, fun hb => ?_⟩
                          subst hb
                          refine ⟨_, (Option.some.inj hl1).symm, fun hb => ?_⟩
                          subst hb
                          have hp := (hp.get 6 rfl).drop
                          have hp := WTbG.back (hp.get 5 rfl)
                          have hp : Hp Z ρ (WTbG 105 107 3 w4q yut4 (((lp2_2.1.set x4.toNat x37, lp2_2.2).1, (lp2_2.1.set x4.toNat x37, lp2_2.2).2.set x6 j1) : (List (List Nat) × List (List Int))) none none :: OwnSl 107 y22 (List.map (hd (yut4).2) (x36 : List Nat)) :: _ :: _ :: _ :: L) w := hp
                          obtain rfl := Option.some.inj hm
                          exact ret1 hE rfl rfl ⟨_, rfl, _, _, _, _, rfl, ((((((hp.get 0 rfl).get 4 rfl).get 4 rfl).get 4 rfl).get 4 rfl).drop)⟩
                      · replace hl2 := (ie hc11).symm.trans hl2
                        refine k_seq ?_
                        refine k_region ?_
                        refine s_val (wk0 rfl) rfl rfl hE hp (v := w23) (ex_move rfl hE rfl) ?_
                        intro a hE
                        refine s_val (wk0 rfl) rfl rfl hE hp (v := (.agg #[vc1])) (ex_load rfl hE rfl (fun w hw => run_ldN (cs := [vc1]) varty107 (Hp.cN 5 rfl 0 _ (sub_all rfl) w hw))) ?_
                        intro a hE
                        refine s_lit (wk0 rfl) rfl rfl hE hp rfl [(0, (.agg #[vc1]))] ⟨⟨rfl, rfl⟩, trivial⟩ [vc1] 107 (fun w => by have hc0 := OwnSl.cells hp 4 rfl; simp only [Value.cells] at hc0; simp [Instr.buildSlice, Instr.fill, Value.cells, hc0, go_sem]) ?_
                        intro a w b48 hE hp
                        have hp : Hp Z ρ (Pt b48 (.cells #[vc1] 107 (0, 0)) :: _ :: _ :: _ :: _ :: _ :: _ :: _ :: _ :: L) w := hp
                        obtain ⟨x40, ex40, hl2⟩ := bnd hl2
                        have hwx40 := WTbG.away hp 4 rfl
                        refine s_app (wk0 rfl) rfl rfl hE hp rfl slty105 rfl rfl 7 rfl rfl (l2 := List.map (hd (utw4q).2) ([x6] : List Nat)) rfl (fun j u hj => by have := Hp.cN 0 rfl 0 _ (sub_all rfl) w hp j u (by simpa [flat, Enc.enc, hwx40] using hj); simpa using this) (app_map ex40) ?_
                        intro v12 a w hE hp
                        have hp : Hp Z ρ (_ :: _ :: _ :: _ :: _ :: _ :: _ :: OwnSl 107 v12 (List.map (hd (utw4q).2) (x40 : List Nat)) :: _ :: L) w := hp
                        refine s_val (wk0 rfl) rfl rfl hE hp (v := v12) (ex_asn rfl hE rfl) ?_
                        intro a hE
                        refine s_nil ?_
                        refine k_region ?_
                        refine s_val (wk0 rfl) rfl rfl hE hp (v := (.pointer (some ⟨bp0, 0, none⟩))) (ex_move rfl hE rfl) ?_
                        intro a hE
                        refine s_val (wk0 rfl) rfl rfl hE hp (v := vc1) (ex_move rfl hE rfl) ?_
                        intro a hE
                        obtain ⟨x41, ex41, hl2⟩ := bnd hl2
                        obtain ⟨b49, b49o, b49r, b49v, b49f⟩ := OwnSl.at hp 5 rfl slty25 ex41
                        have b49f : ∀ (j : Nat) (u : Value), ([(.int .i64 x41)] : List Value)[j]? = some u → ∀ ρ' L' w, Hp Z ρ' (OwnSl 3 vc1 j1 :: L') w → w.cell? ⟨b49, b49o + j, none⟩ = some u := b49f
                        refine s_val (wk0 rfl) rfl rfl hE hp (v := (.pointer (some ⟨b49, b49o, none⟩))) (ex_index rfl hE rfl rfl b49r) ?_
                        intro a hE
                        refine s_val (wk0 rfl) rfl rfl hE hp (v := (.int .i64 x41)) (ex_load rfl hE rfl (fun w hw => run_ld1 varty3 (b49f 0 _ rfl _ _ w (hw.get 5 rfl)))) ?_
                        intro a hE
                        obtain ⟨x42, ex42, hl2⟩ := bnd hl2
                        refine s_call (wk0 rfl) rfl rfl hE rfl [(.pointer (some ⟨bp0, 0, none⟩)), (.int .i64 x41)] ⟨rfl, rfl, trivial⟩ ent58 (c_proof_engine_hold hT bp0 (PEng.mk lp2_5 lp2_6 lp2_3 lp2_2 lp2_4) w2 w3 w4q utw4q x41 ((((hp.get 4 rfl).get 4 rfl).get 4 rfl).get 4 rfl) x42 ex42) Ret.ret ?_
                        intro v a w hR hE
                        obtain ⟨vz1_value, vz1_trail, rfl, hp⟩ := Ret.of hR
                        have hp : Hp Z ρ (Pt bp0 (.cells #[vz1_value, vz1_trail, (.int .i64 x42.head), w4q, (.bool x42.fails)] 87 (0, 0)) :: OwnSl 3 vz1_value x42.value :: OwnSl 3 vz1_trail x42.trail :: _ :: _ :: _ :: _ :: _ :: _ :: L) w := hp
                        refine s_nil ?_
                        refine k_region ?_
                        obtain ⟨x43, ex43, hl2⟩ := bnd hl2
                        refine s_val (wk0 rfl) rfl rfl hE hp (v := (.int .i64 x43)) (ex_add rfl hE rfl rfl (inK_some ex43)) ?_
                        intro a hE
                        refine s_val (wk0 rfl) rfl rfl hE hp (v := (.int .i64 x43)) (ex_move rfl hE rfl) ?_
                        intro a hE
                        refine s_nil ?_
                        have hp := (hp.get 4 rfl).drop
                        have hp := (hp.get 5 rfl).drop
                        have hp := WTbG.back ((hp.get 3 rfl).get 4 rfl)
                        have hp : Hp Z ρ (WTbG 105 107 3 w4q utw4q ((lp2_2.1, lp2_2.2.set x6 j1) : (List (List Nat) × List (List Int))) (some (x4 : Int)) none :: _ :: _ :: _ :: _ :: _ :: L) w := hp
                        exact ⟨_, (Option.some.inj hl2).symm, _, _, utw4q, _, _, hE.cut ⟨rfl, rfl, rfl, rfl, rfl, rfl, rfl, trivial⟩, ((((((hp.get 3 rfl).get 3 rfl).get 3 rfl).get 3 rfl).get 5 rfl).get 5 rfl)⟩
            · replace hl2 := (ie hc4).symm.trans hl2
              refine k_exit ?_
              refine ⟨_, (Option.some.inj hl2).symm, fun hbb => ?_⟩
              exact ⟨_, hbb.symm, _, _, utw4q, _, _, hE.cut ⟨rfl, rfl, rfl, trivial⟩, hp⟩
        · rintro a w ⟨b4s, rfl, w23, w4q, utw4q, w2, w3, hE, hp⟩
          dsimp only at hl1
          obtain ⟨x44, ex44, hl1⟩ := bnd hl1
          obtain ⟨x45, ex45, hl1⟩ := bnd hl1
          obtain ⟨x46, ex46, hl1⟩ := bnd hl1
          have hp := hp.drew
          refine k_heldV ([([], At0 Z ρ), ([], At1 Z ρ (Pt bp0 (.cells #[w2, w3, (.int .i64 b4s.2.2.1), w4q, (.bool b4s.2.2.2.1)] 87 (0, 0))))] : Facts) (fun a w => ∃ yut4 : List Sl × List Sl, Env 174 [(0, (.pointer (some ⟨bp0, 0, none⟩)))] a ∧ Hp Z ρ (WTbG 105 107 3 w4q yut4 ((b4s.2.1.1.set x4.toNat b4s.1, b4s.2.1.2) : (List (List Nat) × List (List Int))) none none :: OwnSl 107 (Sl.v b3u) (List.map (hd (yut4).2) (x5 : List Nat)) :: Pt bp0 (.cells #[w2, w3, (.int .i64 b4s.2.2.1), w4q, (.bool b4s.2.2.2.1)] 87 (0, 0)) :: OwnSl 3 w2 b4s.2.2.2.2.1 :: OwnSl 3 w3 b4s.2.2.2.2.2 :: L) w) (by kernel_rfl) ⟨fun _ => ⟨_, hp⟩, fun _ => ⟨_, (hp.get 3 rfl)⟩, trivial⟩ (fun hS => ?_) ?_
          ·
            generalize w.drew = w at hS hp ⊢
            refine v_take0 0 (wk0 rfl) rfl rfl rfl hE (by kernel_rfl) (by kernel_rfl) (by kernel_rfl) rfl (by kernel_rfl) hS (v := (.pointer (some ⟨bp0, 0, none⟩))) (fun _ => ex_move rfl hE rfl) ?_
            intro a hE hS
            refine v_take0 1 (wk0 rfl) rfl rfl rfl hE (by kernel_rfl) (by kernel_rfl) (by kernel_rfl) rfl (by kernel_rfl) hS (v := (.pointer (some ⟨bp0, 0, none⟩))) (fun _ => ex_nil rfl hE rfl) ?_
            intro a hE hS
            refine v_take0 2 (wk0 rfl) rfl rfl rfl hE (by kernel_rfl) (by kernel_rfl) (by kernel_rfl) rfl (by kernel_rfl) hS (v := (.pointer (some ⟨bp0, 3, none⟩))) (fun _ => ex_field rfl hE rfl (fldty87_3 _ _)) ?_
            intro a hE hS
            refine v_take1 3 1 (wk0 rfl) rfl rfl rfl hE (by kernel_rfl) (by kernel_rfl) (by kernel_rfl) rfl (by kernel_rfl) hS (v := w4q) (fun _ => ex_load rfl hE rfl (fun w hw => run_ld1 varty85 (Hp.c 0 rfl 3 rfl w hw))) ?_
            intro a hE hS
            refine v_take0 4 (wk0 rfl) rfl rfl rfl hE (by kernel_rfl) (by kernel_rfl) (by kernel_rfl) rfl (by kernel_rfl) hS (v := (.int .i64 x2)) (fun _ => ex_move rfl hE rfl) ?_
            intro a hE hS
            refine v_take0 6 (wk0 rfl) rfl rfl rfl hE (by kernel_rfl) (by kernel_rfl) (by kernel_rfl) rfl (by kernel_rfl) hS (v := w23) (fun _ => ex_move rfl hE rfl) ?_
            intro a hE hS
            refine v_all [5] (by kernel_rfl) rfl ?_
            refine List.forall_mem_cons.2 ⟨?_, fun _ h => absurd h (by simp)⟩
            ·
              refine h_op rfl ?_
              refine s_call (wk0 rfl) rfl rfl hE rfl [(.int .i64 x2)] ⟨rfl, trivial⟩ ent77 (c_proof_index hT x2 hp x44 ex44) Ret.ret ?_
              intro v a w hR hE
              obtain ⟨rfl, hp⟩ := Ret.of hR
              have hp : Hp Z ρ (OwnSl 107 w23 (List.map (hd (utw4q).2) (b4s.1 : List Nat)) :: _ :: WTbG 105 107 3 w4q utw4q (b4s.2.1 : (List (List Nat) × List (List Int))) (some (x4 : Int)) none :: Pt bp0 (.cells #[w2, w3, (.int .i64 b4s.2.2.1), w4q, (.bool b4s.2.2.2.1)] 87 (0, 0)) :: OwnSl 3 w2 b4s.2.2.2.2.1 :: OwnSl 3 w3 b4s.2.2.2.2.2 :: L) w := hp
              refine s_nil (and_with ⟨fun _ => ⟨_, hp⟩, fun _ => ⟨_, (hp.get 3 rfl)⟩, trivial⟩ fun hS => ?_)
              obtain ⟨b51u, b51, b51o, b51h, b51r, b51v, b51f⟩ := WTbG.hdr (hp.get 2 rfl) slty85 ex45
              have b51f : ∀ (j : Nat) (u : Value), ([(Sl.v b51u)] : List Value)[j]? = some u → ∀ ρ' L' w, Hp Z ρ' (WTbG 105 107 3 w4q utw4q (b4s.2.1 : (List (List Nat) × List (List Int))) (some (x4 : Int)) none :: L') w → w.cell? ⟨b51, b51o + j, none⟩ = some u := b51f
              refine v_take0 7 (wk0 rfl) rfl rfl rfl hE (by kernel_rfl) (by kernel_rfl) (by kernel_rfl) rfl (by kernel_rfl) hS (v := (.pointer (some ⟨b51, b51o, none⟩))) (fun _ => ex_index rfl hE rfl rfl b51r) ?_
              intro a hE hS
              refine v_all [8] (by kernel_rfl) rfl ?_
              refine List.forall_mem_cons.2 ⟨?_, fun _ h => absurd h (by simp)⟩
              ·
                refine h_op rfl ?_
                obtain ⟨sl9, sl9e⟩ := OwnSl.toSl hp 0 rfl
                refine s_wputI (wk0 rfl) rfl hE sl9e (guardEq_some ex46) ((hp.get 2 rfl).get 1 rfl) rfl rfl rfl b51h ex45 b51v varty105.size_ ?_
                intro w hp
                have hp : Hp Z ρ (WTbG 105 107 3 w4q (utw4q.1.set x4.toNat sl9, utw4q.2) ((b4s.2.1.1.set x4.toNat b4s.1, b4s.2.1.2) : (List (List Nat) × List (List Int))) none none :: _ :: _ :: _ :: _ :: L) w := hp
                refine s_nil (and_with ⟨fun _ => ⟨_, hp⟩, fun _ => ⟨_, (hp.get 2 rfl)⟩, trivial⟩ fun hS => ?_)
                exact v_done (by kernel_rfl) ⟨(utw4q.1.set x4.toNat sl9, utw4q.2), hE.cut ⟨rfl, trivial⟩, hp⟩
          · rintro a w ⟨yut4, hE, hp⟩
            exact ⟨_, (Option.some.inj hl1).symm, _, _, _, yut4, hE.cut ⟨rfl, trivial⟩, ((((((hp.get 0 rfl).get 4 rfl).get 4 rfl).get 4 rfl).get 4 rfl).drop)⟩
      · replace hl1 := (ie hc2).symm.trans hl1
        refine k_exit ?_
        refine ⟨_, (Option.some.inj hl1).symm, fun hbb => ?_⟩
        exact ⟨_, hbb.symm, _, _, _, utw4, hE.cut trivial, hp⟩
  · rintro a w ⟨b1s, rfl, w2, w3, w4, utw4, hE, hp⟩
    dsimp only at hm
    refine k_seq ?_
    refine k_region ?_
    refine s_val (wk0 rfl) rfl rfl hE hp (v := (.bool true)) (ex_asn rfl hE rfl) ?_
    intro a hE
    refine s_nil ?_
    refine k_ret ?_
    obtain rfl := Option.some.inj hm
    exact ret1 hE rfl rfl ⟨_, rfl, _, _, _, _, rfl, hp⟩
set_option maxRecDepth 100000 in
set_option maxHeartbeats 4000000 in
theorem c_proof_engine_add {Z : World} {ρ : PH} {L : List Atom} {w : World} (hT : Tabs ρ) (bp0 : Nat) (p0 : PEng) (vp0_value : Value) (vp0_trail : Value) (vp0_watches : Value) (utp0_watches : List Sl × List Sl) (p1 : (List Int)) (vp1 : Value) (hp1 : RoSl ρ vp1 p1) (hp : Hp Z ρ (Pt bp0 (.cells #[vp0_value, vp0_trail, (.int .i64 p0.head), vp0_watches, (.bool p0.fails)] 87 (0, 0)) :: OwnSl 3 vp0_value p0.value :: OwnSl 3 vp0_trail p0.trail :: WTbG 105 107 3 vp0_watches utp0_watches (p0.watches : (List (List Nat) × List (List Int))) none none :: L) w) (r : PEng) (hm : m_proof_engine_add p0 p1 = some r) :
    Calls Tryz.prog 56 #[(.pointer (some ⟨bp0, 0, none⟩)), vp1] w (Ret fun v w' => ∃ (vzp0_value : Value) (vzp0_trail : Value) (vzp0_watches : Value) (utzp0_watches : List Sl × List Sl), v = .tuple #[] ∧ Hp Z ρ (Pt bp0 (.cells #[vzp0_value, vzp0_trail, (.int .i64 r.head), vzp0_watches, (.bool r.fails)] 87 (0, 0)) :: OwnSl 3 vzp0_value r.value :: OwnSl 3 vzp0_trail r.trail :: WTbG 105 107 3 vzp0_watches utzp0_watches (r.watches : (List (List Nat) × List (List Int))) none none :: L) w') := by
  refine enter (N := 78) Tryz.func56 rfl rfl [(0, (.pointer (some ⟨bp0, 0, none⟩))), (1, vp1)] rfl (argsIn_mem ⟨rfl, rfl, trivial⟩) fun a hE => ?_
  unfold m_proof_engine_add at hm
  refine k_seq ?_
  refine k_seq ?_
  refine k_region ?_
  refine s_val (wk0 rfl) rfl rfl hE hp (v := (.pointer (some ⟨bp0, 0, none⟩))) (ex_move rfl hE rfl) ?_
  intro a hE
  refine s_val (wk0 rfl) rfl rfl hE hp (v := (.pointer (some ⟨bp0, 0, none⟩))) (ex_nil rfl hE rfl) ?_
  intro a hE
  refine s_val (wk0 rfl) rfl rfl hE hp (v := (.pointer (some ⟨bp0, 4, none⟩))) (ex_field rfl hE rfl (fldty87_4 _ _)) ?_
  intro a hE
  refine s_val (wk0 rfl) rfl rfl hE hp (v := (.bool p0.fails)) (ex_load rfl hE rfl (fun w hw => run_ld1 varty4 (Hp.c 0 rfl 4 rfl w hw))) ?_
  intro a hE
  refine s_nil ?_
  refine k_if hE rfl (fun hc1 => ?_) (fun hc1 => ?_)
  · replace hm := (it hc1).symm.trans hm
    refine k_ret ?_
    obtain rfl := Option.some.inj hm
    exact ret0 hE rfl ⟨_, rfl, _, _, _, _, rfl, hp⟩
  · replace hm := (ie hc1).symm.trans hm
    refine k_skip ?_
    refine k_seq ?_
    refine k_region ?_
    refine s_val (wk0 rfl) rfl rfl hE hp (v := (.slice none 0 0)) (ex_asn rfl hE rfl) ?_
    intro a hE
    refine s_nil ?_
    refine k_seq ?_
    refine k_seq ?_
    refine k_region ?_
    refine s_val (wk0 rfl) rfl rfl hE hp (v := vp1) (ex_move rfl hE rfl) ?_
    intro a hE
    refine s_val (wk0 rfl) rfl rfl hE hp (v := (.int .i64 (p1.length : Int))) (ex_len rfl hE rfl (RoSl.len hp1 slty25)) ?_
    intro a hE
    refine s_val (wk0 rfl) rfl rfl hE hp (v := (.int .i64 0)) (ex_move rfl hE rfl) ?_
    intro a hE
    refine s_nil ?_
    have hp := hp.emp (OwnSl.nil (α := Int) 3)
    have hp : Hp Z ρ (OwnSl 3 (.slice none 0 0) ([] : List Int) :: Pt bp0 (.cells #[vp0_value, vp0_trail, (.int .i64 p0.head), vp0_watches, (.bool p0.fails)] 87 (0, 0)) :: OwnSl 3 vp0_value p0.value :: OwnSl 3 vp0_trail p0.trail :: WTbG 105 107 3 vp0_watches utp0_watches (p0.watches : (List (List Nat) × List (List Int))) none none :: L) w := hp
    obtain ⟨b1, hc2, hm⟩ := bnd hm
    refine k_block (fun a w => ∃ s : (List Int), b1 = .brk s ∧ (∃ (w10 : Value), Env 78 [(0, (.pointer (some ⟨bp0, 0, none⟩))), (4, w10)] a ∧ Hp Z ρ (OwnSl 3 w10 s :: Pt bp0 (.cells #[vp0_value, vp0_trail, (.int .i64 p0.head), vp0_watches, (.bool p0.fails)] 87 (0, 0)) :: OwnSl 3 vp0_value p0.value :: OwnSl 3 vp0_trail p0.trail :: WTbG 105 107 3 vp0_watches utp0_watches (p0.watches : (List (List Nat) × List (List Int))) none none :: L) w)) ?_ ?_
    · refine k_loop hc2 (fun s a w => ∃ (w10 : Value), Env 78 [(0, (.pointer (some ⟨bp0, 0, none⟩))), (4, w10), (13, vp1), (14, (.int .i64 (p1.length : Int))), (15, (.int .i64 s.1))] a ∧ Hp Z ρ (OwnSl 3 w10 s.2 :: Pt bp0 (.cells #[vp0_value, vp0_trail, (.int .i64 p0.head), vp0_watches, (.bool p0.fails)] 87 (0, 0)) :: OwnSl 3 vp0_value p0.value :: OwnSl 3 vp0_trail p0.trail :: WTbG 105 107 3 vp0_watches utp0_watches (p0.watches : (List (List Nat) × List (List Int))) none none :: L) w) ?_ ?_
      · exact ⟨_, hE.cut ⟨rfl, rfl, rfl, rfl, rfl, trivial⟩, hp⟩
      · rintro ⟨lp1_0, lp1_1⟩ st a w ⟨w10, hE, hp⟩ hl1
        have hE : Env 78 [(0, (.pointer (some ⟨bp0, 0, none⟩))), (4, w10), (13, vp1), (14, (.int .i64 (p1.length : Int))), (15, (.int .i64 lp1_0))] a := hE
        have hp : Hp Z ρ (OwnSl 3 w10 lp1_1 :: _ :: _ :: _ :: _ :: L) w := hp
        replace hl1 : m_proof_engine_add_lp1 p0 p1 lp1_0 lp1_1 = some st := hl1
        unfold m_proof_engine_add_lp1 at hl1
        refine k_seq ?_
        refine k_region ?_
        refine s_val (wk0 rfl) rfl rfl hE hp (v := (.bool (decide (lp1_0 < (p1.length : Int))))) (ex_lss rfl hE rfl rfl) ?_
        intro a hE
        refine s_nil ?_
        refine k_seq ?_
        refine k_if hE rfl (fun hc3 => ?_) (fun hc3 => ?_)
        · replace hl1 := (it hc3).symm.trans hl1
          refine k_skip ?_
          refine k_seq ?_
          refine k_plain ?_
          refine k_seq ?_
          refine k_region ?_
          obtain ⟨x1, ex1, hl1⟩ := bnd hl1
          obtain ⟨b2, b2o, b2c, b2r, b2k, b2f⟩ := RoSl.at hp1 slty25 ex1
          obtain rfl : b2c = Enc.enc x1 := b2k
          have b2f : AtP ρ b2 b2o [(.int .i64 x1)] := b2f
          refine s_val (wk0 rfl) rfl rfl hE hp (v := (.pointer (some ⟨b2, b2o, none⟩))) (ex_index rfl hE rfl rfl b2r) ?_
          intro a hE
          refine s_val (wk0 rfl) rfl rfl hE hp (v := (.int .i64 x1)) (ex_load rfl hE rfl (fun w hw => run_ld1 varty3 (b2f.c 0 rfl w hw))) ?_
          intro a hE
          refine s_val (wk0 rfl) rfl rfl hE hp (v := (.int .i64 x1)) (ex_asn rfl hE rfl) ?_
          intro a hE
          refine s_nil ?_
          refine k_seq ?_
          refine k_region ?_
          refine s_val (wk0 rfl) rfl rfl hE hp (v := (.pointer (some ⟨bp0, 0, none⟩))) (ex_move rfl hE rfl) ?_
          intro a hE
          refine s_val (wk0 rfl) rfl rfl hE hp (v := (.int .i64 x1)) (ex_move rfl hE rfl) ?_
          intro a hE
          obtain ⟨x2, ex2, hl1⟩ := bnd hl1
          refine s_call (wk0 rfl) rfl rfl hE rfl [(.pointer (some ⟨bp0, 0, none⟩)), (.int .i64 x1)] ⟨rfl, rfl, trivial⟩ ent57 (c_proof_engine_of hT bp0 p0 vp0_value vp0_trail vp0_watches utp0_watches x1 ((((hp.get 4 rfl).get 4 rfl).get 4 rfl).get 4 rfl) x2 ex2) Ret.ret ?_
          intro v a w hR hE
          obtain ⟨rfl, hp⟩ := Ret.of hR
          have hp : Hp Z ρ (_ :: _ :: _ :: _ :: _ :: L) w := hp
          refine s_nil ?_
          refine k_plain ?_
          refine k_seq ?_
          refine k_region ?_
          refine s_val (wk0 rfl) rfl rfl hE hp (v := (.bool (decide (x2 = 1)))) (ex_eql rfl hE rfl rfl) ?_
          intro a hE
          refine s_val (wk0 rfl) rfl rfl hE hp (v := (.bool (decide (x2 = 1)))) (ex_asn rfl hE rfl) ?_
          intro a hE
          refine s_nil ?_
          refine k_if hE rfl (fun hc4 => ?_) (fun hc4 => ?_)
          · replace hl1 := (it hc4).symm.trans hl1
            refine k_ret ?_
            refine ⟨_, (Option.some.inj hl1).symm, fun hb => ?_⟩
            subst hb
            obtain rfl := Option.some.inj hm
            exact ret0 hE rfl ⟨_, rfl, _, _, _, _, rfl, ((hp.get 4 rfl).drop)⟩
          · replace hl1 := (ie hc4).symm.trans hl1
            refine k_seq ?_
            refine k_region ?_
            refine s_val (wk0 rfl) rfl rfl hE hp (v := (.bool (decide (x2 = 0)))) (ex_eql rfl hE rfl rfl) ?_
            intro a hE
            refine s_val (wk0 rfl) rfl rfl hE hp (v := (.bool (decide (x2 = 0)))) (ex_asn rfl hE rfl) ?_
            intro a hE
            refine s_nil ?_
            refine k_if hE rfl (fun hc5 => ?_) (fun hc5 => ?_)
            · replace hl1 := (it hc5).symm.trans hl1
              refine k_region ?_
              refine s_val (wk0 rfl) rfl rfl hE hp (v := w10) (ex_move rfl hE rfl) ?_
              intro a hE
              refine s_val (wk0 rfl) rfl rfl hE hp (v := (.int .i64 x1)) (ex_move rfl hE rfl) ?_
              intro a hE
              refine s_lit (wk0 rfl) rfl rfl hE hp rfl [(0, (.int .i64 x1))] ⟨⟨rfl, rfl⟩, trivial⟩ [(.int .i64 x1)] 3 (fun w => by simp [Instr.buildSlice, Instr.fill, Value.cells, go_sem]) ?_
              intro a w b3 hE hp
              have hp : Hp Z ρ (Pt b3 (.cells #[(.int .i64 x1)] 3 (0, 0)) :: _ :: _ :: _ :: _ :: _ :: L) w := hp
              obtain ⟨x3, ex3, hl1⟩ := bnd hl1
              refine s_app (wk0 rfl) rfl rfl hE hp rfl slty25 rfl rfl 5 rfl rfl (l2 := [x1]) rfl (fun j u hj => by have := Hp.cN 0 rfl 0 _ (sub_all rfl) w hp j u hj; simpa using this) ex3 ?_
              intro v1 a w hE hp
              have hp : Hp Z ρ (_ :: _ :: _ :: _ :: _ :: OwnSl 3 v1 x3 :: L) w := hp
              refine s_val (wk0 rfl) rfl rfl hE hp (v := v1) (ex_asn rfl hE rfl) ?_
              intro a hE
              refine s_nil ?_
              refine k_region ?_
              obtain ⟨x4, ex4, hl1⟩ := bnd hl1
              refine s_val (wk0 rfl) rfl rfl hE hp (v := (.int .i64 x4)) (ex_add rfl hE rfl rfl (inK_some ex4)) ?_
              intro a hE
              refine s_val (wk0 rfl) rfl rfl hE hp (v := (.int .i64 x4)) (ex_move rfl hE rfl) ?_
              intro a hE
              refine s_nil ?_
              have hE := hE.cut (E' := [(0, (.pointer (some ⟨bp0, 0, none⟩))), (4, v1), (13, vp1), (14, (.int .i64 (p1.length : Int))), (15, (.int .i64 x4))]) ⟨rfl, rfl, rfl, rfl, rfl, trivial⟩
              exact ⟨_, (Option.some.inj hl1).symm, _, hE.cut ⟨rfl, rfl, rfl, rfl, rfl, trivial⟩, (((((((hp.get 4 rfl).get 4 rfl).get 4 rfl).get 4 rfl).get 5 rfl).get 5 rfl).drop)⟩
            · replace hl1 := (ie hc5).symm.trans hl1
              refine k_skip ?_
              refine k_region ?_
              obtain ⟨x5, ex5, hl1⟩ := bnd hl1
              refine s_val (wk0 rfl) rfl rfl hE hp (v := (.int .i64 x5)) (ex_add rfl hE rfl rfl (inK_some ex5)) ?_
              intro a hE
              refine s_val (wk0 rfl) rfl rfl hE hp (v := (.int .i64 x5)) (ex_move rfl hE rfl) ?_
              intro a hE
              refine s_nil ?_
              exact ⟨_, (Option.some.inj hl1).symm, _, hE.cut ⟨rfl, rfl, rfl, rfl, rfl, trivial⟩, (((((hp.get 3 rfl).get 3 rfl).get 3 rfl).get 3 rfl).get 4 rfl)⟩
        · replace hl1 := (ie hc3).symm.trans hl1
          refine k_exit ?_
          refine ⟨_, (Option.some.inj hl1).symm, fun hbb => ?_⟩
          exact ⟨_, hbb.symm, _, hE.cut ⟨rfl, rfl, trivial⟩, hp⟩
    · rintro a w ⟨b1s, rfl, w10, hE, hp⟩
      dsimp only at hm
      refine k_seq ?_
      refine k_region ?_
      refine s_val (wk0 rfl) rfl rfl hE hp (v := w10) (ex_move rfl hE rfl) ?_
      intro a hE
      refine s_val (wk0 rfl) rfl rfl hE hp (v := (.int .i64 (b1s.length : Int))) (ex_len rfl hE rfl (OwnSl.len hp 0 rfl slty25)) ?_
      intro a hE
      refine s_nil ?_
      refine k_plain ?_
      refine k_seq ?_
      refine k_region ?_
      refine s_val (wk0 rfl) rfl rfl hE hp (v := (.bool (decide ((b1s.length : Int) = 0)))) (ex_eql rfl hE rfl rfl) ?_
      intro a hE
      refine s_val (wk0 rfl) rfl rfl hE hp (v := (.bool (decide ((b1s.length : Int) = 0)))) (ex_asn rfl hE rfl) ?_
      intro a hE
      refine s_nil ?_
      refine k_if hE rfl (fun hc6 => ?_) (fun hc6 => ?_)
      · replace hm := (it hc6).symm.trans hm
        refine k_region ?_
        refine s_val (wk0 rfl) rfl rfl hE hp (v := (.pointer (some ⟨bp0, 0, none⟩))) (ex_move rfl hE rfl) ?_
        intro a hE
        refine s_val (wk0 rfl) rfl rfl hE hp (v := (.pointer (some ⟨bp0, 0, none⟩))) (ex_nil rfl hE rfl) ?_
        intro a hE
        refine s_val (wk0 rfl) rfl rfl hE hp (v := (.pointer (some ⟨bp0, 4, none⟩))) (ex_field rfl hE rfl (fldty87_4 _ _)) ?_
        intro a hE
        refine s_store (wk0 rfl) rfl hE hp rfl rfl rfl 1 rfl varty4.size_ rfl (allOne_mem ⟨rfl, trivial⟩) [vp0_value, vp0_trail, (.int .i64 p0.head), vp0_watches, (.bool true)] rfl ?_
        intro w hp
        have hp : Hp Z ρ (OwnSl 3 w10 b1s :: Pt bp0 (.cells #[vp0_value, vp0_trail, (.int .i64 p0.head), vp0_watches, (.bool true)] 87 (0, 0)) :: _ :: _ :: _ :: L) w := hp
        refine s_nil ?_
        obtain rfl := Option.some.inj hm
        exact ret0n hE rfl ⟨_, rfl, _, _, _, _, rfl, (hp.drop)⟩
      · replace hm := (ie hc6).symm.trans hm
        refine k_seq ?_
        refine k_region ?_
        refine s_val (wk0 rfl) rfl rfl hE hp (v := (.bool (decide ((b1s.length : Int) = 1)))) (ex_eql rfl hE rfl rfl) ?_
        intro a hE
        refine s_val (wk0 rfl) rfl rfl hE hp (v := (.bool (decide ((b1s.length : Int) = 1)))) (ex_asn rfl hE rfl) ?_
        intro a hE
        refine s_nil ?_
        refine k_if hE rfl (fun hc7 => ?_) (fun hc7 => ?_)
        · replace hm := (it hc7).symm.trans hm
          refine k_seq ?_
          refine k_region ?_
          refine s_val (wk0 rfl) rfl rfl hE hp (v := (.pointer (some ⟨bp0, 0, none⟩))) (ex_move rfl hE rfl) ?_
          intro a hE
          refine s_val (wk0 rfl) rfl rfl hE hp (v := w10) (ex_move rfl hE rfl) ?_
          intro a hE
          obtain ⟨x6, ex6, hm⟩ := bnd hm
          obtain ⟨b4, b4o, b4r, b4v, b4f⟩ := OwnSl.at hp 0 rfl slty25 ex6
          have b4f : ∀ (j : Nat) (u : Value), ([(.int .i64 x6)] : List Value)[j]? = some u → ∀ ρ' L' w, Hp Z ρ' (OwnSl 3 w10 b1s :: L') w → w.cell? ⟨b4, b4o + j, none⟩ = some u := b4f
          refine s_val (wk0 rfl) rfl rfl hE hp (v := (.pointer (some ⟨b4, b4o, none⟩))) (ex_index rfl hE rfl rfl b4r) ?_
          intro a hE
          refine s_val (wk0 rfl) rfl rfl hE hp (v := (.int .i64 x6)) (ex_load rfl hE rfl (fun w hw => run_ld1 varty3 (b4f 0 _ rfl _ _ w (hw.get 0 rfl)))) ?_
          intro a hE
          obtain ⟨x7, ex7, hm⟩ := bnd hm
          refine s_call (wk0 rfl) rfl rfl hE rfl [(.pointer (some ⟨bp0, 0, none⟩)), (.int .i64 x6)] ⟨rfl, rfl, trivial⟩ ent58 (c_proof_engine_hold hT bp0 p0 vp0_value vp0_trail vp0_watches utp0_watches x6 ((((hp.get 4 rfl).get 4 rfl).get 4 rfl).get 4 rfl) x7 ex7) Ret.ret ?_
          intro v a w hR hE
          obtain ⟨vz1_value, vz1_trail, rfl, hp⟩ := Ret.of hR
          have hp : Hp Z ρ (Pt bp0 (.cells #[vz1_value, vz1_trail, (.int .i64 x7.head), vp0_watches, (.bool x7.fails)] 87 (0, 0)) :: OwnSl 3 vz1_value x7.value :: OwnSl 3 vz1_trail x7.trail :: _ :: OwnSl 3 w10 b1s :: L) w := hp
          refine s_nil ?_
          refine k_region ?_
          refine s_val (wk0 rfl) rfl rfl hE hp (v := (.pointer (some ⟨bp0, 0, none⟩))) (ex_move rfl hE rfl) ?_
          intro a hE
          refine s_val (wk0 rfl) rfl rfl hE hp (v := (.pointer (some ⟨bp0, 0, none⟩))) (ex_move rfl hE rfl) ?_
          intro a hE
          obtain ⟨x8, ex8, hm⟩ := bnd hm
          refine s_call (wk0 rfl) rfl rfl hE rfl [(.pointer (some ⟨bp0, 0, none⟩))] ⟨rfl, trivial⟩ ent59 (c_proof_engine_propagate hT bp0 (PEng.mk x7.value x7.trail x7.head p0.watches x7.fails) vz1_value vz1_trail vp0_watches utp0_watches ((((hp.get 3 rfl).get 3 rfl).get 3 rfl).get 3 rfl) x8 ex8) Ret.ret ?_
          intro v a w hR hE
          obtain ⟨vz2_value, vz2_trail, vz2_watches, utz2_watches, rfl, hp⟩ := Ret.of hR
          have hp : Hp Z ρ (Pt bp0 (.cells #[vz2_value, vz2_trail, (.int .i64 x8.2.head), vz2_watches, (.bool x8.2.fails)] 87 (0, 0)) :: OwnSl 3 vz2_value x8.2.value :: OwnSl 3 vz2_trail x8.2.trail :: WTbG 105 107 3 vz2_watches utz2_watches (x8.2.watches : (List (List Nat) × List (List Int))) none none :: _ :: L) w := hp
          refine s_val (wk0 rfl) rfl rfl hE hp (v := (.bool (!x8.1))) (ex_not rfl hE rfl) ?_
          intro a hE
          refine s_val (wk0 rfl) rfl rfl hE hp (v := (.pointer (some ⟨bp0, 0, none⟩))) (ex_nil rfl hE rfl) ?_
          intro a hE
          refine s_val (wk0 rfl) rfl rfl hE hp (v := (.pointer (some ⟨bp0, 4, none⟩))) (ex_field rfl hE rfl (fldty87_4 _ _)) ?_
          intro a hE
          refine s_store (wk0 rfl) rfl hE hp rfl rfl rfl 0 rfl varty4.size_ rfl (allOne_mem ⟨rfl, trivial⟩) [vz2_value, vz2_trail, (.int .i64 x8.2.head), vz2_watches, (.bool (!x8.1))] rfl ?_
          intro w hp
          have hp : Hp Z ρ (Pt bp0 (.cells #[vz2_value, vz2_trail, (.int .i64 x8.2.head), vz2_watches, (.bool (!x8.1))] 87 (0, 0)) :: _ :: _ :: _ :: _ :: L) w := hp
          refine s_nil ?_
          obtain rfl := Option.some.inj hm
          exact ret0n hE rfl ⟨_, rfl, _, _, _, _, rfl, ((hp.get 4 rfl).drop)⟩
        · replace hm := (ie hc7).symm.trans hm
          refine k_seq ?_
          refine k_region ?_
          refine s_val (wk0 rfl) rfl rfl hE hp (v := w10) (ex_move rfl hE rfl) ?_
          intro a hE
          obtain ⟨x9, ex9, hm⟩ := bnd hm
          obtain ⟨ut1, hp⟩ := WTbG.give ex9 ((hp.get 4 rfl).get 1 rfl)
          have hp : Hp Z ρ (OwnSl 3 w10 b1s :: WTbG 105 107 3 vp0_watches ut1 ((p0.watches.1, x9) : (List (List Nat) × List (List Int))) none (some (((p0.watches).2.length, w10) : Nat × Value)) :: _ :: _ :: _ :: L) w := hp
          obtain ⟨x10, ex10, hm⟩ := bnd hm
          obtain ⟨v2, v2r, v2f⟩ := OwnSl.viewF hp 0 rfl slty25 none (some (.i64, 2)) rfl rfl ex10
          refine s_val (wk0 rfl) rfl rfl hE hp (v := v2) (ex_sl rfl hE rfl none (some (.i64, 2)) (by exact trivial) (by exact rfl) v2r) ?_
          intro a hE
          refine s_val (wk0 rfl) rfl rfl hE hp (v := (.int .i64 (x10.length : Int))) (ex_len rfl hE rfl (ViewF.len v2f hp 0 rfl slty25)) ?_
          intro a hE
          refine s_val (wk0 rfl) rfl rfl hE hp (v := (.int .i64 0)) (ex_move rfl hE rfl) ?_
          intro a hE
          refine s_nil ?_
          have hE := hE.cut (E' := [(0, (.pointer (some ⟨bp0, 0, none⟩))), (4, w10), (34, v2), (35, (.int .i64 (x10.length : Int))), (36, (.int .i64 0))]) ⟨rfl, rfl, rfl, rfl, rfl, trivial⟩
          obtain ⟨b5, hc8, hm⟩ := bnd hm
          refine k_block (fun a w => ∃ (w4 : Value) (utw4 : List Sl × List Sl), Env 78 [] a ∧ Hp Z ρ (OwnSl 3 w10 b1s :: WTbG 105 107 3 w4 utw4 (b5 : (List (List Nat) × List (List Int))) none (some (((p0.watches).2.length, w10) : Nat × Value)) :: Pt bp0 (.cells #[vp0_value, vp0_trail, (.int .i64 p0.head), w4, (.bool p0.fails)] 87 (0, 0)) :: OwnSl 3 vp0_value p0.value :: OwnSl 3 vp0_trail p0.trail :: L) w) ?_ ?_
          · refine k_loop hc8 (fun s a w => ∃ (w4 : Value) (utw4 : List Sl × List Sl), Env 78 [(0, (.pointer (some ⟨bp0, 0, none⟩))), (4, w10), (34, v2), (35, (.int .i64 (x10.length : Int))), (36, (.int .i64 s.1))] a ∧ Hp Z ρ (OwnSl 3 w10 b1s :: WTbG 105 107 3 w4 utw4 (s.2 : (List (List Nat) × List (List Int))) none (some (((p0.watches).2.length, w10) : Nat × Value)) :: Pt bp0 (.cells #[vp0_value, vp0_trail, (.int .i64 p0.head), w4, (.bool p0.fails)] 87 (0, 0)) :: OwnSl 3 vp0_value p0.value :: OwnSl 3 vp0_trail p0.trail :: L) w) ?_ ?_
            · exact ⟨_, ut1, hE.cut ⟨rfl, rfl, rfl, rfl, rfl, trivial⟩, hp⟩
            · rintro ⟨lp2_0, lp2_1⟩ st a w ⟨w4, utw4, hE, hp⟩ hl2
              have hE : Env 78 [(0, (.pointer (some ⟨bp0, 0, none⟩))), (4, w10), (34, v2), (35, (.int .i64 (x10.length : Int))), (36, (.int .i64 lp2_0))] a := hE
              have hp : Hp Z ρ (_ :: WTbG 105 107 3 w4 utw4 (lp2_1 : (List (List Nat) × List (List Int))) none (some (((p0.watches).2.length, w10) : Nat × Value)) :: Pt bp0 (.cells #[vp0_value, vp0_trail, (.int .i64 p0.head), w4, (.bool p0.fails)] 87 (0, 0)) :: _ :: _ :: L) w := hp
              replace hl2 : m_proof_engine_add_lp2 p0 x10 lp2_0 lp2_1 = some st := hl2
              unfold m_proof_engine_add_lp2 at hl2
              refine k_seq ?_
              refine k_region ?_
              refine s_val (wk0 rfl) rfl rfl hE hp (v := (.bool (decide (lp2_0 < (x10.length : Int))))) (ex_lss rfl hE rfl rfl) ?_
              intro a hE
              refine s_nil ?_
              refine k_seq ?_
              refine k_if hE rfl (fun hc9 => ?_) (fun hc9 => ?_)
              · replace hl2 := (it hc9).symm.trans hl2
                refine k_skip ?_
                refine k_seq ?_
                refine k_plain ?_
                refine k_seq ?_
                refine k_region ?_
                obtain ⟨x11, ex11, hl2⟩ := bnd hl2
                obtain ⟨b6, b6o, b6r, b6f⟩ := ViewF.at v2f hp 0 rfl slty25 ex11
                have b6f : ∀ (j : Nat) (u : Value), ([(.int .i64 x11)] : List Value)[j]? = some u → ∀ ρ' L' w, Hp Z ρ' (OwnSl 3 w10 b1s :: L') w → w.cell? ⟨b6, b6o + j, none⟩ = some u := b6f
                refine s_val (wk0 rfl) rfl rfl hE hp (v := (.pointer (some ⟨b6, b6o, none⟩))) (ex_index rfl hE rfl rfl b6r) ?_
                intro a hE
                refine s_val (wk0 rfl) rfl rfl hE hp (v := (.int .i64 x11)) (ex_load rfl hE rfl (fun w hw => run_ld1 varty3 (b6f 0 _ rfl _ _ w (hw.get 0 rfl)))) ?_
                intro a hE
                refine s_val (wk0 rfl) rfl rfl hE hp (v := (.int .i64 x11)) (ex_asn rfl hE rfl) ?_
                intro a hE
                refine s_nil ?_
                obtain ⟨x12, ex12, hl2⟩ := bnd hl2
                obtain ⟨x13, ex13, hl2⟩ := bnd hl2
                obtain ⟨x14, ex14, hl2⟩ := bnd hl2
                obtain ⟨x15, ex15, hl2⟩ := bnd hl2
                obtain ⟨x16, ex16, hl2⟩ := bnd hl2
                have hp := hp.drew
                refine k_heldV ([([], At0 Z ρ), ([17, 19], At1 Z ρ (WTbG 105 107 3 w4 utw4 (lp2_1 : (List (List Nat) × List (List Int))) none (some (((p0.watches).2.length, w10) : Nat × Value)))), ([], At1 Z ρ (Pt bp0 (.cells #[vp0_value, vp0_trail, (.int .i64 p0.head), w4, (.bool p0.fails)] 87 (0, 0))))] : Facts) (fun a w => ∃ yut4 : List Sl × List Sl, ∃ y15 : Nat, Env 78 [(0, (.pointer (some ⟨bp0, 0, none⟩))), (4, w10), (34, v2), (35, (.int .i64 (x10.length : Int))), (36, (.int .i64 lp2_0))] a ∧ Hp Z ρ (WTbG 105 107 3 w4 yut4 ((lp2_1.1.set x13.toNat x15, lp2_1.2) : (List (List Nat) × List (List Int))) none (some (((p0.watches).2.length, w10) : Nat × Value)) :: Pt y15 (.cells #[w10] 107 (0, 0)) :: OwnSl 3 w10 b1s :: Pt bp0 (.cells #[vp0_value, vp0_trail, (.int .i64 p0.head), w4, (.bool p0.fails)] 87 (0, 0)) :: OwnSl 3 vp0_value p0.value :: OwnSl 3 vp0_trail p0.trail :: L) w) (by kernel_rfl) ⟨fun _ => ⟨_, hp⟩, fun _ => ⟨_, (hp.get 1 rfl)⟩, fun _ => ⟨_, (hp.get 2 rfl)⟩, trivial⟩ (fun hS => ?_) ?_
                ·
                  generalize w.drew = w at hS hp ⊢
                  refine v_take0 0 (wk0 rfl) rfl rfl rfl hE (by kernel_rfl) (by kernel_rfl) (by kernel_rfl) rfl (by kernel_rfl) hS (v := (.pointer (some ⟨bp0, 0, none⟩))) (fun _ => ex_move rfl hE rfl) ?_
                  intro a hE hS
                  refine v_take0 1 (wk0 rfl) rfl rfl rfl hE (by kernel_rfl) (by kernel_rfl) (by kernel_rfl) rfl (by kernel_rfl) hS (v := (.pointer (some ⟨bp0, 0, none⟩))) (fun _ => ex_nil rfl hE rfl) ?_
                  intro a hE hS
                  refine v_take0 2 (wk0 rfl) rfl rfl rfl hE (by kernel_rfl) (by kernel_rfl) (by kernel_rfl) rfl (by kernel_rfl) hS (v := (.pointer (some ⟨bp0, 3, none⟩))) (fun _ => ex_field rfl hE rfl (fldty87_3 _ _)) ?_
                  intro a hE hS
                  refine v_take1 3 2 (wk0 rfl) rfl rfl rfl hE (by kernel_rfl) (by kernel_rfl) (by kernel_rfl) rfl (by kernel_rfl) hS (v := w4) (fun _ => ex_load rfl hE rfl (fun w hw => run_ld1 varty85 (Hp.c 0 rfl 3 rfl w hw))) ?_
                  intro a hE hS
                  refine v_take0 4 (wk0 rfl) rfl rfl rfl hE (by kernel_rfl) (by kernel_rfl) (by kernel_rfl) rfl (by kernel_rfl) hS (v := (.int .i64 x11)) (fun _ => ex_move rfl hE rfl) ?_
                  intro a hE hS
                  refine v_take0 6 (wk0 rfl) rfl rfl rfl hE (by kernel_rfl) (by kernel_rfl) (by kernel_rfl) rfl (by kernel_rfl) hS (v := (.pointer (some ⟨bp0, 0, none⟩))) (fun _ => ex_move rfl hE rfl) ?_
                  intro a hE hS
                  refine v_take0 7 (wk0 rfl) rfl rfl rfl hE (by kernel_rfl) (by kernel_rfl) (by kernel_rfl) rfl (by kernel_rfl) hS (v := (.pointer (some ⟨bp0, 0, none⟩))) (fun _ => ex_nil rfl hE rfl) ?_
                  intro a hE hS
                  refine v_take0 8 (wk0 rfl) rfl rfl rfl hE (by kernel_rfl) (by kernel_rfl) (by kernel_rfl) rfl (by kernel_rfl) hS (v := (.pointer (some ⟨bp0, 3, none⟩))) (fun _ => ex_field rfl hE rfl (fldty87_3 _ _)) ?_
                  intro a hE hS
                  refine v_take1 9 2 (wk0 rfl) rfl rfl rfl hE (by kernel_rfl) (by kernel_rfl) (by kernel_rfl) rfl (by kernel_rfl) hS (v := w4) (fun _ => ex_load rfl hE rfl (fun w hw => run_ld1 varty85 (Hp.c 0 rfl 3 rfl w hw))) ?_
                  intro a hE hS
                  refine v_take0 10 (wk0 rfl) rfl rfl rfl hE (by kernel_rfl) (by kernel_rfl) (by kernel_rfl) rfl (by kernel_rfl) hS (v := (.int .i64 x11)) (fun _ => ex_move rfl hE rfl) ?_
                  intro a hE hS
                  refine v_take0 14 (wk0 rfl) rfl rfl rfl hE (by kernel_rfl) (by kernel_rfl) (by kernel_rfl) rfl (by kernel_rfl) hS (v := w10) (fun _ => ex_move rfl hE rfl) ?_
                  intro a hE hS
                  refine v_take0 15 (wk0 rfl) rfl rfl rfl hE (by kernel_rfl) (by kernel_rfl) (by kernel_rfl) rfl (by kernel_rfl) hS (v := (.agg #[w10])) (fun _ => ex_bld rfl hE [(0, w10)] (by exact ⟨⟨rfl, rfl⟩, trivial⟩) (fun w => by have hc0 := OwnSl.cells hp 0 rfl; simp only [Value.cells] at hc0; simp [Instr.build, Instr.fill, Value.cells, hc0, go_sem])) ?_
                  intro a hE hS
                  refine v_all [5, 16] (by kernel_rfl) rfl ?_
                  refine List.forall_mem_cons.2 ⟨?_, List.forall_mem_cons.2 ⟨?_, fun _ h => absurd h (by simp)⟩⟩
                  ·
                    refine h_op rfl ?_
                    refine s_call (wk0 rfl) rfl rfl hE rfl [(.int .i64 x11)] ⟨rfl, trivial⟩ ent77 (c_proof_index hT x11 hp x12 ex12) Ret.ret ?_
                    intro v a w hR hE
                    obtain ⟨rfl, hp⟩ := Ret.of hR
                    have hp : Hp Z ρ (_ :: _ :: _ :: _ :: _ :: L) w := hp
                    refine s_nil (and_with ⟨fun _ => ⟨_, hp⟩, fun _ => ⟨_, (hp.get 1 rfl)⟩, fun _ => ⟨_, (hp.get 2 rfl)⟩, trivial⟩ fun hS => ?_)
                    refine v_all [11, 16] (by kernel_rfl) rfl ?_
                    refine List.forall_mem_cons.2 ⟨?_, List.forall_mem_cons.2 ⟨?_, fun _ h => absurd h (by simp)⟩⟩
                    ·
                      refine h_op rfl ?_
                      refine s_call (wk0 rfl) rfl rfl hE rfl [(.int .i64 x11)] ⟨rfl, trivial⟩ ent77 (c_proof_index hT x11 hp x13 ex13) Ret.ret ?_
                      intro v a w hR hE
                      obtain ⟨rfl, hp⟩ := Ret.of hR
                      have hp : Hp Z ρ (_ :: _ :: _ :: _ :: _ :: L) w := hp
                      refine s_nil (and_with ⟨fun _ => ⟨_, hp⟩, fun _ => ⟨_, (hp.get 1 rfl)⟩, fun _ => ⟨_, (hp.get 2 rfl)⟩, trivial⟩ fun hS => ?_)
                      obtain ⟨b10u, b10, b10o, b10h, b10r, b10v, b10f⟩ := WTbG.hdr (hp.get 1 rfl) slty85 ex14
                      have b10f : ∀ (j : Nat) (u : Value), ([(Sl.v b10u)] : List Value)[j]? = some u → ∀ ρ' L' w, Hp Z ρ' (WTbG 105 107 3 w4 utw4 (lp2_1 : (List (List Nat) × List (List Int))) none (some (((p0.watches).2.length, w10) : Nat × Value)) :: L') w → w.cell? ⟨b10, b10o + j, none⟩ = some u := b10f
                      refine v_take0 12 (wk0 rfl) rfl rfl rfl hE (by kernel_rfl) (by kernel_rfl) (by kernel_rfl) rfl (by kernel_rfl) hS (v := (.pointer (some ⟨b10, b10o, none⟩))) (fun _ => ex_index rfl hE rfl rfl b10r) ?_
                      intro a hE hS
                      refine v_take1 13 1 (wk0 rfl) rfl rfl rfl hE (by kernel_rfl) (by kernel_rfl) (by kernel_rfl) rfl (by kernel_rfl) hS (v := (Sl.v b10u)) (fun _ => ex_load rfl hE rfl (fun w hw => run_ld1 varty105 (b10f 0 _ rfl _ _ w (hw.get 0 rfl)))) ?_
                      intro a hE hS
                      refine v_all [16] (by kernel_rfl) rfl ?_
                      refine List.forall_mem_cons.2 ⟨?_, fun _ h => absurd h (by simp)⟩
                      ·
                        refine h_op rfl ?_
                        refine s_lit (wk0 rfl) rfl rfl hE hp rfl [(0, (.agg #[w10]))] ⟨⟨rfl, rfl⟩, trivial⟩ [w10] 107 (fun w => by have hc0 := OwnSl.cells hp 0 rfl; simp only [Value.cells] at hc0; simp [Instr.buildSlice, Instr.fill, Value.cells, hc0, go_sem]) ?_
                        intro a w b11 hE hp
                        have hp : Hp Z ρ (Pt b11 (.cells #[w10] 107 (0, 0)) :: _ :: _ :: _ :: _ :: _ :: L) w := hp
                        refine s_nil (and_with ⟨fun _ => ⟨_, hp⟩, fun _ => ⟨_, (hp.get 2 rfl)⟩, fun _ => ⟨_, (hp.get 3 rfl)⟩, trivial⟩ fun hS => ?_)
                        refine v_all [17] (by kernel_rfl) rfl ?_
                        refine List.forall_mem_cons.2 ⟨?_, fun _ h => absurd h (by simp)⟩
                        ·
                          refine h_op rfl ?_
                          have hp := WTbG.takeRow (show neL x13 none from trivial) b10h ex14 (hp.get 2 rfl)
                          have hp : Hp Z ρ (OwnSl 107 (Sl.v b10u) (List.map (hd (utw4).2) (x14 : List Nat)) :: WTbR 105 107 3 w4 utw4 (lp2_1 : (List (List Nat) × List (List Int))) none (some (((p0.watches).2.length, w10) : Nat × Value)) x13 :: _ :: _ :: _ :: _ :: _ :: L) w := hp
                          have hwx15 := WTbR.away hp 1 rfl
                          refine s_app (wk0 rfl) rfl rfl hE hp rfl slty105 rfl rfl 0 rfl rfl (l2 := List.map (hd (utw4).2) ([(p0.watches).2.length] : List Nat)) rfl (fun j u hj => by have := Hp.cN 2 rfl 0 _ (sub_all rfl) w hp j u (by simpa [flat, Enc.enc, hwx15] using hj); simpa using this) (app_map ex15) ?_
                          intro v4 a w hE hp
                          have hp : Hp Z ρ (OwnSl 107 v4 (List.map (hd (utw4).2) (x15 : List Nat)) :: _ :: _ :: _ :: _ :: _ :: _ :: L) w := hp
                          refine s_nil (and_with ⟨fun _ => ⟨_, hp⟩, dead (by kernel_rfl), fun _ => ⟨_, (hp.get 4 rfl)⟩, trivial⟩ fun hS => ?_)
                          obtain ⟨b12, b12o, b12r, b12v⟩ := WTbR.adr (hp.get 1 rfl) slty85 b10h
                          rw [← guardEq_some ex16] at b12r
                          refine v_take0 18 (wk0 rfl) rfl rfl rfl hE (by kernel_rfl) (by kernel_rfl) (by kernel_rfl) rfl (by kernel_rfl) hS (v := (.pointer (some ⟨b12, b12o, none⟩))) (fun _ => ex_index rfl hE rfl rfl b12r) ?_
                          intro a hE hS
                          refine v_all [19] (by kernel_rfl) rfl ?_
                          refine List.forall_mem_cons.2 ⟨?_, fun _ h => absurd h (by simp)⟩
                          ·
                            refine h_op rfl ?_
                            obtain ⟨sl2, sl2e⟩ := OwnSl.toSl hp 0 rfl
                            refine s_wput (wk0 rfl) rfl hE sl2e ((hp.get 1 rfl).get 1 rfl) rfl rfl rfl (show neL x13 none from trivial) b10h ex14 b12v varty105.size_ ?_
                            intro w hp
                            have hp : Hp Z ρ (WTbG 105 107 3 w4 (utw4.1.set x13.toNat sl2, utw4.2) ((lp2_1.1.set x13.toNat x15, lp2_1.2) : (List (List Nat) × List (List Int))) none (some (((p0.watches).2.length, w10) : Nat × Value)) :: _ :: _ :: _ :: _ :: _ :: L) w := hp
                            refine s_nil (and_with ⟨fun _ => ⟨_, hp⟩, dead (by kernel_rfl), fun _ => ⟨_, (hp.get 3 rfl)⟩, trivial⟩ fun hS => ?_)
                            exact v_done (by kernel_rfl) ⟨(utw4.1.set x13.toNat sl2, utw4.2), _, hE.cut ⟨rfl, rfl, rfl, rfl, rfl, trivial⟩, hp⟩
                    ·
                      refine h_op rfl ?_
                      refine s_lit (wk0 rfl) rfl rfl hE hp rfl [(0, (.agg #[w10]))] ⟨⟨rfl, rfl⟩, trivial⟩ [w10] 107 (fun w => by have hc0 := OwnSl.cells hp 0 rfl; simp only [Value.cells] at hc0; simp [Instr.buildSlice, Instr.fill, Value.cells, hc0, go_sem]) ?_
                      intro a w b13 hE hp
                      have hp : Hp Z ρ (Pt b13 (.cells #[w10] 107 (0, 0)) :: _ :: _ :: _ :: _ :: _ :: L) w := hp
                      refine s_nil (and_with ⟨fun _ => ⟨_, hp⟩, fun _ => ⟨_, (hp.get 2 rfl)⟩, fun _ => ⟨_, (hp.get 3 rfl)⟩, trivial⟩ fun hS => ?_)
                      refine v_all [11] (by kernel_rfl) rfl ?_
                      refine List.forall_mem_cons.2 ⟨?_, fun _ h => absurd h (by simp)⟩
                      ·
                        refine h_op rfl ?_
                        refine s_call (wk0 rfl) rfl rfl hE rfl [(.int .i64 x11)] ⟨rfl, trivial⟩ ent77 (c_proof_index hT x11 hp x13 ex13) Ret.ret ?_
                        intro v a w hR hE
                        obtain ⟨rfl, hp⟩ := Ret.of hR
                        have hp : Hp Z ρ (_ :: _ :: _ :: _ :: _ :: _ :: L) w := hp
                        refine s_nil (and_with ⟨fun _ => ⟨_, hp⟩, fun _ => ⟨_, (hp.get 2 rfl)⟩, fun _ => ⟨_, (hp.get 3 rfl)⟩, trivial⟩ fun hS => ?_)
                        obtain ⟨b14u, b14, b14o, b14h, b14r, b14v, b14f⟩ := WTbG.hdr (hp.get 2 rfl) slty85 ex14
                        have b14f : ∀ (j : Nat) (u : Value), ([(Sl.v b14u)] : List Value)[j]? = some u → ∀ ρ' L' w, Hp Z ρ' (WTbG 105 107 3 w4 utw4 (lp2_1 : (List (List Nat) × List (List Int))) none (some (((p0.watches).2.length, w10) : Nat × Value)) :: L') w → w.cell? ⟨b14, b14o + j, none⟩ = some u := b14f
                        refine v_take0 12 (wk0 rfl) rfl rfl rfl hE (by kernel_rfl) (by kernel_rfl) (by kernel_rfl) rfl (by kernel_rfl) hS (v := (.pointer (some ⟨b14, b14o, none⟩))) (fun _ => ex_index rfl hE rfl rfl b14r) ?_
                        intro a hE hS
                        refine v_take1 13 1 (wk0 rfl) rfl rfl rfl hE (by kernel_rfl) (by kernel_rfl) (by kernel_rfl) rfl (by kernel_rfl) hS (v := (Sl.v b14u)) (fun _ => ex_load rfl hE rfl (fun w hw => run_ld1 varty105 (b14f 0 _ rfl _ _ w (hw.get 0 rfl)))) ?_
                        intro a hE hS
                        refine v_all [17] (by kernel_rfl) rfl ?_
                        refine List.forall_mem_cons.2 ⟨?_, fun _ h => absurd h (by simp)⟩
                        ·
                          refine h_op rfl ?_
                          have hp := WTbG.takeRow (show neL x13 none from trivial) b14h ex14 (hp.get 2 rfl)
                          have hp : Hp Z ρ (OwnSl 107 (Sl.v b14u) (List.map (hd (utw4).2) (x14 : List Nat)) :: WTbR 105 107 3 w4 utw4 (lp2_1 : (List (List Nat) × List (List Int))) none (some (((p0.watches).2.length, w10) : Nat × Value)) x13 :: _ :: _ :: _ :: _ :: _ :: L) w := hp
                          have hwx15 := WTbR.away hp 1 rfl
                          refine s_app (wk0 rfl) rfl rfl hE hp rfl slty105 rfl rfl 0 rfl rfl (l2 := List.map (hd (utw4).2) ([(p0.watches).2.length] : List Nat)) rfl (fun j u hj => by have := Hp.cN 2 rfl 0 _ (sub_all rfl) w hp j u (by simpa [flat, Enc.enc, hwx15] using hj); simpa using this) (app_map ex15) ?_
                          intro v5 a w hE hp
                          have hp : Hp Z ρ (OwnSl 107 v5 (List.map (hd (utw4).2) (x15 : List Nat)) :: _ :: _ :: _ :: _ :: _ :: _ :: L) w := hp
                          refine s_nil (and_with ⟨fun _ => ⟨_, hp⟩, dead (by kernel_rfl), fun _ => ⟨_, (hp.get 4 rfl)⟩, trivial⟩ fun hS => ?_)
                          obtain ⟨b15, b15o, b15r, b15v⟩ := WTbR.adr (hp.get 1 rfl) slty85 b14h
                          rw [← guardEq_some ex16] at b15r
                          refine v_take0 18 (wk0 rfl) rfl rfl rfl hE (by kernel_rfl) (by kernel_rfl) (by kernel_rfl) rfl (by kernel_rfl) hS (v := (.pointer (some ⟨b15, b15o, none⟩))) (fun _ => ex_index rfl hE rfl rfl b15r) ?_
                          intro a hE hS
                          refine v_all [19] (by kernel_rfl) rfl ?_
                          refine List.forall_mem_cons.2 ⟨?_, fun _ h => absurd h (by simp)⟩
                          ·
                            refine h_op rfl ?_
                            obtain ⟨sl3, sl3e⟩ := OwnSl.toSl hp 0 rfl
                            refine s_wput (wk0 rfl) rfl hE sl3e ((hp.get 1 rfl).get 1 rfl) rfl rfl rfl (show neL x13 none from trivial) b14h ex14 b15v varty105.size_ ?_
                            intro w hp
                            have hp : Hp Z ρ (WTbG 105 107 3 w4 (utw4.1.set x13.toNat sl3, utw4.2) ((lp2_1.1.set x13.toNat x15, lp2_1.2) : (List (List Nat) × List (List Int))) none (some (((p0.watches).2.length, w10) : Nat × Value)) :: _ :: _ :: _ :: _ :: _ :: L) w := hp
                            refine s_nil (and_with ⟨fun _ => ⟨_, hp⟩, dead (by kernel_rfl), fun _ => ⟨_, (hp.get 3 rfl)⟩, trivial⟩ fun hS => ?_)
                            exact v_done (by kernel_rfl) ⟨(utw4.1.set x13.toNat sl3, utw4.2), _, hE.cut ⟨rfl, rfl, rfl, rfl, rfl, trivial⟩, hp⟩
                  ·
                    refine h_op rfl ?_
                    refine s_lit (wk0 rfl) rfl rfl hE hp rfl [(0, (.agg #[w10]))] ⟨⟨rfl, rfl⟩, trivial⟩ [w10] 107 (fun w => by have hc0 := OwnSl.cells hp 0 rfl; simp only [Value.cells] at hc0; simp [Instr.buildSlice, Instr.fill, Value.cells, hc0, go_sem]) ?_
                    intro a w b16 hE hp
                    have hp : Hp Z ρ (Pt b16 (.cells #[w10] 107 (0, 0)) :: _ :: _ :: _ :: _ :: _ :: L) w := hp
                    refine s_nil (and_with ⟨fun _ => ⟨_, hp⟩, fun _ => ⟨_, (hp.get 2 rfl)⟩, fun _ => ⟨_, (hp.get 3 rfl)⟩, trivial⟩ fun hS => ?_)
                    refine v_all [5] (by kernel_rfl) rfl ?_
                    refine List.forall_mem_cons.2 ⟨?_, fun _ h => absurd h (by simp)⟩
                    ·
                      refine h_op rfl ?_
                      refine s_call (wk0 rfl) rfl rfl hE rfl [(.int .i64 x11)] ⟨rfl, trivial⟩ ent77 (c_proof_index hT x11 hp x12 ex12) Ret.ret ?_
                      intro v a w hR hE
                      obtain ⟨rfl, hp⟩ := Ret.of hR
                      have hp : Hp Z ρ (_ :: _ :: _ :: _ :: _ :: _ :: L) w := hp
                      refine s_nil (and_with ⟨fun _ => ⟨_, hp⟩, fun _ => ⟨_, (hp.get 2 rfl)⟩, fun _ => ⟨_, (hp.get 3 rfl)⟩, trivial⟩ fun hS => ?_)
                      refine v_all [11] (by kernel_rfl) rfl ?_
                      refine List.forall_mem_cons.2 ⟨?_, fun _ h => absurd h (by simp)⟩
                      ·
                        refine h_op rfl ?_
                        refine s_call (wk0 rfl) rfl rfl hE rfl [(.int .i64 x11)] ⟨rfl, trivial⟩ ent77 (c_proof_index hT x11 hp x13 ex13) Ret.ret ?_
                        intro v a w hR hE
                        obtain ⟨rfl, hp⟩ := Ret.of hR
                        have hp : Hp Z ρ (_ :: _ :: _ :: _ :: _ :: _ :: L) w := hp
                        refine s_nil (and_with ⟨fun _ => ⟨_, hp⟩, fun _ => ⟨_, (hp.get 2 rfl)⟩, fun _ => ⟨_, (hp.get 3 rfl)⟩, trivial⟩ fun hS => ?_)
                        obtain ⟨b17u, b17, b17o, b17h, b17r, b17v, b17f⟩ := WTbG.hdr (hp.get 2 rfl) slty85 ex14
                        have b17f : ∀ (j : Nat) (u : Value), ([(Sl.v b17u)] : List Value)[j]? = some u → ∀ ρ' L' w, Hp Z ρ' (WTbG 105 107 3 w4 utw4 (lp2_1 : (List (List Nat) × List (List Int))) none (some (((p0.watches).2.length, w10) : Nat × Value)) :: L') w → w.cell? ⟨b17, b17o + j, none⟩ = some u := b17f
                        refine v_take0 12 (wk0 rfl) rfl rfl rfl hE (by kernel_rfl) (by kernel_rfl) (by kernel_rfl) rfl (by kernel_rfl) hS (v := (.pointer (some ⟨b17, b17o, none⟩))) (fun _ => ex_index rfl hE rfl rfl b17r) ?_
                        intro a hE hS
                        refine v_take1 13 1 (wk0 rfl) rfl rfl rfl hE (by kernel_rfl) (by kernel_rfl) (by kernel_rfl) rfl (by kernel_rfl) hS (v := (Sl.v b17u)) (fun _ => ex_load rfl hE rfl (fun w hw => run_ld1 varty105 (b17f 0 _ rfl _ _ w (hw.get 0 rfl)))) ?_
                        intro a hE hS
                        refine v_all [17] (by kernel_rfl) rfl ?_
                        refine List.forall_mem_cons.2 ⟨?_, fun _ h => absurd h (by simp)⟩
                        ·
                          refine h_op rfl ?_
                          have hp := WTbG.takeRow (show neL x13 none from trivial) b17h ex14 (hp.get 2 rfl)
                          have hp : Hp Z ρ (OwnSl 107 (Sl.v b17u) (List.map (hd (utw4).2) (x14 : List Nat)) :: WTbR 105 107 3 w4 utw4 (lp2_1 : (List (List Nat) × List (List Int))) none (some (((p0.watches).2.length, w10) : Nat × Value)) x13 :: _ :: _ :: _ :: _ :: _ :: L) w := hp
                          have hwx15 := WTbR.away hp 1 rfl
                          refine s_app (wk0 rfl) rfl rfl hE hp rfl slty105 rfl rfl 0 rfl rfl (l2 := List.map (hd (utw4).2) ([(p0.watches).2.length] : List Nat)) rfl (fun j u hj => by have := Hp.cN 2 rfl 0 _ (sub_all rfl) w hp j u (by simpa [flat, Enc.enc, hwx15] using hj); simpa using this) (app_map ex15) ?_
                          intro v6 a w hE hp
                          have hp : Hp Z ρ (OwnSl 107 v6 (List.map (hd (utw4).2) (x15 : List Nat)) :: _ :: _ :: _ :: _ :: _ :: _ :: L) w := hp
                          refine s_nil (and_with ⟨fun _ => ⟨_, hp⟩, dead (by kernel_rfl), fun _ => ⟨_, (hp.get 4 rfl)⟩, trivial⟩ fun hS => ?_)
                          obtain ⟨b18, b18o, b18r, b18v⟩ := WTbR.adr (hp.get 1 rfl) slty85 b17h
                          rw [← guardEq_some ex16] at b18r
                          refine v_take0 18 (wk0 rfl) rfl rfl rfl hE (by kernel_rfl) (by kernel_rfl) (by kernel_rfl) rfl (by kernel_rfl) hS (v := (.pointer (some ⟨b18, b18o, none⟩))) (fun _ => ex_index rfl hE rfl rfl b18r) ?_
                          intro a hE hS
                          refine v_all [19] (by kernel_rfl) rfl ?_
                          refine List.forall_mem_cons.2 ⟨?_, fun _ h => absurd h (by simp)⟩
                          ·
                            refine h_op rfl ?_
                            obtain ⟨sl4, sl4e⟩ := OwnSl.toSl hp 0 rfl
                            refine s_wput (wk0 rfl) rfl hE sl4e ((hp.get 1 rfl).get 1 rfl) rfl rfl rfl (show neL x13 none from trivial) b17h ex14 b18v varty105.size_ ?_
                            intro w hp
                            have hp : Hp Z ρ (WTbG 105 107 3 w4 (utw4.1.set x13.toNat sl4, utw4.2) ((lp2_1.1.set x13.toNat x15, lp2_1.2) : (List (List Nat) × List (List Int))) none (some (((p0.watches).2.length, w10) : Nat × Value)) :: _ :: _ :: _ :: _ :: _ :: L) w := hp
                            refine s_nil (and_with ⟨fun _ => ⟨_, hp⟩, dead (by kernel_rfl), fun _ => ⟨_, (hp.get 3 rfl)⟩, trivial⟩ fun hS => ?_)
                            exact v_done (by kernel_rfl) ⟨(utw4.1.set x13.toNat sl4, utw4.2), _, hE.cut ⟨rfl, rfl, rfl, rfl, rfl, trivial⟩, hp⟩
                · rintro a w ⟨yut4, y15, hE, hp⟩
                  refine k_region ?_
                  obtain ⟨x17, ex17, hl2⟩ := bnd hl2
                  refine s_val (wk0 rfl) rfl rfl hE hp (v := (.int .i64 x17)) (ex_add rfl hE rfl rfl (inK_some ex17)) ?_
                  intro a hE
                  refine s_val (wk0 rfl) rfl rfl hE hp (v := (.int .i64 x17)) (ex_move rfl hE rfl) ?_
                  intro a hE
                  refine s_nil ?_
                  exact ⟨_, (Option.some.inj hl2).symm, _, yut4, hE.cut ⟨rfl, rfl, rfl, rfl, rfl, trivial⟩, (((((((hp.get 5 rfl).get 5 rfl).get 5 rfl).get 3 rfl).get 5 rfl).get 5 rfl).drop)⟩
              · replace hl2 := (ie hc9).symm.trans hl2
                refine k_exit ?_
                refine ⟨_, (Option.some.inj hl2).symm, fun hbb => ?_⟩
                subst hbb
                exact ⟨_, utw4, hE.cut trivial, hp⟩
          · rintro a w ⟨w4, utw4, hE, hp⟩
            have hp := WTbG.back ((hp.get 1 rfl).get 1 rfl)
            have hp : Hp Z ρ (WTbG 105 107 3 w4 utw4 ((b5.1, b5.2.set ((p0.watches).2.length) b1s) : (List (List Nat) × List (List Int))) none none :: Pt bp0 (.cells #[vp0_value, vp0_trail, (.int .i64 p0.head), w4, (.bool p0.fails)] 87 (0, 0)) :: _ :: _ :: L) w := hp
            obtain rfl := Option.some.inj hm
            exact ret0n hE rfl ⟨_, rfl, _, _, _, _, rfl, ((((hp.get 0 rfl).get 3 rfl).get 3 rfl).get 3 rfl)⟩
set_option maxRecDepth 100000 in
set_option maxHeartbeats 4000000 in
theorem c_proof_engine_follows {Z : World} {ρ : PH} {L : List Atom} {w : World} (hT : Tabs ρ) (bp0 : Nat) (p0 : PEng) (vp0_value : Value) (vp0_trail : Value) (vp0_watches : Value) (utp0_watches : List Sl × List Sl) (p1 : (List Int)) (vp1 : Value) (hp1 : RoSl ρ vp1 p1) (hp : Hp Z ρ (Pt bp0 (.cells #[vp0_value, vp0_trail, (.int .i64 p0.head), vp0_watches, (.bool p0.fails)] 87 (0, 0)) :: OwnSl 3 vp0_value p0.value :: OwnSl 3 vp0_trail p0.trail :: WTbG 105 107 3 vp0_watches utp0_watches (p0.watches : (List (List Nat) × List (List Int))) none none :: L) w) (r : (Bool × PEng)) (hm : m_proof_engine_follows p0 p1 = some r) :
    Calls Tryz.prog 42 #[(.pointer (some ⟨bp0, 0, none⟩)), vp1] w (Ret fun v w' => ∃ (vzp0_value : Value) (vzp0_trail : Value) (vzp0_watches : Value) (utzp0_watches : List Sl × List Sl), v = (.bool r.1) ∧ Hp Z ρ (Pt bp0 (.cells #[vzp0_value, vzp0_trail, (.int .i64 r.2.head), vzp0_watches, (.bool r.2.fails)] 87 (0, 0)) :: OwnSl 3 vzp0_value r.2.value :: OwnSl 3 vzp0_trail r.2.trail :: WTbG 105 107 3 vzp0_watches utzp0_watches (r.2.watches : (List (List Nat) × List (List Int))) none none :: L) w') := by
  refine enter (N := 80) Tryz.func42 rfl rfl [(0, (.pointer (some ⟨bp0, 0, none⟩))), (1, vp1)] rfl (argsIn_mem ⟨rfl, rfl, trivial⟩) fun a hE => ?_
  unfold m_proof_engine_follows at hm
  refine k_seq ?_
  refine k_region ?_
  refine s_val (wk0 rfl) rfl rfl hE hp (v := (.bool false)) (ex_asn rfl hE rfl) ?_
  intro a hE
  refine s_nil ?_
  refine k_seq ?_
  refine k_seq ?_
  refine k_region ?_
  refine s_val (wk0 rfl) rfl rfl hE hp (v := (.pointer (some ⟨bp0, 0, none⟩))) (ex_move rfl hE rfl) ?_
  intro a hE
  refine s_val (wk0 rfl) rfl rfl hE hp (v := (.pointer (some ⟨bp0, 0, none⟩))) (ex_nil rfl hE rfl) ?_
  intro a hE
  refine s_val (wk0 rfl) rfl rfl hE hp (v := (.pointer (some ⟨bp0, 4, none⟩))) (ex_field rfl hE rfl (fldty87_4 _ _)) ?_
  intro a hE
  refine s_val (wk0 rfl) rfl rfl hE hp (v := (.bool p0.fails)) (ex_load rfl hE rfl (fun w hw => run_ld1 varty4 (Hp.c 0 rfl 4 rfl w hw))) ?_
  intro a hE
  refine s_nil ?_
  refine k_if hE rfl (fun hc1 => ?_) (fun hc1 => ?_)
  · replace hm := (it hc1).symm.trans hm
    refine k_seq ?_
    refine k_region ?_
    refine s_val (wk0 rfl) rfl rfl hE hp (v := (.bool true)) (ex_asn rfl hE rfl) ?_
    intro a hE
    refine s_nil ?_
    refine k_ret ?_
    obtain rfl := Option.some.inj hm
    exact ret1 hE rfl rfl ⟨_, rfl, _, _, _, _, rfl, hp⟩
  · replace hm := (ie hc1).symm.trans hm
    refine k_skip ?_
    refine k_seq ?_
    refine k_region ?_
    refine s_val (wk0 rfl) rfl rfl hE hp (v := (.pointer (some ⟨bp0, 0, none⟩))) (ex_move rfl hE rfl) ?_
    intro a hE
    refine s_val (wk0 rfl) rfl rfl hE hp (v := (.pointer (some ⟨bp0, 0, none⟩))) (ex_nil rfl hE rfl) ?_
    intro a hE
    refine s_val (wk0 rfl) rfl rfl hE hp (v := (.pointer (some ⟨bp0, 1, none⟩))) (ex_field rfl hE rfl (fldty87_1 _ _)) ?_
    intro a hE
    refine s_val (wk0 rfl) rfl rfl hE hp (v := vp0_trail) (ex_load rfl hE rfl (fun w hw => run_ld1 varty25 (Hp.c 0 rfl 1 rfl w hw))) ?_
    intro a hE
    refine s_val (wk0 rfl) rfl rfl hE hp (v := (.int .i64 (p0.trail.length : Int))) (ex_len rfl hE rfl (OwnSl.len hp 2 rfl slty25)) ?_
    intro a hE
    refine s_val (wk0 rfl) rfl rfl hE hp (v := (.int .i64 (p0.trail.length : Int))) (ex_asn rfl hE rfl) ?_
    intro a hE
    refine s_nil ?_
    refine k_seq ?_
    refine k_region ?_
    refine s_val (wk0 rfl) rfl rfl hE hp (v := (.bool true)) (ex_asn rfl hE rfl) ?_
    intro a hE
    refine s_nil ?_
    refine k_seq ?_
    refine k_seq ?_
    refine k_region ?_
    refine s_val (wk0 rfl) rfl rfl hE hp (v := vp1) (ex_move rfl hE rfl) ?_
    intro a hE
    refine s_val (wk0 rfl) rfl rfl hE hp (v := (.int .i64 (p1.length : Int))) (ex_len rfl hE rfl (RoSl.len hp1 slty25)) ?_
    intro a hE
    refine s_val (wk0 rfl) rfl rfl hE hp (v := (.int .i64 0)) (ex_move rfl hE rfl) ?_
    intro a hE
    refine s_nil ?_
    obtain ⟨b1, hc2, hm⟩ := bnd hm
    refine k_block (fun a w => ∃ (w2 : Value) (w3 : Value), Env 80 [(0, (.pointer (some ⟨bp0, 0, none⟩))), (5, (.int .i64 (p0.trail.length : Int))), (6, (.bool b1.1))] a ∧ Hp Z ρ (Pt bp0 (.cells #[w2, w3, (.int .i64 b1.2.1), vp0_watches, (.bool b1.2.2.1)] 87 (0, 0)) :: OwnSl 3 w2 b1.2.2.2.1 :: OwnSl 3 w3 b1.2.2.2.2 :: WTbG 105 107 3 vp0_watches utp0_watches (p0.watches : (List (List Nat) × List (List Int))) none none :: L) w) ?_ ?_
    · refine k_loop hc2 (fun s a w => ∃ (w2 : Value) (w3 : Value), Env 80 [(0, (.pointer (some ⟨bp0, 0, none⟩))), (5, (.int .i64 (p0.trail.length : Int))), (6, (.bool s.1)), (20, vp1), (21, (.int .i64 (p1.length : Int))), (22, (.int .i64 s.2.1))] a ∧ Hp Z ρ (Pt bp0 (.cells #[w2, w3, (.int .i64 s.2.2.1), vp0_watches, (.bool s.2.2.2.1)] 87 (0, 0)) :: OwnSl 3 w2 s.2.2.2.2.1 :: OwnSl 3 w3 s.2.2.2.2.2 :: WTbG 105 107 3 vp0_watches utp0_watches (p0.watches : (List (List Nat) × List (List Int))) none none :: L) w) ?_ ?_
      · exact ⟨_, _, hE.cut ⟨rfl, rfl, rfl, rfl, rfl, rfl, trivial⟩, hp⟩
      · rintro ⟨lp1_0, lp1_1, lp1_2, lp1_3, lp1_4, lp1_5⟩ st a w ⟨w2, w3, hE, hp⟩ hl1
        have hE : Env 80 [(0, (.pointer (some ⟨bp0, 0, none⟩))), (5, (.int .i64 (p0.trail.length : Int))), (6, (.bool lp1_0)), (20, vp1), (21, (.int .i64 (p1.length : Int))), (22, (.int .i64 lp1_1))] a := hE
        have hp : Hp Z ρ (Pt bp0 (.cells #[w2, w3, (.int .i64 lp1_2), vp0_watches, (.bool lp1_3)] 87 (0, 0)) :: OwnSl 3 w2 lp1_4 :: OwnSl 3 w3 lp1_5 :: WTbG 105 107 3 vp0_watches utp0_watches (p0.watches : (List (List Nat) × List (List Int))) none none :: L) w := hp
        replace hl1 : m_proof_engine_follows_lp1 p0 p1 lp1_0 lp1_1 lp1_2 lp1_3 lp1_4 lp1_5 = some st := hl1
        unfold m_proof_engine_follows_lp1 at hl1
        refine k_seq ?_
        refine k_region ?_
        refine s_val (wk0 rfl) rfl rfl hE hp (v := (.bool (decide (lp1_1 < (p1.length : Int))))) (ex_lss rfl hE rfl rfl) ?_
        intro a hE
        refine s_nil ?_
        refine k_seq ?_
        refine k_if hE rfl (fun hc3 => ?_) (fun hc3 => ?_)
        · replace hl1 := (it hc3).symm.trans hl1
          refine k_skip ?_
          refine k_seq ?_
          refine k_plain ?_
          refine k_seq ?_
          refine k_region ?_
          obtain ⟨x1, ex1, hl1⟩ := bnd hl1
          obtain ⟨b2, b2o, b2c, b2r, b2k, b2f⟩ := RoSl.at hp1 slty25 ex1
          obtain rfl : b2c = Enc.enc x1 := b2k
          have b2f : AtP ρ b2 b2o [(.int .i64 x1)] := b2f
          refine s_val (wk0 rfl) rfl rfl hE hp (v := (.pointer (some ⟨b2, b2o, none⟩))) (ex_index rfl hE rfl rfl b2r) ?_
          intro a hE
          refine s_val (wk0 rfl) rfl rfl hE hp (v := (.int .i64 x1)) (ex_load rfl hE rfl (fun w hw => run_ld1 varty3 (b2f.c 0 rfl w hw))) ?_
          intro a hE
          refine s_val (wk0 rfl) rfl rfl hE hp (v := (.int .i64 x1)) (ex_asn rfl hE rfl) ?_
          intro a hE
          refine s_nil ?_
          refine k_seq ?_
          refine k_seq ?_
          refine k_region ?_
          refine s_val (wk0 rfl) rfl rfl hE hp (v := (.pointer (some ⟨bp0, 0, none⟩))) (ex_move rfl hE rfl) ?_
          intro a hE
          refine s_val (wk0 rfl) rfl rfl hE hp (v := (.int .i64 x1)) (ex_move rfl hE rfl) ?_
          intro a hE
          obtain ⟨x2, ex2, hl1⟩ := bnd hl1
          refine s_call (wk0 rfl) rfl rfl hE rfl [(.pointer (some ⟨bp0, 0, none⟩)), (.int .i64 x1)] ⟨rfl, rfl, trivial⟩ ent57 (c_proof_engine_of hT bp0 (PEng.mk lp1_4 lp1_5 lp1_2 p0.watches lp1_3) w2 w3 vp0_watches utp0_watches x1 ((((hp.get 3 rfl).get 3 rfl).get 3 rfl).get 3 rfl) x2 ex2) Ret.ret ?_
          intro v a w hR hE
          obtain ⟨rfl, hp⟩ := Ret.of hR
          have hp : Hp Z ρ (_ :: _ :: _ :: _ :: L) w := hp
          refine s_val (wk0 rfl) rfl rfl hE hp (v := (.bool (decide (0 < x2)))) (ex_gtr rfl hE rfl rfl) ?_
          intro a hE
          refine s_nil ?_
          refine k_if hE rfl (fun hc4 => ?_) (fun hc4 => ?_)
          · replace hl1 := (it hc4).symm.trans hl1
            refine k_seq ?_
            refine k_region ?_
            refine s_val (wk0 rfl) rfl rfl hE hp (v := (.bool false)) (ex_asn rfl hE rfl) ?_
            intro a hE
            refine s_nil ?_
            refine k_exit ?_
            refine ⟨_, (Option.some.inj hl1).symm, fun hbb => ?_⟩
            subst hbb
            exact ⟨_, _, hE.cut ⟨rfl, rfl, rfl, trivial⟩, hp⟩
          · replace hl1 := (ie hc4).symm.trans hl1
            refine k_skip ?_
            refine k_seq ?_
            refine k_region ?_
            refine s_val (wk0 rfl) rfl rfl hE hp (v := (.pointer (some ⟨bp0, 0, none⟩))) (ex_move rfl hE rfl) ?_
            intro a hE
            refine s_val (wk0 rfl) rfl rfl hE hp (v := (.int .i64 x1)) (ex_move rfl hE rfl) ?_
            intro a hE
            obtain ⟨x3, ex3, hl1⟩ := bnd hl1
            refine s_call (wk0 rfl) rfl rfl hE rfl [(.pointer (some ⟨bp0, 0, none⟩)), (.int .i64 x1)] ⟨rfl, rfl, trivial⟩ ent57 (c_proof_engine_of hT bp0 (PEng.mk lp1_4 lp1_5 lp1_2 p0.watches lp1_3) w2 w3 vp0_watches utp0_watches x1 ((((hp.get 3 rfl).get 3 rfl).get 3 rfl).get 3 rfl) x3 ex3) Ret.ret ?_
            intro v a w hR hE
            obtain ⟨rfl, hp⟩ := Ret.of hR
            have hp : Hp Z ρ (_ :: _ :: _ :: _ :: L) w := hp
            refine s_val (wk0 rfl) rfl rfl hE hp (v := (.bool (decide (x3 = 0)))) (ex_eql rfl hE rfl rfl) ?_
            intro a hE
            refine s_nil ?_
            have hE := hE.cut (E' := [(0, (.pointer (some ⟨bp0, 0, none⟩))), (5, (.int .i64 (p0.trail.length : Int))), (6, (.bool lp1_0)), (8, (.int .i64 x1)), (20, vp1), (21, (.int .i64 (p1.length : Int))), (22, (.int .i64 lp1_1)), (33, (.bool (decide (x3 = 0))))]) ⟨rfl, rfl, rfl, rfl, rfl, rfl, rfl, rfl, trivial⟩
            refine k_if hE rfl (fun hc5 => ?_) (fun hc5 => ?_)
            · replace hl1 := (it hc5).symm.trans hl1
              refine k_region ?_
              refine s_val (wk0 rfl) rfl rfl hE hp (v := (.pointer (some ⟨bp0, 0, none⟩))) (ex_move rfl hE rfl) ?_
              intro a hE
              refine s_val (wk0 rfl) rfl rfl hE hp (v := (.int .i64 x1)) (ex_move rfl hE rfl) ?_
              intro a hE
              obtain ⟨x4, ex4, hl1⟩ := bnd hl1
              refine s_val (wk0 rfl) rfl rfl hE hp (v := (.int .i64 x4)) (ex_neg rfl hE rfl (inK_some ex4)) ?_
              intro a hE
              obtain ⟨x5, ex5, hl1⟩ := bnd hl1
              refine s_call (wk0 rfl) rfl rfl hE rfl [(.pointer (some ⟨bp0, 0, none⟩)), (.int .i64 x4)] ⟨rfl, rfl, trivial⟩ ent58 (c_proof_engine_hold hT bp0 (PEng.mk lp1_4 lp1_5 lp1_2 p0.watches lp1_3) w2 w3 vp0_watches utp0_watches x4 ((((hp.get 3 rfl).get 3 rfl).get 3 rfl).get 3 rfl) x5 ex5) Ret.ret ?_
              intro v a w hR hE
              obtain ⟨vz1_value, vz1_trail, rfl, hp⟩ := Ret.of hR
              have hp : Hp Z ρ (Pt bp0 (.cells #[vz1_value, vz1_trail, (.int .i64 x5.head), vp0_watches, (.bool x5.fails)] 87 (0, 0)) :: OwnSl 3 vz1_value x5.value :: OwnSl 3 vz1_trail x5.trail :: _ :: L) w := hp
              refine s_nil ?_
              refine k_region ?_
              obtain ⟨x6, ex6, hl1⟩ := bnd hl1
              refine s_val (wk0 rfl) rfl rfl hE hp (v := (.int .i64 x6)) (ex_add rfl hE rfl rfl (inK_some ex6)) ?_
              intro a hE
              refine s_val (wk0 rfl) rfl rfl hE hp (v := (.int .i64 x6)) (ex_move rfl hE rfl) ?_
              intro a hE
              refine s_nil ?_
              exact ⟨_, (Option.some.inj hl1).symm, _, _, hE.cut ⟨rfl, rfl, rfl, rfl, rfl, rfl, trivial⟩, hp⟩
            · replace hl1 := (ie hc5).symm.trans hl1
              refine k_skip ?_
              refine k_region ?_
              obtain ⟨x7, ex7, hl1⟩ := bnd hl1
              refine s_val (wk0 rfl) rfl rfl hE hp (v := (.int .i64 x7)) (ex_add rfl hE rfl rfl (inK_some ex7)) ?_
              intro a hE
              refine s_val (wk0 rfl) rfl rfl hE hp (v := (.int .i64 x7)) (ex_move rfl hE rfl) ?_
              intro a hE
              refine s_nil ?_
              exact ⟨_, (Option.some.inj hl1).symm, _, _, hE.cut ⟨rfl, rfl, rfl, rfl, rfl, rfl, trivial⟩, hp⟩
        · replace hl1 := (ie hc3).symm.trans hl1
          refine k_exit ?_
          refine ⟨_, (Option.some.inj hl1).symm, fun hbb => ?_⟩
          subst hbb
          exact ⟨_, _, hE.cut ⟨rfl, rfl, rfl, trivial⟩, hp⟩
    · rintro a w ⟨w2, w3, hE, hp⟩
      refine k_seq ?_
      refine k_region ?_
      refine s_val (wk0 rfl) rfl rfl hE hp (v := (.bool b1.1)) (ex_move rfl hE rfl) ?_
      intro a hE
      refine s_val (wk0 rfl) rfl rfl hE hp (v := (.bool b1.1)) (ex_move rfl hE rfl) ?_
      intro a hE
      obtain ⟨m1, hg1, hm⟩ := bnd hm
      refine s_cut [_, _, _] (fun a w => ∃ (w2 : Value) (w3 : Value) (w4 : Value) (utw4 : List Sl × List Sl), Env 80 [(0, (.pointer (some ⟨bp0, 0, none⟩))), (5, (.int .i64 (p0.trail.length : Int))), (43, (.bool m1.1))] a ∧ Hp Z ρ (Pt bp0 (.cells #[w2, w3, (.int .i64 m1.2.1), w4, (.bool m1.2.2.1)] 87 (0, 0)) :: OwnSl 3 w2 m1.2.2.2.1 :: OwnSl 3 w3 m1.2.2.2.2.1 :: WTbG 105 107 3 w4 utw4 (m1.2.2.2.2.2 : (List (List Nat) × List (List Int))) none none :: L) w) ?_ ?_
      · rcases Bool.eq_false_or_eq_true b1.1 with hc6 | hc6
        ·
          replace hg1 := (it hc6).symm.trans hg1
          refine s_val (wk1 hE rfl rfl rfl hc6) rfl rfl hE hp (v := (.pointer (some ⟨bp0, 0, none⟩))) (ex_move rfl hE rfl) ?_
          intro a hE
          obtain ⟨x8, ex8, hg1⟩ := bnd hg1
          refine s_call (wk1 hE rfl rfl rfl hc6) rfl rfl hE rfl [(.pointer (some ⟨bp0, 0, none⟩))] ⟨rfl, trivial⟩ ent59 (c_proof_engine_propagate hT bp0 (PEng.mk b1.2.2.2.1 b1.2.2.2.2 b1.2.1 p0.watches b1.2.2.1) w2 w3 vp0_watches utp0_watches ((((hp.get 3 rfl).get 3 rfl).get 3 rfl).get 3 rfl) x8 ex8) Ret.ret ?_
          intro v a w hR hE
          obtain ⟨vz2_value, vz2_trail, vz2_watches, utz2_watches, rfl, hp⟩ := Ret.of hR
          have hp : Hp Z ρ (Pt bp0 (.cells #[vz2_value, vz2_trail, (.int .i64 x8.2.head), vz2_watches, (.bool x8.2.fails)] 87 (0, 0)) :: OwnSl 3 vz2_value x8.2.value :: OwnSl 3 vz2_trail x8.2.trail :: WTbG 105 107 3 vz2_watches utz2_watches (x8.2.watches : (List (List Nat) × List (List Int))) none none :: L) w := hp
          refine s_val (wk0 rfl) rfl rfl hE hp (v := (.bool x8.1)) (ex_pick1 rfl hE rfl hc6 rfl) ?_
          intro a hE
          obtain rfl := Option.some.inj hg1
          exact s_nil ⟨_, _, _, utz2_watches, hE.cut ⟨rfl, rfl, rfl, trivial⟩, hp⟩
        ·
          replace hg1 := (ie hc6).symm.trans hg1
          refine s_skip (wk2 hE rfl rfl rfl hc6) rfl rfl hE ?_
          intro a hE
          refine s_skip (wk2 hE rfl rfl rfl hc6) rfl rfl hE ?_
          intro a hE
          refine s_val (wk0 rfl) rfl rfl hE hp (v := (.bool false)) (ex_pick0 rfl hE rfl hc6 rfl) ?_
          intro a hE
          obtain rfl := Option.some.inj hg1
          exact s_nil ⟨_, _, _, utp0_watches, hE.cut ⟨rfl, rfl, rfl, trivial⟩, hp⟩
      · rintro a w ⟨w2, w3, w4, utw4, hE, hp⟩
        refine s_val (wk0 rfl) rfl rfl hE hp (v := (.bool m1.1)) (ex_asn rfl hE rfl) ?_
        intro a hE
        refine s_nil ?_
        refine k_seq ?_
        refine k_seq ?_
        refine k_region ?_
        refine s_val (wk0 rfl) rfl rfl hE hp (v := (.pointer (some ⟨bp0, 0, none⟩))) (ex_move rfl hE rfl) ?_
        intro a hE
        refine s_val (wk0 rfl) rfl rfl hE hp (v := (.pointer (some ⟨bp0, 0, none⟩))) (ex_nil rfl hE rfl) ?_
        intro a hE
        refine s_val (wk0 rfl) rfl rfl hE hp (v := (.pointer (some ⟨bp0, 1, none⟩))) (ex_field rfl hE rfl (fldty87_1 _ _)) ?_
        intro a hE
        refine s_val (wk0 rfl) rfl rfl hE hp (v := w3) (ex_load rfl hE rfl (fun w hw => run_ld1 varty25 (Hp.c 0 rfl 1 rfl w hw))) ?_
        intro a hE
        refine s_val (wk0 rfl) rfl rfl hE hp (v := (.int .i64 (p0.trail.length : Int))) (ex_move rfl hE rfl) ?_
        intro a hE
        obtain ⟨x9, ex9, hm⟩ := bnd hm
        obtain ⟨v1, v1r, v1f⟩ := OwnSl.viewF hp 2 rfl slty25 (some (.i64, (p0.trail.length : Int))) none rfl rfl ex9
        refine s_val (wk0 rfl) rfl rfl hE hp (v := v1) (ex_sl rfl hE rfl (some (.i64, (p0.trail.length : Int))) none (by exact rfl) (by exact trivial) v1r) ?_
        intro a hE
        refine s_val (wk0 rfl) rfl rfl hE hp (v := (.int .i64 (x9.length : Int))) (ex_len rfl hE rfl (ViewF.len v1f hp 2 rfl slty25)) ?_
        intro a hE
        refine s_val (wk0 rfl) rfl rfl hE hp (v := (.int .i64 0)) (ex_move rfl hE rfl) ?_
        intro a hE
        refine s_nil ?_
        obtain ⟨b3, hc7, hm⟩ := bnd hm
        refine k_block (fun a w => ∃ (w2 : Value), Env 80 [(0, (.pointer (some ⟨bp0, 0, none⟩))), (5, (.int .i64 (p0.trail.length : Int))), (6, (.bool m1.1))] a ∧ Hp Z ρ (Pt bp0 (.cells #[w2, w3, (.int .i64 m1.2.1), w4, (.bool m1.2.2.1)] 87 (0, 0)) :: OwnSl 3 w2 b3 :: OwnSl 3 w3 m1.2.2.2.2.1 :: WTbG 105 107 3 w4 utw4 (m1.2.2.2.2.2 : (List (List Nat) × List (List Int))) none none :: L) w) ?_ ?_
        · refine k_loop hc7 (fun s a w => ∃ (w2 : Value), Env 80 [(0, (.pointer (some ⟨bp0, 0, none⟩))), (5, (.int .i64 (p0.trail.length : Int))), (6, (.bool m1.1)), (49, v1), (50, (.int .i64 (x9.length : Int))), (51, (.int .i64 s.1))] a ∧ Hp Z ρ (Pt bp0 (.cells #[w2, w3, (.int .i64 m1.2.1), w4, (.bool m1.2.2.1)] 87 (0, 0)) :: OwnSl 3 w2 s.2 :: OwnSl 3 w3 m1.2.2.2.2.1 :: WTbG 105 107 3 w4 utw4 (m1.2.2.2.2.2 : (List (List Nat) × List (List Int))) none none :: L) w) ?_ ?_
          · exact ⟨_, hE.cut ⟨rfl, rfl, rfl, rfl, rfl, rfl, trivial⟩, hp⟩
          · rintro ⟨lp2_0, lp2_1⟩ st a w ⟨w2, hE, hp⟩ hl2
            have hE : Env 80 [(0, (.pointer (some ⟨bp0, 0, none⟩))), (5, (.int .i64 (p0.trail.length : Int))), (6, (.bool m1.1)), (49, v1), (50, (.int .i64 (x9.length : Int))), (51, (.int .i64 lp2_0))] a := hE
            have hp : Hp Z ρ (Pt bp0 (.cells #[w2, w3, (.int .i64 m1.2.1), w4, (.bool m1.2.2.1)] 87 (0, 0)) :: OwnSl 3 w2 lp2_1 :: OwnSl 3 w3 m1.2.2.2.2.1 :: WTbG 105 107 3 w4 utw4 (m1.2.2.2.2.2 : (List (List Nat) × List (List Int))) none none :: L) w := hp
            replace hl2 : m_proof_engine_follows_lp2 x9 lp2_0 lp2_1 = some st := hl2
            unfold m_proof_engine_follows_lp2 at hl2
            refine k_seq ?_
            refine k_region ?_
            refine s_val (wk0 rfl) rfl rfl hE hp (v := (.bool (decide (lp2_0 < (x9.length : Int))))) (ex_lss rfl hE rfl rfl) ?_
            intro a hE
            refine s_nil ?_
            refine k_seq ?_
            refine k_if hE rfl (fun hc8 => ?_) (fun hc8 => ?_)
            · replace hl2 := (it hc8).symm.trans hl2
              refine k_skip ?_
              refine k_seq ?_
              refine k_plain ?_
              refine k_seq ?_
              refine k_region ?_
              obtain ⟨x10, ex10, hl2⟩ := bnd hl2
              obtain ⟨b4, b4o, b4r, b4f⟩ := ViewF.at v1f hp 2 rfl slty25 ex10
              have b4f : ∀ (j : Nat) (u : Value), ([(.int .i64 x10)] : List Value)[j]? = some u → ∀ ρ' L' w, Hp Z ρ' (OwnSl 3 w3 m1.2.2.2.2.1 :: L') w → w.cell? ⟨b4, b4o + j, none⟩ = some u := b4f
              refine s_val (wk0 rfl) rfl rfl hE hp (v := (.pointer (some ⟨b4, b4o, none⟩))) (ex_index rfl hE rfl rfl b4r) ?_
              intro a hE
              refine s_val (wk0 rfl) rfl rfl hE hp (v := (.int .i64 x10)) (ex_load rfl hE rfl (fun w hw => run_ld1 varty3 (b4f 0 _ rfl _ _ w (hw.get 2 rfl)))) ?_
              intro a hE
              refine s_val (wk0 rfl) rfl rfl hE hp (v := (.int .i64 x10)) (ex_asn rfl hE rfl) ?_
              intro a hE
              refine s_nil ?_
              refine k_region ?_
              refine s_val (wk0 rfl) rfl rfl hE hp (v := (.pointer (some ⟨bp0, 0, none⟩))) (ex_move rfl hE rfl) ?_
              intro a hE
              refine s_val (wk0 rfl) rfl rfl hE hp (v := (.pointer (some ⟨bp0, 0, none⟩))) (ex_nil rfl hE rfl) ?_
              intro a hE
              refine s_val (wk0 rfl) rfl rfl hE hp (v := (.pointer (some ⟨bp0, 0, none⟩))) (ex_field rfl hE rfl (fldty87_0 _ _)) ?_
              intro a hE
              refine s_val (wk0 rfl) rfl rfl hE hp (v := w2) (ex_load rfl hE rfl (fun w hw => run_ld1 varty25 (Hp.c 0 rfl 0 rfl w hw))) ?_
              intro a hE
              refine s_val (wk0 rfl) rfl rfl hE hp (v := (.int .i64 x10)) (ex_move rfl hE rfl) ?_
              intro a hE
              refine s_val (wk0 rfl) rfl rfl hE hp (v := (.int .i64 x10)) (ex_move rfl hE rfl) ?_
              intro a hE
              obtain ⟨x11, ex11, hl2⟩ := bnd hl2
              refine s_val (wk0 rfl) rfl rfl hE hp (v := (.int .i64 x11)) (ex_neg rfl hE rfl (inK_some ex11)) ?_
              intro a hE
              refine s_val (wk0 rfl) rfl rfl hE hp (v := (.int .i64 (max x10 x11))) (ex_max rfl hE rfl rfl) ?_
              intro a hE
              obtain ⟨x12, ex12, hl2⟩ := bnd hl2
              obtain ⟨b5, b5o, b5r, b5v, b5f⟩ := OwnSl.at hp 1 rfl slty25 ex12
              have b5f : ∀ (j : Nat) (u : Value), ([(.int .i64 x12)] : List Value)[j]? = some u → ∀ ρ' L' w, Hp Z ρ' (OwnSl 3 w2 lp2_1 :: L') w → w.cell? ⟨b5, b5o + j, none⟩ = some u := b5f
              refine s_val (wk0 rfl) rfl rfl hE hp (v := (.pointer (some ⟨b5, b5o, none⟩))) (ex_index rfl hE rfl rfl b5r) ?_
              intro a hE
              refine s_stel (wk0 rfl) rfl hE hp rfl rfl rfl 1 rfl ex12 b5v 0 (e' := 0) varty3.size_ rfl rfl rfl ⟨rfl, rfl⟩ ?_
              intro w hp
              have hp : Hp Z ρ (_ :: OwnSl 3 w2 (lp2_1.set (max x10 x11).toNat 0) :: _ :: _ :: L) w := hp
              refine s_nil ?_
              refine k_region ?_
              obtain ⟨x13, ex13, hl2⟩ := bnd hl2
              refine s_val (wk0 rfl) rfl rfl hE hp (v := (.int .i64 x13)) (ex_add rfl hE rfl rfl (inK_some ex13)) ?_
              intro a hE
              refine s_val (wk0 rfl) rfl rfl hE hp (v := (.int .i64 x13)) (ex_move rfl hE rfl) ?_
              intro a hE
              refine s_nil ?_
              exact ⟨_, (Option.some.inj hl2).symm, _, hE.cut ⟨rfl, rfl, rfl, rfl, rfl, rfl, trivial⟩, hp⟩
            · replace hl2 := (ie hc8).symm.trans hl2
              refine k_exit ?_
              refine ⟨_, (Option.some.inj hl2).symm, fun hbb => ?_⟩
              subst hbb
              exact ⟨_, hE.cut ⟨rfl, rfl, rfl, trivial⟩, hp⟩
        · rintro a w ⟨w2, hE, hp⟩
          refine k_seq ?_
          refine k_region ?_
          refine s_val (wk0 rfl) rfl rfl hE hp (v := (.pointer (some ⟨bp0, 0, none⟩))) (ex_move rfl hE rfl) ?_
          intro a hE
          refine s_val (wk0 rfl) rfl rfl hE hp (v := (.pointer (some ⟨bp0, 0, none⟩))) (ex_move rfl hE rfl) ?_
          intro a hE
          refine s_val (wk0 rfl) rfl rfl hE hp (v := (.pointer (some ⟨bp0, 0, none⟩))) (ex_move rfl hE rfl) ?_
          intro a hE
          refine s_val (wk0 rfl) rfl rfl hE hp (v := (.pointer (some ⟨bp0, 0, none⟩))) (ex_nil rfl hE rfl) ?_
          intro a hE
          refine s_val (wk0 rfl) rfl rfl hE hp (v := (.pointer (some ⟨bp0, 1, none⟩))) (ex_field rfl hE rfl (fldty87_1 _ _)) ?_
          intro a hE
          refine s_val (wk0 rfl) rfl rfl hE hp (v := w3) (ex_load rfl hE rfl (fun w hw => run_ld1 varty25 (Hp.c 0 rfl 1 rfl w hw))) ?_
          intro a hE
          refine s_val (wk0 rfl) rfl rfl hE hp (v := (.int .i64 (p0.trail.length : Int))) (ex_move rfl hE rfl) ?_
          intro a hE
          obtain ⟨x14, ex14, hm⟩ := bnd hm
          obtain ⟨v2, v2r, hp⟩ := OwnSl.head (hp.get 2 rfl) slty25 (some (.i64, (p0.trail.length : Int))) rfl ex14
          have hp : Hp Z ρ (OwnSl 3 v2 x14 :: Pt bp0 (.cells #[w2, w3, (.int .i64 m1.2.1), w4, (.bool m1.2.2.1)] 87 (0, 0)) :: OwnSl 3 w2 b3 :: WTbG 105 107 3 w4 utw4 (m1.2.2.2.2.2 : (List (List Nat) × List (List Int))) none none :: L) w := hp
          refine s_val (wk0 rfl) rfl rfl hE hp (v := v2) (ex_sl rfl hE rfl none (some (.i64, (p0.trail.length : Int))) (by exact trivial) (by exact rfl) v2r) ?_
          intro a hE
          refine s_val (wk0 rfl) rfl rfl hE hp (v := (.int .i64 (p0.trail.length : Int))) (ex_move rfl hE rfl) ?_
          intro a hE
          refine s_val (wk0 rfl) rfl rfl hE hp (v := (.pointer (some ⟨bp0, 0, none⟩))) (ex_nil rfl hE rfl) ?_
          intro a hE
          refine s_val (wk0 rfl) rfl rfl hE hp (v := (.pointer (some ⟨bp0, 1, none⟩))) (ex_field rfl hE rfl (fldty87_1 _ _)) ?_
          intro a hE
          refine s_store1 (wk0 rfl) rfl hE hp rfl rfl rfl 1 rfl varty25.size_ (OwnSl.cells hp 0 rfl) (OwnSl.one hp 0 rfl) rfl [w2, v2, (.int .i64 m1.2.1), w4, (.bool m1.2.2.1)] rfl ?_
          intro w hp
          have hp : Hp Z ρ (_ :: Pt bp0 (.cells #[w2, v2, (.int .i64 m1.2.1), w4, (.bool m1.2.2.1)] 87 (0, 0)) :: _ :: _ :: L) w := hp
          refine s_val (wk0 rfl) rfl rfl hE hp (v := (.pointer (some ⟨bp0, 0, none⟩))) (ex_nil rfl hE rfl) ?_
          intro a hE
          refine s_val (wk0 rfl) rfl rfl hE hp (v := (.pointer (some ⟨bp0, 2, none⟩))) (ex_field rfl hE rfl (fldty87_2 _ _)) ?_
          intro a hE
          refine s_store (wk0 rfl) rfl hE hp rfl rfl rfl 1 rfl varty3.size_ rfl (allOne_mem ⟨rfl, trivial⟩) [w2, v2, (.int .i64 (p0.trail.length : Int)), w4, (.bool m1.2.2.1)] rfl ?_
          intro w hp
          have hp : Hp Z ρ (_ :: Pt bp0 (.cells #[w2, v2, (.int .i64 (p0.trail.length : Int)), w4, (.bool m1.2.2.1)] 87 (0, 0)) :: _ :: _ :: L) w := hp
          refine s_nil ?_
          have hE := hE.cut (E' := [(6, (.bool m1.1))]) ⟨rfl, trivial⟩
          refine k_seq ?_
          refine k_region ?_
          refine s_val (wk0 rfl) rfl rfl hE hp (v := (.bool m1.1)) (ex_move rfl hE rfl) ?_
          intro a hE
          refine s_val (wk0 rfl) rfl rfl hE hp (v := (.bool (!m1.1))) (ex_not rfl hE rfl) ?_
          intro a hE
          refine s_val (wk0 rfl) rfl rfl hE hp (v := (.bool (!m1.1))) (ex_asn rfl hE rfl) ?_
          intro a hE
          refine s_nil ?_
          refine k_ret ?_
          obtain rfl := Option.some.inj hm
          exact ret1 hE rfl rfl ⟨_, rfl, _, _, _, _, rfl, ((((hp.get 3 rfl).get 1 rfl).get 3 rfl).get 3 rfl)⟩
set_option maxRecDepth 100000 in
set_option maxHeartbeats 4000000 in
theorem c_proof_newEngine {Z : World} {ρ : PH} {L : List Atom} {w : World} (hT : Tabs ρ) (p0 : Formula) (vp0_clauses : Value) (hp0_clauses : RoSl ρ vp0_clauses p0.clauses) (hp : Hp Z ρ (L) w) (r : PEng) (hm : m_proof_newEngine p0 = some r) :
    Calls Tryz.prog 41 #[(.agg #[(.int .i64 p0.vars), vp0_clauses])] w (Ret fun v w' => ∃ (br1 : Nat) (vr1_value : Value) (vr1_trail : Value) (vr1_watches : Value) (utr1_watches : List Sl × List Sl), v = (.pointer (some ⟨br1, 0, none⟩)) ∧ Hp Z ρ (Pt br1 (.cells #[vr1_value, vr1_trail, (.int .i64 r.head), vr1_watches, (.bool r.fails)] 87 (0, 0)) :: OwnSl 3 vr1_value r.value :: OwnSl 3 vr1_trail r.trail :: WTbG 105 107 3 vr1_watches utr1_watches (r.watches : (List (List Nat) × List (List Int))) none none :: L) w') := by
  refine enter (N := 29) Tryz.func41 rfl rfl [(0, (.agg #[(.int .i64 p0.vars), vp0_clauses]))] rfl (argsIn_mem ⟨rfl, trivial⟩) fun a hE => ?_
  unfold m_proof_newEngine at hm
  refine k_seq ?_
  refine k_region ?_
  refine s_box (wk0 rfl) rfl rfl hE hp rfl (v := (.agg #[(.int .i64 p0.vars), vp0_clauses])) rfl ?_
  intro a w b1 hE hp
  have hp : Hp Z ρ (Pt b1 (.cells #[(.int .i64 p0.vars), vp0_clauses] 24 (0, 0)) :: L) w := hp
  refine s_val (wk0 rfl) rfl rfl hE hp (v := (.pointer none)) (ex_asn rfl hE rfl) ?_
  intro a hE
  refine s_nil ?_
  refine k_seq ?_
  obtain ⟨x1, ex1, hm⟩ := bnd hm
  obtain ⟨x2, ex2, hm⟩ := bnd hm
  obtain ⟨x3, ex3, hm⟩ := bnd hm
  obtain ⟨x4, ex4, hm⟩ := bnd hm
  obtain ⟨x5, ex5, hm⟩ := bnd hm
  have hp := hp.drew
  refine k_heldV ([([], At0 Z ρ), ([], At1 Z ρ (Pt b1 (.cells #[(.int .i64 p0.vars), vp0_clauses] 24 (0, 0))))] : Facts) (fun a w => ∃ y8 : Nat, ∃ y7 : Value, ∃ yut7 : List Sl × List Sl, ∃ y6 : Value, Env 29 [(1, (.pointer (some ⟨b1, 0, none⟩))), (3, (.pointer (some ⟨y8, 0, none⟩)))] a ∧ Hp Z ρ (Pt y8 (.cells #[y6, (.slice none 0 0), (.int .i64 0), y7, (.bool false)] 87 (0, 0)) :: WTbG 105 107 3 y7 yut7 ((x5, []) : (List (List Nat) × List (List Int))) none none :: OwnSl 3 y6 x2 :: Pt b1 (.cells #[(.int .i64 p0.vars), vp0_clauses] 24 (0, 0)) :: L) w) (by kernel_rfl) ⟨fun _ => ⟨_, hp⟩, fun _ => ⟨_, (hp.get 0 rfl)⟩, trivial⟩ (fun hS => ?_) ?_
  ·
    generalize w.drew = w at hS hp ⊢
    refine v_take0 0 (wk0 rfl) rfl rfl rfl hE (by kernel_rfl) (by kernel_rfl) (by kernel_rfl) rfl (by kernel_rfl) hS (v := (.pointer (some ⟨b1, 0, none⟩))) (fun _ => ex_field rfl hE rfl (fldty24_0 _ _)) ?_
    intro a hE hS
    refine v_take1 1 1 (wk0 rfl) rfl rfl rfl hE (by kernel_rfl) (by kernel_rfl) (by kernel_rfl) rfl (by kernel_rfl) hS (v := (.int .i64 p0.vars)) (fun _ => ex_load rfl hE rfl (fun w hw => run_ld1 varty3 (Hp.c 0 rfl 0 rfl w hw))) ?_
    intro a hE hS
    refine v_take0 2 (wk0 rfl) rfl rfl rfl hE (by kernel_rfl) (by kernel_rfl) (by kernel_rfl) rfl (by kernel_rfl) hS (v := (.int .i64 x1)) (fun _ => ex_add rfl hE rfl rfl (inK_some ex1)) ?_
    intro a hE hS
    refine v_take0 4 (wk0 rfl) rfl rfl rfl hE (by kernel_rfl) (by kernel_rfl) (by kernel_rfl) rfl (by kernel_rfl) hS (v := (.pointer (some ⟨b1, 0, none⟩))) (fun _ => ex_field rfl hE rfl (fldty24_0 _ _)) ?_
    intro a hE hS
    refine v_take1 5 1 (wk0 rfl) rfl rfl rfl hE (by kernel_rfl) (by kernel_rfl) (by kernel_rfl) rfl (by kernel_rfl) hS (v := (.int .i64 p0.vars)) (fun _ => ex_load rfl hE rfl (fun w hw => run_ld1 varty3 (Hp.c 0 rfl 0 rfl w hw))) ?_
    intro a hE hS
    refine v_take0 6 (wk0 rfl) rfl rfl rfl hE (by kernel_rfl) (by kernel_rfl) (by kernel_rfl) rfl (by kernel_rfl) hS (v := (.int .i64 x3)) (fun _ => ex_mul rfl hE rfl rfl (inK_some ex3)) ?_
    intro a hE hS
    refine v_take0 7 (wk0 rfl) rfl rfl rfl hE (by kernel_rfl) (by kernel_rfl) (by kernel_rfl) rfl (by kernel_rfl) hS (v := (.int .i64 x4)) (fun _ => ex_add rfl hE rfl rfl (inK_some ex4)) ?_
    intro a hE hS
    refine v_all [3, 8] (by kernel_rfl) rfl ?_
    refine List.forall_mem_cons.2 ⟨?_, List.forall_mem_cons.2 ⟨?_, fun _ h => absurd h (by simp)⟩⟩
    ·
      refine h_op rfl ?_
      refine s_make (wk0 rfl) rfl rfl hE hp rfl (El := 3) (bytes := 8) (by kernel_rfl) (0 : Int) (by kernel_rfl) (by kernel_rfl) rfl rfl ex2 ?_
      intro v3 a w hE hp
      have hp : Hp Z ρ (OwnSl 3 v3 x2 :: _ :: L) w := hp
      refine s_nil (and_with ⟨fun _ => ⟨_, hp⟩, fun _ => ⟨_, (hp.get 1 rfl)⟩, trivial⟩ fun hS => ?_)
      refine v_all [8] (by kernel_rfl) rfl ?_
      refine List.forall_mem_cons.2 ⟨?_, fun _ h => absurd h (by simp)⟩
      ·
        refine h_op rfl ?_
        refine s_wmakeG (wk0 rfl) rfl rfl hE hp rfl (T := 105) (bytes := 24) (by kernel_rfl) (by kernel_rfl) rfl rfl rfl ex5 107 3 ?_
        intro v4 ut2 a w hE hp
        have hp : Hp Z ρ (WTbG 105 107 3 v4 ut2 ((x5, []) : (List (List Nat) × List (List Int))) none none :: _ :: _ :: L) w := hp
        refine s_nil (and_with ⟨fun _ => ⟨_, hp⟩, fun _ => ⟨_, (hp.get 2 rfl)⟩, trivial⟩ fun hS => ?_)
        refine v_take0 9 (wk0 rfl) rfl rfl rfl hE (by kernel_rfl) (by kernel_rfl) (by kernel_rfl) rfl (by kernel_rfl) hS (v := (.agg #[v3, (.slice none 0 0), (.int .i64 0), v4, (.bool false)])) (fun _ => ex_bld rfl hE [(0, v3), (3, v4)] (by exact ⟨⟨rfl, rfl⟩, ⟨rfl, rfl⟩, trivial⟩) (fun w => by have hc0 := OwnSl.cells hp 1 rfl; simp only [Value.cells] at hc0; have hc1 := WTbG.cells hp 0 rfl; simp only [Value.cells] at hc1; simp [Instr.build, Instr.fill, Value.cells, hc0, hc1, go_sem])) ?_
        intro a hE hS
        refine v_all [10] (by kernel_rfl) rfl ?_
        refine List.forall_mem_cons.2 ⟨?_, fun _ h => absurd h (by simp)⟩
        ·
          refine h_op rfl ?_
          refine s_box (wk0 rfl) rfl rfl hE hp rfl (v := (.agg #[v3, (.slice none 0 0), (.int .i64 0), v4, (.bool false)])) rfl ?_
          intro a w b3 hE hp
          have hp : Hp Z ρ (Pt b3 (.cells #[v3, (.slice none 0 0), (.int .i64 0), v4, (.bool false)] 87 (0, 0)) :: _ :: _ :: _ :: L) w := hp
          refine s_nil (and_with ⟨fun _ => ⟨_, hp⟩, fun _ => ⟨_, (hp.get 3 rfl)⟩, trivial⟩ fun hS => ?_)
          refine v_take0 11 (wk0 rfl) rfl rfl rfl hE (by kernel_rfl) (by kernel_rfl) (by kernel_rfl) rfl (by kernel_rfl) hS (v := (.pointer (some ⟨b3, 0, none⟩))) (fun _ => ex_asn rfl hE rfl) ?_
          intro a hE hS
          exact v_done (by kernel_rfl) ⟨_, _, ut2, _, hE.cut ⟨rfl, rfl, trivial⟩, hp⟩
    ·
      refine h_op rfl ?_
      refine s_wmakeG (wk0 rfl) rfl rfl hE hp rfl (T := 105) (bytes := 24) (by kernel_rfl) (by kernel_rfl) rfl rfl rfl ex5 107 3 ?_
      intro v5 ut3 a w hE hp
      have hp : Hp Z ρ (WTbG 105 107 3 v5 ut3 ((x5, []) : (List (List Nat) × List (List Int))) none none :: _ :: L) w := hp
      refine s_nil (and_with ⟨fun _ => ⟨_, hp⟩, fun _ => ⟨_, (hp.get 1 rfl)⟩, trivial⟩ fun hS => ?_)
      refine v_all [3] (by kernel_rfl) rfl ?_
      refine List.forall_mem_cons.2 ⟨?_, fun _ h => absurd h (by simp)⟩
      ·
        refine h_op rfl ?_
        refine s_make (wk0 rfl) rfl rfl hE hp rfl (El := 3) (bytes := 8) (by kernel_rfl) (0 : Int) (by kernel_rfl) (by kernel_rfl) rfl rfl ex2 ?_
        intro v6 a w hE hp
        have hp : Hp Z ρ (OwnSl 3 v6 x2 :: _ :: _ :: L) w := hp
        refine s_nil (and_with ⟨fun _ => ⟨_, hp⟩, fun _ => ⟨_, (hp.get 2 rfl)⟩, trivial⟩ fun hS => ?_)
        refine v_take0 9 (wk0 rfl) rfl rfl rfl hE (by kernel_rfl) (by kernel_rfl) (by kernel_rfl) rfl (by kernel_rfl) hS (v := (.agg #[v6, (.slice none 0 0), (.int .i64 0), v5, (.bool false)])) (fun _ => ex_bld rfl hE [(0, v6), (3, v5)] (by exact ⟨⟨rfl, rfl⟩, ⟨rfl, rfl⟩, trivial⟩) (fun w => by have hc0 := OwnSl.cells hp 0 rfl; simp only [Value.cells] at hc0; have hc1 := WTbG.cells hp 1 rfl; simp only [Value.cells] at hc1; simp [Instr.build, Instr.fill, Value.cells, hc0, hc1, go_sem])) ?_
        intro a hE hS
        refine v_all [10] (by kernel_rfl) rfl ?_
        refine List.forall_mem_cons.2 ⟨?_, fun _ h => absurd h (by simp)⟩
        ·
          refine h_op rfl ?_
          refine s_box (wk0 rfl) rfl rfl hE hp rfl (v := (.agg #[v6, (.slice none 0 0), (.int .i64 0), v5, (.bool false)])) rfl ?_
          intro a w b4 hE hp
          have hp : Hp Z ρ (Pt b4 (.cells #[v6, (.slice none 0 0), (.int .i64 0), v5, (.bool false)] 87 (0, 0)) :: _ :: _ :: _ :: L) w := hp
          refine s_nil (and_with ⟨fun _ => ⟨_, hp⟩, fun _ => ⟨_, (hp.get 3 rfl)⟩, trivial⟩ fun hS => ?_)
          refine v_take0 11 (wk0 rfl) rfl rfl rfl hE (by kernel_rfl) (by kernel_rfl) (by kernel_rfl) rfl (by kernel_rfl) hS (v := (.pointer (some ⟨b4, 0, none⟩))) (fun _ => ex_asn rfl hE rfl) ?_
          intro a hE hS
          exact v_done (by kernel_rfl) ⟨_, _, ut3, _, hE.cut ⟨rfl, rfl, trivial⟩, ((((hp.get 3 rfl).get 2 rfl).get 3 rfl).get 3 rfl)⟩
  · rintro a w ⟨y8, y7, yut7, y6, hE, hp⟩
    refine k_seq ?_
    refine k_seq ?_
    refine k_region ?_
    refine s_val (wk0 rfl) rfl rfl hE hp (v := (.pointer (some ⟨b1, 1, none⟩))) (ex_field rfl hE rfl (fldty24_1 _ _)) ?_
    intro a hE
    refine s_val (wk0 rfl) rfl rfl hE hp (v := vp0_clauses) (ex_load rfl hE rfl (fun w hw => run_ld1 varty22 (Hp.c 3 rfl 1 rfl w hw))) ?_
    intro a hE
    refine s_val (wk0 rfl) rfl rfl hE hp (v := (.int .i64 (p0.clauses.length : Int))) (ex_len rfl hE rfl (RoSl.len hp0_clauses slty22)) ?_
    intro a hE
    refine s_val (wk0 rfl) rfl rfl hE hp (v := (.int .i64 0)) (ex_move rfl hE rfl) ?_
    intro a hE
    refine s_nil ?_
    have hp := hp.emp (OwnSl.nil (α := Int) 3)
    have hp : Hp Z ρ (OwnSl 3 (.slice none 0 0) ([] : List Int) :: Pt y8 (.cells #[y6, (.slice none 0 0), (.int .i64 0), y7, (.bool false)] 87 (0, 0)) :: WTbG 105 107 3 y7 yut7 ((x5, []) : (List (List Nat) × List (List Int))) none none :: OwnSl 3 y6 x2 :: _ :: L) w := hp
    have hp : Hp Z ρ (_ :: _ :: _ :: _ :: _ :: L) w := hp
    obtain ⟨b5, hc1, hm⟩ := bnd hm
    refine k_block (fun a w => ∃ (w10 : Value) (w7 : Value) (utw7 : List Sl × List Sl) (w6 : Value), Env 29 [(3, (.pointer (some ⟨y8, 0, none⟩)))] a ∧ Hp Z ρ (OwnSl 3 w10 b5.1 :: Pt y8 (.cells #[w6, w10, (.int .i64 b5.2.1), w7, (.bool b5.2.2.1)] 87 (0, 0)) :: WTbG 105 107 3 w7 utw7 (b5.2.2.2.1 : (List (List Nat) × List (List Int))) none none :: OwnSl 3 w6 b5.2.2.2.2 :: Pt b1 (.cells #[(.int .i64 p0.vars), vp0_clauses] 24 (0, 0)) :: L) w) ?_ ?_
    · refine k_loop hc1 (fun s a w => ∃ (w10 : Value) (w7 : Value) (utw7 : List Sl × List Sl) (w6 : Value), Env 29 [(3, (.pointer (some ⟨y8, 0, none⟩))), (18, vp0_clauses), (19, (.int .i64 (p0.clauses.length : Int))), (20, (.int .i64 s.1))] a ∧ Hp Z ρ (OwnSl 3 w10 s.2.1 :: Pt y8 (.cells #[w6, w10, (.int .i64 s.2.2.1), w7, (.bool s.2.2.2.1)] 87 (0, 0)) :: WTbG 105 107 3 w7 utw7 (s.2.2.2.2.1 : (List (List Nat) × List (List Int))) none none :: OwnSl 3 w6 s.2.2.2.2.2 :: Pt b1 (.cells #[(.int .i64 p0.vars), vp0_clauses] 24 (0, 0)) :: L) w) ?_ ?_
      · exact ⟨_, _, yut7, _, hE.cut ⟨rfl, rfl, rfl, rfl, trivial⟩, hp⟩
      · rintro ⟨lp1_0, lp1_1, lp1_2, lp1_3, lp1_4, lp1_5⟩ st a w ⟨w10, w7, utw7, w6, hE, hp⟩ hl1
        have hE : Env 29 [(3, (.pointer (some ⟨y8, 0, none⟩))), (18, vp0_clauses), (19, (.int .i64 (p0.clauses.length : Int))), (20, (.int .i64 lp1_0))] a := hE
        have hp : Hp Z ρ (OwnSl 3 w10 lp1_1 :: Pt y8 (.cells #[w6, w10, (.int .i64 lp1_2), w7, (.bool lp1_3)] 87 (0, 0)) :: WTbG 105 107 3 w7 utw7 (lp1_4 : (List (List Nat) × List (List Int))) none none :: OwnSl 3 w6 lp1_5 :: _ :: L) w := hp
        replace hl1 : m_proof_newEngine_lp1 p0 lp1_0 lp1_1 lp1_2 lp1_3 lp1_4 lp1_5 = some st := hl1
        unfold m_proof_newEngine_lp1 at hl1
        refine k_seq ?_
        refine k_region ?_
        refine s_val (wk0 rfl) rfl rfl hE hp (v := (.bool (decide (lp1_0 < (p0.clauses.length : Int))))) (ex_lss rfl hE rfl rfl) ?_
        intro a hE
        refine s_nil ?_
        have hE := hE.cut (E' := [(3, (.pointer (some ⟨y8, 0, none⟩))), (18, vp0_clauses), (19, (.int .i64 (p0.clauses.length : Int))), (20, (.int .i64 lp1_0)), (21, (.bool (decide (lp1_0 < (p0.clauses.length : Int)))))]) ⟨rfl, rfl, rfl, rfl, rfl, trivial⟩
        refine k_seq ?_
        refine k_if hE rfl (fun hc2 => ?_) (fun hc2 => ?_)
        · replace hl1 := (it hc2).symm.trans hl1
          refine k_skip ?_
          refine k_seq ?_
          refine k_plain ?_
          refine k_seq ?_
          refine k_region ?_
          obtain ⟨x6, ex6, hl1⟩ := bnd hl1
          obtain ⟨b6, b6o, b6c, b6r, b6k, b6f⟩ := RoSl.at hp0_clauses slty22 ex6
          obtain ⟨vb6, rfl, hb6⟩ := b6k
          have b6f : AtP ρ b6 b6o [vb6] := b6f
          refine s_val (wk0 rfl) rfl rfl hE hp (v := (.pointer (some ⟨b6, b6o, none⟩))) (ex_index rfl hE rfl rfl b6r) ?_
          intro a hE
          refine s_val (wk0 rfl) rfl rfl hE hp (v := vb6) (ex_load rfl hE rfl (fun w hw => run_ld1 varty25 (b6f.c 0 rfl w hw))) ?_
          intro a hE
          refine s_val (wk0 rfl) rfl rfl hE hp (v := vb6) (ex_asn rfl hE rfl) ?_
          intro a hE
          refine s_nil ?_
          refine k_region ?_
          refine s_val (wk0 rfl) rfl rfl hE hp (v := (.pointer (some ⟨y8, 0, none⟩))) (ex_move rfl hE rfl) ?_
          intro a hE
          refine s_val (wk0 rfl) rfl rfl hE hp (v := vb6) (ex_move rfl hE rfl) ?_
          intro a hE
          obtain ⟨x7, ex7, hl1⟩ := bnd hl1
          refine s_call (wk0 rfl) rfl rfl hE rfl [(.pointer (some ⟨y8, 0, none⟩)), vb6] ⟨rfl, rfl, trivial⟩ ent56 (c_proof_engine_add hT y8 (PEng.mk lp1_5 lp1_1 lp1_2 lp1_4 lp1_3) w6 w10 w7 utw7 x6 vb6 hb6 ((((hp.get 2 rfl).get 1 rfl).get 3 rfl).get 3 rfl) x7 ex7) Ret.ret ?_
          intro v a w hR hE
          obtain ⟨vz1_value, vz1_trail, vz1_watches, utz1_watches, rfl, hp⟩ := Ret.of hR
          have hp : Hp Z ρ (Pt y8 (.cells #[vz1_value, vz1_trail, (.int .i64 x7.head), vz1_watches, (.bool x7.fails)] 87 (0, 0)) :: OwnSl 3 vz1_value x7.value :: OwnSl 3 vz1_trail x7.trail :: WTbG 105 107 3 vz1_watches utz1_watches (x7.watches : (List (List Nat) × List (List Int))) none none :: _ :: L) w := hp
          refine s_nil ?_
          refine k_region ?_
          obtain ⟨x8, ex8, hl1⟩ := bnd hl1
          refine s_val (wk0 rfl) rfl rfl hE hp (v := (.int .i64 x8)) (ex_add rfl hE rfl rfl (inK_some ex8)) ?_
          intro a hE
          refine s_val (wk0 rfl) rfl rfl hE hp (v := (.int .i64 x8)) (ex_move rfl hE rfl) ?_
          intro a hE
          refine s_nil ?_
          exact ⟨_, (Option.some.inj hl1).symm, _, _, utz1_watches, _, hE.cut ⟨rfl, rfl, rfl, rfl, trivial⟩, (((((hp.get 4 rfl).get 2 rfl).get 4 rfl).get 3 rfl).get 4 rfl)⟩
        · replace hl1 := (ie hc2).symm.trans hl1
          refine k_exit ?_
          refine ⟨_, (Option.some.inj hl1).symm, fun hbb => ?_⟩
          subst hbb
          exact ⟨_, _, utw7, _, hE.cut ⟨rfl, trivial⟩, hp⟩
    · rintro a w ⟨w10, w7, utw7, w6, hE, hp⟩
      refine k_seq ?_
      refine k_region ?_
      refine s_val (wk0 rfl) rfl rfl hE hp (v := (.pointer (some ⟨y8, 0, none⟩))) (ex_move rfl hE rfl) ?_
      intro a hE
      refine s_val (wk0 rfl) rfl rfl hE hp (v := (.pointer (some ⟨y8, 0, none⟩))) (ex_asn rfl hE rfl) ?_
      intro a hE
      refine s_nil ?_
      refine k_ret ?_
      obtain rfl := Option.some.inj hm
      exact ret1 hE rfl rfl ⟨_, rfl, _, _, _, _, _, rfl, ((((((hp.get 2 rfl).get 1 rfl).get 3 rfl).get 3 rfl).get 4 rfl).drop)⟩
set_option maxRecDepth 100000 in
set_option maxHeartbeats 4000000 in
theorem c_proof_steps_1_yield {Z : World} {ρ : PH} {L : List Atom} {w : World} (hT : Tabs ρ) {σ ε : Type} (yf : (Int × Bool) → σ → Option (Step σ ε)) (yl : Nat) (Y : Step σ ε → Atom) (hY : YieldOk Tryz.prog Z ρ yl (fun x : (Int × Bool) => [(.int .i64 x.1), (.bool x.2)]) yf Y) (ys : Step σ ε) (bcp0 : Nat) (cp0 : Formula) (vcp0_clauses : Value) (hcp0_clauses : RoSl ρ vcp0_clauses cp0.clauses) (bcp1 : Nat) (cp1 : (List (List Int))) (vcp1 : Value) (hcp1 : RoSl ρ vcp1 cp1) (hp : Hp Z ρ (Pt bcp0 (.cells #[(.int .i64 cp0.vars), vcp0_clauses] 24 (0, 0)) :: Pt bcp1 (.cells #[vcp1] 22 (0, 0)) :: Y ys :: L) w) (r : (Step σ ε)) (hm : m_proof_steps_1_yield yf ys cp0 cp1 = some r) :
    Calls Tryz.prog 66 #[(.func (.yield yl) #[] #[]), (.pointer (some ⟨bcp0, 0, none⟩)), (.pointer (some ⟨bcp1, 0, none⟩))] w (Ret fun v w' => v = .tuple #[] ∧ Hp Z ρ (Pt bcp0 (.cells #[(.int .i64 cp0.vars), vcp0_clauses] 24 (0, 0)) :: Pt bcp1 (.cells #[vcp1] 22 (0, 0)) :: Y r :: L) w') := by
  refine enter (N := 33) Tryz.func66 rfl rfl [(0, (.func (.yield yl) #[] #[])), (1, (.pointer (some ⟨bcp0, 0, none⟩))), (2, (.pointer (some ⟨bcp1, 0, none⟩)))] rfl (argsIn_mem ⟨rfl, rfl, rfl, trivial⟩) fun a hE => ?_
  unfold m_proof_steps_1_yield at hm
  refine k_seq ?_
  refine k_region ?_
  refine s_val (wk0 rfl) rfl rfl hE hp (v := (.agg #[(.int .i64 cp0.vars), vcp0_clauses])) (ex_load rfl hE rfl (fun w hw => run_ldN (cs := [(.int .i64 cp0.vars), vcp0_clauses]) varty24 (Hp.cN 0 rfl 0 _ (sub_all rfl) w hw))) ?_
  intro a hE
  obtain ⟨x1, ex1, hm⟩ := bnd hm
  refine s_call (wk0 rfl) rfl rfl hE rfl [(.agg #[(.int .i64 cp0.vars), vcp0_clauses])] ⟨rfl, trivial⟩ ent41 (c_proof_newEngine hT cp0 vcp0_clauses hcp0_clauses hp x1 ex1) Ret.ret ?_
  intro v a w hR hE
  obtain ⟨br1, vr1_value, vr1_trail, vr1_watches, utr1_watches, rfl, hp⟩ := Ret.of hR
  have hp : Hp Z ρ (Pt br1 (.cells #[vr1_value, vr1_trail, (.int .i64 x1.head), vr1_watches, (.bool x1.fails)] 87 (0, 0)) :: OwnSl 3 vr1_value x1.value :: OwnSl 3 vr1_trail x1.trail :: WTbG 105 107 3 vr1_watches utr1_watches (x1.watches : (List (List Nat) × List (List Int))) none none :: Pt bcp0 (.cells #[(.int .i64 cp0.vars), vcp0_clauses] 24 (0, 0)) :: Pt bcp1 (.cells #[vcp1] 22 (0, 0)) :: Y ys :: L) w := hp
  refine s_val (wk0 rfl) rfl rfl hE hp (v := (.pointer (some ⟨br1, 0, none⟩))) (ex_asn rfl hE rfl) ?_
  intro a hE
  refine s_nil ?_
  refine k_seq ?_
  refine k_region ?_
  refine s_val (wk0 rfl) rfl rfl hE hp (v := vcp1) (ex_load rfl hE rfl (fun w hw => run_ld1 varty22 (Hp.c 5 rfl 0 rfl w hw))) ?_
  intro a hE
  refine s_val (wk0 rfl) rfl rfl hE hp (v := (.int .i64 (cp1.length : Int))) (ex_len rfl hE rfl (RoSl.len hcp1 slty22)) ?_
  intro a hE
  refine s_val (wk0 rfl) rfl rfl hE hp (v := (.int .i64 0)) (ex_move rfl hE rfl) ?_
  intro a hE
  refine s_nil ?_
  obtain ⟨b1, hc1, hm⟩ := bnd hm
  refine k_block (fun a w => ∃ s : (Int × Bool × (List Int) × (List Int) × (List (List Nat) × List (List Int)) × (Step σ ε)), b1 = .brk s ∧ (∃ (w5 : Value) (w6 : Value) (w7 : Value) (utw7 : List Sl × List Sl), Env 33 [] a ∧ Hp Z ρ (Pt br1 (.cells #[w5, w6, (.int .i64 s.1), w7, (.bool s.2.1)] 87 (0, 0)) :: OwnSl 3 w5 s.2.2.1 :: OwnSl 3 w6 s.2.2.2.1 :: WTbG 105 107 3 w7 utw7 (s.2.2.2.2.1 : (List (List Nat) × List (List Int))) none none :: Pt bcp0 (.cells #[(.int .i64 cp0.vars), vcp0_clauses] 24 (0, 0)) :: Pt bcp1 (.cells #[vcp1] 22 (0, 0)) :: Y s.2.2.2.2.2 :: L) w)) ?_ ?_
  · refine k_loop hc1 (fun s a w => ∃ (w5 : Value) (w6 : Value) (w7 : Value) (utw7 : List Sl × List Sl), Env 33 [(0, (.func (.yield yl) #[] #[])), (4, (.pointer (some ⟨br1, 0, none⟩))), (10, vcp1), (11, (.int .i64 (cp1.length : Int))), (12, (.int .i64 s.1))] a ∧ Hp Z ρ (Pt br1 (.cells #[w5, w6, (.int .i64 s.2.1), w7, (.bool s.2.2.1)] 87 (0, 0)) :: OwnSl 3 w5 s.2.2.2.1 :: OwnSl 3 w6 s.2.2.2.2.1 :: WTbG 105 107 3 w7 utw7 (s.2.2.2.2.2.1 : (List (List Nat) × List (List Int))) none none :: Pt bcp0 (.cells #[(.int .i64 cp0.vars), vcp0_clauses] 24 (0, 0)) :: Pt bcp1 (.cells #[vcp1] 22 (0, 0)) :: Y s.2.2.2.2.2.2 :: L) w) ?_ ?_
    · exact ⟨_, _, _, utr1_watches, hE.cut ⟨rfl, rfl, rfl, rfl, rfl, trivial⟩, hp⟩
    · rintro ⟨lp1_0, lp1_1, lp1_2, lp1_3, lp1_4, lp1_5, lp1_6⟩ st a w ⟨w5, w6, w7, utw7, hE, hp⟩ hl1
      have hE : Env 33 [(0, (.func (.yield yl) #[] #[])), (4, (.pointer (some ⟨br1, 0, none⟩))), (10, vcp1), (11, (.int .i64 (cp1.length : Int))), (12, (.int .i64 lp1_0))] a := hE
      have hp : Hp Z ρ (Pt br1 (.cells #[w5, w6, (.int .i64 lp1_1), w7, (.bool lp1_2)] 87 (0, 0)) :: OwnSl 3 w5 lp1_3 :: OwnSl 3 w6 lp1_4 :: WTbG 105 107 3 w7 utw7 (lp1_5 : (List (List Nat) × List (List Int))) none none :: _ :: _ :: Y lp1_6 :: L) w := hp
      replace hl1 : m_proof_steps_1_yield_lp1 yf cp1 lp1_0 lp1_1 lp1_2 lp1_3 lp1_4 lp1_5 lp1_6 = some st := hl1
      unfold m_proof_steps_1_yield_lp1 at hl1
      refine k_seq ?_
      refine k_region ?_
      refine s_val (wk0 rfl) rfl rfl hE hp (v := (.bool (decide (lp1_0 < (cp1.length : Int))))) (ex_lss rfl hE rfl rfl) ?_
      intro a hE
      refine s_nil ?_
      refine k_seq ?_
      refine k_if hE rfl (fun hc2 => ?_) (fun hc2 => ?_)
      · replace hl1 := (it hc2).symm.trans hl1
        refine k_skip ?_
        refine k_seq ?_
        refine k_plain ?_
        refine k_seq ?_
        refine k_region ?_
        refine s_val (wk0 rfl) rfl rfl hE hp (v := (.int .i64 lp1_0)) (ex_move rfl hE rfl) ?_
        intro a hE
        obtain ⟨x2, ex2, hl1⟩ := bnd hl1
        obtain ⟨b2, b2o, b2c, b2r, b2k, b2f⟩ := RoSl.at hcp1 slty22 ex2
        obtain ⟨vb2, rfl, hb2⟩ := b2k
        have b2f : AtP ρ b2 b2o [vb2] := b2f
        refine s_val (wk0 rfl) rfl rfl hE hp (v := (.pointer (some ⟨b2, b2o, none⟩))) (ex_index rfl hE rfl rfl b2r) ?_
        intro a hE
        refine s_val (wk0 rfl) rfl rfl hE hp (v := vb2) (ex_load rfl hE rfl (fun w hw => run_ld1 varty25 (b2f.c 0 rfl w hw))) ?_
        intro a hE
        refine s_val (wk0 rfl) rfl rfl hE hp (v := (.int .i64 lp1_0)) (ex_asn rfl hE rfl) ?_
        intro a hE
        refine s_val (wk0 rfl) rfl rfl hE hp (v := vb2) (ex_asn rfl hE rfl) ?_
        intro a hE
        refine s_nil ?_
        refine k_seq ?_
        refine k_region ?_
        refine s_val (wk0 rfl) rfl rfl hE hp (v := (.pointer (some ⟨br1, 0, none⟩))) (ex_move rfl hE rfl) ?_
        intro a hE
        refine s_val (wk0 rfl) rfl rfl hE hp (v := vb2) (ex_move rfl hE rfl) ?_
        intro a hE
        obtain ⟨x3, ex3, hl1⟩ := bnd hl1
        refine s_call (wk0 rfl) rfl rfl hE rfl [(.pointer (some ⟨br1, 0, none⟩)), vb2] ⟨rfl, rfl, trivial⟩ ent42 (c_proof_engine_follows hT br1 (PEng.mk lp1_3 lp1_4 lp1_1 lp1_5 lp1_2) w5 w6 w7 utw7 x2 vb2 hb2 ((((hp.get 3 rfl).get 3 rfl).get 3 rfl).get 3 rfl) x3 ex3) Ret.ret ?_
        intro v a w hR hE
        obtain ⟨vz1_value, vz1_trail, vz1_watches, utz1_watches, rfl, hp⟩ := Ret.of hR
        have hp : Hp Z ρ (Pt br1 (.cells #[vz1_value, vz1_trail, (.int .i64 x3.2.head), vz1_watches, (.bool x3.2.fails)] 87 (0, 0)) :: OwnSl 3 vz1_value x3.2.value :: OwnSl 3 vz1_trail x3.2.trail :: WTbG 105 107 3 vz1_watches utz1_watches (x3.2.watches : (List (List Nat) × List (List Int))) none none :: _ :: _ :: _ :: L) w := hp
        refine s_val (wk0 rfl) rfl rfl hE hp (v := (.bool x3.1)) (ex_asn rfl hE rfl) ?_
        intro a hE
        refine s_nil ?_
        refine k_seq ?_
        refine k_seq ?_
        refine k_regionY ?_
        refine y_val (wk0 rfl) rfl rfl hE hp (v := (.func (.yield yl) #[] #[])) (ex_move rfl hE rfl) ?_
        intro a hE
        refine y_val (wk0 rfl) rfl rfl hE hp (v := (.int .i64 lp1_0)) (ex_move rfl hE rfl) ?_
        intro a hE
        refine y_val (wk0 rfl) rfl rfl hE hp (v := (.bool x3.1)) (ex_move rfl hE rfl) ?_
        intro a hE
        obtain ⟨x4, ex4, hl1⟩ := bnd hl1
        refine y_yield (wk0 rfl) rfl rfl hE rfl rfl [(.int .i64 lp1_0), (.bool x3.1)] ⟨rfl, rfl, trivial⟩ (YieldOk.at hY ex4 (hp.get 6 rfl)) ?_
        rintro _ a w ⟨rfl, hp⟩ hE
        have hp : Hp Z ρ (Y x4 :: _ :: _ :: _ :: _ :: _ :: _ :: L) w := hp
        refine y_val (wk0 rfl) rfl rfl hE hp (v := (.bool (!x4.more))) (ex_not rfl hE rfl) ?_
        intro a hE
        refine y_val (wk0 rfl) rfl rfl hE hp (v := (.bool (!x4.more))) (ex_move rfl hE rfl) ?_
        intro a hE
        rcases Bool.eq_false_or_eq_true (!x4.more) with hc3 | hc3
        ·
          refine y_skip (wk2 hE rfl rfl rfl hc3) rfl rfl hE ?_
          intro a hE
          refine y_skip (wk2 hE rfl rfl rfl hc3) rfl rfl hE ?_
          intro a hE
          refine y_val (wk0 rfl) rfl rfl hE hp (v := (.bool true)) (ex_pick1 rfl hE rfl hc3 rfl) ?_
          intro a hE
          have hE := hE.eqv (v' := (.bool ((!x4.more) || (!x3.1)))) (by rw [hc3]; rfl)
          have hE := hE.cut (E' := [(28, (.bool ((!x4.more) || (!x3.1)))), (0, (.func (.yield yl) #[] #[])), (4, (.pointer (some ⟨br1, 0, none⟩))), (6, vb2), (10, vcp1), (11, (.int .i64 (cp1.length : Int))), (12, (.int .i64 lp1_0))]) ⟨rfl, rfl, rfl, rfl, rfl, rfl, rfl, trivial⟩
          refine y_nil ?_
          refine k_if hE rfl (fun hc14 => ?_) (fun hc14 => ?_)
          · replace hl1 := (it hc14).symm.trans hl1
            refine k_ret ?_
            refine ⟨_, (Option.some.inj hl1).symm, fun hb => ?_⟩
            subst hb
            obtain rfl := Option.some.inj hm
            exact ret0 hE rfl ⟨_, rfl, rfl, (((((((((((hp.get 0 rfl).get 6 rfl).get 6 rfl).get 6 rfl).drop).get 5 rfl).drop).get 4 rfl).drop).get 3 rfl).drop)⟩
          · replace hl1 := (ie hc14).symm.trans hl1
            refine k_skip ?_
            refine k_region ?_
            refine s_val (wk0 rfl) rfl rfl hE hp (v := (.pointer (some ⟨br1, 0, none⟩))) (ex_move rfl hE rfl) ?_
            intro a hE
            refine s_val (wk0 rfl) rfl rfl hE hp (v := vb2) (ex_move rfl hE rfl) ?_
            intro a hE
            obtain ⟨x15, ex15, hl1⟩ := bnd hl1
            refine s_call (wk0 rfl) rfl rfl hE rfl [(.pointer (some ⟨br1, 0, none⟩)), vb2] ⟨rfl, rfl, trivial⟩ ent56 (c_proof_engine_add hT br1 x3.2 vz1_value vz1_trail vz1_watches utz1_watches x2 vb2 hb2 ((((hp.get 4 rfl).get 4 rfl).get 4 rfl).get 4 rfl) x15 ex15) Ret.ret ?_
            intro v a w hR hE
            obtain ⟨vz12_value, vz12_trail, vz12_watches, utz12_watches, rfl, hp⟩ := Ret.of hR
            have hp : Hp Z ρ (Pt br1 (.cells #[vz12_value, vz12_trail, (.int .i64 x15.head), vz12_watches, (.bool x15.fails)] 87 (0, 0)) :: OwnSl 3 vz12_value x15.value :: OwnSl 3 vz12_trail x15.trail :: WTbG 105 107 3 vz12_watches utz12_watches (x15.watches : (List (List Nat) × List (List Int))) none none :: _ :: _ :: _ :: L) w := hp
            refine s_nil ?_
            refine k_region ?_
            obtain ⟨x16, ex16, hl1⟩ := bnd hl1
            refine s_val (wk0 rfl) rfl rfl hE hp (v := (.int .i64 x16)) (ex_add rfl hE rfl rfl (inK_some ex16)) ?_
            intro a hE
            refine s_val (wk0 rfl) rfl rfl hE hp (v := (.int .i64 x16)) (ex_move rfl hE rfl) ?_
            intro a hE
            refine s_nil ?_
            exact ⟨_, (Option.some.inj hl1).symm, _, _, _, utz12_watches, hE.cut ⟨rfl, rfl, rfl, rfl, rfl, trivial⟩, (((((((hp.get 4 rfl).get 6 rfl).get 6 rfl).get 6 rfl).get 6 rfl).get 6 rfl).get 6 rfl)⟩
        ·
          refine y_val (wk1 hE rfl rfl rfl hc3) rfl rfl hE hp (v := (.bool x3.1)) (ex_move rfl hE rfl) ?_
          intro a hE
          refine y_val (wk1 hE rfl rfl rfl hc3) rfl rfl hE hp (v := (.bool (!x3.1))) (ex_not rfl hE rfl) ?_
          intro a hE
          refine y_val (wk0 rfl) rfl rfl hE hp (v := (.bool (!x3.1))) (ex_pick0 rfl hE rfl hc3 rfl) ?_
          intro a hE
          have hE := hE.eqv (v' := (.bool ((!x4.more) || (!x3.1)))) (by rw [hc3]; rfl)
          have hE := hE.cut (E' := [(28, (.bool ((!x4.more) || (!x3.1)))), (0, (.func (.yield yl) #[] #[])), (4, (.pointer (some ⟨br1, 0, none⟩))), (6, vb2), (10, vcp1), (11, (.int .i64 (cp1.length : Int))), (12, (.int .i64 lp1_0))]) ⟨rfl, rfl, rfl, rfl, rfl, rfl, rfl, trivial⟩
          refine y_nil ?_
          refine k_if hE rfl (fun hc14 => ?_) (fun hc14 => ?_)
          · replace hl1 := (it hc14).symm.trans hl1
            refine k_ret ?_
            refine ⟨_, (Option.some.inj hl1).symm, fun hb => ?_⟩
            subst hb
            obtain rfl := Option.some.inj hm
            exact ret0 hE rfl ⟨_, rfl, rfl, (((((((((((hp.get 0 rfl).get 6 rfl).get 6 rfl).get 6 rfl).drop).get 5 rfl).drop).get 4 rfl).drop).get 3 rfl).drop)⟩
          · replace hl1 := (ie hc14).symm.trans hl1
            refine k_skip ?_
            refine k_region ?_
            refine s_val (wk0 rfl) rfl rfl hE hp (v := (.pointer (some ⟨br1, 0, none⟩))) (ex_move rfl hE rfl) ?_
            intro a hE
            refine s_val (wk0 rfl) rfl rfl hE hp (v := vb2) (ex_move rfl hE rfl) ?_
            intro a hE
            obtain ⟨x15, ex15, hl1⟩ := bnd hl1
            refine s_call (wk0 rfl) rfl rfl hE rfl [(.pointer (some ⟨br1, 0, none⟩)), vb2] ⟨rfl, rfl, trivial⟩ ent56 (c_proof_engine_add hT br1 x3.2 vz1_value vz1_trail vz1_watches utz1_watches x2 vb2 hb2 ((((hp.get 4 rfl).get 4 rfl).get 4 rfl).get 4 rfl) x15 ex15) Ret.ret ?_
            intro v a w hR hE
            obtain ⟨vz12_value, vz12_trail, vz12_watches, utz12_watches, rfl, hp⟩ := Ret.of hR
            have hp : Hp Z ρ (Pt br1 (.cells #[vz12_value, vz12_trail, (.int .i64 x15.head), vz12_watches, (.bool x15.fails)] 87 (0, 0)) :: OwnSl 3 vz12_value x15.value :: OwnSl 3 vz12_trail x15.trail :: WTbG 105 107 3 vz12_watches utz12_watches (x15.watches : (List (List Nat) × List (List Int))) none none :: _ :: _ :: _ :: L) w := hp
            refine s_nil ?_
            refine k_region ?_
            obtain ⟨x16, ex16, hl1⟩ := bnd hl1
            refine s_val (wk0 rfl) rfl rfl hE hp (v := (.int .i64 x16)) (ex_add rfl hE rfl rfl (inK_some ex16)) ?_
            intro a hE
            refine s_val (wk0 rfl) rfl rfl hE hp (v := (.int .i64 x16)) (ex_move rfl hE rfl) ?_
            intro a hE
            refine s_nil ?_
            exact ⟨_, (Option.some.inj hl1).symm, _, _, _, utz12_watches, hE.cut ⟨rfl, rfl, rfl, rfl, rfl, trivial⟩, (((((((hp.get 4 rfl).get 6 rfl).get 6 rfl).get 6 rfl).get 6 rfl).get 6 rfl).get 6 rfl)⟩
      · replace hl1 := (ie hc2).symm.trans hl1
        refine k_exit ?_
        refine ⟨_, (Option.some.inj hl1).symm, fun hbb => ?_⟩
        exact ⟨_, hbb.symm, _, _, _, utw7, hE.cut trivial, hp⟩
  · rintro a w ⟨b1s, rfl, w5, w6, w7, utw7, hE, hp⟩
    dsimp only at hm
    obtain rfl := Option.some.inj hm
    exact ret0n hE rfl ⟨_, rfl, rfl, (((((((hp.get 3 rfl).drop).get 2 rfl).drop).get 1 rfl).drop).drop)⟩
set_option maxRecDepth 100000 in
set_option maxHeartbeats 4000000 in
theorem c_proof_steps {Z : World} {ρ : PH} {L : List Atom} {w : World} (hT : Tabs ρ) (p0 : Formula) (vp0_clauses : Value) (hp0_clauses : RoSl ρ vp0_clauses p0.clauses) (p1 : (List (List Int))) (vp1 : Value) (hp1 : RoSl ρ vp1 p1) (hp : Hp Z ρ (L) w) (r : Unit) (hm : m_proof_steps p0 p1 = some r) :
    Calls Tryz.prog 52 #[(.agg #[(.int .i64 p0.vars), vp0_clauses]), vp1] w (Ret fun v w' => ∃ (b1 : Nat) (b2 : Nat), v = (.func (.func 66) #[] #[.pointer (some ⟨b1, 0, none⟩), .pointer (some ⟨b2, 0, none⟩)]) ∧ Hp Z ρ (Pt b1 (.cells #[(.int .i64 p0.vars), vp0_clauses] 24 (0, 0)) :: Pt b2 (.cells #[vp1] 22 (0, 0)) :: L) w') := by
  refine enter (N := 6) Tryz.func52 rfl rfl [(0, (.agg #[(.int .i64 p0.vars), vp0_clauses])), (1, vp1)] rfl (argsIn_mem ⟨rfl, rfl, trivial⟩) fun a hE => ?_
  unfold m_proof_steps at hm
  refine k_seq ?_
  refine k_region ?_
  refine s_box (wk0 rfl) rfl rfl hE hp rfl (v := (.agg #[(.int .i64 p0.vars), vp0_clauses])) rfl ?_
  intro a w b1 hE hp
  have hp : Hp Z ρ (Pt b1 (.cells #[(.int .i64 p0.vars), vp0_clauses] 24 (0, 0)) :: L) w := hp
  refine s_box (wk0 rfl) rfl rfl hE hp rfl (v := vp1) rfl ?_
  intro a w b2 hE hp
  rw [RoSl.cells hp1] at hp
  have hp : Hp Z ρ (Pt b2 (.cells #[vp1] 22 (0, 0)) :: _ :: L) w := hp
  refine s_val (wk0 rfl) rfl rfl hE hp (v := .nilFunc) (ex_asn rfl hE rfl) ?_
  intro a hE
  refine s_nil ?_
  refine k_seq ?_
  refine k_region ?_
  refine s_val (wk0 rfl) rfl rfl hE hp (v := (.func (.func 66) #[] #[(.pointer (some ⟨b1, 0, none⟩)), (.pointer (some ⟨b2, 0, none⟩))])) (ex_fn rfl hE [(.pointer (some ⟨b1, 0, none⟩)), (.pointer (some ⟨b2, 0, none⟩))] (by exact ⟨rfl, rfl, trivial⟩)) ?_
  intro a hE
  refine s_val (wk0 rfl) rfl rfl hE hp (v := (.func (.func 66) #[] #[(.pointer (some ⟨b1, 0, none⟩)), (.pointer (some ⟨b2, 0, none⟩))])) (ex_asn rfl hE rfl) ?_
  intro a hE
  refine s_nil ?_
  refine k_ret ?_
  obtain rfl := Option.some.inj hm
  exact ret1 hE rfl rfl ⟨_, rfl, _, _, rfl, ((hp.get 0 rfl).get 1 rfl)⟩
set_option maxRecDepth 100000 in
set_option maxHeartbeats 4000000 in
theorem c_proof_accepted {Z : World} {ρ : PH} {L : List Atom} {w : World} (hT : Tabs ρ) (p0 : Formula) (vp0_clauses : Value) (hp0_clauses : RoSl ρ vp0_clauses p0.clauses) (p1 : (List (List Int))) (vp1 : Value) (hp1 : RoSl ρ vp1 p1) (hp : Hp Z ρ (L) w) (r : Bool) (hm : m_proof_accepted p0 p1 = some r) :
    Calls Tryz.prog 29 #[(.agg #[(.int .i64 p0.vars), vp0_clauses]), vp1] w (Ret fun v w' => v = (.bool r) ∧ Hp Z ρ (L) w') := by
  refine enterM (N := 28) Tryz.func29 rfl rfl [(0, (.agg #[(.int .i64 p0.vars), vp0_clauses])), (1, vp1)] rfl (argsIn_mem ⟨rfl, rfl, trivial⟩) fun a hE => ?_
  unfold m_proof_accepted at hm
  refine k_seq ?_
  refine k_region ?_
  refine s_box (wk0 rfl) rfl rfl hE hp rfl (v := (.agg #[(.int .i64 p0.vars), vp0_clauses])) rfl ?_
  intro a w b1 hE hp
  have hp : Hp Z ρ (Pt b1 (.cells #[(.int .i64 p0.vars), vp0_clauses] 24 (0, 0)) :: L) w := hp
  refine s_new (wk0 rfl) rfl rfl hE hp rfl [(.bool false)] (fun w => by simp [Instr.alloc, go_sem] <;> rfl) ?_
  intro a w b2 hE hp
  have hp : Hp Z ρ (Pt b2 (.cells #[(.bool false)] 4 (0, 0)) :: _ :: L) w := hp
  refine s_nil ?_
  refine k_seq ?_
  refine k_region ?_
  refine s_val (wk0 rfl) rfl rfl hE hp (v := vp1) (ex_move rfl hE rfl) ?_
  intro a hE
  refine s_val (wk0 rfl) rfl rfl hE hp (v := (.int .i64 (p1.length : Int))) (ex_len rfl hE rfl (RoSl.len hp1 slty22)) ?_
  intro a hE
  refine s_val (wk0 rfl) rfl rfl hE hp (v := (.int .i64 (p1.length : Int))) (ex_asn rfl hE rfl) ?_
  intro a hE
  refine s_nil ?_
  refine k_seq ?_
  refine k_seq ?_
  refine k_region ?_
  refine s_val (wk0 rfl) rfl rfl hE hp (v := (.int .i64 (p1.length : Int))) (ex_move rfl hE rfl) ?_
  intro a hE
  refine s_val (wk0 rfl) rfl rfl hE hp (v := (.bool (decide ((p1.length : Int) = 0)))) (ex_eql rfl hE rfl rfl) ?_
  intro a hE
  refine s_val (wk0 rfl) rfl rfl hE hp (v := (.bool (decide ((p1.length : Int) = 0)))) (ex_move rfl hE rfl) ?_
  intro a hE
  obtain ⟨m1, hg1, hm⟩ := bnd hm
  refine s_cut [_, _, _, _, _, _, _, _] (fun a w => Env 28 [(20, (.bool m1)), (1, vp1), (2, (.pointer (some ⟨b1, 0, none⟩))), (4, (.pointer (some ⟨b2, 0, none⟩)))] a ∧ Hp Z ρ (Pt b2 (.cells #[(.bool false)] 4 (0, 0)) :: Pt b1 (.cells #[(.int .i64 p0.vars), vp0_clauses] 24 (0, 0)) :: L) w) ?_ ?_
  · rcases Bool.eq_false_or_eq_true (decide ((p1.length : Int) = 0)) with hc1 | hc1
    ·
      replace hg1 := (it hc1).symm.trans hg1
      refine s_skip (wk2 hE rfl rfl rfl hc1) rfl rfl hE ?_
      intro a hE
      refine s_skip (wk2 hE rfl rfl rfl hc1) rfl rfl hE ?_
      intro a hE
      refine s_skip (wk2 hE rfl rfl rfl hc1) rfl rfl hE ?_
      intro a hE
      refine s_skip (wk2 hE rfl rfl rfl hc1) rfl rfl hE ?_
      intro a hE
      refine s_skip (wk2 hE rfl rfl rfl hc1) rfl rfl hE ?_
      intro a hE
      refine s_skip (wk2 hE rfl rfl rfl hc1) rfl rfl hE ?_
      intro a hE
      refine s_skip (wk2 hE rfl rfl rfl hc1) rfl rfl hE ?_
      intro a hE
      refine s_val (wk0 rfl) rfl rfl hE hp (v := (.bool true)) (ex_pick1 rfl hE rfl hc1 rfl) ?_
      intro a hE
      obtain rfl := Option.some.inj hg1
      exact s_nil ⟨hE.cut ⟨rfl, rfl, rfl, rfl, trivial⟩, hp⟩
    ·
      replace hg1 := (ie hc1).symm.trans hg1
      refine s_val (wk1 hE rfl rfl rfl hc1) rfl rfl hE hp (v := vp1) (ex_move rfl hE rfl) ?_
      intro a hE
      refine s_val (wk1 hE rfl rfl rfl hc1) rfl rfl hE hp (v := (.int .i64 (p1.length : Int))) (ex_move rfl hE rfl) ?_
      intro a hE
      obtain ⟨x1, ex1, hg1⟩ := bnd hg1
      refine s_val (wk1 hE rfl rfl rfl hc1) rfl rfl hE hp (v := (.int .i64 x1)) (ex_sub rfl hE rfl rfl (inK_some ex1)) ?_
      intro a hE
      obtain ⟨x2, ex2, hg1⟩ := bnd hg1
      obtain ⟨b3, b3o, b3c, b3r, b3k, b3f⟩ := RoSl.at hp1 slty22 ex2
      obtain ⟨vb3, rfl, hb3⟩ := b3k
      have b3f : AtP ρ b3 b3o [vb3] := b3f
      refine s_val (wk1 hE rfl rfl rfl hc1) rfl rfl hE hp (v := (.pointer (some ⟨b3, b3o, none⟩))) (ex_index rfl hE rfl rfl b3r) ?_
      intro a hE
      refine s_val (wk1 hE rfl rfl rfl hc1) rfl rfl hE hp (v := vb3) (ex_load rfl hE rfl (fun w hw => run_ld1 varty25 (b3f.c 0 rfl w hw))) ?_
      intro a hE
      refine s_val (wk1 hE rfl rfl rfl hc1) rfl rfl hE hp (v := (.int .i64 (x2.length : Int))) (ex_len rfl hE rfl (RoSl.len hb3 slty25)) ?_
      intro a hE
      refine s_val (wk1 hE rfl rfl rfl hc1) rfl rfl hE hp (v := (.bool (decide (0 < (x2.length : Int))))) (ex_gtr rfl hE rfl rfl) ?_
      intro a hE
      refine s_val (wk0 rfl) rfl rfl hE hp (v := (.bool (decide (0 < (x2.length : Int))))) (ex_pick0 rfl hE rfl hc1 rfl) ?_
      intro a hE
      obtain rfl := Option.some.inj hg1
      exact s_nil ⟨hE.cut ⟨rfl, rfl, rfl, rfl, trivial⟩, hp⟩
  · rintro a w ⟨hE, hp⟩
    refine s_nil ?_
    refine k_if hE rfl (fun hc2 => ?_) (fun hc2 => ?_)
    · replace hm := (it hc2).symm.trans hm
      refine k_seq ?_
      refine k_region ?_
      refine s_store (wk0 rfl) rfl hE hp rfl rfl rfl 0 rfl varty4.size_ rfl (allOne_mem ⟨rfl, trivial⟩) [(.bool false)] rfl ?_
      intro w hp
      have hp : Hp Z ρ (_ :: _ :: L) w := hp
      refine s_nil ?_
      refine k_ret ?_
      refine retM0 (.inl rfl) hE hp fun a w hE hp => ?_
      obtain rfl := Option.some.inj hm
      exact retc1 hE rfl rfl (run_lv1 varty4 (Hp.c 0 rfl 0 rfl _ hp)) ⟨_, rfl, rfl, (((hp.get 1 rfl).drop).drop)⟩
    · replace hm := (ie hc2).symm.trans hm
      refine k_skip ?_
      refine k_seq ?_
      refine k_seq ?_
      refine k_region ?_
      refine s_val (wk0 rfl) rfl rfl hE hp (v := (.agg #[(.int .i64 p0.vars), vp0_clauses])) (ex_load rfl hE rfl (fun w hw => run_ldN (cs := [(.int .i64 p0.vars), vp0_clauses]) varty24 (Hp.cN 1 rfl 0 _ (sub_all rfl) w hw))) ?_
      intro a hE
      refine s_val (wk0 rfl) rfl rfl hE hp (v := vp1) (ex_move rfl hE rfl) ?_
      intro a hE
      obtain ⟨x3, ex3, hm⟩ := bnd hm
      refine s_call (wk0 rfl) rfl rfl hE rfl [(.agg #[(.int .i64 p0.vars), vp0_clauses]), vp1] ⟨rfl, rfl, trivial⟩ ent52 (c_proof_steps hT p0 vp0_clauses hp0_clauses p1 vp1 hp1 hp x3 ex3) Ret.ret ?_
      intro v a w hR hE
      obtain ⟨b4, b5, rfl, hp⟩ := Ret.of hR
      have hp : Hp Z ρ (Pt b4 (.cells #[(.int .i64 p0.vars), vp0_clauses] 24 (0, 0)) :: Pt b5 (.cells #[vp1] 22 (0, 0)) :: _ :: _ :: L) w := hp
      refine s_nil ?_
      refine k_plain ?_
      obtain ⟨b6, hc3, hm⟩ := bnd hm
      have hp : Hp Z ρ ((fun s : Unit => fun k => Stars [Pt b2 (.cells #[(.bool false)] 4 (0, 0)), Pt b1 (.cells #[(.int .i64 p0.vars), vp0_clauses] 24 (0, 0))] k) () :: Pt b4 (.cells #[(.int .i64 p0.vars), vp0_clauses] 24 (0, 0)) :: Pt b5 (.cells #[vp1] 22 (0, 0)) :: L) w := Hp.stars (l := [_, _]) (((((hp.get 1 rfl).get 1 rfl).get 3 rfl).get 3 rfl))
      have hE := hE.cut (E' := [(4, (.pointer (some ⟨b2, 0, none⟩))), (23, (.func (.func 66) #[] #[(.pointer (some ⟨b4, 0, none⟩)), (.pointer (some ⟨b5, 0, none⟩))]))]) ⟨rfl, rfl, trivial⟩
      refine k_rangeF (fun s : Unit => fun k => Stars [Pt b2 (.cells #[(.bool false)] 4 (0, 0)), Pt b1 (.cells #[(.int .i64 p0.vars), vp0_clauses] 24 (0, 0))] k) (fun r : Bool => fun k => Stars [Pt b2 (.cells #[(.bool r)] 4 (0, 0))] k) (fun x : (Int × Bool) => [(.int .i64 x.1), (.bool x.2)]) (fun x s => m_proof_accepted_lp1  x ) (b := b6) (L' := L) (E2 := fun x => [(7, (.bool x.2))]) (lb := [(.pointer (some ⟨b4, 0, none⟩)), (.pointer (some ⟨b5, 0, none⟩))]) (s0 := ()) hE rfl ent66 hp (fun _ => rfl) (by decide) ?_ ?_ ?_ ?_ ?_
      · intro yl Y w hY hp
        refine Calls.mono (c_proof_steps_1_yield hT (fun x s => m_proof_accepted_lp1  x ) yl Y hY (.next ()) b4 p0 vp0_clauses hp0_clauses b5 p1 vp1 hp1 ((hp.get 2 rfl).get 2 rfl) _ hc3) fun e w' he => ?_
        obtain ⟨v, rfl, hh⟩ := he
        obtain ⟨-, hp⟩ := hh
        exact ⟨_, rfl, hp.drop.drop⟩
      · intro yl x a L w hE hp
        have hE : Env 28 [(25, (.bool x.2)), (24, (.int .i64 x.1)), (4, (.pointer (some ⟨b2, 0, none⟩))), (23, (.func (.func 66) #[] #[(.pointer (some ⟨b4, 0, none⟩)), (.pointer (some ⟨b5, 0, none⟩))]))] a := hE
        refine k_region ?_
        refine s_val (wk0 rfl) rfl rfl hE hp (v := (.bool x.2)) (ex_asn rfl hE rfl) ?_
        intro a hE
        refine s_nil ?_
        exact ⟨hE.cut ⟨rfl, rfl, rfl, rfl, rfl, trivial⟩, hp⟩
      · rintro yl x _ st a L w hl1 hE hp
        have hp := hp
        have hp := Hp.unstar hp
        have hE := hE.cut (E' := [(4, (.pointer (some ⟨b2, 0, none⟩))), (7, (.bool x.2)), (23, (.func (.func 66) #[] #[(.pointer (some ⟨b4, 0, none⟩)), (.pointer (some ⟨b5, 0, none⟩))]))]) ⟨rfl, rfl, rfl, trivial⟩
        have hp : Hp Z ρ (Pt b2 (.cells #[(.bool false)] 4 (0, 0)) :: Pt b1 (.cells #[(.int .i64 p0.vars), vp0_clauses] 24 (0, 0)) :: L) w := hp
        replace hl1 : m_proof_accepted_lp1  x  = some st := hl1
        unfold m_proof_accepted_lp1 at hl1
        refine k_plain ?_
        refine k_seq ?_
        refine k_region ?_
        refine s_val (wk0 rfl) rfl rfl hE hp (v := (.bool x.2)) (ex_move rfl hE rfl) ?_
        intro a hE
        refine s_val (wk0 rfl) rfl rfl hE hp (v := (.bool (!x.2))) (ex_not rfl hE rfl) ?_
        intro a hE
        refine s_nil ?_
        refine k_if hE rfl (fun hc4 => ?_) (fun hc4 => ?_)
        · replace hl1 := (it hc4).symm.trans hl1
          refine k_seq ?_
          refine k_region ?_
          refine s_store (wk0 rfl) rfl hE hp rfl rfl rfl 0 rfl varty4.size_ rfl (allOne_mem ⟨rfl, trivial⟩) [(.bool false)] rfl ?_
          intro w hp
          have hp : Hp Z ρ (_ :: _ :: L) w := hp
          refine s_nil ?_
          refine k_ret ?_
          exact ⟨_, (Option.some.inj hl1).symm, Hp.stars (l := [_]) (((hp.get 1 rfl).drop))⟩
        · replace hl1 := (ie hc4).symm.trans hl1
          refine k_skip ?_
          exact ⟨_, (Option.some.inj hl1).symm, Hp.stars (l := [_, _]) (hp)⟩
      · intro lp1n hb1 dd1 a w hE hp
        rw [hb1] at hm
        dsimp only at hm
        have hp := hp
        have hp := Hp.unstar hp
        have hE := hE.cut (E' := [(4, (.pointer (some ⟨b2, 0, none⟩)))]) ⟨rfl, trivial⟩
        have hp : Hp Z ρ (Pt b2 (.cells #[(.bool false)] 4 (0, 0)) :: Pt b1 (.cells #[(.int .i64 p0.vars), vp0_clauses] 24 (0, 0)) :: Pt dd1 (.deferred (some [])) :: L) w := hp
        refine k_seq ?_
        refine k_region ?_
        refine s_store (wk0 rfl) rfl hE hp rfl rfl rfl 0 rfl varty4.size_ rfl (allOne_mem ⟨rfl, trivial⟩) [(.bool true)] rfl ?_
        intro w hp
        have hp : Hp Z ρ (Pt b2 (.cells #[(.bool true)] 4 (0, 0)) :: _ :: _ :: L) w := hp
        refine s_nil ?_
        refine k_ret ?_
        refine retM (.inl rfl) hE (hp.get 2 rfl) fun a w hE hp => ?_
        obtain rfl := Option.some.inj hm
        exact retc1 hE rfl rfl (run_lv1 varty4 (Hp.c 0 rfl 0 rfl _ hp)) ⟨_, rfl, rfl, (((hp.get 1 rfl).drop).drop)⟩
      · intro r hb1 dd1 a w hE hp
        rw [hb1] at hm
        dsimp only at hm
        have hp := hp
        have hp := Hp.unstar hp
        have hE := hE.cut (E' := [(4, (.pointer (some ⟨b2, 0, none⟩)))]) ⟨rfl, trivial⟩
        have hp : Hp Z ρ (Pt b2 (.cells #[(.bool r)] 4 (0, 0)) :: Pt dd1 (.deferred (some [])) :: L) w := hp
        refine retM (.inl rfl) hE (hp.get 1 rfl) fun a w hE hp => ?_
        obtain rfl := Option.some.inj hm
        exact retc1 hE rfl rfl (run_lv1 varty4 (Hp.c 0 rfl 0 rfl _ hp)) ⟨_, rfl, rfl, (hp.drop)⟩
set_option maxRecDepth 100000 in
set_option maxHeartbeats 4000000 in
theorem c_proof_Follows {Z : World} {ρ : PH} {L : List Atom} {w : World} (hT : Tabs ρ) (p0 : Formula) (vp0_clauses : Value) (hp0_clauses : RoSl ρ vp0_clauses p0.clauses) (p1 : (List Int)) (vp1 : Value) (hp1 : RoSl ρ vp1 p1) (hp : Hp Z ρ (L) w) (r : (Bool × Int)) (hm : m_proof_Follows p0 p1 = some r) :
    Calls Tryz.prog 19 #[(.agg #[(.int .i64 p0.vars), vp0_clauses]), vp1] w (Ret fun v w' => v = .tuple #[(.bool r.1), (.int .i64 r.2)] ∧ Hp Z ρ (L) w') := by
  refine enter (N := 20) Tryz.func19 rfl rfl [(0, (.agg #[(.int .i64 p0.vars), vp0_clauses])), (1, vp1)] rfl (argsIn_mem ⟨rfl, rfl, trivial⟩) fun a hE => ?_
  unfold m_proof_Follows at hm
  refine k_seq ?_
  refine k_region ?_
  refine s_box (wk0 rfl) rfl rfl hE hp rfl (v := (.agg #[(.int .i64 p0.vars), vp0_clauses])) rfl ?_
  intro a w b1 hE hp
  have hp : Hp Z ρ (Pt b1 (.cells #[(.int .i64 p0.vars), vp0_clauses] 24 (0, 0)) :: L) w := hp
  refine s_val (wk0 rfl) rfl rfl hE hp (v := (.bool false)) (ex_asn rfl hE rfl) ?_
  intro a hE
  refine s_val (wk0 rfl) rfl rfl hE hp (v := (.int .i64 0)) (ex_asn rfl hE rfl) ?_
  intro a hE
  refine s_nil ?_
  refine k_seq ?_
  refine k_seq ?_
  refine k_region ?_
  refine s_val (wk0 rfl) rfl rfl hE hp (v := (.agg #[(.int .i64 p0.vars), vp0_clauses])) (ex_load rfl hE rfl (fun w hw => run_ldN (cs := [(.int .i64 p0.vars), vp0_clauses]) varty24 (Hp.cN 0 rfl 0 _ (sub_all rfl) w hw))) ?_
  intro a hE
  obtain ⟨x1, ex1, hm⟩ := bnd hm
  refine s_call (wk0 rfl) rfl rfl hE rfl [(.agg #[(.int .i64 p0.vars), vp0_clauses])] ⟨rfl, trivial⟩ ent18 (c_cnf_Valid hT p0 vp0_clauses hp0_clauses hp x1 ex1) Ret.ret ?_
  intro v a w hR hE
  obtain ⟨rfl, hp⟩ := Ret.of hR
  have hp : Hp Z ρ (_ :: L) w := hp
  refine s_val (wk0 rfl) rfl rfl hE hp (v := (.bool (!x1))) (ex_not rfl hE rfl) ?_
  intro a hE
  refine s_val (wk0 rfl) rfl rfl hE hp (v := (.bool (!x1))) (ex_move rfl hE rfl) ?_
  intro a hE
  obtain ⟨m1, hg1, hm⟩ := bnd hm
  refine s_cut [_, _, _, _, _, _] (fun a w => Env 20 [(15, (.bool m1)), (1, vp1), (2, (.pointer (some ⟨b1, 0, none⟩)))] a ∧ Hp Z ρ (Pt b1 (.cells #[(.int .i64 p0.vars), vp0_clauses] 24 (0, 0)) :: L) w) ?_ ?_
  · rcases Bool.eq_false_or_eq_true (!x1) with hc1 | hc1
    ·
      replace hg1 := (it hc1).symm.trans hg1
      refine s_skip (wk2 hE rfl rfl rfl hc1) rfl rfl hE ?_
      intro a hE
      refine s_skip (wk2 hE rfl rfl rfl hc1) rfl rfl hE ?_
      intro a hE
      refine s_skip (wk2 hE rfl rfl rfl hc1) rfl rfl hE ?_
      intro a hE
      refine s_skip (wk2 hE rfl rfl rfl hc1) rfl rfl hE ?_
      intro a hE
      refine s_skip (wk2 hE rfl rfl rfl hc1) rfl rfl hE ?_
      intro a hE
      refine s_val (wk0 rfl) rfl rfl hE hp (v := (.bool true)) (ex_pick1 rfl hE rfl hc1 rfl) ?_
      intro a hE
      obtain rfl := Option.some.inj hg1
      exact s_nil ⟨hE.cut ⟨rfl, rfl, rfl, trivial⟩, hp⟩
    ·
      replace hg1 := (ie hc1).symm.trans hg1
      refine s_val (wk1 hE rfl rfl rfl hc1) rfl rfl hE hp (v := vp1) (ex_move rfl hE rfl) ?_
      intro a hE
      refine s_val (wk1 hE rfl rfl rfl hc1) rfl rfl hE hp (v := (.pointer (some ⟨b1, 0, none⟩))) (ex_field rfl hE rfl (fldty24_0 _ _)) ?_
      intro a hE
      refine s_val (wk1 hE rfl rfl rfl hc1) rfl rfl hE hp (v := (.int .i64 p0.vars)) (ex_load rfl hE rfl (fun w hw => run_ld1 varty3 (Hp.c 0 rfl 0 rfl w hw))) ?_
      intro a hE
      obtain ⟨x2, ex2, hg1⟩ := bnd hg1
      refine s_call (wk1 hE rfl rfl rfl hc1) rfl rfl hE rfl [vp1, (.int .i64 p0.vars)] ⟨rfl, rfl, trivial⟩ ent40 (c_proof_normal hT p1 vp1 hp1 p0.vars hp x2 ex2) Ret.ret ?_
      intro v a w hR hE
      obtain ⟨rfl, hp⟩ := Ret.of hR
      have hp : Hp Z ρ (_ :: L) w := hp
      refine s_val (wk1 hE rfl rfl rfl hc1) rfl rfl hE hp (v := (.bool (!x2))) (ex_not rfl hE rfl) ?_
      intro a hE
      refine s_val (wk0 rfl) rfl rfl hE hp (v := (.bool (!x2))) (ex_pick0 rfl hE rfl hc1 rfl) ?_
      intro a hE
      obtain rfl := Option.some.inj hg1
      exact s_nil ⟨hE.cut ⟨rfl, rfl, rfl, trivial⟩, hp⟩
  · rintro a w ⟨hE, hp⟩
    refine s_nil ?_
    refine k_if hE rfl (fun hc2 => ?_) (fun hc2 => ?_)
    · replace hm := (it hc2).symm.trans hm
      refine k_seq ?_
      refine k_region ?_
      refine s_val (wk0 rfl) rfl rfl hE hp (v := (.bool false)) (ex_asn rfl hE rfl) ?_
      intro a hE
      refine s_val (wk0 rfl) rfl rfl hE hp (v := (.int .i64 1)) (ex_asn rfl hE rfl) ?_
      intro a hE
      refine s_nil ?_
      refine k_ret ?_
      obtain rfl := Option.some.inj hm
      exact ret2 hE rfl rfl rfl ⟨_, rfl, rfl, (hp.drop)⟩
    · replace hm := (ie hc2).symm.trans hm
      refine k_skip ?_
      refine k_seq ?_
      refine k_region ?_
      refine s_val (wk0 rfl) rfl rfl hE hp (v := (.agg #[(.int .i64 p0.vars), vp0_clauses])) (ex_load rfl hE rfl (fun w hw => run_ldN (cs := [(.int .i64 p0.vars), vp0_clauses]) varty24 (Hp.cN 0 rfl 0 _ (sub_all rfl) w hw))) ?_
      intro a hE
      obtain ⟨x3, ex3, hm⟩ := bnd hm
      refine s_call (wk0 rfl) rfl rfl hE rfl [(.agg #[(.int .i64 p0.vars), vp0_clauses])] ⟨rfl, trivial⟩ ent41 (c_proof_newEngine hT p0 vp0_clauses hp0_clauses hp x3 ex3) Ret.ret ?_
      intro v a w hR hE
      obtain ⟨br3, vr3_value, vr3_trail, vr3_watches, utr3_watches, rfl, hp⟩ := Ret.of hR
      have hp : Hp Z ρ (Pt br3 (.cells #[vr3_value, vr3_trail, (.int .i64 x3.head), vr3_watches, (.bool x3.fails)] 87 (0, 0)) :: OwnSl 3 vr3_value x3.value :: OwnSl 3 vr3_trail x3.trail :: WTbG 105 107 3 vr3_watches utr3_watches (x3.watches : (List (List Nat) × List (List Int))) none none :: _ :: L) w := hp
      refine s_val (wk0 rfl) rfl rfl hE hp (v := vp1) (ex_move rfl hE rfl) ?_
      intro a hE
      obtain ⟨x4, ex4, hm⟩ := bnd hm
      refine s_call (wk0 rfl) rfl rfl hE rfl [(.pointer (some ⟨br3, 0, none⟩)), vp1] ⟨rfl, rfl, trivial⟩ ent42 (c_proof_engine_follows hT br3 x3 vr3_value vr3_trail vr3_watches utr3_watches p1 vp1 hp1 ((((hp.get 3 rfl).get 3 rfl).get 3 rfl).get 3 rfl) x4 ex4) Ret.ret ?_
      intro v a w hR hE
      obtain ⟨vz1_value, vz1_trail, vz1_watches, utz1_watches, rfl, hp⟩ := Ret.of hR
      have hp : Hp Z ρ (Pt br3 (.cells #[vz1_value, vz1_trail, (.int .i64 x4.2.head), vz1_watches, (.bool x4.2.fails)] 87 (0, 0)) :: OwnSl 3 vz1_value x4.2.value :: OwnSl 3 vz1_trail x4.2.trail :: WTbG 105 107 3 vz1_watches utz1_watches (x4.2.watches : (List (List Nat) × List (List Int))) none none :: _ :: L) w := hp
      refine s_val (wk0 rfl) rfl rfl hE hp (v := (.bool x4.1)) (ex_asn rfl hE rfl) ?_
      intro a hE
      refine s_val (wk0 rfl) rfl rfl hE hp (v := (.int .i64 0)) (ex_asn rfl hE rfl) ?_
      intro a hE
      refine s_nil ?_
      refine k_ret ?_
      obtain rfl := Option.some.inj hm
      exact ret2 hE rfl rfl rfl ⟨_, rfl, rfl, (((((((((hp.get 4 rfl).drop).get 3 rfl).drop).get 2 rfl).drop).get 1 rfl).drop).drop)⟩
set_option maxRecDepth 100000 in
set_option maxHeartbeats 4000000 in
theorem c_proof_Check {Z : World} {ρ : PH} {L : List Atom} {w : World} (hT : Tabs ρ) (p0 : Formula) (vp0_clauses : Value) (hp0_clauses : RoSl ρ vp0_clauses p0.clauses) (p1 : (List (List Int))) (vp1 : Value) (hp1 : RoSl ρ vp1 p1) (hp : Hp Z ρ (L) w) (r : Bool) (hm : m_proof_Check p0 p1 = some r) :
    Calls Tryz.prog 8 #[(.agg #[(.int .i64 p0.vars), vp0_clauses]), vp1] w (Ret fun v w' => v = (.bool r) ∧ Hp Z ρ (L) w') := by
  refine enter (N := 18) Tryz.func8 rfl rfl [(0, (.agg #[(.int .i64 p0.vars), vp0_clauses])), (1, vp1)] rfl (argsIn_mem ⟨rfl, rfl, trivial⟩) fun a hE => ?_
  unfold m_proof_Check at hm
  refine k_seq ?_
  refine k_region ?_
  refine s_box (wk0 rfl) rfl rfl hE hp rfl (v := (.agg #[(.int .i64 p0.vars), vp0_clauses])) rfl ?_
  intro a w b1 hE hp
  have hp : Hp Z ρ (Pt b1 (.cells #[(.int .i64 p0.vars), vp0_clauses] 24 (0, 0)) :: L) w := hp
  refine s_val (wk0 rfl) rfl rfl hE hp (v := (.bool false)) (ex_asn rfl hE rfl) ?_
  intro a hE
  refine s_nil ?_
  refine k_seq ?_
  refine k_region ?_
  refine s_val (wk0 rfl) rfl rfl hE hp (v := (.agg #[(.int .i64 p0.vars), vp0_clauses])) (ex_load rfl hE rfl (fun w hw => run_ldN (cs := [(.int .i64 p0.vars), vp0_clauses]) varty24 (Hp.cN 0 rfl 0 _ (sub_all rfl) w hw))) ?_
  intro a hE
  obtain ⟨x1, ex1, hm⟩ := bnd hm
  refine s_call (wk0 rfl) rfl rfl hE rfl [(.agg #[(.int .i64 p0.vars), vp0_clauses])] ⟨rfl, trivial⟩ ent18 (c_cnf_Valid hT p0 vp0_clauses hp0_clauses hp x1 ex1) Ret.ret ?_
  intro v a w hR hE
  obtain ⟨rfl, hp⟩ := Ret.of hR
  have hp : Hp Z ρ (_ :: L) w := hp
  refine s_val (wk0 rfl) rfl rfl hE hp (v := (.bool x1)) (ex_move rfl hE rfl) ?_
  intro a hE
  obtain ⟨m1, hg1, hm⟩ := bnd hm
  refine s_cut [_, _, _, _, _] (fun a w => Env 18 [(12, (.bool m1)), (1, vp1), (2, (.pointer (some ⟨b1, 0, none⟩)))] a ∧ Hp Z ρ (Pt b1 (.cells #[(.int .i64 p0.vars), vp0_clauses] 24 (0, 0)) :: L) w) ?_ ?_
  · rcases Bool.eq_false_or_eq_true x1 with hc1 | hc1
    ·
      replace hg1 := (it hc1).symm.trans hg1
      refine s_val (wk1 hE rfl rfl rfl hc1) rfl rfl hE hp (v := vp1) (ex_move rfl hE rfl) ?_
      intro a hE
      refine s_val (wk1 hE rfl rfl rfl hc1) rfl rfl hE hp (v := (.pointer (some ⟨b1, 0, none⟩))) (ex_field rfl hE rfl (fldty24_0 _ _)) ?_
      intro a hE
      refine s_val (wk1 hE rfl rfl rfl hc1) rfl rfl hE hp (v := (.int .i64 p0.vars)) (ex_load rfl hE rfl (fun w hw => run_ld1 varty3 (Hp.c 0 rfl 0 rfl w hw))) ?_
      intro a hE
      obtain ⟨x2, ex2, hg1⟩ := bnd hg1
      refine s_call (wk1 hE rfl rfl rfl hc1) rfl rfl hE rfl [vp1, (.int .i64 p0.vars)] ⟨rfl, rfl, trivial⟩ ent28 (c_proof_valid hT p1 vp1 hp1 p0.vars hp x2 ex2) Ret.ret ?_
      intro v a w hR hE
      obtain ⟨rfl, hp⟩ := Ret.of hR
      have hp : Hp Z ρ (_ :: L) w := hp
      refine s_val (wk0 rfl) rfl rfl hE hp (v := (.bool x2)) (ex_pick1 rfl hE rfl hc1 rfl) ?_
      intro a hE
      obtain rfl := Option.some.inj hg1
      exact s_nil ⟨hE.cut ⟨rfl, rfl, rfl, trivial⟩, hp⟩
    ·
      replace hg1 := (ie hc1).symm.trans hg1
      refine s_skip (wk2 hE rfl rfl rfl hc1) rfl rfl hE ?_
      intro a hE
      refine s_skip (wk2 hE rfl rfl rfl hc1) rfl rfl hE ?_
      intro a hE
      refine s_skip (wk2 hE rfl rfl rfl hc1) rfl rfl hE ?_
      intro a hE
      refine s_skip (wk2 hE rfl rfl rfl hc1) rfl rfl hE ?_
      intro a hE
      refine s_val (wk0 rfl) rfl rfl hE hp (v := (.bool false)) (ex_pick0 rfl hE rfl hc1 rfl) ?_
      intro a hE
      obtain rfl := Option.some.inj hg1
      exact s_nil ⟨hE.cut ⟨rfl, rfl, rfl, trivial⟩, hp⟩
  · rintro a w ⟨hE, hp⟩
    refine s_val (wk0 rfl) rfl rfl hE hp (v := (.bool m1)) (ex_move rfl hE rfl) ?_
    intro a hE
    obtain ⟨m2, hg2, hm⟩ := bnd hm
    refine s_cut [_, _, _, _] (fun a w => Env 18 [(17, (.bool m2))] a ∧ Hp Z ρ (Pt b1 (.cells #[(.int .i64 p0.vars), vp0_clauses] 24 (0, 0)) :: L) w) ?_ ?_
    · rcases Bool.eq_false_or_eq_true m1 with hc2 | hc2
      ·
        replace hg2 := (it hc2).symm.trans hg2
        refine s_val (wk1 hE rfl rfl rfl hc2) rfl rfl hE hp (v := (.agg #[(.int .i64 p0.vars), vp0_clauses])) (ex_load rfl hE rfl (fun w hw => run_ldN (cs := [(.int .i64 p0.vars), vp0_clauses]) varty24 (Hp.cN 0 rfl 0 _ (sub_all rfl) w hw))) ?_
        intro a hE
        refine s_val (wk1 hE rfl rfl rfl hc2) rfl rfl hE hp (v := vp1) (ex_move rfl hE rfl) ?_
        intro a hE
        obtain ⟨x3, ex3, hg2⟩ := bnd hg2
        refine s_call (wk1 hE rfl rfl rfl hc2) rfl rfl hE rfl [(.agg #[(.int .i64 p0.vars), vp0_clauses]), vp1] ⟨rfl, rfl, trivial⟩ ent29 (c_proof_accepted hT p0 vp0_clauses hp0_clauses p1 vp1 hp1 hp x3 ex3) Ret.ret ?_
        intro v a w hR hE
        obtain ⟨rfl, hp⟩ := Ret.of hR
        have hp : Hp Z ρ (_ :: L) w := hp
        refine s_val (wk0 rfl) rfl rfl hE hp (v := (.bool x3)) (ex_pick1 rfl hE rfl hc2 rfl) ?_
        intro a hE
        obtain rfl := Option.some.inj hg2
        exact s_nil ⟨hE.cut ⟨rfl, trivial⟩, hp⟩
      ·
        replace hg2 := (ie hc2).symm.trans hg2
        refine s_skip (wk2 hE rfl rfl rfl hc2) rfl rfl hE ?_
        intro a hE
        refine s_skip (wk2 hE rfl rfl rfl hc2) rfl rfl hE ?_
        intro a hE
        refine s_skip (wk2 hE rfl rfl rfl hc2) rfl rfl hE ?_
        intro a hE
        refine s_val (wk0 rfl) rfl rfl hE hp (v := (.bool false)) (ex_pick0 rfl hE rfl hc2 rfl) ?_
        intro a hE
        obtain rfl := Option.some.inj hg2
        exact s_nil ⟨hE.cut ⟨rfl, trivial⟩, hp⟩
    · rintro a w ⟨hE, hp⟩
      refine s_val (wk0 rfl) rfl rfl hE hp (v := (.bool m2)) (ex_asn rfl hE rfl) ?_
      intro a hE
      refine s_nil ?_
      refine k_ret ?_
      obtain rfl := Option.some.inj hm
      exact ret1 hE rfl rfl ⟨_, rfl, rfl, (hp.drop)⟩
set_option maxRecDepth 100000 in
set_option maxHeartbeats 4000000 in
theorem c_proof_Trim {Z : World} {ρ : PH} {L : List Atom} {w : World} (hT : Tabs ρ) (p0 : Formula) (vp0_clauses : Value) (hp0_clauses : RoSl ρ vp0_clauses p0.clauses) (p1 : (List (List Int))) (vp1 : Value) (hp1 : RoSl ρ vp1 p1) (hp : Hp Z ρ (L) w) (r : ((List (List Int)) × Int)) (hm : m_proof_Trim p0 p1 = some r) :
    Calls Tryz.prog 9 #[(.agg #[(.int .i64 p0.vars), vp0_clauses]), vp1] w (Ret fun v w' => ∃ (ρ' : PH) (vr1 : Value), ρ.le ρ' ∧ v = .tuple #[vr1, (.int .i64 r.2)] ∧ RoSl ρ' vr1 r.1 ∧ Hp Z ρ' (L) w') := by
  refine enter (N := 42) Tryz.func9 rfl rfl [(0, (.agg #[(.int .i64 p0.vars), vp0_clauses])), (1, vp1)] rfl (argsIn_mem ⟨rfl, rfl, trivial⟩) fun a hE => ?_
  unfold m_proof_Trim at hm
  refine k_seq ?_
  refine k_region ?_
  refine s_box (wk0 rfl) rfl rfl hE hp rfl (v := (.agg #[(.int .i64 p0.vars), vp0_clauses])) rfl ?_
  intro a w b1 hE hp
  have hp : Hp Z ρ (Pt b1 (.cells #[(.int .i64 p0.vars), vp0_clauses] 24 (0, 0)) :: L) w := hp
  refine s_val (wk0 rfl) rfl rfl hE hp (v := (.slice none 0 0)) (ex_asn rfl hE rfl) ?_
  intro a hE
  refine s_val (wk0 rfl) rfl rfl hE hp (v := (.int .i64 0)) (ex_asn rfl hE rfl) ?_
  intro a hE
  refine s_nil ?_
  refine k_seq ?_
  refine k_seq ?_
  refine k_region ?_
  refine s_val (wk0 rfl) rfl rfl hE hp (v := (.agg #[(.int .i64 p0.vars), vp0_clauses])) (ex_load rfl hE rfl (fun w hw => run_ldN (cs := [(.int .i64 p0.vars), vp0_clauses]) varty24 (Hp.cN 0 rfl 0 _ (sub_all rfl) w hw))) ?_
  intro a hE
  refine s_val (wk0 rfl) rfl rfl hE hp (v := vp1) (ex_move rfl hE rfl) ?_
  intro a hE
  obtain ⟨x1, ex1, hm⟩ := bnd hm
  refine s_call (wk0 rfl) rfl rfl hE rfl [(.agg #[(.int .i64 p0.vars), vp0_clauses]), vp1] ⟨rfl, rfl, trivial⟩ ent8 (c_proof_Check hT p0 vp0_clauses hp0_clauses p1 vp1 hp1 hp x1 ex1) Ret.ret ?_
  intro v a w hR hE
  obtain ⟨rfl, hp⟩ := Ret.of hR
  have hp : Hp Z ρ (_ :: L) w := hp
  refine s_val (wk0 rfl) rfl rfl hE hp (v := (.bool (!x1))) (ex_not rfl hE rfl) ?_
  intro a hE
  refine s_nil ?_
  refine k_if hE rfl (fun hc1 => ?_) (fun hc1 => ?_)
  · replace hm := (it hc1).symm.trans hm
    refine k_seq ?_
    refine k_region ?_
    refine s_val (wk0 rfl) rfl rfl hE hp (v := (.slice none 0 0)) (ex_asn rfl hE rfl) ?_
    intro a hE
    refine s_val (wk0 rfl) rfl rfl hE hp (v := (.int .i64 1)) (ex_asn rfl hE rfl) ?_
    intro a hE
    refine s_nil ?_
    refine k_ret ?_
    obtain rfl := Option.some.inj hm
    exact ret2 hE rfl rfl rfl ⟨_, rfl, _, _, (PH.le.rf _), rfl, (RoSl.nil _), (hp.drop)⟩
  · replace hm := (ie hc1).symm.trans hm
    refine k_skip ?_
    refine k_seq ?_
    refine k_seq ?_
    refine k_region ?_
    refine s_val (wk0 rfl) rfl rfl hE hp (v := vp1) (ex_move rfl hE rfl) ?_
    intro a hE
    refine s_val (wk0 rfl) rfl rfl hE hp (v := (.int .i64 (p1.length : Int))) (ex_len rfl hE rfl (RoSl.len hp1 slty22)) ?_
    intro a hE
    obtain ⟨x2, ex2, hm⟩ := bnd hm
    refine s_val (wk0 rfl) rfl rfl hE hp (v := (.int .i64 x2)) (ex_sub rfl hE rfl rfl (inK_some ex2)) ?_
    intro a hE
    refine s_val (wk0 rfl) rfl rfl hE hp (v := (.int .i64 x2)) (ex_asn rfl hE rfl) ?_
    intro a hE
    refine s_nil ?_
    obtain ⟨b2, hc2, hm⟩ := bnd hm
    refine k_block (fun a w => ∃ (ρ1 : PH) (v1 : Value), ρ.le ρ1 ∧ RoSl ρ1 v1 b2 ∧ Env 42 [(1, v1)] a ∧ Hp Z ρ1 (Pt b1 (.cells #[(.int .i64 p0.vars), vp0_clauses] 24 (0, 0)) :: L) w) ?_ ?_
    · refine k_loop hc2 (fun s a w => ∃ (ρ1 : PH) (v1 : Value), ρ.le ρ1 ∧ RoSl ρ1 v1 s.1 ∧ Env 42 [(1, v1), (2, (.pointer (some ⟨b1, 0, none⟩))), (6, (.int .i64 s.2))] a ∧ Hp Z ρ1 (Pt b1 (.cells #[(.int .i64 p0.vars), vp0_clauses] 24 (0, 0)) :: L) w) ?_ ?_
      · exact ⟨ρ, _, (PH.le.rf _), hp1, hE.cut ⟨rfl, rfl, rfl, trivial⟩, hp⟩
      · rintro ⟨lp1_0, lp1_1⟩ st a w ⟨ρ1, v1, hlg1, h1, hE, hp⟩ hl1
        have hE : Env 42 [(1, v1), (2, (.pointer (some ⟨b1, 0, none⟩))), (6, (.int .i64 lp1_1))] a := hE
        have hp : Hp Z ρ1 (_ :: L) w := hp
        have hlg1 : ρ.le ρ1 := hlg1
        have h1 : RoSl ρ1 v1 lp1_0 := h1
        replace hl1 : m_proof_Trim_lp1 p0 lp1_0 lp1_1 = some st := hl1
        unfold m_proof_Trim_lp1 at hl1
        refine k_seq ?_
        refine k_seq ?_
        refine k_region ?_
        refine s_val (wk0 rfl) rfl rfl hE hp (v := (.int .i64 lp1_1)) (ex_move rfl hE rfl) ?_
        intro a hE
        refine s_val (wk0 rfl) rfl rfl hE hp (v := (.bool (decide (0 ≤ lp1_1)))) (ex_geq rfl hE rfl rfl) ?_
        intro a hE
        refine s_nil ?_
        refine k_if hE rfl (fun hc3 => ?_) (fun hc3 => ?_)
        · replace hl1 := (it hc3).symm.trans hl1
          refine k_skip ?_
          refine k_seq ?_
          refine k_plain ?_
          refine k_seq ?_
          refine k_region ?_
          refine s_val (wk0 rfl) rfl rfl hE hp (v := v1) (ex_move rfl hE rfl) ?_
          intro a hE
          refine s_val (wk0 rfl) rfl rfl hE hp (v := (.int .i64 lp1_1)) (ex_move rfl hE rfl) ?_
          intro a hE
          obtain ⟨x3, ex3, hl1⟩ := bnd hl1
          refine s_call (wk0 rfl) rfl rfl hE rfl [v1, (.int .i64 lp1_1)] ⟨rfl, rfl, trivial⟩ ent30 (c_proof_without (Tabs.mono hT hlg1) lp1_0 v1 h1 lp1_1 hp x3 ex3) Ret.ret ?_
          intro vr2 a w hR hE
          obtain ⟨ρ2, u, hle1, rfl, hr2, hp⟩ := Ret.of hR
          have hp : Hp Z ρ2 (_ :: L) w := hp
          refine s_val (wk0 rfl) rfl rfl hE hp (v := vr2) (ex_asn rfl hE rfl) ?_
          intro a hE
          refine s_nil ?_
          refine k_seq ?_
          refine k_region ?_
          refine s_val (wk0 rfl) rfl rfl hE hp (v := (.agg #[(.int .i64 p0.vars), vp0_clauses])) (ex_load rfl hE rfl (fun w hw => run_ldN (cs := [(.int .i64 p0.vars), vp0_clauses]) varty24 (Hp.cN 0 rfl 0 _ (sub_all rfl) w hw))) ?_
          intro a hE
          refine s_val (wk0 rfl) rfl rfl hE hp (v := vr2) (ex_move rfl hE rfl) ?_
          intro a hE
          obtain ⟨x4, ex4, hl1⟩ := bnd hl1
          refine s_call (wk0 rfl) rfl rfl hE rfl [(.agg #[(.int .i64 p0.vars), vp0_clauses]), vr2] ⟨rfl, rfl, trivial⟩ ent29 (c_proof_accepted (Tabs.mono (Tabs.mono hT hlg1) hle1) p0 vp0_clauses (RoSl.mono (RoSl.mono hp0_clauses hlg1) hle1) x3 vr2 hr2 hp x4 ex4) Ret.ret ?_
          intro v a w hR hE
          obtain ⟨rfl, hp⟩ := Ret.of hR
          have hp : Hp Z ρ2 (_ :: L) w := hp
          refine s_nil ?_
          refine k_if hE rfl (fun hc4 => ?_) (fun hc4 => ?_)
          · replace hl1 := (it hc4).symm.trans hl1
            refine k_region ?_
            refine s_val (wk0 rfl) rfl rfl hE hp (v := vr2) (ex_move rfl hE rfl) ?_
            intro a hE
            refine s_val (wk0 rfl) rfl rfl hE hp (v := vr2) (ex_asn rfl hE rfl) ?_
            intro a hE
            refine s_nil ?_
            refine k_region ?_
            refine s_val (wk0 rfl) rfl rfl hE hp (v := (.int .i64 lp1_1)) (ex_move rfl hE rfl) ?_
            intro a hE
            obtain ⟨x5, ex5, hl1⟩ := bnd hl1
            refine s_val (wk0 rfl) rfl rfl hE hp (v := (.int .i64 x5)) (ex_sub rfl hE rfl rfl (inK_some ex5)) ?_
            intro a hE
            refine s_val (wk0 rfl) rfl rfl hE hp (v := (.int .i64 x5)) (ex_asn rfl hE rfl) ?_
            intro a hE
            refine s_nil ?_
            exact ⟨_, (Option.some.inj hl1).symm, ρ2, _, (PH.le.tr hlg1 hle1), hr2, hE.cut ⟨rfl, rfl, rfl, trivial⟩, hp⟩
          · replace hl1 := (ie hc4).symm.trans hl1
            refine k_skip ?_
            refine k_region ?_
            refine s_val (wk0 rfl) rfl rfl hE hp (v := (.int .i64 lp1_1)) (ex_move rfl hE rfl) ?_
            intro a hE
            obtain ⟨x6, ex6, hl1⟩ := bnd hl1
            refine s_val (wk0 rfl) rfl rfl hE hp (v := (.int .i64 x6)) (ex_sub rfl hE rfl rfl (inK_some ex6)) ?_
            intro a hE
            refine s_val (wk0 rfl) rfl rfl hE hp (v := (.int .i64 x6)) (ex_asn rfl hE rfl) ?_
            intro a hE
            refine s_nil ?_
            exact ⟨_, (Option.some.inj hl1).symm, ρ2, _, (PH.le.tr hlg1 hle1), (RoSl.mono h1 hle1), hE.cut ⟨rfl, rfl, rfl, trivial⟩, hp⟩
        · replace hl1 := (ie hc3).symm.trans hl1
          refine k_exit ?_
          refine ⟨_, (Option.some.inj hl1).symm, fun hbb => ?_⟩
          subst hbb
          exact ⟨ρ1, _, hlg1, h1, hE.cut ⟨rfl, trivial⟩, hp⟩
    · rintro a w ⟨ρ1, v1, hlg1, h1, hE, hp⟩
      refine k_seq ?_
      refine k_region ?_
      refine s_val (wk0 rfl) rfl rfl hE hp (v := (.slice none 0 0)) (ex_asn rfl hE rfl) ?_
      intro a hE
      refine s_nil ?_
      refine k_seq ?_
      refine k_seq ?_
      refine k_region ?_
      refine s_val (wk0 rfl) rfl rfl hE hp (v := v1) (ex_move rfl hE rfl) ?_
      intro a hE
      refine s_val (wk0 rfl) rfl rfl hE hp (v := (.int .i64 (b2.length : Int))) (ex_len rfl hE rfl (RoSl.len h1 slty22)) ?_
      intro a hE
      refine s_val (wk0 rfl) rfl rfl hE hp (v := (.int .i64 0)) (ex_move rfl hE rfl) ?_
      intro a hE
      refine s_nil ?_
      have hE := hE.cut (E' := [(8, (.slice none 0 0)), (29, v1), (30, (.int .i64 (b2.length : Int))), (31, (.int .i64 0))]) ⟨rfl, rfl, rfl, rfl, trivial⟩
      have hp := hp.emp (TblA.none (α := Int) 25 3 none)
      have hp : Hp Z ρ1 (TblA 25 3 (.slice none 0 0) ([]) ([] : (List (List Int))) :: _ :: L) w := hp
      obtain ⟨b3, hc5, hm⟩ := bnd hm
      refine k_block (fun a w => ∃ (w5 : Value) (us5 : List Sl), Env 42 [(8, w5)] a ∧ Hp Z ρ1 (TblA 25 3 w5 us5 (b3 : (List (List Int))) :: Pt b1 (.cells #[(.int .i64 p0.vars), vp0_clauses] 24 (0, 0)) :: L) w) ?_ ?_
      · refine k_loop hc5 (fun s a w => ∃ (w5 : Value) (us5 : List Sl), Env 42 [(8, w5), (29, v1), (30, (.int .i64 (b2.length : Int))), (31, (.int .i64 s.1))] a ∧ Hp Z ρ1 (TblA 25 3 w5 us5 (s.2 : (List (List Int))) :: Pt b1 (.cells #[(.int .i64 p0.vars), vp0_clauses] 24 (0, 0)) :: L) w) ?_ ?_
        · exact ⟨_, _, hE.cut ⟨rfl, rfl, rfl, rfl, trivial⟩, hp⟩
        · rintro ⟨lp2_0, lp2_1⟩ st a w ⟨w5, us5, hE, hp⟩ hl2
          have hE : Env 42 [(8, w5), (29, v1), (30, (.int .i64 (b2.length : Int))), (31, (.int .i64 lp2_0))] a := hE
          have hp : Hp Z ρ1 (TblA 25 3 w5 us5 (lp2_1 : (List (List Int))) :: _ :: L) w := hp
          replace hl2 : m_proof_Trim_lp2 b2 lp2_0 lp2_1 = some st := hl2
          unfold m_proof_Trim_lp2 at hl2
          refine k_seq ?_
          refine k_region ?_
          refine s_val (wk0 rfl) rfl rfl hE hp (v := (.bool (decide (lp2_0 < (b2.length : Int))))) (ex_lss rfl hE rfl rfl) ?_
          intro a hE
          refine s_nil ?_
          refine k_seq ?_
          refine k_if hE rfl (fun hc6 => ?_) (fun hc6 => ?_)
          · replace hl2 := (it hc6).symm.trans hl2
            refine k_skip ?_
            refine k_seq ?_
            refine k_plain ?_
            refine k_seq ?_
            refine k_region ?_
            obtain ⟨x7, ex7, hl2⟩ := bnd hl2
            obtain ⟨b4, b4o, b4c, b4r, b4k, b4f⟩ := RoSl.at h1 slty22 ex7
            obtain ⟨vb4, rfl, hb4⟩ := b4k
            have b4f : AtP ρ1 b4 b4o [vb4] := b4f
            refine s_val (wk0 rfl) rfl rfl hE hp (v := (.pointer (some ⟨b4, b4o, none⟩))) (ex_index rfl hE rfl rfl b4r) ?_
            intro a hE
            refine s_val (wk0 rfl) rfl rfl hE hp (v := vb4) (ex_load rfl hE rfl (fun w hw => run_ld1 varty25 (b4f.c 0 rfl w hw))) ?_
            intro a hE
            refine s_val (wk0 rfl) rfl rfl hE hp (v := vb4) (ex_asn rfl hE rfl) ?_
            intro a hE
            refine s_nil ?_
            refine k_region ?_
            refine s_val (wk0 rfl) rfl rfl hE hp (v := w5) (ex_move rfl hE rfl) ?_
            intro a hE
            refine s_val (wk0 rfl) rfl rfl hE hp (v := vb4) (ex_move rfl hE rfl) ?_
            intro a hE
            obtain ⟨x8, ex8, hl2⟩ := bnd hl2
            refine s_call (wk0 rfl) rfl rfl hE rfl [vb4] ⟨rfl, trivial⟩ ent25 (c_cloneI x7 vb4 hb4 hp x8 ex8) Ret.ret ?_
            intro v1 a w hR hE
            obtain ⟨u, hu, hp⟩ := Ret.of hR
            rw [← hu] at hp
            have hp : Hp Z ρ1 (OwnSl 3 v1 x8 :: _ :: _ :: L) w := hp
            refine s_lit (wk0 rfl) rfl rfl hE hp rfl [(0, v1)] ⟨⟨rfl, rfl⟩, trivial⟩ [v1] 25 (fun w => by have hc0 := OwnSl.cells hp 0 rfl; simp only [Value.cells] at hc0; simp [Instr.buildSlice, Instr.fill, Value.cells, hc0, go_sem]) ?_
            intro a w b5 hE hp
            have hp : Hp Z ρ1 (Pt b5 (.cells #[v1] 25 (0, 0)) :: _ :: _ :: _ :: L) w := hp
            obtain ⟨x9, ex9, hl2⟩ := bnd hl2
            obtain ⟨sl1, sl1e⟩ := OwnSl.toSl hp 1 rfl
            refine s_tapp (wk0 rfl) rfl rfl hE sl1e (hp.get 1 rfl) rfl slty22 rfl rfl 1 rfl rfl (Hp.c 0 rfl 0 rfl w hp) ex9 ?_
            intro v2 us1 a w hE hp
            have hp : Hp Z ρ1 (_ :: TblA 25 3 v2 us1 (x9 : (List (List Int))) :: _ :: L) w := hp
            refine s_val (wk0 rfl) rfl rfl hE hp (v := v2) (ex_asn rfl hE rfl) ?_
            intro a hE
            refine s_nil ?_
            refine k_region ?_
            obtain ⟨x10, ex10, hl2⟩ := bnd hl2
            refine s_val (wk0 rfl) rfl rfl hE hp (v := (.int .i64 x10)) (ex_add rfl hE rfl rfl (inK_some ex10)) ?_
            intro a hE
            refine s_val (wk0 rfl) rfl rfl hE hp (v := (.int .i64 x10)) (ex_move rfl hE rfl) ?_
            intro a hE
            refine s_nil ?_
            exact ⟨_, (Option.some.inj hl2).symm, _, _, hE.cut ⟨rfl, rfl, rfl, rfl, trivial⟩, (hp.drop)⟩
          · replace hl2 := (ie hc6).symm.trans hl2
            refine k_exit ?_
            refine ⟨_, (Option.some.inj hl2).symm, fun hbb => ?_⟩
            subst hbb
            exact ⟨_, _, hE.cut ⟨rfl, trivial⟩, hp⟩
      · rintro a w ⟨w5, us5, hE, hp⟩
        refine k_seq ?_
        refine k_region ?_
        refine s_val (wk0 rfl) rfl rfl hE hp (v := w5) (ex_move rfl hE rfl) ?_
        intro a hE
        refine s_val (wk0 rfl) rfl rfl hE hp (v := w5) (ex_asn rfl hE rfl) ?_
        intro a hE
        refine s_val (wk0 rfl) rfl rfl hE hp (v := (.int .i64 0)) (ex_asn rfl hE rfl) ?_
        intro a hE
        refine s_nil ?_
        refine k_ret ?_
        obtain ⟨k1, k1a, k1d, hp⟩ := (hp.get 0 rfl).lend
        have f1 : RoSl (ρ1.un k1) w5 (b3 : (List (List Int))) := TblA.ro k1d k1a
        have hp : Hp Z (ρ1.un k1) (_ :: L) w := hp
        obtain rfl := Option.some.inj hm
        exact ret2 hE rfl rfl rfl ⟨_, rfl, _, _, (PH.le.tr hlg1 (PH.le_un _ k1)), rfl, f1, (hp.drop)⟩
set_option maxRecDepth 100000 in
set_option maxHeartbeats 4000000 in
theorem c_proof_Core {Z : World} {ρ : PH} {L : List Atom} {w : World} (hT : Tabs ρ) (p0 : Formula) (vp0_clauses : Value) (hp0_clauses : RoSl ρ vp0_clauses p0.clauses) (p1 : (List (List Int))) (vp1 : Value) (hp1 : RoSl ρ vp1 p1) (hp : Hp Z ρ (L) w) (r : ((List Int) × Int)) (hm : m_proof_Core p0 p1 = some r) :
    Calls Tryz.prog 10 #[(.agg #[(.int .i64 p0.vars), vp0_clauses]), vp1] w (Ret fun v w' => ∃ (vr1 : Value), v = .tuple #[vr1, (.int .i64 r.2)] ∧ Hp Z ρ (OwnSl 3 vr1 r.1 :: L) w') := by
  refine enter (N := 39) Tryz.func10 rfl rfl [(0, (.agg #[(.int .i64 p0.vars), vp0_clauses])), (1, vp1)] rfl (argsIn_mem ⟨rfl, rfl, trivial⟩) fun a hE => ?_
  unfold m_proof_Core at hm
  refine k_seq ?_
  refine k_region ?_
  refine s_box (wk0 rfl) rfl rfl hE hp rfl (v := (.agg #[(.int .i64 p0.vars), vp0_clauses])) rfl ?_
  intro a w b1 hE hp
  have hp : Hp Z ρ (Pt b1 (.cells #[(.int .i64 p0.vars), vp0_clauses] 24 (0, 0)) :: L) w := hp
  refine s_val (wk0 rfl) rfl rfl hE hp (v := (.slice none 0 0)) (ex_asn rfl hE rfl) ?_
  intro a hE
  refine s_val (wk0 rfl) rfl rfl hE hp (v := (.int .i64 0)) (ex_asn rfl hE rfl) ?_
  intro a hE
  refine s_nil ?_
  refine k_seq ?_
  refine k_seq ?_
  refine k_region ?_
  refine s_val (wk0 rfl) rfl rfl hE hp (v := (.agg #[(.int .i64 p0.vars), vp0_clauses])) (ex_load rfl hE rfl (fun w hw => run_ldN (cs := [(.int .i64 p0.vars), vp0_clauses]) varty24 (Hp.cN 0 rfl 0 _ (sub_all rfl) w hw))) ?_
  intro a hE
  refine s_val (wk0 rfl) rfl rfl hE hp (v := vp1) (ex_move rfl hE rfl) ?_
  intro a hE
  obtain ⟨x1, ex1, hm⟩ := bnd hm
  refine s_call (wk0 rfl) rfl rfl hE rfl [(.agg #[(.int .i64 p0.vars), vp0_clauses]), vp1] ⟨rfl, rfl, trivial⟩ ent8 (c_proof_Check hT p0 vp0_clauses hp0_clauses p1 vp1 hp1 hp x1 ex1) Ret.ret ?_
  intro v a w hR hE
  obtain ⟨rfl, hp⟩ := Ret.of hR
  have hp : Hp Z ρ (_ :: L) w := hp
  refine s_val (wk0 rfl) rfl rfl hE hp (v := (.bool (!x1))) (ex_not rfl hE rfl) ?_
  intro a hE
  refine s_nil ?_
  refine k_if hE rfl (fun hc1 => ?_) (fun hc1 => ?_)
  · replace hm := (it hc1).symm.trans hm
    refine k_seq ?_
    refine k_region ?_
    refine s_val (wk0 rfl) rfl rfl hE hp (v := (.slice none 0 0)) (ex_asn rfl hE rfl) ?_
    intro a hE
    refine s_val (wk0 rfl) rfl rfl hE hp (v := (.int .i64 1)) (ex_asn rfl hE rfl) ?_
    intro a hE
    refine s_nil ?_
    refine k_ret ?_
    have hp := hp.emp (OwnSl.nil (α := Int) 3)
    have hp : Hp Z ρ (OwnSl 3 (.slice none 0 0) ([] : List Int) :: _ :: L) w := hp
    obtain rfl := Option.some.inj hm
    exact ret2 hE rfl rfl rfl ⟨_, rfl, _, rfl, ((hp.get 1 rfl).drop)⟩
  · replace hm := (ie hc1).symm.trans hm
    refine k_skip ?_
    refine k_seq ?_
    refine k_region ?_
    refine s_val (wk0 rfl) rfl rfl hE hp (v := (.slice none 0 0)) (ex_asn rfl hE rfl) ?_
    intro a hE
    refine s_nil ?_
    refine k_seq ?_
    refine k_seq ?_
    refine k_region ?_
    refine s_val (wk0 rfl) rfl rfl hE hp (v := (.pointer (some ⟨b1, 1, none⟩))) (ex_field rfl hE rfl (fldty24_1 _ _)) ?_
    intro a hE
    refine s_val (wk0 rfl) rfl rfl hE hp (v := vp0_clauses) (ex_load rfl hE rfl (fun w hw => run_ld1 varty22 (Hp.c 0 rfl 1 rfl w hw))) ?_
    intro a hE
    refine s_val (wk0 rfl) rfl rfl hE hp (v := (.int .i64 (p0.clauses.length : Int))) (ex_len rfl hE rfl (RoSl.len hp0_clauses slty22)) ?_
    intro a hE
    obtain ⟨x2, ex2, hm⟩ := bnd hm
    refine s_val (wk0 rfl) rfl rfl hE hp (v := (.int .i64 x2)) (ex_sub rfl hE rfl rfl (inK_some ex2)) ?_
    intro a hE
    refine s_val (wk0 rfl) rfl rfl hE hp (v := (.int .i64 x2)) (ex_asn rfl hE rfl) ?_
    intro a hE
    refine s_nil ?_
    have hp := hp.emp (OwnSl.nil (α := Int) 3)
    have hp : Hp Z ρ (OwnSl 3 (.slice none 0 0) ([] : List Int) :: _ :: L) w := hp
    obtain ⟨b2, hc2, hm⟩ := bnd hm
    refine k_block (fun a w => ∃ (ρ1 : PH) (w7 : Value) (vc2_1 : Value), ρ.le ρ1 ∧ RoSl ρ1 vc2_1 b2.2 ∧ Env 39 [(6, w7)] a ∧ Hp Z ρ1 (OwnSl 3 w7 b2.1 :: Pt b1 (.cells #[(.int .i64 p0.vars), vc2_1] 24 (0, 0)) :: L) w) ?_ ?_
    · refine k_loop hc2 (fun s a w => ∃ (ρ1 : PH) (w7 : Value) (vc2_1 : Value), ρ.le ρ1 ∧ RoSl ρ1 vc2_1 s.2.2 ∧ Env 39 [(1, vp1), (2, (.pointer (some ⟨b1, 0, none⟩))), (6, w7), (7, (.int .i64 s.1))] a ∧ Hp Z ρ1 (OwnSl 3 w7 s.2.1 :: Pt b1 (.cells #[(.int .i64 p0.vars), vc2_1] 24 (0, 0)) :: L) w) ?_ ?_
      · exact ⟨ρ, _, _, (PH.le.rf _), hp0_clauses, hE.cut ⟨rfl, rfl, rfl, rfl, trivial⟩, hp⟩
      · rintro ⟨lp1_0, lp1_1, lp1_2⟩ st a w ⟨ρ1, w7, vc2_1, hlg1, hc2_1, hE, hp⟩ hl1
        have hE : Env 39 [(1, vp1), (2, (.pointer (some ⟨b1, 0, none⟩))), (6, w7), (7, (.int .i64 lp1_0))] a := hE
        have hp : Hp Z ρ1 (OwnSl 3 w7 lp1_1 :: Pt b1 (.cells #[(.int .i64 p0.vars), vc2_1] 24 (0, 0)) :: L) w := hp
        have hlg1 : ρ.le ρ1 := hlg1
        have hc2_1 : RoSl ρ1 vc2_1 lp1_2 := hc2_1
        replace hl1 : m_proof_Core_lp1 p0 p1 lp1_0 lp1_1 lp1_2 = some st := hl1
        unfold m_proof_Core_lp1 at hl1
        refine k_seq ?_
        refine k_seq ?_
        refine k_region ?_
        refine s_val (wk0 rfl) rfl rfl hE hp (v := (.int .i64 lp1_0)) (ex_move rfl hE rfl) ?_
        intro a hE
        refine s_val (wk0 rfl) rfl rfl hE hp (v := (.bool (decide (0 ≤ lp1_0)))) (ex_geq rfl hE rfl rfl) ?_
        intro a hE
        refine s_nil ?_
        refine k_if hE rfl (fun hc3 => ?_) (fun hc3 => ?_)
        · replace hl1 := (it hc3).symm.trans hl1
          refine k_skip ?_
          refine k_seq ?_
          refine k_plain ?_
          refine k_seq ?_
          obtain ⟨x3, ex3, hl1⟩ := bnd hl1
          have hp := hp.drew
          refine k_heldV ([([], At0 Z ρ1), ([], At1 Z ρ1 (Pt b1 (.cells #[(.int .i64 p0.vars), vc2_1] 24 (0, 0))))] : Facts) (fun a w => ∃ ρy1 : PH, ∃ y10 : Nat, ∃ yv1 : Value, ρ1.le ρy1 ∧ RoSl ρy1 yv1 x3 ∧ Env 39 [(1, vp1), (2, (.pointer (some ⟨b1, 0, none⟩))), (6, w7), (7, (.int .i64 lp1_0)), (8, (.pointer (some ⟨y10, 0, none⟩)))] a ∧ Hp Z ρy1 (Pt y10 (.cells #[(.int .i64 p0.vars), yv1] 24 (0, 0)) :: OwnSl 3 w7 lp1_1 :: Pt b1 (.cells #[(.int .i64 p0.vars), vc2_1] 24 (0, 0)) :: L) w) (by kernel_rfl) ⟨fun _ => ⟨_, hp⟩, fun _ => ⟨_, (hp.get 1 rfl)⟩, trivial⟩ (fun hS => ?_) ?_
          ·
            generalize w.drew = w at hS hp ⊢
            refine v_take0 0 (wk0 rfl) rfl rfl rfl hE (by kernel_rfl) (by kernel_rfl) (by kernel_rfl) rfl (by kernel_rfl) hS (v := (.pointer (some ⟨b1, 0, none⟩))) (fun _ => ex_field rfl hE rfl (fldty24_0 _ _)) ?_
            intro a hE hS
            refine v_take1 1 1 (wk0 rfl) rfl rfl rfl hE (by kernel_rfl) (by kernel_rfl) (by kernel_rfl) rfl (by kernel_rfl) hS (v := (.int .i64 p0.vars)) (fun _ => ex_load rfl hE rfl (fun w hw => run_ld1 varty3 (Hp.c 0 rfl 0 rfl w hw))) ?_
            intro a hE hS
            refine v_take0 2 (wk0 rfl) rfl rfl rfl hE (by kernel_rfl) (by kernel_rfl) (by kernel_rfl) rfl (by kernel_rfl) hS (v := (.pointer (some ⟨b1, 1, none⟩))) (fun _ => ex_field rfl hE rfl (fldty24_1 _ _)) ?_
            intro a hE hS
            refine v_take1 3 1 (wk0 rfl) rfl rfl rfl hE (by kernel_rfl) (by kernel_rfl) (by kernel_rfl) rfl (by kernel_rfl) hS (v := vc2_1) (fun _ => ex_load rfl hE rfl (fun w hw => run_ld1 varty22 (Hp.c 0 rfl 1 rfl w hw))) ?_
            intro a hE hS
            refine v_take0 4 (wk0 rfl) rfl rfl rfl hE (by kernel_rfl) (by kernel_rfl) (by kernel_rfl) rfl (by kernel_rfl) hS (v := (.int .i64 lp1_0)) (fun _ => ex_move rfl hE rfl) ?_
            intro a hE hS
            refine v_all [5, 7] (by kernel_rfl) rfl ?_
            refine List.forall_mem_cons.2 ⟨?_, List.forall_mem_cons.2 ⟨?_, fun _ h => absurd h (by simp)⟩⟩
            ·
              refine h_op rfl ?_
              refine s_call (wk0 rfl) rfl rfl hE rfl [vc2_1, (.int .i64 lp1_0)] ⟨rfl, rfl, trivial⟩ ent30 (c_proof_without (Tabs.mono hT hlg1) lp1_2 vc2_1 hc2_1 lp1_0 hp x3 ex3) Ret.ret ?_
              intro vr3 a w hR hE
              obtain ⟨ρ3, u, hle2, rfl, hr3, hp⟩ := Ret.of hR
              have hp : Hp Z ρ3 (_ :: _ :: L) w := hp
              refine s_nil (and_with ⟨fun _ => ⟨_, (hp.less hle2)⟩, fun _ => ⟨_, ((hp.get 1 rfl).less hle2)⟩, trivial⟩ fun hS => ?_)
              refine v_take0 6 (wk0 rfl) rfl rfl rfl hE (by kernel_rfl) (by kernel_rfl) (by kernel_rfl) rfl (by kernel_rfl) hS (v := (.agg #[(.int .i64 p0.vars), vr3])) (fun _ => ex_bld rfl hE [(0, (.int .i64 p0.vars)), (1, vr3)] (by exact ⟨⟨rfl, rfl⟩, ⟨rfl, rfl⟩, trivial⟩) (fun w => by have hc0 := RoSl.cells hr3; simp only [Value.cells] at hc0; simp [Instr.build, Instr.fill, Value.cells, hc0, go_sem])) ?_
              intro a hE hS
              refine v_all [7] (by kernel_rfl) rfl ?_
              refine List.forall_mem_cons.2 ⟨?_, fun _ h => absurd h (by simp)⟩
              ·
                refine h_op rfl ?_
                refine s_new (wk0 rfl) rfl rfl hE hp rfl [(.int .i64 0), (.slice none 0 0)] (fun w => by simp [Instr.alloc, go_sem] <;> rfl) ?_
                intro a w b4 hE hp
                have hp : Hp Z ρ3 (Pt b4 (.cells #[(.int .i64 0), (.slice none 0 0)] 24 (0, 0)) :: _ :: _ :: L) w := hp
                refine s_nil (and_with ⟨fun _ => ⟨_, (hp.less hle2)⟩, fun _ => ⟨_, ((hp.get 2 rfl).less hle2)⟩, trivial⟩ fun hS => ?_)
                refine v_all [8] (by kernel_rfl) rfl ?_
                refine List.forall_mem_cons.2 ⟨?_, fun _ h => absurd h (by simp)⟩
                ·
                  refine h_op rfl ?_
                  refine s_store (wk0 rfl) rfl hE hp rfl rfl rfl 0 rfl varty24.size_ rfl (allOne_mem ⟨rfl, (RoSl.one hr3), trivial⟩) [(.int .i64 p0.vars), vr3] rfl ?_
                  intro w hp
                  have hp : Hp Z ρ3 (Pt b4 (.cells #[(.int .i64 p0.vars), vr3] 24 (0, 0)) :: _ :: _ :: L) w := hp
                  refine s_nil (and_with ⟨fun _ => ⟨_, (hp.less hle2)⟩, fun _ => ⟨_, ((hp.get 2 rfl).less hle2)⟩, trivial⟩ fun hS => ?_)
                  exact v_done (by kernel_rfl) ⟨ρ3, _, _, hle2, hr3, hE.cut ⟨rfl, rfl, rfl, rfl, rfl, trivial⟩, hp⟩
            ·
              refine h_op rfl ?_
              refine s_new (wk0 rfl) rfl rfl hE hp rfl [(.int .i64 0), (.slice none 0 0)] (fun w => by simp [Instr.alloc, go_sem] <;> rfl) ?_
              intro a w b5 hE hp
              have hp : Hp Z ρ1 (Pt b5 (.cells #[(.int .i64 0), (.slice none 0 0)] 24 (0, 0)) :: _ :: _ :: L) w := hp
              refine s_nil (and_with ⟨fun _ => ⟨_, hp⟩, fun _ => ⟨_, (hp.get 2 rfl)⟩, trivial⟩ fun hS => ?_)
              refine v_all [5] (by kernel_rfl) rfl ?_
              refine List.forall_mem_cons.2 ⟨?_, fun _ h => absurd h (by simp)⟩
              ·
                refine h_op rfl ?_
                refine s_call (wk0 rfl) rfl rfl hE rfl [vc2_1, (.int .i64 lp1_0)] ⟨rfl, rfl, trivial⟩ ent30 (c_proof_without (Tabs.mono hT hlg1) lp1_2 vc2_1 hc2_1 lp1_0 hp x3 ex3) Ret.ret ?_
                intro vr4 a w hR hE
                obtain ⟨ρ4, u, hle3, rfl, hr4, hp⟩ := Ret.of hR
                have hp : Hp Z ρ4 (_ :: _ :: _ :: L) w := hp
                refine s_nil (and_with ⟨fun _ => ⟨_, (hp.less hle3)⟩, fun _ => ⟨_, ((hp.get 2 rfl).less hle3)⟩, trivial⟩ fun hS => ?_)
                refine v_take0 6 (wk0 rfl) rfl rfl rfl hE (by kernel_rfl) (by kernel_rfl) (by kernel_rfl) rfl (by kernel_rfl) hS (v := (.agg #[(.int .i64 p0.vars), vr4])) (fun _ => ex_bld rfl hE [(0, (.int .i64 p0.vars)), (1, vr4)] (by exact ⟨⟨rfl, rfl⟩, ⟨rfl, rfl⟩, trivial⟩) (fun w => by have hc0 := RoSl.cells hr4; simp only [Value.cells] at hc0; simp [Instr.build, Instr.fill, Value.cells, hc0, go_sem])) ?_
                intro a hE hS
                refine v_all [8] (by kernel_rfl) rfl ?_
                refine List.forall_mem_cons.2 ⟨?_, fun _ h => absurd h (by simp)⟩
                ·
                  refine h_op rfl ?_
                  refine s_store (wk0 rfl) rfl hE hp rfl rfl rfl 0 rfl varty24.size_ rfl (allOne_mem ⟨rfl, (RoSl.one hr4), trivial⟩) [(.int .i64 p0.vars), vr4] rfl ?_
                  intro w hp
                  have hp : Hp Z ρ4 (Pt b5 (.cells #[(.int .i64 p0.vars), vr4] 24 (0, 0)) :: _ :: _ :: L) w := hp
                  refine s_nil (and_with ⟨fun _ => ⟨_, (hp.less hle3)⟩, fun _ => ⟨_, ((hp.get 2 rfl).less hle3)⟩, trivial⟩ fun hS => ?_)
                  exact v_done (by kernel_rfl) ⟨ρ4, _, _, hle3, hr4, hE.cut ⟨rfl, rfl, rfl, rfl, rfl, trivial⟩, hp⟩
          · rintro a w ⟨ρy1, y10, yv1, hley1, yh1, hE, hp⟩
            refine k_seq ?_
            refine k_region ?_
            refine s_val (wk0 rfl) rfl rfl hE hp (v := (.agg #[(.int .i64 p0.vars), yv1])) (ex_load rfl hE rfl (fun w hw => run_ldN (cs := [(.int .i64 p0.vars), yv1]) varty24 (Hp.cN 0 rfl 0 _ (sub_all rfl) w hw))) ?_
            intro a hE
            refine s_val (wk0 rfl) rfl rfl hE hp (v := vp1) (ex_move rfl hE rfl) ?_
            intro a hE
            obtain ⟨x4, ex4, hl1⟩ := bnd hl1
            refine s_call (wk0 rfl) rfl rfl hE rfl [(.agg #[(.int .i64 p0.vars), yv1]), vp1] ⟨rfl, rfl, trivial⟩ ent29 (c_proof_accepted (Tabs.mono (Tabs.mono hT hlg1) hley1) (Formula.mk p0.vars x3) yv1 yh1 p1 vp1 (RoSl.mono (RoSl.mono hp1 hlg1) hley1) hp x4 ex4) Ret.ret ?_
            intro v a w hR hE
            obtain ⟨rfl, hp⟩ := Ret.of hR
            have hp : Hp Z ρy1 (Pt y10 (.cells #[(.int .i64 p0.vars), yv1] 24 (0, 0)) :: _ :: _ :: L) w := hp
            refine s_nil ?_
            refine k_if hE rfl (fun hc4 => ?_) (fun hc4 => ?_)
            · replace hl1 := (it hc4).symm.trans hl1
              refine k_region ?_
              refine s_val (wk0 rfl) rfl rfl hE hp (v := (.agg #[(.int .i64 p0.vars), yv1])) (ex_load rfl hE rfl (fun w hw => run_ldN (cs := [(.int .i64 p0.vars), yv1]) varty24 (Hp.cN 0 rfl 0 _ (sub_all rfl) w hw))) ?_
              intro a hE
              refine s_store (wk0 rfl) rfl hE hp rfl rfl rfl 2 rfl varty24.size_ rfl (allOne_mem ⟨rfl, (RoSl.one yh1), trivial⟩) [(.int .i64 p0.vars), yv1] rfl ?_
              intro w hp
              have hp : Hp Z ρy1 (_ :: _ :: Pt b1 (.cells #[(.int .i64 p0.vars), yv1] 24 (0, 0)) :: L) w := hp
              refine s_nil ?_
              refine k_region ?_
              refine s_val (wk0 rfl) rfl rfl hE hp (v := (.int .i64 lp1_0)) (ex_move rfl hE rfl) ?_
              intro a hE
              obtain ⟨x5, ex5, hl1⟩ := bnd hl1
              refine s_val (wk0 rfl) rfl rfl hE hp (v := (.int .i64 x5)) (ex_sub rfl hE rfl rfl (inK_some ex5)) ?_
              intro a hE
              refine s_val (wk0 rfl) rfl rfl hE hp (v := (.int .i64 x5)) (ex_asn rfl hE rfl) ?_
              intro a hE
              refine s_nil ?_
              exact ⟨_, (Option.some.inj hl1).symm, ρy1, _, _, (PH.le.tr hlg1 hley1), yh1, hE.cut ⟨rfl, rfl, rfl, rfl, trivial⟩, (hp.drop)⟩
            · replace hl1 := (ie hc4).symm.trans hl1
              refine k_region ?_
              refine s_val (wk0 rfl) rfl rfl hE hp (v := w7) (ex_move rfl hE rfl) ?_
              intro a hE
              refine s_val (wk0 rfl) rfl rfl hE hp (v := (.int .i64 lp1_0)) (ex_move rfl hE rfl) ?_
              intro a hE
              refine s_lit (wk0 rfl) rfl rfl hE hp rfl [(0, (.int .i64 lp1_0))] ⟨⟨rfl, rfl⟩, trivial⟩ [(.int .i64 lp1_0)] 3 (fun w => by simp [Instr.buildSlice, Instr.fill, Value.cells, go_sem]) ?_
              intro a w b6 hE hp
              have hp : Hp Z ρy1 (Pt b6 (.cells #[(.int .i64 lp1_0)] 3 (0, 0)) :: _ :: _ :: _ :: L) w := hp
              obtain ⟨x6, ex6, hl1⟩ := bnd hl1
              refine s_app (wk0 rfl) rfl rfl hE hp rfl slty25 rfl rfl 2 rfl rfl (l2 := [lp1_0]) rfl (fun j u hj => by have := Hp.cN 0 rfl 0 _ (sub_all rfl) w hp j u hj; simpa using this) ex6 ?_
              intro v1 a w hE hp
              have hp : Hp Z ρy1 (_ :: _ :: OwnSl 3 v1 x6 :: _ :: L) w := hp
              refine s_val (wk0 rfl) rfl rfl hE hp (v := v1) (ex_asn rfl hE rfl) ?_
              intro a hE
              refine s_nil ?_
              refine k_region ?_
              refine s_val (wk0 rfl) rfl rfl hE hp (v := (.int .i64 lp1_0)) (ex_move rfl hE rfl) ?_
              intro a hE
              obtain ⟨x7, ex7, hl1⟩ := bnd hl1
              refine s_val (wk0 rfl) rfl rfl hE hp (v := (.int .i64 x7)) (ex_sub rfl hE rfl rfl (inK_some ex7)) ?_
              intro a hE
              refine s_val (wk0 rfl) rfl rfl hE hp (v := (.int .i64 x7)) (ex_asn rfl hE rfl) ?_
              intro a hE
              refine s_nil ?_
              exact ⟨_, (Option.some.inj hl1).symm, ρy1, _, _, (PH.le.tr hlg1 hley1), (RoSl.mono hc2_1 hley1), hE.cut ⟨rfl, rfl, rfl, rfl, trivial⟩, (((hp.get 1 rfl).drop).drop)⟩
        · replace hl1 := (ie hc3).symm.trans hl1
          refine k_exit ?_
          refine ⟨_, (Option.some.inj hl1).symm, fun hbb => ?_⟩
          subst hbb
          exact ⟨ρ1, _, _, hlg1, hc2_1, hE.cut ⟨rfl, trivial⟩, hp⟩
    · rintro a w ⟨ρ1, w7, vc2_1, hlg1, hc2_1, hE, hp⟩
      refine k_seq ?_
      refine k_region ?_
      refine s_val (wk0 rfl) rfl rfl hE hp (v := w7) (ex_move rfl hE rfl) ?_
      intro a hE
      obtain ⟨x8, ex8, hm⟩ := bnd hm
      refine s_call (wk0 rfl) rfl rfl hE rfl [w7] ⟨rfl, trivial⟩ ent31 (c_revI b2.1 w7 (hp.get 0 rfl) x8 ex8) Ret.ret ?_
      intro v a w hR hE
      obtain ⟨rfl, hp⟩ := Ret.of hR
      have hp : Hp Z ρ1 (OwnSl 3 w7 x8 :: Pt b1 (.cells #[(.int .i64 p0.vars), vc2_1] 24 (0, 0)) :: L) w := hp
      refine s_nil ?_
      refine k_seq ?_
      refine k_region ?_
      refine s_val (wk0 rfl) rfl rfl hE hp (v := w7) (ex_move rfl hE rfl) ?_
      intro a hE
      refine s_val (wk0 rfl) rfl rfl hE hp (v := w7) (ex_asn rfl hE rfl) ?_
      intro a hE
      refine s_val (wk0 rfl) rfl rfl hE hp (v := (.int .i64 0)) (ex_asn rfl hE rfl) ?_
      intro a hE
      refine s_nil ?_
      have hE := hE.cut (E' := [(4, w7), (5, (.int .i64 0))]) ⟨rfl, rfl, trivial⟩
      refine k_ret ?_
      obtain rfl := Option.some.inj hm
      exact ret2 hE rfl rfl rfl ⟨_, rfl, _, rfl, (((hp.get 1 rfl).drop).less hlg1)⟩
end Go.Proofs.YtfajmelamonolaaGreatDoor

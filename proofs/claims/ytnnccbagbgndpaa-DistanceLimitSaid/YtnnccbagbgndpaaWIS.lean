/-
  The code goes as its model: assessor/assessorlaw37.wide, assessor/assessorlaw37.DistanceLimit. (Printed by wip/sp/gen.py.)
-/
import Derived.Test.YtnnccbagbgndpaaWIM
import Derived.Test.YtnnccbagbgndpaaFct
import Derived.Test.YtnnccbagbgndpaaWS
import Derived.Test.YtnnccbagbgndpaaTyR
set_option linter.unusedVariables false
set_option linter.unusedSimpArgs false
namespace Go.Proofs.Ytnnccbagbgndpaa
open Go.RowKit

/- assessor/assessorlaw37.wide -/
set_option maxRecDepth 100000 in
set_option maxHeartbeats 4000000 in
theorem c_assessorlaw37_wide {Z : World} {ρ : PH} {L : List Atom} {w : World} (p0 : Int) (hp : Hp Z ρ (L) w) (r : Node) (hm : m_assessorlaw37_wide p0 = some r) :
    Calls Try.prog 25 #[(.int .i64 p0)] w (Ret fun v w' => ∃ (ρ' : PH) (vr1_kids : Value), ρ.le ρ' ∧ v = (.agg #[(.int .i64 r.kind), (.string r.text), (.int .i64 r.at_), (.int .i64 r.fin), vr1_kids]) ∧ RoSl ρ' vr1_kids r.kids ∧ Hp Z ρ' (L) w') := by
  refine enter (N := 17) Try.func25 rfl rfl [(0, (.int .i64 p0))] rfl (argsIn_mem ⟨rfl, trivial⟩) fun a hE => ?_
  unfold m_assessorlaw37_wide at hm
  refine k_seq ?_
  refine k_region ?_
  refine s_new (wk0 rfl) rfl rfl hE hp rfl [(.int .i64 0), (.string ByteArray.empty), (.int .i64 0), (.int .i64 0), (.slice none 0 0)] (fun w => by simp [Instr.alloc, go_sem] <;> rfl) ?_
  intro a w b1 hE hp
  have hp : Hp Z ρ (Pt b1 (.cells #[(.int .i64 0), (.string ByteArray.empty), (.int .i64 0), (.int .i64 0), (.slice none 0 0)] 24 (0, 0)) :: L) w := hp
  refine s_nil ?_
  refine k_seq ?_
  refine k_region ?_
  refine s_val (wk0 rfl) rfl rfl hE hp (v := (.agg #[(.int .i64 11), (.string ByteArray.empty), (.int .i64 0), (.int .i64 0), (.slice none 0 0)])) (ex_bld rfl hE [(0, (.int .i64 11))] (by exact ⟨⟨rfl, rfl⟩, trivial⟩) (fun w => by simp [Instr.build, Instr.fill, Value.cells, go_sem] <;> rfl)) ?_
  intro a hE
  refine s_new (wk0 rfl) rfl rfl hE hp rfl [(.int .i64 0), (.string ByteArray.empty), (.int .i64 0), (.int .i64 0), (.slice none 0 0)] (fun w => by simp [Instr.alloc, go_sem] <;> rfl) ?_
  intro a w b2 hE hp
  have hp : Hp Z ρ (Pt b2 (.cells #[(.int .i64 0), (.string ByteArray.empty), (.int .i64 0), (.int .i64 0), (.slice none 0 0)] 24 (0, 0)) :: _ :: L) w := hp
  refine s_store (wk0 rfl) rfl hE hp rfl rfl rfl 0 rfl varty24.size_ rfl (allOne_mem ⟨rfl, rfl, rfl, rfl, rfl, trivial⟩) [(.int .i64 11), (.string ByteArray.empty), (.int .i64 0), (.int .i64 0), (.slice none 0 0)] rfl ?_
  intro w hp
  have hp : Hp Z ρ (Pt b2 (.cells #[(.int .i64 11), (.string ByteArray.empty), (.int .i64 0), (.int .i64 0), (.slice none 0 0)] 24 (0, 0)) :: _ :: L) w := hp
  refine s_nil ?_
  refine k_seq ?_
  refine k_seq ?_
  refine k_region ?_
  refine s_val (wk0 rfl) rfl rfl hE hp (v := (.int .i64 p0)) (ex_move rfl hE rfl) ?_
  intro a hE
  obtain ⟨x1, ex1, hm⟩ := bnd hm
  refine s_val (wk0 rfl) rfl rfl hE hp (v := (.int .i64 x1)) (ex_sub rfl hE rfl rfl (inK_some ex1)) ?_
  intro a hE
  refine s_val (wk0 rfl) rfl rfl hE hp (v := (.int .i64 0)) (ex_move rfl hE rfl) ?_
  intro a hE
  refine s_nil ?_
  have hp := hp.emp (RowR.nil (α := Node) 24)
  have hR1 : RepAll ρ ([] : List Node) [] := RepAll.nil
  have hp : Hp Z ρ (RowR 24 (.slice none 0 0) ([] : (List Node)) ([]) :: _ :: _ :: L) w := hp
  have hp : Hp Z ρ (_ :: _ :: _ :: L) w := hp
  obtain ⟨b3, hb1, hm⟩ := bnd hm
  refine k_block (fun a w => ∃ (w5 : Value) (xs5 : List Value), RepAll ρ (b3 : (List Node)) xs5 ∧ Env 17 [(2, (.pointer (some ⟨b1, 0, none⟩))), (3, (.pointer (some ⟨b2, 0, none⟩)))] a ∧ Hp Z ρ (RowR 24 w5 (b3 : (List Node)) xs5 :: Pt b2 (.cells #[(.int .i64 11), (.string ByteArray.empty), (.int .i64 0), (.int .i64 0), w5] 24 (0, 0)) :: Pt b1 (.cells #[(.int .i64 0), (.string ByteArray.empty), (.int .i64 0), (.int .i64 0), (.slice none 0 0)] 24 (0, 0)) :: L) w) ?_ ?_
  · refine k_loop hb1 (fun s a w => ∃ (w5 : Value) (xs5 : List Value), RepAll ρ (s.2 : (List Node)) xs5 ∧ Env 17 [(2, (.pointer (some ⟨b1, 0, none⟩))), (3, (.pointer (some ⟨b2, 0, none⟩))), (6, (.int .i64 x1)), (7, (.int .i64 s.1))] a ∧ Hp Z ρ (RowR 24 w5 (s.2 : (List Node)) xs5 :: Pt b2 (.cells #[(.int .i64 11), (.string ByteArray.empty), (.int .i64 0), (.int .i64 0), w5] 24 (0, 0)) :: Pt b1 (.cells #[(.int .i64 0), (.string ByteArray.empty), (.int .i64 0), (.int .i64 0), (.slice none 0 0)] 24 (0, 0)) :: L) w) ?_ ?_
    · exact ⟨_, _, hR1, hE.cut ⟨rfl, rfl, rfl, rfl, trivial⟩, hp⟩
    · rintro ⟨lp1_0, lp1_1⟩ st a w ⟨w5, xs5, hR5w, hE, hp⟩ hl1
      have hE : Env 17 [(2, (.pointer (some ⟨b1, 0, none⟩))), (3, (.pointer (some ⟨b2, 0, none⟩))), (6, (.int .i64 x1)), (7, (.int .i64 lp1_0))] a := hE
      have hp : Hp Z ρ (RowR 24 w5 (lp1_1 : (List Node)) xs5 :: Pt b2 (.cells #[(.int .i64 11), (.string ByteArray.empty), (.int .i64 0), (.int .i64 0), w5] 24 (0, 0)) :: _ :: L) w := hp
      have hR5w : RepAll ρ (lp1_1 : (List Node)) xs5 := hR5w
      replace hl1 : m_assessorlaw37_wide_lp1 x1 lp1_0 lp1_1 = some st := hl1
      unfold m_assessorlaw37_wide_lp1 at hl1
      refine k_seq ?_
      refine k_region ?_
      refine s_val (wk0 rfl) rfl rfl hE hp (v := (.bool (decide (lp1_0 < x1)))) (ex_lss rfl hE rfl rfl) ?_
      intro a hE
      refine s_nil ?_
      refine k_seq ?_
      refine k_if hE rfl (fun hb2 => ?_) (fun hb2 => ?_)
      · replace hl1 := (it hb2).symm.trans hl1
        refine k_skip ?_
        refine k_seq ?_
        refine k_plain ?_
        obtain ⟨x2, ex2, hl1⟩ := bnd hl1
        obtain ⟨x3, ex3, hl1⟩ := bnd hl1
        have hp := hp.drew
        refine k_heldV ([([], At0 Z ρ), ([6], At1 Z ρ (Pt b2 (.cells #[(.int .i64 11), (.string ByteArray.empty), (.int .i64 0), (.int .i64 0), w5] 24 (0, 0))))] : Facts) (fun a w => ∃ y7 : Nat, ∃ y5 : Value, ∃ yv1 : Value, ∃ yxs5 : List Value, RoSl ρ yv1 x2.kids ∧ RepAll ρ (x3 : (List Node)) yxs5 ∧ Env 17 [(2, (.pointer (some ⟨b1, 0, none⟩))), (3, (.pointer (some ⟨b2, 0, none⟩))), (6, (.int .i64 x1)), (7, (.int .i64 lp1_0))] a ∧ Hp Z ρ (Pt y7 (.cells #[(.int .i64 x2.kind), (.string x2.text), (.int .i64 x2.at_), (.int .i64 x2.fin), yv1] 24 (0, 0)) :: RowR 24 y5 (x3 : (List Node)) yxs5 :: Pt b2 (.cells #[(.int .i64 11), (.string ByteArray.empty), (.int .i64 0), (.int .i64 0), y5] 24 (0, 0)) :: Pt b1 (.cells #[(.int .i64 0), (.string ByteArray.empty), (.int .i64 0), (.int .i64 0), (.slice none 0 0)] 24 (0, 0)) :: L) w) (by kernel_rfl) ⟨fun _ => ⟨_, hp⟩, fun _ => ⟨_, (hp.get 1 rfl)⟩, trivial⟩ (fun hS => ?_) ?_
        ·
          generalize w.drew = w at hS hp ⊢
          refine v_take0 0 (wk0 rfl) rfl rfl rfl hE (by kernel_rfl) (by kernel_rfl) (by kernel_rfl) rfl (by kernel_rfl) hS (v := (.pointer (some ⟨b2, 4, none⟩))) (fun _ => ex_field rfl hE rfl (fldty24_4 _ _)) ?_
          intro a hE hS
          refine v_take1 1 1 (wk0 rfl) rfl rfl rfl hE (by kernel_rfl) (by kernel_rfl) (by kernel_rfl) rfl (by kernel_rfl) hS (v := w5) (fun _ => ex_load rfl hE rfl (fun w hw => run_ld1 varty22 (Hp.c 0 rfl 4 rfl w hw))) ?_
          intro a hE hS
          refine v_all [2] (by kernel_rfl) rfl ?_
          refine List.forall_mem_cons.2 ⟨?_, fun _ h => absurd h (by simp)⟩
          ·
            refine h_op rfl ?_
            refine s_call (wk0 rfl) rfl rfl hE rfl [(.string (ByteArray.mk #[97]))] ⟨rfl, trivial⟩ ent27 (c_assessorlaw37_name (ByteArray.mk #[97]) hp x2 ex2) Ret.ret ?_
            intro v a w hR hE
            obtain ⟨vr2_kids, rfl, hr2_kids, hp⟩ := Ret.of hR
            have hp : Hp Z ρ (_ :: _ :: _ :: L) w := hp
            refine s_nil (and_with ⟨fun _ => ⟨_, hp⟩, fun _ => ⟨_, (hp.get 1 rfl)⟩, trivial⟩ fun hS => ?_)
            refine v_all [3] (by kernel_rfl) rfl ?_
            refine List.forall_mem_cons.2 ⟨?_, fun _ h => absurd h (by simp)⟩
            ·
              refine h_op rfl ?_
              refine s_lit (wk0 rfl) rfl rfl hE hp rfl [(0, (.agg #[(.int .i64 x2.kind), (.string x2.text), (.int .i64 x2.at_), (.int .i64 x2.fin), vr2_kids]))] ⟨⟨rfl, rfl⟩, trivial⟩ [(.int .i64 x2.kind), (.string x2.text), (.int .i64 x2.at_), (.int .i64 x2.fin), vr2_kids] 24 (fun w => by have hc0 := RoSl.cells hr2_kids; simp only [Value.cells] at hc0; simp [Instr.buildSlice, Instr.fill, Value.cells, hc0, go_sem]) ?_
              intro a w b5 hE hp
              have hp : Hp Z ρ (Pt b5 (.cells #[(.int .i64 x2.kind), (.string x2.text), (.int .i64 x2.at_), (.int .i64 x2.fin), vr2_kids] 24 (0, 0)) :: _ :: _ :: _ :: L) w := hp
              refine s_nil (and_with ⟨fun _ => ⟨_, hp⟩, fun _ => ⟨_, (hp.get 2 rfl)⟩, trivial⟩ fun hS => ?_)
              refine v_all [4] (by kernel_rfl) rfl ?_
              refine List.forall_mem_cons.2 ⟨?_, fun _ h => absurd h (by simp)⟩
              ·
                refine h_op rfl ?_
                have hR5 : RepAll ρ ([x2] : List Node) [(.int .i64 x2.kind), (.string x2.text), (.int .i64 x2.at_), (.int .i64 x2.fin), vr2_kids] := ⟨_, _, rfl, (show NodeAt ρ x2 [(.int .i64 x2.kind), (.string x2.text), (.int .i64 x2.at_), (.int .i64 x2.fin), vr2_kids] from NodeAt.shutv (hr2_kids)), rfl⟩
                have hR4 : RepAll ρ x3 (xs5 ++ [(.int .i64 x2.kind), (.string x2.text), (.int .i64 x2.at_), (.int .i64 x2.fin), vr2_kids]) := (app_some ex3).2 ▸ RepAll.app hR5w hR5
                refine s_appR (wk0 rfl) rfl rfl hE hp rfl slty22 rfl rfl 1 rfl rfl (l2 := [x2]) (ys := [(.int .i64 x2.kind), (.string x2.text), (.int .i64 x2.at_), (.int .i64 x2.fin), vr2_kids]) rfl hR5 (fun j u hj => by have := Hp.cN 0 rfl 0 _ (sub_all rfl) w hp j u hj; simpa using this) ex3 ?_
                intro v2 a w hE hp
                have hp : Hp Z ρ (_ :: RowR 24 v2 (x3 : (List Node)) (xs5 ++ [(.int .i64 x2.kind), (.string x2.text), (.int .i64 x2.at_), (.int .i64 x2.fin), vr2_kids]) :: _ :: _ :: L) w := hp
                refine s_nil (and_with ⟨fun _ => ⟨_, hp⟩, fun _ => ⟨_, (hp.get 2 rfl)⟩, trivial⟩ fun hS => ?_)
                refine v_take0 5 (wk0 rfl) rfl rfl rfl hE (by kernel_rfl) (by kernel_rfl) (by kernel_rfl) rfl (by kernel_rfl) hS (v := (.pointer (some ⟨b2, 4, none⟩))) (fun _ => ex_field rfl hE rfl (fldty24_4 _ _)) ?_
                intro a hE hS
                refine v_all [6] (by kernel_rfl) rfl ?_
                refine List.forall_mem_cons.2 ⟨?_, fun _ h => absurd h (by simp)⟩
                ·
                  refine h_op rfl ?_
                  refine s_store1 (wk0 rfl) rfl hE hp rfl rfl rfl 2 rfl varty22.size_ (RowR.cells hp 1 rfl) (RowR.one hp 1 rfl) rfl [(.int .i64 11), (.string ByteArray.empty), (.int .i64 0), (.int .i64 0), v2] rfl ?_
                  intro w hp
                  have hp : Hp Z ρ (_ :: _ :: Pt b2 (.cells #[(.int .i64 11), (.string ByteArray.empty), (.int .i64 0), (.int .i64 0), v2] 24 (0, 0)) :: _ :: L) w := hp
                  refine s_nil (and_with ⟨fun _ => ⟨_, hp⟩, dead (by kernel_rfl), trivial⟩ fun hS => ?_)
                  exact v_done (by kernel_rfl) ⟨_, _, _, _, hr2_kids, hR4, hE.cut ⟨rfl, rfl, rfl, rfl, trivial⟩, hp⟩
        · rintro a w ⟨y7, y5, yv1, yxs5, yh1, yhR5, hE, hp⟩
          refine k_region ?_
          obtain ⟨x4, ex4, hl1⟩ := bnd hl1
          refine s_val (wk0 rfl) rfl rfl hE hp (v := (.int .i64 x4)) (ex_add rfl hE rfl rfl (inK_some ex4)) ?_
          intro a hE
          refine s_val (wk0 rfl) rfl rfl hE hp (v := (.int .i64 x4)) (ex_move rfl hE rfl) ?_
          intro a hE
          refine s_nil ?_
          exact ⟨_, (Option.some.inj hl1).symm, _, _, yhR5, hE.cut ⟨rfl, rfl, rfl, rfl, trivial⟩, (hp.drop)⟩
      · replace hl1 := (ie hb2).symm.trans hl1
        refine k_exit ?_
        refine ⟨_, (Option.some.inj hl1).symm, fun hbb => ?_⟩
        subst hbb
        exact ⟨_, _, hR5w, hE.cut ⟨rfl, rfl, trivial⟩, hp⟩
  · rintro a w ⟨w5, xs5, hR5w, hE, hp⟩
    refine k_seq ?_
    refine k_region ?_
    refine s_val (wk0 rfl) rfl rfl hE hp (v := (.agg #[(.int .i64 11), (.string ByteArray.empty), (.int .i64 0), (.int .i64 0), w5])) (ex_load rfl hE rfl (fun w hw => run_ldN (cs := [(.int .i64 11), (.string ByteArray.empty), (.int .i64 0), (.int .i64 0), w5]) varty24 (Hp.cN 1 rfl 0 _ (sub_all rfl) w hw))) ?_
    intro a hE
    refine s_store (wk0 rfl) rfl hE hp rfl rfl rfl 2 rfl varty24.size_ rfl (allOne_mem ⟨rfl, rfl, rfl, rfl, (RowR.one hp 0 rfl), trivial⟩) [(.int .i64 11), (.string ByteArray.empty), (.int .i64 0), (.int .i64 0), w5] rfl ?_
    intro w hp
    have hp : Hp Z ρ (RowR 24 w5 (b3 : (List Node)) xs5 :: Pt b2 (.cells #[(.int .i64 11), (.string ByteArray.empty), (.int .i64 0), (.int .i64 0), w5] 24 (0, 0)) :: Pt b1 (.cells #[(.int .i64 11), (.string ByteArray.empty), (.int .i64 0), (.int .i64 0), w5] 24 (0, 0)) :: L) w := hp
    refine s_nil ?_
    refine k_ret ?_
    obtain ⟨k1, k1a, k1d, hp⟩ := (hp.get 0 rfl).lend
    have f1 : RoSl (ρ.un k1) w5 b3 := RowR.ro k1d k1a hR5w
    have hp : Hp Z (ρ.un k1) (_ :: _ :: L) w := hp
    obtain rfl := Option.some.inj hm
    exact retc1 hE rfl rfl (run_lvN (cs := [(.int .i64 11), (.string ByteArray.empty), (.int .i64 0), (.int .i64 0), w5]) varty24 (Hp.cN 1 rfl 0 _ (sub_all rfl) _ hp)) ⟨_, rfl, _, _, (PH.le_un _ k1), rfl, f1, (((hp.get 1 rfl).drop).drop)⟩
/- assessor/assessorlaw37.DistanceLimit -/
set_option maxRecDepth 100000 in
set_option maxHeartbeats 4000000 in
theorem c_assessorlaw37_DistanceLimit {Z : World} {ρ : PH} {L : List Atom} {w : World} (p0 : Node) (vp0_kids : Value) (hp0_kids : RoSl ρ vp0_kids p0.kids) (p1 : Int) (p2 : Bool) (hp : Hp Z ρ (L) w) (r : Bool) (hm : m_assessorlaw37_DistanceLimit p0 p1 p2 = some r) :
    Calls Try.prog 9 #[(.agg #[(.int .i64 p0.kind), (.string p0.text), (.int .i64 p0.at_), (.int .i64 p0.fin), vp0_kids]), (.int .i8 p1), (.bool p2)] w (Ret fun v w' => v = (.bool r) ∧ Hp Z ρ (L) w') := by
  refine enter (N := 132) Try.func9 rfl rfl [(0, (.agg #[(.int .i64 p0.kind), (.string p0.text), (.int .i64 p0.at_), (.int .i64 p0.fin), vp0_kids])), (1, (.int .i8 p1)), (2, (.bool p2))] rfl (argsIn_mem ⟨rfl, rfl, rfl, trivial⟩) fun a hE => ?_
  unfold m_assessorlaw37_DistanceLimit at hm
  refine k_seq ?_
  refine k_region ?_
  refine s_box (wk0 rfl) rfl rfl hE hp rfl (v := (.agg #[(.int .i64 p0.kind), (.string p0.text), (.int .i64 p0.at_), (.int .i64 p0.fin), vp0_kids])) rfl ?_
  intro a w b1 hE hp
  have hp : Hp Z ρ (Pt b1 (.cells #[(.int .i64 p0.kind), (.string p0.text), (.int .i64 p0.at_), (.int .i64 p0.fin), vp0_kids] 24 (0, 0)) :: L) w := hp
  refine s_val (wk0 rfl) rfl rfl hE hp (v := (.bool false)) (ex_asn rfl hE rfl) ?_
  intro a hE
  refine s_nil ?_
  refine k_seq ?_
  refine k_seq ?_
  refine k_region ?_
  obtain ⟨x1, ex1, hm⟩ := bnd hm
  refine s_call (wk0 rfl) rfl rfl hE rfl [] trivial ent10 (c_assessorlaw37_awake  hp x1 ex1) Ret.ret ?_
  intro v a w hR hE
  obtain ⟨rfl, hp⟩ := Ret.of hR
  have hp : Hp Z ρ (_ :: L) w := hp
  refine s_val (wk0 rfl) rfl rfl hE hp (v := (.bool (!x1))) (ex_not rfl hE rfl) ?_
  intro a hE
  refine s_nil ?_
  refine k_if hE rfl (fun hb1 => ?_) (fun hb1 => ?_)
  · replace hm := (it hb1).symm.trans hm
    refine k_seq ?_
    refine k_region ?_
    refine s_val (wk0 rfl) rfl rfl hE hp (v := (.bool false)) (ex_asn rfl hE rfl) ?_
    intro a hE
    refine s_nil ?_
    refine k_ret ?_
    obtain rfl := Option.some.inj hm
    exact ret1 hE rfl rfl ⟨_, rfl, rfl, (hp.drop)⟩
  · replace hm := (ie hb1).symm.trans hm
    refine k_skip ?_
    refine k_seq ?_
    refine k_seq ?_
    refine k_region ?_
    refine s_val (wk0 rfl) rfl rfl hE hp (v := (.agg #[(.int .i64 p0.kind), (.string p0.text), (.int .i64 p0.at_), (.int .i64 p0.fin), vp0_kids])) (ex_load rfl hE rfl (fun w hw => run_ldN (cs := [(.int .i64 p0.kind), (.string p0.text), (.int .i64 p0.at_), (.int .i64 p0.fin), vp0_kids]) varty24 (Hp.cN 0 rfl 0 _ (sub_all rfl) w hw))) ?_
    intro a hE
    refine s_val (wk0 rfl) rfl rfl hE hp (v := (.agg #[(.int .i64 p0.kind), (.string p0.text), (.int .i64 p0.at_), (.int .i64 p0.fin), vp0_kids])) (ex_load rfl hE rfl (fun w hw => run_ldN (cs := [(.int .i64 p0.kind), (.string p0.text), (.int .i64 p0.at_), (.int .i64 p0.fin), vp0_kids]) varty24 (Hp.cN 0 rfl 0 _ (sub_all rfl) w hw))) ?_
    intro a hE
    obtain ⟨x2, ex2, hm⟩ := bnd hm
    refine s_call (wk0 rfl) rfl rfl hE rfl [(.agg #[(.int .i64 p0.kind), (.string p0.text), (.int .i64 p0.at_), (.int .i64 p0.fin), vp0_kids]), (.agg #[(.int .i64 p0.kind), (.string p0.text), (.int .i64 p0.at_), (.int .i64 p0.fin), vp0_kids]), (.int .i64 6)] ⟨rfl, rfl, rfl, trivial⟩ ent11 (c_assessorlaw37_few p0 vp0_kids hp0_kids p0 vp0_kids hp0_kids 6 hp x2 ex2) Ret.ret ?_
    intro v a w hR hE
    obtain ⟨rfl, hp⟩ := Ret.of hR
    have hp : Hp Z ρ (_ :: L) w := hp
    refine s_val (wk0 rfl) rfl rfl hE hp (v := (.bool (!x2))) (ex_not rfl hE rfl) ?_
    intro a hE
    refine s_nil ?_
    refine k_if hE rfl (fun hb2 => ?_) (fun hb2 => ?_)
    · replace hm := (it hb2).symm.trans hm
      refine k_seq ?_
      refine k_region ?_
      refine s_val (wk0 rfl) rfl rfl hE hp (v := (.bool true)) (ex_asn rfl hE rfl) ?_
      intro a hE
      refine s_nil ?_
      refine k_ret ?_
      obtain rfl := Option.some.inj hm
      exact ret1 hE rfl rfl ⟨_, rfl, rfl, (hp.drop)⟩
    · replace hm := (ie hb2).symm.trans hm
      refine k_skip ?_
      refine k_seq ?_
      refine k_region ?_
      refine s_val (wk0 rfl) rfl rfl hE hp (v := (.int .i8 p1)) (ex_move rfl hE rfl) ?_
      intro a hE
      obtain ⟨x3, ex3, hm⟩ := bnd hm
      refine s_val (wk0 rfl) rfl rfl hE hp (v := (.int .i64 x3)) (ex_conv rfl hE rfl (fun w _ => by rw [← inK_some ex3]; simp [convert, Conv.intToInt, go_sem])) ?_
      intro a hE
      obtain ⟨x4, ex4, hm⟩ := bnd hm
      refine s_val (wk0 rfl) rfl rfl hE hp (v := (.int .i64 x4)) (ex_quo rfl hE rfl rfl (quoK_some ex4).1 (quoK_some ex4).2) ?_
      intro a hE
      obtain ⟨x5, ex5, hm⟩ := bnd hm
      refine s_val (wk0 rfl) rfl rfl hE hp (v := (.int .i64 x5)) (ex_add rfl hE rfl rfl (inK_some ex5)) ?_
      intro a hE
      refine s_val (wk0 rfl) rfl rfl hE hp (v := (.int .i64 x5)) (ex_asn rfl hE rfl) ?_
      intro a hE
      refine s_nil ?_
      refine k_seq ?_
      obtain ⟨x6, ex6, hm⟩ := bnd hm
      have hp := hp.drew
      refine k_heldV ([([], At0 Z ρ), ([], At1 Z ρ (Pt b1 (.cells #[(.int .i64 p0.kind), (.string p0.text), (.int .i64 p0.at_), (.int .i64 p0.fin), vp0_kids] 24 (0, 0))))] : Facts) (fun a w => ∃ ρy1 : PH, ∃ y3 : Nat, ∃ y2 : Nat, ∃ yv1 : Value, ρ.le ρy1 ∧ RoSl ρy1 yv1 x6.kids ∧ Env 132 [(2, (.bool p2)), (3, (.pointer (some ⟨b1, 0, none⟩))), (7, (.int .i64 x5)), (8, (.pointer (some ⟨y2, 0, none⟩))), (9, (.pointer (some ⟨y3, 0, none⟩)))] a ∧ Hp Z ρy1 (Pt y3 (.cells #[(.int .i64 p0.kind), (.string p0.text), (.int .i64 p0.at_), (.int .i64 p0.fin), vp0_kids] 24 (0, 0)) :: Pt y2 (.cells #[(.int .i64 x6.kind), (.string x6.text), (.int .i64 x6.at_), (.int .i64 x6.fin), yv1] 24 (0, 0)) :: Pt b1 (.cells #[(.int .i64 p0.kind), (.string p0.text), (.int .i64 p0.at_), (.int .i64 p0.fin), vp0_kids] 24 (0, 0)) :: L) w) (by kernel_rfl) ⟨fun _ => ⟨_, hp⟩, fun _ => ⟨_, (hp.get 0 rfl)⟩, trivial⟩ (fun hS => ?_) ?_
      ·
        generalize w.drew = w at hS hp ⊢
        refine v_take0 0 (wk0 rfl) rfl rfl rfl hE (by kernel_rfl) (by kernel_rfl) (by kernel_rfl) rfl (by kernel_rfl) hS (v := (.int .i64 x5)) (fun _ => ex_move rfl hE rfl) ?_
        intro a hE hS
        refine v_take1 2 1 (wk0 rfl) rfl rfl rfl hE (by kernel_rfl) (by kernel_rfl) (by kernel_rfl) rfl (by kernel_rfl) hS (v := (.agg #[(.int .i64 p0.kind), (.string p0.text), (.int .i64 p0.at_), (.int .i64 p0.fin), vp0_kids])) (fun _ => ex_load rfl hE rfl (fun w hw => run_ldN (cs := [(.int .i64 p0.kind), (.string p0.text), (.int .i64 p0.at_), (.int .i64 p0.fin), vp0_kids]) varty24 (Hp.cN 0 rfl 0 _ (sub_all rfl) w hw))) ?_
        intro a hE hS
        refine v_all [1, 3, 4] (by kernel_rfl) rfl ?_
        refine List.forall_mem_cons.2 ⟨?_, List.forall_mem_cons.2 ⟨?_, List.forall_mem_cons.2 ⟨?_, fun _ h => absurd h (by simp)⟩⟩⟩
        ·
          refine h_op rfl ?_
          refine s_call (wk0 rfl) rfl rfl hE rfl [(.int .i64 x5)] ⟨rfl, trivial⟩ ent25 (c_assessorlaw37_wide x5 hp x6 ex6) Ret.ret ?_
          intro v a w hR hE
          obtain ⟨ρ2, vr4_kids, hle2, rfl, hr4_kids, hp⟩ := Ret.of hR
          have hp : Hp Z ρ2 (_ :: L) w := hp
          refine s_nil (and_with ⟨fun _ => ⟨_, (hp.less hle2)⟩, fun _ => ⟨_, ((hp.get 0 rfl).less hle2)⟩, trivial⟩ fun hS => ?_)
          refine v_all [3, 4] (by kernel_rfl) rfl ?_
          refine List.forall_mem_cons.2 ⟨?_, List.forall_mem_cons.2 ⟨?_, fun _ h => absurd h (by simp)⟩⟩
          ·
            refine h_op rfl ?_
            refine s_new (wk0 rfl) rfl rfl hE hp rfl [(.int .i64 0), (.string ByteArray.empty), (.int .i64 0), (.int .i64 0), (.slice none 0 0)] (fun w => by simp [Instr.alloc, go_sem] <;> rfl) ?_
            intro a w b4 hE hp
            have hp : Hp Z ρ2 (Pt b4 (.cells #[(.int .i64 0), (.string ByteArray.empty), (.int .i64 0), (.int .i64 0), (.slice none 0 0)] 24 (0, 0)) :: _ :: L) w := hp
            refine s_nil (and_with ⟨fun _ => ⟨_, (hp.less hle2)⟩, fun _ => ⟨_, ((hp.get 1 rfl).less hle2)⟩, trivial⟩ fun hS => ?_)
            refine v_all [4] (by kernel_rfl) rfl ?_
            refine List.forall_mem_cons.2 ⟨?_, fun _ h => absurd h (by simp)⟩
            ·
              refine h_op rfl ?_
              refine s_new (wk0 rfl) rfl rfl hE hp rfl [(.int .i64 0), (.string ByteArray.empty), (.int .i64 0), (.int .i64 0), (.slice none 0 0)] (fun w => by simp [Instr.alloc, go_sem] <;> rfl) ?_
              intro a w b5 hE hp
              have hp : Hp Z ρ2 (Pt b5 (.cells #[(.int .i64 0), (.string ByteArray.empty), (.int .i64 0), (.int .i64 0), (.slice none 0 0)] 24 (0, 0)) :: _ :: _ :: L) w := hp
              refine s_nil (and_with ⟨fun _ => ⟨_, (hp.less hle2)⟩, fun _ => ⟨_, ((hp.get 2 rfl).less hle2)⟩, trivial⟩ fun hS => ?_)
              refine v_all [5] (by kernel_rfl) rfl ?_
              refine List.forall_mem_cons.2 ⟨?_, fun _ h => absurd h (by simp)⟩
              ·
                refine h_op rfl ?_
                refine s_store (wk0 rfl) rfl hE hp rfl rfl rfl 1 rfl varty24.size_ rfl (allOne_mem ⟨rfl, rfl, rfl, rfl, (RoSl.one hr4_kids), trivial⟩) [(.int .i64 x6.kind), (.string x6.text), (.int .i64 x6.at_), (.int .i64 x6.fin), vr4_kids] rfl ?_
                intro w hp
                have hp : Hp Z ρ2 (_ :: Pt b4 (.cells #[(.int .i64 x6.kind), (.string x6.text), (.int .i64 x6.at_), (.int .i64 x6.fin), vr4_kids] 24 (0, 0)) :: _ :: L) w := hp
                refine s_nil (and_with ⟨fun _ => ⟨_, (hp.less hle2)⟩, fun _ => ⟨_, ((hp.get 2 rfl).less hle2)⟩, trivial⟩ fun hS => ?_)
                refine v_all [6] (by kernel_rfl) rfl ?_
                refine List.forall_mem_cons.2 ⟨?_, fun _ h => absurd h (by simp)⟩
                ·
                  refine h_op rfl ?_
                  refine s_store (wk0 rfl) rfl hE hp rfl rfl rfl 0 rfl varty24.size_ rfl (allOne_mem ⟨rfl, rfl, rfl, rfl, (RoSl.one (RoSl.mono hp0_kids hle2)), trivial⟩) [(.int .i64 p0.kind), (.string p0.text), (.int .i64 p0.at_), (.int .i64 p0.fin), vp0_kids] rfl ?_
                  intro w hp
                  have hp : Hp Z ρ2 (Pt b5 (.cells #[(.int .i64 p0.kind), (.string p0.text), (.int .i64 p0.at_), (.int .i64 p0.fin), vp0_kids] 24 (0, 0)) :: _ :: _ :: L) w := hp
                  refine s_nil (and_with ⟨fun _ => ⟨_, (hp.less hle2)⟩, fun _ => ⟨_, ((hp.get 2 rfl).less hle2)⟩, trivial⟩ fun hS => ?_)
                  exact v_done (by kernel_rfl) ⟨ρ2, _, _, _, hle2, hr4_kids, hE.cut ⟨rfl, rfl, rfl, rfl, rfl, trivial⟩, hp⟩
          ·
            refine h_op rfl ?_
            refine s_new (wk0 rfl) rfl rfl hE hp rfl [(.int .i64 0), (.string ByteArray.empty), (.int .i64 0), (.int .i64 0), (.slice none 0 0)] (fun w => by simp [Instr.alloc, go_sem] <;> rfl) ?_
            intro a w b6 hE hp
            have hp : Hp Z ρ2 (Pt b6 (.cells #[(.int .i64 0), (.string ByteArray.empty), (.int .i64 0), (.int .i64 0), (.slice none 0 0)] 24 (0, 0)) :: _ :: L) w := hp
            refine s_nil (and_with ⟨fun _ => ⟨_, (hp.less hle2)⟩, fun _ => ⟨_, ((hp.get 1 rfl).less hle2)⟩, trivial⟩ fun hS => ?_)
            refine v_all [3] (by kernel_rfl) rfl ?_
            refine List.forall_mem_cons.2 ⟨?_, fun _ h => absurd h (by simp)⟩
            ·
              refine h_op rfl ?_
              refine s_new (wk0 rfl) rfl rfl hE hp rfl [(.int .i64 0), (.string ByteArray.empty), (.int .i64 0), (.int .i64 0), (.slice none 0 0)] (fun w => by simp [Instr.alloc, go_sem] <;> rfl) ?_
              intro a w b7 hE hp
              have hp : Hp Z ρ2 (Pt b7 (.cells #[(.int .i64 0), (.string ByteArray.empty), (.int .i64 0), (.int .i64 0), (.slice none 0 0)] 24 (0, 0)) :: _ :: _ :: L) w := hp
              refine s_nil (and_with ⟨fun _ => ⟨_, (hp.less hle2)⟩, fun _ => ⟨_, ((hp.get 2 rfl).less hle2)⟩, trivial⟩ fun hS => ?_)
              refine v_all [5] (by kernel_rfl) rfl ?_
              refine List.forall_mem_cons.2 ⟨?_, fun _ h => absurd h (by simp)⟩
              ·
                refine h_op rfl ?_
                refine s_store (wk0 rfl) rfl hE hp rfl rfl rfl 0 rfl varty24.size_ rfl (allOne_mem ⟨rfl, rfl, rfl, rfl, (RoSl.one hr4_kids), trivial⟩) [(.int .i64 x6.kind), (.string x6.text), (.int .i64 x6.at_), (.int .i64 x6.fin), vr4_kids] rfl ?_
                intro w hp
                have hp : Hp Z ρ2 (Pt b7 (.cells #[(.int .i64 x6.kind), (.string x6.text), (.int .i64 x6.at_), (.int .i64 x6.fin), vr4_kids] 24 (0, 0)) :: _ :: _ :: L) w := hp
                refine s_nil (and_with ⟨fun _ => ⟨_, (hp.less hle2)⟩, fun _ => ⟨_, ((hp.get 2 rfl).less hle2)⟩, trivial⟩ fun hS => ?_)
                refine v_all [6] (by kernel_rfl) rfl ?_
                refine List.forall_mem_cons.2 ⟨?_, fun _ h => absurd h (by simp)⟩
                ·
                  refine h_op rfl ?_
                  refine s_store (wk0 rfl) rfl hE hp rfl rfl rfl 1 rfl varty24.size_ rfl (allOne_mem ⟨rfl, rfl, rfl, rfl, (RoSl.one (RoSl.mono hp0_kids hle2)), trivial⟩) [(.int .i64 p0.kind), (.string p0.text), (.int .i64 p0.at_), (.int .i64 p0.fin), vp0_kids] rfl ?_
                  intro w hp
                  have hp : Hp Z ρ2 (_ :: Pt b6 (.cells #[(.int .i64 p0.kind), (.string p0.text), (.int .i64 p0.at_), (.int .i64 p0.fin), vp0_kids] 24 (0, 0)) :: _ :: L) w := hp
                  refine s_nil (and_with ⟨fun _ => ⟨_, (hp.less hle2)⟩, fun _ => ⟨_, ((hp.get 2 rfl).less hle2)⟩, trivial⟩ fun hS => ?_)
                  exact v_done (by kernel_rfl) ⟨ρ2, _, _, _, hle2, hr4_kids, hE.cut ⟨rfl, rfl, rfl, rfl, rfl, trivial⟩, (((hp.get 2 rfl).get 1 rfl).get 2 rfl)⟩
        ·
          refine h_op rfl ?_
          refine s_new (wk0 rfl) rfl rfl hE hp rfl [(.int .i64 0), (.string ByteArray.empty), (.int .i64 0), (.int .i64 0), (.slice none 0 0)] (fun w => by simp [Instr.alloc, go_sem] <;> rfl) ?_
          intro a w b8 hE hp
          have hp : Hp Z ρ (Pt b8 (.cells #[(.int .i64 0), (.string ByteArray.empty), (.int .i64 0), (.int .i64 0), (.slice none 0 0)] 24 (0, 0)) :: _ :: L) w := hp
          refine s_nil (and_with ⟨fun _ => ⟨_, hp⟩, fun _ => ⟨_, (hp.get 1 rfl)⟩, trivial⟩ fun hS => ?_)
          refine v_all [1, 4] (by kernel_rfl) rfl ?_
          refine List.forall_mem_cons.2 ⟨?_, List.forall_mem_cons.2 ⟨?_, fun _ h => absurd h (by simp)⟩⟩
          ·
            refine h_op rfl ?_
            refine s_call (wk0 rfl) rfl rfl hE rfl [(.int .i64 x5)] ⟨rfl, trivial⟩ ent25 (c_assessorlaw37_wide x5 hp x6 ex6) Ret.ret ?_
            intro v a w hR hE
            obtain ⟨ρ3, vr5_kids, hle3, rfl, hr5_kids, hp⟩ := Ret.of hR
            have hp : Hp Z ρ3 (_ :: _ :: L) w := hp
            refine s_nil (and_with ⟨fun _ => ⟨_, (hp.less hle3)⟩, fun _ => ⟨_, ((hp.get 1 rfl).less hle3)⟩, trivial⟩ fun hS => ?_)
            refine v_all [4] (by kernel_rfl) rfl ?_
            refine List.forall_mem_cons.2 ⟨?_, fun _ h => absurd h (by simp)⟩
            ·
              refine h_op rfl ?_
              refine s_new (wk0 rfl) rfl rfl hE hp rfl [(.int .i64 0), (.string ByteArray.empty), (.int .i64 0), (.int .i64 0), (.slice none 0 0)] (fun w => by simp [Instr.alloc, go_sem] <;> rfl) ?_
              intro a w b9 hE hp
              have hp : Hp Z ρ3 (Pt b9 (.cells #[(.int .i64 0), (.string ByteArray.empty), (.int .i64 0), (.int .i64 0), (.slice none 0 0)] 24 (0, 0)) :: _ :: _ :: L) w := hp
              refine s_nil (and_with ⟨fun _ => ⟨_, (hp.less hle3)⟩, fun _ => ⟨_, ((hp.get 2 rfl).less hle3)⟩, trivial⟩ fun hS => ?_)
              refine v_all [5] (by kernel_rfl) rfl ?_
              refine List.forall_mem_cons.2 ⟨?_, fun _ h => absurd h (by simp)⟩
              ·
                refine h_op rfl ?_
                refine s_store (wk0 rfl) rfl hE hp rfl rfl rfl 1 rfl varty24.size_ rfl (allOne_mem ⟨rfl, rfl, rfl, rfl, (RoSl.one hr5_kids), trivial⟩) [(.int .i64 x6.kind), (.string x6.text), (.int .i64 x6.at_), (.int .i64 x6.fin), vr5_kids] rfl ?_
                intro w hp
                have hp : Hp Z ρ3 (_ :: Pt b8 (.cells #[(.int .i64 x6.kind), (.string x6.text), (.int .i64 x6.at_), (.int .i64 x6.fin), vr5_kids] 24 (0, 0)) :: _ :: L) w := hp
                refine s_nil (and_with ⟨fun _ => ⟨_, (hp.less hle3)⟩, fun _ => ⟨_, ((hp.get 2 rfl).less hle3)⟩, trivial⟩ fun hS => ?_)
                refine v_all [6] (by kernel_rfl) rfl ?_
                refine List.forall_mem_cons.2 ⟨?_, fun _ h => absurd h (by simp)⟩
                ·
                  refine h_op rfl ?_
                  refine s_store (wk0 rfl) rfl hE hp rfl rfl rfl 0 rfl varty24.size_ rfl (allOne_mem ⟨rfl, rfl, rfl, rfl, (RoSl.one (RoSl.mono hp0_kids hle3)), trivial⟩) [(.int .i64 p0.kind), (.string p0.text), (.int .i64 p0.at_), (.int .i64 p0.fin), vp0_kids] rfl ?_
                  intro w hp
                  have hp : Hp Z ρ3 (Pt b9 (.cells #[(.int .i64 p0.kind), (.string p0.text), (.int .i64 p0.at_), (.int .i64 p0.fin), vp0_kids] 24 (0, 0)) :: _ :: _ :: L) w := hp
                  refine s_nil (and_with ⟨fun _ => ⟨_, (hp.less hle3)⟩, fun _ => ⟨_, ((hp.get 2 rfl).less hle3)⟩, trivial⟩ fun hS => ?_)
                  exact v_done (by kernel_rfl) ⟨ρ3, _, _, _, hle3, hr5_kids, hE.cut ⟨rfl, rfl, rfl, rfl, rfl, trivial⟩, hp⟩
          ·
            refine h_op rfl ?_
            refine s_new (wk0 rfl) rfl rfl hE hp rfl [(.int .i64 0), (.string ByteArray.empty), (.int .i64 0), (.int .i64 0), (.slice none 0 0)] (fun w => by simp [Instr.alloc, go_sem] <;> rfl) ?_
            intro a w b10 hE hp
            have hp : Hp Z ρ (Pt b10 (.cells #[(.int .i64 0), (.string ByteArray.empty), (.int .i64 0), (.int .i64 0), (.slice none 0 0)] 24 (0, 0)) :: _ :: _ :: L) w := hp
            refine s_nil (and_with ⟨fun _ => ⟨_, hp⟩, fun _ => ⟨_, (hp.get 2 rfl)⟩, trivial⟩ fun hS => ?_)
            refine v_all [1] (by kernel_rfl) rfl ?_
            refine List.forall_mem_cons.2 ⟨?_, fun _ h => absurd h (by simp)⟩
            ·
              refine h_op rfl ?_
              refine s_call (wk0 rfl) rfl rfl hE rfl [(.int .i64 x5)] ⟨rfl, trivial⟩ ent25 (c_assessorlaw37_wide x5 hp x6 ex6) Ret.ret ?_
              intro v a w hR hE
              obtain ⟨ρ4, vr6_kids, hle4, rfl, hr6_kids, hp⟩ := Ret.of hR
              have hp : Hp Z ρ4 (_ :: _ :: _ :: L) w := hp
              refine s_nil (and_with ⟨fun _ => ⟨_, (hp.less hle4)⟩, fun _ => ⟨_, ((hp.get 2 rfl).less hle4)⟩, trivial⟩ fun hS => ?_)
              refine v_all [5] (by kernel_rfl) rfl ?_
              refine List.forall_mem_cons.2 ⟨?_, fun _ h => absurd h (by simp)⟩
              ·
                refine h_op rfl ?_
                refine s_store (wk0 rfl) rfl hE hp rfl rfl rfl 1 rfl varty24.size_ rfl (allOne_mem ⟨rfl, rfl, rfl, rfl, (RoSl.one hr6_kids), trivial⟩) [(.int .i64 x6.kind), (.string x6.text), (.int .i64 x6.at_), (.int .i64 x6.fin), vr6_kids] rfl ?_
                intro w hp
                have hp : Hp Z ρ4 (_ :: Pt b8 (.cells #[(.int .i64 x6.kind), (.string x6.text), (.int .i64 x6.at_), (.int .i64 x6.fin), vr6_kids] 24 (0, 0)) :: _ :: L) w := hp
                refine s_nil (and_with ⟨fun _ => ⟨_, (hp.less hle4)⟩, fun _ => ⟨_, ((hp.get 2 rfl).less hle4)⟩, trivial⟩ fun hS => ?_)
                refine v_all [6] (by kernel_rfl) rfl ?_
                refine List.forall_mem_cons.2 ⟨?_, fun _ h => absurd h (by simp)⟩
                ·
                  refine h_op rfl ?_
                  refine s_store (wk0 rfl) rfl hE hp rfl rfl rfl 0 rfl varty24.size_ rfl (allOne_mem ⟨rfl, rfl, rfl, rfl, (RoSl.one (RoSl.mono hp0_kids hle4)), trivial⟩) [(.int .i64 p0.kind), (.string p0.text), (.int .i64 p0.at_), (.int .i64 p0.fin), vp0_kids] rfl ?_
                  intro w hp
                  have hp : Hp Z ρ4 (Pt b10 (.cells #[(.int .i64 p0.kind), (.string p0.text), (.int .i64 p0.at_), (.int .i64 p0.fin), vp0_kids] 24 (0, 0)) :: _ :: _ :: L) w := hp
                  refine s_nil (and_with ⟨fun _ => ⟨_, (hp.less hle4)⟩, fun _ => ⟨_, ((hp.get 2 rfl).less hle4)⟩, trivial⟩ fun hS => ?_)
                  exact v_done (by kernel_rfl) ⟨ρ4, _, _, _, hle4, hr6_kids, hE.cut ⟨rfl, rfl, rfl, rfl, rfl, trivial⟩, hp⟩
        ·
          refine h_op rfl ?_
          refine s_new (wk0 rfl) rfl rfl hE hp rfl [(.int .i64 0), (.string ByteArray.empty), (.int .i64 0), (.int .i64 0), (.slice none 0 0)] (fun w => by simp [Instr.alloc, go_sem] <;> rfl) ?_
          intro a w b11 hE hp
          have hp : Hp Z ρ (Pt b11 (.cells #[(.int .i64 0), (.string ByteArray.empty), (.int .i64 0), (.int .i64 0), (.slice none 0 0)] 24 (0, 0)) :: _ :: L) w := hp
          refine s_nil (and_with ⟨fun _ => ⟨_, hp⟩, fun _ => ⟨_, (hp.get 1 rfl)⟩, trivial⟩ fun hS => ?_)
          refine v_all [1, 3] (by kernel_rfl) rfl ?_
          refine List.forall_mem_cons.2 ⟨?_, List.forall_mem_cons.2 ⟨?_, fun _ h => absurd h (by simp)⟩⟩
          ·
            refine h_op rfl ?_
            refine s_call (wk0 rfl) rfl rfl hE rfl [(.int .i64 x5)] ⟨rfl, trivial⟩ ent25 (c_assessorlaw37_wide x5 hp x6 ex6) Ret.ret ?_
            intro v a w hR hE
            obtain ⟨ρ5, vr7_kids, hle5, rfl, hr7_kids, hp⟩ := Ret.of hR
            have hp : Hp Z ρ5 (_ :: _ :: L) w := hp
            refine s_nil (and_with ⟨fun _ => ⟨_, (hp.less hle5)⟩, fun _ => ⟨_, ((hp.get 1 rfl).less hle5)⟩, trivial⟩ fun hS => ?_)
            refine v_all [3] (by kernel_rfl) rfl ?_
            refine List.forall_mem_cons.2 ⟨?_, fun _ h => absurd h (by simp)⟩
            ·
              refine h_op rfl ?_
              refine s_new (wk0 rfl) rfl rfl hE hp rfl [(.int .i64 0), (.string ByteArray.empty), (.int .i64 0), (.int .i64 0), (.slice none 0 0)] (fun w => by simp [Instr.alloc, go_sem] <;> rfl) ?_
              intro a w b12 hE hp
              have hp : Hp Z ρ5 (Pt b12 (.cells #[(.int .i64 0), (.string ByteArray.empty), (.int .i64 0), (.int .i64 0), (.slice none 0 0)] 24 (0, 0)) :: _ :: _ :: L) w := hp
              refine s_nil (and_with ⟨fun _ => ⟨_, (hp.less hle5)⟩, fun _ => ⟨_, ((hp.get 2 rfl).less hle5)⟩, trivial⟩ fun hS => ?_)
              refine v_all [5] (by kernel_rfl) rfl ?_
              refine List.forall_mem_cons.2 ⟨?_, fun _ h => absurd h (by simp)⟩
              ·
                refine h_op rfl ?_
                refine s_store (wk0 rfl) rfl hE hp rfl rfl rfl 0 rfl varty24.size_ rfl (allOne_mem ⟨rfl, rfl, rfl, rfl, (RoSl.one hr7_kids), trivial⟩) [(.int .i64 x6.kind), (.string x6.text), (.int .i64 x6.at_), (.int .i64 x6.fin), vr7_kids] rfl ?_
                intro w hp
                have hp : Hp Z ρ5 (Pt b12 (.cells #[(.int .i64 x6.kind), (.string x6.text), (.int .i64 x6.at_), (.int .i64 x6.fin), vr7_kids] 24 (0, 0)) :: _ :: _ :: L) w := hp
                refine s_nil (and_with ⟨fun _ => ⟨_, (hp.less hle5)⟩, fun _ => ⟨_, ((hp.get 2 rfl).less hle5)⟩, trivial⟩ fun hS => ?_)
                refine v_all [6] (by kernel_rfl) rfl ?_
                refine List.forall_mem_cons.2 ⟨?_, fun _ h => absurd h (by simp)⟩
                ·
                  refine h_op rfl ?_
                  refine s_store (wk0 rfl) rfl hE hp rfl rfl rfl 1 rfl varty24.size_ rfl (allOne_mem ⟨rfl, rfl, rfl, rfl, (RoSl.one (RoSl.mono hp0_kids hle5)), trivial⟩) [(.int .i64 p0.kind), (.string p0.text), (.int .i64 p0.at_), (.int .i64 p0.fin), vp0_kids] rfl ?_
                  intro w hp
                  have hp : Hp Z ρ5 (_ :: Pt b11 (.cells #[(.int .i64 p0.kind), (.string p0.text), (.int .i64 p0.at_), (.int .i64 p0.fin), vp0_kids] 24 (0, 0)) :: _ :: L) w := hp
                  refine s_nil (and_with ⟨fun _ => ⟨_, (hp.less hle5)⟩, fun _ => ⟨_, ((hp.get 2 rfl).less hle5)⟩, trivial⟩ fun hS => ?_)
                  exact v_done (by kernel_rfl) ⟨ρ5, _, _, _, hle5, hr7_kids, hE.cut ⟨rfl, rfl, rfl, rfl, rfl, trivial⟩, (((hp.get 2 rfl).get 1 rfl).get 2 rfl)⟩
          ·
            refine h_op rfl ?_
            refine s_new (wk0 rfl) rfl rfl hE hp rfl [(.int .i64 0), (.string ByteArray.empty), (.int .i64 0), (.int .i64 0), (.slice none 0 0)] (fun w => by simp [Instr.alloc, go_sem] <;> rfl) ?_
            intro a w b13 hE hp
            have hp : Hp Z ρ (Pt b13 (.cells #[(.int .i64 0), (.string ByteArray.empty), (.int .i64 0), (.int .i64 0), (.slice none 0 0)] 24 (0, 0)) :: _ :: _ :: L) w := hp
            refine s_nil (and_with ⟨fun _ => ⟨_, hp⟩, fun _ => ⟨_, (hp.get 2 rfl)⟩, trivial⟩ fun hS => ?_)
            refine v_all [1] (by kernel_rfl) rfl ?_
            refine List.forall_mem_cons.2 ⟨?_, fun _ h => absurd h (by simp)⟩
            ·
              refine h_op rfl ?_
              refine s_call (wk0 rfl) rfl rfl hE rfl [(.int .i64 x5)] ⟨rfl, trivial⟩ ent25 (c_assessorlaw37_wide x5 hp x6 ex6) Ret.ret ?_
              intro v a w hR hE
              obtain ⟨ρ6, vr8_kids, hle6, rfl, hr8_kids, hp⟩ := Ret.of hR
              have hp : Hp Z ρ6 (_ :: _ :: _ :: L) w := hp
              refine s_nil (and_with ⟨fun _ => ⟨_, (hp.less hle6)⟩, fun _ => ⟨_, ((hp.get 2 rfl).less hle6)⟩, trivial⟩ fun hS => ?_)
              refine v_all [5] (by kernel_rfl) rfl ?_
              refine List.forall_mem_cons.2 ⟨?_, fun _ h => absurd h (by simp)⟩
              ·
                refine h_op rfl ?_
                refine s_store (wk0 rfl) rfl hE hp rfl rfl rfl 0 rfl varty24.size_ rfl (allOne_mem ⟨rfl, rfl, rfl, rfl, (RoSl.one hr8_kids), trivial⟩) [(.int .i64 x6.kind), (.string x6.text), (.int .i64 x6.at_), (.int .i64 x6.fin), vr8_kids] rfl ?_
                intro w hp
                have hp : Hp Z ρ6 (Pt b13 (.cells #[(.int .i64 x6.kind), (.string x6.text), (.int .i64 x6.at_), (.int .i64 x6.fin), vr8_kids] 24 (0, 0)) :: _ :: _ :: L) w := hp
                refine s_nil (and_with ⟨fun _ => ⟨_, (hp.less hle6)⟩, fun _ => ⟨_, ((hp.get 2 rfl).less hle6)⟩, trivial⟩ fun hS => ?_)
                refine v_all [6] (by kernel_rfl) rfl ?_
                refine List.forall_mem_cons.2 ⟨?_, fun _ h => absurd h (by simp)⟩
                ·
                  refine h_op rfl ?_
                  refine s_store (wk0 rfl) rfl hE hp rfl rfl rfl 1 rfl varty24.size_ rfl (allOne_mem ⟨rfl, rfl, rfl, rfl, (RoSl.one (RoSl.mono hp0_kids hle6)), trivial⟩) [(.int .i64 p0.kind), (.string p0.text), (.int .i64 p0.at_), (.int .i64 p0.fin), vp0_kids] rfl ?_
                  intro w hp
                  have hp : Hp Z ρ6 (_ :: Pt b11 (.cells #[(.int .i64 p0.kind), (.string p0.text), (.int .i64 p0.at_), (.int .i64 p0.fin), vp0_kids] 24 (0, 0)) :: _ :: L) w := hp
                  refine s_nil (and_with ⟨fun _ => ⟨_, (hp.less hle6)⟩, fun _ => ⟨_, ((hp.get 2 rfl).less hle6)⟩, trivial⟩ fun hS => ?_)
                  exact v_done (by kernel_rfl) ⟨ρ6, _, _, _, hle6, hr8_kids, hE.cut ⟨rfl, rfl, rfl, rfl, rfl, trivial⟩, (((hp.get 2 rfl).get 1 rfl).get 2 rfl)⟩
      · rintro a w ⟨ρy1, y3, y2, yv1, hley1, yh1, hE, hp⟩
        refine k_seq ?_
        refine k_seq ?_
        refine k_region ?_
        refine s_val (wk0 rfl) rfl rfl hE hp (v := (.bool p2)) (ex_move rfl hE rfl) ?_
        intro a hE
        refine s_nil ?_
        obtain ⟨j1, hj1, hm⟩ := bnd hm
        refine k_cut (fun a w => ∃ (ρ7 : PH) (vc3_4 : Value) (vc2_4 : Value), ρy1.le ρ7 ∧ RoSl ρ7 vc3_4 j1.2.2.2.2.1 ∧ RoSl ρ7 vc2_4 j1.2.2.2.2.2.2.2.2.2 ∧ Env 132 [(2, (.bool p2)), (3, (.pointer (some ⟨b1, 0, none⟩))), (7, (.int .i64 x5)), (8, (.pointer (some ⟨y2, 0, none⟩))), (9, (.pointer (some ⟨y3, 0, none⟩)))] a ∧ Hp Z ρ7 (Pt y3 (.cells #[(.int .i64 j1.1), (.string j1.2.1), (.int .i64 j1.2.2.1), (.int .i64 j1.2.2.2.1), vc3_4] 24 (0, 0)) :: Pt y2 (.cells #[(.int .i64 j1.2.2.2.2.2.1), (.string j1.2.2.2.2.2.2.1), (.int .i64 j1.2.2.2.2.2.2.2.1), (.int .i64 j1.2.2.2.2.2.2.2.2.1), vc2_4] 24 (0, 0)) :: Pt b1 (.cells #[(.int .i64 p0.kind), (.string p0.text), (.int .i64 p0.at_), (.int .i64 p0.fin), vp0_kids] 24 (0, 0)) :: L) w) ?_ ?_
        ·
          refine k_if hE rfl (fun hb3 => ?_) (fun hb3 => ?_)
          · replace hj1 := (it hb3).symm.trans hj1
            obtain ⟨x7, ex7, hj1⟩ := bnd hj1
            have hp := hp.drew
            refine k_heldV ([([], At0 Z ρy1), ([], At1 Z ρy1 (Pt b1 (.cells #[(.int .i64 p0.kind), (.string p0.text), (.int .i64 p0.at_), (.int .i64 p0.fin), vp0_kids] 24 (0, 0))))] : Facts) (fun a w => ∃ ρy2 : PH, ∃ yv2 : Value, ρy1.le ρy2 ∧ RoSl ρy2 yv2 x7.kids ∧ Env 132 [(2, (.bool p2)), (3, (.pointer (some ⟨b1, 0, none⟩))), (7, (.int .i64 x5)), (8, (.pointer (some ⟨y2, 0, none⟩))), (9, (.pointer (some ⟨y3, 0, none⟩)))] a ∧ Hp Z ρy2 (Pt y3 (.cells #[(.int .i64 x7.kind), (.string x7.text), (.int .i64 x7.at_), (.int .i64 x7.fin), yv2] 24 (0, 0)) :: Pt y2 (.cells #[(.int .i64 p0.kind), (.string p0.text), (.int .i64 p0.at_), (.int .i64 p0.fin), vp0_kids] 24 (0, 0)) :: Pt b1 (.cells #[(.int .i64 p0.kind), (.string p0.text), (.int .i64 p0.at_), (.int .i64 p0.fin), vp0_kids] 24 (0, 0)) :: L) w) (by kernel_rfl) ⟨fun _ => ⟨_, hp⟩, fun _ => ⟨_, (hp.get 2 rfl)⟩, trivial⟩ (fun hS => ?_) ?_
            ·
              generalize w.drew = w at hS hp ⊢
              refine v_take1 0 1 (wk0 rfl) rfl rfl rfl hE (by kernel_rfl) (by kernel_rfl) (by kernel_rfl) rfl (by kernel_rfl) hS (v := (.agg #[(.int .i64 p0.kind), (.string p0.text), (.int .i64 p0.at_), (.int .i64 p0.fin), vp0_kids])) (fun _ => ex_load rfl hE rfl (fun w hw => run_ldN (cs := [(.int .i64 p0.kind), (.string p0.text), (.int .i64 p0.at_), (.int .i64 p0.fin), vp0_kids]) varty24 (Hp.cN 0 rfl 0 _ (sub_all rfl) w hw))) ?_
              intro a hE hS
              refine v_take0 1 (wk0 rfl) rfl rfl rfl hE (by kernel_rfl) (by kernel_rfl) (by kernel_rfl) rfl (by kernel_rfl) hS (v := (.int .i64 x5)) (fun _ => ex_move rfl hE rfl) ?_
              intro a hE hS
              refine v_all [2] (by kernel_rfl) rfl ?_
              refine List.forall_mem_cons.2 ⟨?_, fun _ h => absurd h (by simp)⟩
              ·
                refine h_op rfl ?_
                refine s_call (wk0 rfl) rfl rfl hE rfl [(.int .i64 x5)] ⟨rfl, trivial⟩ ent25 (c_assessorlaw37_wide x5 hp x7 ex7) Ret.ret ?_
                intro v a w hR hE
                obtain ⟨ρ9, vr10_kids, hle8, rfl, hr10_kids, hp⟩ := Ret.of hR
                have hp : Hp Z ρ9 (Pt y3 (.cells #[(.int .i64 p0.kind), (.string p0.text), (.int .i64 p0.at_), (.int .i64 p0.fin), vp0_kids] 24 (0, 0)) :: Pt y2 (.cells #[(.int .i64 x6.kind), (.string x6.text), (.int .i64 x6.at_), (.int .i64 x6.fin), yv1] 24 (0, 0)) :: _ :: L) w := hp
                refine s_nil (and_with ⟨fun _ => ⟨_, (hp.less hle8)⟩, fun _ => ⟨_, ((hp.get 2 rfl).less hle8)⟩, trivial⟩ fun hS => ?_)
                refine v_all [3] (by kernel_rfl) rfl ?_
                refine List.forall_mem_cons.2 ⟨?_, fun _ h => absurd h (by simp)⟩
                ·
                  refine h_op rfl ?_
                  refine s_store (wk0 rfl) rfl hE hp rfl rfl rfl 1 rfl varty24.size_ rfl (allOne_mem ⟨rfl, rfl, rfl, rfl, (RoSl.one (RoSl.mono (RoSl.mono hp0_kids hley1) hle8)), trivial⟩) [(.int .i64 p0.kind), (.string p0.text), (.int .i64 p0.at_), (.int .i64 p0.fin), vp0_kids] rfl ?_
                  intro w hp
                  have hp : Hp Z ρ9 (_ :: Pt y2 (.cells #[(.int .i64 p0.kind), (.string p0.text), (.int .i64 p0.at_), (.int .i64 p0.fin), vp0_kids] 24 (0, 0)) :: _ :: L) w := hp
                  refine s_nil (and_with ⟨fun _ => ⟨_, (hp.less hle8)⟩, fun _ => ⟨_, ((hp.get 2 rfl).less hle8)⟩, trivial⟩ fun hS => ?_)
                  refine v_all [4] (by kernel_rfl) rfl ?_
                  refine List.forall_mem_cons.2 ⟨?_, fun _ h => absurd h (by simp)⟩
                  ·
                    refine h_op rfl ?_
                    refine s_store (wk0 rfl) rfl hE hp rfl rfl rfl 0 rfl varty24.size_ rfl (allOne_mem ⟨rfl, rfl, rfl, rfl, (RoSl.one hr10_kids), trivial⟩) [(.int .i64 x7.kind), (.string x7.text), (.int .i64 x7.at_), (.int .i64 x7.fin), vr10_kids] rfl ?_
                    intro w hp
                    have hp : Hp Z ρ9 (Pt y3 (.cells #[(.int .i64 x7.kind), (.string x7.text), (.int .i64 x7.at_), (.int .i64 x7.fin), vr10_kids] 24 (0, 0)) :: _ :: _ :: L) w := hp
                    refine s_nil (and_with ⟨fun _ => ⟨_, (hp.less hle8)⟩, fun _ => ⟨_, ((hp.get 2 rfl).less hle8)⟩, trivial⟩ fun hS => ?_)
                    exact v_done (by kernel_rfl) ⟨ρ9, _, hle8, hr10_kids, hE.cut ⟨rfl, rfl, rfl, rfl, rfl, trivial⟩, hp⟩
            · rintro a w ⟨ρy2, yv2, hley2, yh2, hE, hp⟩
              obtain rfl := Option.some.inj hj1
              exact ⟨ρy2, _, _, hley2, yh2, (RoSl.mono (RoSl.mono hp0_kids hley1) hley2), hE.cut ⟨rfl, rfl, rfl, rfl, rfl, trivial⟩, hp⟩
          · replace hj1 := (ie hb3).symm.trans hj1
            refine k_skip ?_
            obtain rfl := Option.some.inj hj1
            exact ⟨ρy1, _, _, (PH.le.rf _), (RoSl.mono hp0_kids hley1), yh1, hE.cut ⟨rfl, rfl, rfl, rfl, rfl, trivial⟩, hp⟩
        · rintro a w ⟨ρ7, vc3_4, vc2_4, hlg7, hc3_4, hc2_4, hE, hp⟩
          refine k_seq ?_
          refine k_region ?_
          refine s_val (wk0 rfl) rfl rfl hE hp (v := (.agg #[(.int .i64 j1.2.2.2.2.2.1), (.string j1.2.2.2.2.2.2.1), (.int .i64 j1.2.2.2.2.2.2.2.1), (.int .i64 j1.2.2.2.2.2.2.2.2.1), vc2_4])) (ex_load rfl hE rfl (fun w hw => run_ldN (cs := [(.int .i64 j1.2.2.2.2.2.1), (.string j1.2.2.2.2.2.2.1), (.int .i64 j1.2.2.2.2.2.2.2.1), (.int .i64 j1.2.2.2.2.2.2.2.2.1), vc2_4]) varty24 (Hp.cN 1 rfl 0 _ (sub_all rfl) w hw))) ?_
          intro a hE
          refine s_val (wk0 rfl) rfl rfl hE hp (v := (.agg #[(.int .i64 j1.1), (.string j1.2.1), (.int .i64 j1.2.2.1), (.int .i64 j1.2.2.2.1), vc3_4])) (ex_load rfl hE rfl (fun w hw => run_ldN (cs := [(.int .i64 j1.1), (.string j1.2.1), (.int .i64 j1.2.2.1), (.int .i64 j1.2.2.2.1), vc3_4]) varty24 (Hp.cN 0 rfl 0 _ (sub_all rfl) w hw))) ?_
          intro a hE
          obtain ⟨x8, ex8, hm⟩ := bnd hm
          refine s_call (wk0 rfl) rfl rfl hE rfl [(.agg #[(.int .i64 j1.2.2.2.2.2.1), (.string j1.2.2.2.2.2.2.1), (.int .i64 j1.2.2.2.2.2.2.2.1), (.int .i64 j1.2.2.2.2.2.2.2.2.1), vc2_4]), (.agg #[(.int .i64 j1.1), (.string j1.2.1), (.int .i64 j1.2.2.1), (.int .i64 j1.2.2.2.1), vc3_4])] ⟨rfl, rfl, trivial⟩ ent12 (c_distance_Distance (Node.mk j1.2.2.2.2.2.1 j1.2.2.2.2.2.2.1 j1.2.2.2.2.2.2.2.1 j1.2.2.2.2.2.2.2.2.1 j1.2.2.2.2.2.2.2.2.2) vc2_4 hc2_4 (Node.mk j1.1 j1.2.1 j1.2.2.1 j1.2.2.2.1 j1.2.2.2.2.1) vc3_4 hc3_4 hp x8 ex8) Ret.ret ?_
          intro v a w hR hE
          obtain ⟨rfl, hp⟩ := Ret.of hR
          have hp : Hp Z ρ7 (Pt y3 (.cells #[(.int .i64 j1.1), (.string j1.2.1), (.int .i64 j1.2.2.1), (.int .i64 j1.2.2.2.1), vc3_4] 24 (0, 0)) :: Pt y2 (.cells #[(.int .i64 j1.2.2.2.2.2.1), (.string j1.2.2.2.2.2.2.1), (.int .i64 j1.2.2.2.2.2.2.2.1), (.int .i64 j1.2.2.2.2.2.2.2.2.1), vc2_4] 24 (0, 0)) :: _ :: L) w := hp
          refine s_val (wk0 rfl) rfl rfl hE hp (v := (.tuple #[(.int .i64 x8.1), (.int .i64 x8.2)])) (ex_move rfl hE rfl) ?_
          intro a hE
          refine s_val (wk0 rfl) rfl rfl hE hp (v := (.int .i64 x8.1)) (ex_extract rfl hE rfl rfl) ?_
          intro a hE
          refine s_val (wk0 rfl) rfl rfl hE hp (v := (.int .i64 x8.2)) (ex_extract rfl hE rfl rfl) ?_
          intro a hE
          refine s_val (wk0 rfl) rfl rfl hE hp (v := (.int .i64 x8.1)) (ex_asn rfl hE rfl) ?_
          intro a hE
          refine s_val (wk0 rfl) rfl rfl hE hp (v := (.int .i64 x8.2)) (ex_asn rfl hE rfl) ?_
          intro a hE
          refine s_nil ?_
          refine k_seq ?_
          refine k_region ?_
          refine s_val (wk0 rfl) rfl rfl hE hp (v := (.agg #[(.int .i64 j1.2.2.2.2.2.1), (.string j1.2.2.2.2.2.2.1), (.int .i64 j1.2.2.2.2.2.2.2.1), (.int .i64 j1.2.2.2.2.2.2.2.2.1), vc2_4])) (ex_load rfl hE rfl (fun w hw => run_ldN (cs := [(.int .i64 j1.2.2.2.2.2.1), (.string j1.2.2.2.2.2.2.1), (.int .i64 j1.2.2.2.2.2.2.2.1), (.int .i64 j1.2.2.2.2.2.2.2.2.1), vc2_4]) varty24 (Hp.cN 1 rfl 0 _ (sub_all rfl) w hw))) ?_
          intro a hE
          refine s_val (wk0 rfl) rfl rfl hE hp (v := (.agg #[(.int .i64 j1.1), (.string j1.2.1), (.int .i64 j1.2.2.1), (.int .i64 j1.2.2.2.1), vc3_4])) (ex_load rfl hE rfl (fun w hw => run_ldN (cs := [(.int .i64 j1.1), (.string j1.2.1), (.int .i64 j1.2.2.1), (.int .i64 j1.2.2.2.1), vc3_4]) varty24 (Hp.cN 0 rfl 0 _ (sub_all rfl) w hw))) ?_
          intro a hE
          obtain ⟨x9, ex9, hm⟩ := bnd hm
          refine s_call (wk0 rfl) rfl rfl hE rfl [(.agg #[(.int .i64 j1.2.2.2.2.2.1), (.string j1.2.2.2.2.2.2.1), (.int .i64 j1.2.2.2.2.2.2.2.1), (.int .i64 j1.2.2.2.2.2.2.2.2.1), vc2_4]), (.agg #[(.int .i64 j1.1), (.string j1.2.1), (.int .i64 j1.2.2.1), (.int .i64 j1.2.2.2.1), vc3_4]), (.int .i64 500)] ⟨rfl, rfl, rfl, trivial⟩ ent19 (c_distance_Within (Node.mk j1.2.2.2.2.2.1 j1.2.2.2.2.2.2.1 j1.2.2.2.2.2.2.2.1 j1.2.2.2.2.2.2.2.2.1 j1.2.2.2.2.2.2.2.2.2) vc2_4 hc2_4 (Node.mk j1.1 j1.2.1 j1.2.2.1 j1.2.2.2.1 j1.2.2.2.2.1) vc3_4 hc3_4 500 hp x9 ex9) Ret.ret ?_
          intro v a w hR hE
          obtain ⟨rfl, hp⟩ := Ret.of hR
          have hp : Hp Z ρ7 (_ :: _ :: _ :: L) w := hp
          refine s_val (wk0 rfl) rfl rfl hE hp (v := (.tuple #[(.bool x9.1), (.int .i64 x9.2)])) (ex_move rfl hE rfl) ?_
          intro a hE
          refine s_val (wk0 rfl) rfl rfl hE hp (v := (.bool x9.1)) (ex_extract rfl hE rfl rfl) ?_
          intro a hE
          refine s_val (wk0 rfl) rfl rfl hE hp (v := (.int .i64 x9.2)) (ex_extract rfl hE rfl rfl) ?_
          intro a hE
          refine s_val (wk0 rfl) rfl rfl hE hp (v := (.bool x9.1)) (ex_asn rfl hE rfl) ?_
          intro a hE
          refine s_val (wk0 rfl) rfl rfl hE hp (v := (.int .i64 x9.2)) (ex_asn rfl hE rfl) ?_
          intro a hE
          refine s_nil ?_
          refine k_seq ?_
          refine k_region ?_
          refine s_val (wk0 rfl) rfl rfl hE hp (v := (.agg #[(.int .i64 j1.2.2.2.2.2.1), (.string j1.2.2.2.2.2.2.1), (.int .i64 j1.2.2.2.2.2.2.2.1), (.int .i64 j1.2.2.2.2.2.2.2.2.1), vc2_4])) (ex_load rfl hE rfl (fun w hw => run_ldN (cs := [(.int .i64 j1.2.2.2.2.2.1), (.string j1.2.2.2.2.2.2.1), (.int .i64 j1.2.2.2.2.2.2.2.1), (.int .i64 j1.2.2.2.2.2.2.2.2.1), vc2_4]) varty24 (Hp.cN 1 rfl 0 _ (sub_all rfl) w hw))) ?_
          intro a hE
          refine s_val (wk0 rfl) rfl rfl hE hp (v := (.agg #[(.int .i64 j1.1), (.string j1.2.1), (.int .i64 j1.2.2.1), (.int .i64 j1.2.2.2.1), vc3_4])) (ex_load rfl hE rfl (fun w hw => run_ldN (cs := [(.int .i64 j1.1), (.string j1.2.1), (.int .i64 j1.2.2.1), (.int .i64 j1.2.2.2.1), vc3_4]) varty24 (Hp.cN 0 rfl 0 _ (sub_all rfl) w hw))) ?_
          intro a hE
          obtain ⟨x10, ex10, hm⟩ := bnd hm
          refine s_call (wk0 rfl) rfl rfl hE rfl [(.agg #[(.int .i64 j1.2.2.2.2.2.1), (.string j1.2.2.2.2.2.2.1), (.int .i64 j1.2.2.2.2.2.2.2.1), (.int .i64 j1.2.2.2.2.2.2.2.2.1), vc2_4]), (.agg #[(.int .i64 j1.1), (.string j1.2.1), (.int .i64 j1.2.2.1), (.int .i64 j1.2.2.2.1), vc3_4])] ⟨rfl, rfl, trivial⟩ ent13 (c_distance_Subtrees (Node.mk j1.2.2.2.2.2.1 j1.2.2.2.2.2.2.1 j1.2.2.2.2.2.2.2.1 j1.2.2.2.2.2.2.2.2.1 j1.2.2.2.2.2.2.2.2.2) vc2_4 hc2_4 (Node.mk j1.1 j1.2.1 j1.2.2.1 j1.2.2.2.1 j1.2.2.2.2.1) vc3_4 hc3_4 hp x10 ex10) Ret.ret ?_
          intro v a w hR hE
          obtain ⟨vr15, usr15, rfl, hp⟩ := Ret.of hR
          have hp : Hp Z ρ7 (TblA 34 3 vr15 usr15 (x10.1 : (List (List Int))) :: _ :: _ :: _ :: L) w := hp
          refine s_val (wk0 rfl) rfl rfl hE hp (v := (.tuple #[vr15, (.int .i64 x10.2)])) (ex_move rfl hE rfl) ?_
          intro a hE
          refine s_val (wk0 rfl) rfl rfl hE hp (v := vr15) (ex_extract rfl hE rfl rfl) ?_
          intro a hE
          refine s_val (wk0 rfl) rfl rfl hE hp (v := (.int .i64 x10.2)) (ex_extract rfl hE rfl rfl) ?_
          intro a hE
          refine s_val (wk0 rfl) rfl rfl hE hp (v := vr15) (ex_asn rfl hE rfl) ?_
          intro a hE
          refine s_val (wk0 rfl) rfl rfl hE hp (v := (.int .i64 x10.2)) (ex_asn rfl hE rfl) ?_
          intro a hE
          refine s_nil ?_
          have hE := hE.cut (E' := [(2, (.bool p2)), (3, (.pointer (some ⟨b1, 0, none⟩))), (7, (.int .i64 x5)), (8, (.pointer (some ⟨y2, 0, none⟩))), (9, (.pointer (some ⟨y3, 0, none⟩))), (11, (.int .i64 x8.2)), (13, (.int .i64 x9.2)), (15, (.int .i64 x10.2))]) ⟨rfl, rfl, rfl, rfl, rfl, rfl, rfl, rfl, trivial⟩
          refine k_seq ?_
          refine k_region ?_
          refine s_val (wk0 rfl) rfl rfl hE hp (v := (.agg #[(.int .i64 p0.kind), (.string p0.text), (.int .i64 p0.at_), (.int .i64 p0.fin), vp0_kids])) (ex_load rfl hE rfl (fun w hw => run_ldN (cs := [(.int .i64 p0.kind), (.string p0.text), (.int .i64 p0.at_), (.int .i64 p0.fin), vp0_kids]) varty24 (Hp.cN 3 rfl 0 _ (sub_all rfl) w hw))) ?_
          intro a hE
          refine s_val (wk0 rfl) rfl rfl hE hp (v := (.agg #[(.int .i64 j1.2.2.2.2.2.1), (.string j1.2.2.2.2.2.2.1), (.int .i64 j1.2.2.2.2.2.2.2.1), (.int .i64 j1.2.2.2.2.2.2.2.2.1), vc2_4])) (ex_load rfl hE rfl (fun w hw => run_ldN (cs := [(.int .i64 j1.2.2.2.2.2.1), (.string j1.2.2.2.2.2.2.1), (.int .i64 j1.2.2.2.2.2.2.2.1), (.int .i64 j1.2.2.2.2.2.2.2.2.1), vc2_4]) varty24 (Hp.cN 2 rfl 0 _ (sub_all rfl) w hw))) ?_
          intro a hE
          refine s_lit (wk0 rfl) rfl rfl hE hp rfl [(0, (.agg #[(.int .i64 p0.kind), (.string p0.text), (.int .i64 p0.at_), (.int .i64 p0.fin), vp0_kids])), (1, (.agg #[(.int .i64 j1.2.2.2.2.2.1), (.string j1.2.2.2.2.2.2.1), (.int .i64 j1.2.2.2.2.2.2.2.1), (.int .i64 j1.2.2.2.2.2.2.2.2.1), vc2_4]))] ⟨⟨rfl, rfl⟩, ⟨rfl, rfl⟩, trivial⟩ [(.int .i64 p0.kind), (.string p0.text), (.int .i64 p0.at_), (.int .i64 p0.fin), vp0_kids, (.int .i64 j1.2.2.2.2.2.1), (.string j1.2.2.2.2.2.2.1), (.int .i64 j1.2.2.2.2.2.2.2.1), (.int .i64 j1.2.2.2.2.2.2.2.2.1), vc2_4] 24 (fun w => by have hc0 := RoSl.cells (RoSl.mono (RoSl.mono hp0_kids hley1) hlg7); simp only [Value.cells] at hc0; have hc1 := RoSl.cells hc2_4; simp only [Value.cells] at hc1; simp [Instr.buildSlice, Instr.fill, Value.cells, hc0, hc1, go_sem]) ?_
          intro a w b14 hE hp
          have hp : Hp Z ρ7 (Pt b14 (.cells #[(.int .i64 p0.kind), (.string p0.text), (.int .i64 p0.at_), (.int .i64 p0.fin), vp0_kids, (.int .i64 j1.2.2.2.2.2.1), (.string j1.2.2.2.2.2.2.1), (.int .i64 j1.2.2.2.2.2.2.2.1), (.int .i64 j1.2.2.2.2.2.2.2.2.1), vc2_4] 24 (0, 0)) :: _ :: _ :: _ :: _ :: L) w := hp
          obtain ⟨k1, k1a, k1d, hp⟩ := (hp.get 0 rfl).lend
          have f1 : RoSl (ρ7.un k1) (.slice (some ⟨b14, 0, none⟩) 2 2) ([p0, (Node.mk j1.2.2.2.2.2.1 j1.2.2.2.2.2.2.1 j1.2.2.2.2.2.2.2.1 j1.2.2.2.2.2.2.2.2.1 j1.2.2.2.2.2.2.2.2.2)] : List Node) := RoSl.of_all (l := (([p0, (Node.mk j1.2.2.2.2.2.1 j1.2.2.2.2.2.2.1 j1.2.2.2.2.2.2.2.1 j1.2.2.2.2.2.2.2.2.1 j1.2.2.2.2.2.2.2.2.2)] : List Node))) k1d k1a ⟨_, _, rfl, (show NodeAt (ρ7.un k1) p0 [(.int .i64 p0.kind), (.string p0.text), (.int .i64 p0.at_), (.int .i64 p0.fin), vp0_kids] from NodeAt.shutv ((RoSl.mono (RoSl.mono (RoSl.mono hp0_kids hley1) hlg7) (PH.le_un _ k1)))), ⟨_, _, rfl, (show NodeAt (ρ7.un k1) (Node.mk j1.2.2.2.2.2.1 j1.2.2.2.2.2.2.1 j1.2.2.2.2.2.2.2.1 j1.2.2.2.2.2.2.2.2.1 j1.2.2.2.2.2.2.2.2.2) [(.int .i64 j1.2.2.2.2.2.1), (.string j1.2.2.2.2.2.2.1), (.int .i64 j1.2.2.2.2.2.2.2.1), (.int .i64 j1.2.2.2.2.2.2.2.2.1), vc2_4] from NodeAt.shut ((RoSl.mono hc2_4 (PH.le_un _ k1)))), rfl⟩⟩
          have hp : Hp Z (ρ7.un k1) (_ :: _ :: _ :: _ :: L) w := hp
          obtain ⟨x11, ex11, hm⟩ := bnd hm
          refine s_call (wk0 rfl) rfl rfl hE rfl [(.slice (some ⟨b14, 0, none⟩) 2 2)] ⟨rfl, trivial⟩ ent23 (c_distance_Matrix ([p0, (Node.mk j1.2.2.2.2.2.1 j1.2.2.2.2.2.2.1 j1.2.2.2.2.2.2.2.1 j1.2.2.2.2.2.2.2.2.1 j1.2.2.2.2.2.2.2.2.2)] : List Node) (.slice (some ⟨b14, 0, none⟩) 2 2) f1 hp x11 ex11) Ret.ret ?_
          intro v a w hR hE
          obtain ⟨vr17, usr17, rfl, hp⟩ := Ret.of hR
          have hp : Hp Z (ρ7.un k1) (TblA 34 3 vr17 usr17 (x11.1 : (List (List Int))) :: _ :: _ :: _ :: _ :: L) w := hp
          refine s_val (wk0 rfl) rfl rfl hE hp (v := (.tuple #[vr17, (.int .i64 x11.2)])) (ex_move rfl hE rfl) ?_
          intro a hE
          refine s_val (wk0 rfl) rfl rfl hE hp (v := vr17) (ex_extract rfl hE rfl rfl) ?_
          intro a hE
          refine s_val (wk0 rfl) rfl rfl hE hp (v := (.int .i64 x11.2)) (ex_extract rfl hE rfl rfl) ?_
          intro a hE
          refine s_val (wk0 rfl) rfl rfl hE hp (v := vr17) (ex_asn rfl hE rfl) ?_
          intro a hE
          refine s_val (wk0 rfl) rfl rfl hE hp (v := (.int .i64 x11.2)) (ex_asn rfl hE rfl) ?_
          intro a hE
          refine s_nil ?_
          refine k_seq ?_
          refine k_region ?_
          refine s_val (wk0 rfl) rfl rfl hE hp (v := (.agg #[(.int .i64 j1.2.2.2.2.2.1), (.string j1.2.2.2.2.2.2.1), (.int .i64 j1.2.2.2.2.2.2.2.1), (.int .i64 j1.2.2.2.2.2.2.2.2.1), vc2_4])) (ex_load rfl hE rfl (fun w hw => run_ldN (cs := [(.int .i64 j1.2.2.2.2.2.1), (.string j1.2.2.2.2.2.2.1), (.int .i64 j1.2.2.2.2.2.2.2.1), (.int .i64 j1.2.2.2.2.2.2.2.2.1), vc2_4]) varty24 (Hp.cN 3 rfl 0 _ (sub_all rfl) w hw))) ?_
          intro a hE
          refine s_val (wk0 rfl) rfl rfl hE hp (v := (.agg #[(.int .i64 j1.1), (.string j1.2.1), (.int .i64 j1.2.2.1), (.int .i64 j1.2.2.2.1), vc3_4])) (ex_load rfl hE rfl (fun w hw => run_ldN (cs := [(.int .i64 j1.1), (.string j1.2.1), (.int .i64 j1.2.2.1), (.int .i64 j1.2.2.2.1), vc3_4]) varty24 (Hp.cN 2 rfl 0 _ (sub_all rfl) w hw))) ?_
          intro a hE
          refine s_lit (wk0 rfl) rfl rfl hE hp rfl [(0, (.agg #[(.int .i64 j1.1), (.string j1.2.1), (.int .i64 j1.2.2.1), (.int .i64 j1.2.2.2.1), vc3_4]))] ⟨⟨rfl, rfl⟩, trivial⟩ [(.int .i64 j1.1), (.string j1.2.1), (.int .i64 j1.2.2.1), (.int .i64 j1.2.2.2.1), vc3_4] 24 (fun w => by have hc0 := RoSl.cells (RoSl.mono hc3_4 (PH.le_un _ k1)); simp only [Value.cells] at hc0; simp [Instr.buildSlice, Instr.fill, Value.cells, hc0, go_sem]) ?_
          intro a w b15 hE hp
          have hp : Hp Z (ρ7.un k1) (Pt b15 (.cells #[(.int .i64 j1.1), (.string j1.2.1), (.int .i64 j1.2.2.1), (.int .i64 j1.2.2.2.1), vc3_4] 24 (0, 0)) :: _ :: _ :: _ :: _ :: _ :: L) w := hp
          obtain ⟨k2, k2a, k2d, hp⟩ := (hp.get 0 rfl).lend
          have f2 : RoSl ((ρ7.un k1).un k2) (.slice (some ⟨b15, 0, none⟩) 1 1) ([(Node.mk j1.1 j1.2.1 j1.2.2.1 j1.2.2.2.1 j1.2.2.2.2.1)] : List Node) := RoSl.of_all (l := (([(Node.mk j1.1 j1.2.1 j1.2.2.1 j1.2.2.2.1 j1.2.2.2.2.1)] : List Node))) k2d k2a ⟨_, _, rfl, (show NodeAt ((ρ7.un k1).un k2) (Node.mk j1.1 j1.2.1 j1.2.2.1 j1.2.2.2.1 j1.2.2.2.2.1) [(.int .i64 j1.1), (.string j1.2.1), (.int .i64 j1.2.2.1), (.int .i64 j1.2.2.2.1), vc3_4] from NodeAt.shut ((RoSl.mono (RoSl.mono hc3_4 (PH.le_un _ k1)) (PH.le_un _ k2)))), rfl⟩
          have hp : Hp Z ((ρ7.un k1).un k2) (_ :: _ :: _ :: _ :: _ :: L) w := hp
          obtain ⟨x12, ex12, hm⟩ := bnd hm
          refine s_call (wk0 rfl) rfl rfl hE rfl [(.agg #[(.int .i64 j1.2.2.2.2.2.1), (.string j1.2.2.2.2.2.2.1), (.int .i64 j1.2.2.2.2.2.2.2.1), (.int .i64 j1.2.2.2.2.2.2.2.2.1), vc2_4]), (.slice (some ⟨b15, 0, none⟩) 1 1)] ⟨rfl, rfl, trivial⟩ ent24 (c_distance_Nearest (Node.mk j1.2.2.2.2.2.1 j1.2.2.2.2.2.2.1 j1.2.2.2.2.2.2.2.1 j1.2.2.2.2.2.2.2.2.1 j1.2.2.2.2.2.2.2.2.2) vc2_4 (RoSl.mono (RoSl.mono hc2_4 (PH.le_un _ k1)) (PH.le_un _ k2)) ([(Node.mk j1.1 j1.2.1 j1.2.2.1 j1.2.2.2.1 j1.2.2.2.2.1)] : List Node) (.slice (some ⟨b15, 0, none⟩) 1 1) f2 hp x12 ex12) Ret.ret ?_
          intro v a w hR hE
          obtain ⟨rfl, hp⟩ := Ret.of hR
          have hp : Hp Z ((ρ7.un k1).un k2) (_ :: _ :: _ :: _ :: _ :: L) w := hp
          refine s_val (wk0 rfl) rfl rfl hE hp (v := (.tuple #[(.int .i64 x12.1), (.int .i64 x12.2.1), (.int .i64 x12.2.2)])) (ex_move rfl hE rfl) ?_
          intro a hE
          refine s_val (wk0 rfl) rfl rfl hE hp (v := (.int .i64 x12.1)) (ex_extract rfl hE rfl rfl) ?_
          intro a hE
          refine s_val (wk0 rfl) rfl rfl hE hp (v := (.int .i64 x12.2.1)) (ex_extract rfl hE rfl rfl) ?_
          intro a hE
          refine s_val (wk0 rfl) rfl rfl hE hp (v := (.int .i64 x12.2.2)) (ex_extract rfl hE rfl rfl) ?_
          intro a hE
          refine s_val (wk0 rfl) rfl rfl hE hp (v := (.int .i64 x12.1)) (ex_asn rfl hE rfl) ?_
          intro a hE
          refine s_val (wk0 rfl) rfl rfl hE hp (v := (.int .i64 x12.2.1)) (ex_asn rfl hE rfl) ?_
          intro a hE
          refine s_val (wk0 rfl) rfl rfl hE hp (v := (.int .i64 x12.2.2)) (ex_asn rfl hE rfl) ?_
          intro a hE
          refine s_nil ?_
          have hE := hE.cut (E' := [(2, (.bool p2)), (7, (.int .i64 x5)), (8, (.pointer (some ⟨y2, 0, none⟩))), (9, (.pointer (some ⟨y3, 0, none⟩))), (11, (.int .i64 x8.2)), (13, (.int .i64 x9.2)), (15, (.int .i64 x10.2)), (17, (.int .i64 x11.2)), (20, (.int .i64 x12.2.2))]) ⟨rfl, rfl, rfl, rfl, rfl, rfl, rfl, rfl, rfl, trivial⟩
          refine k_seq ?_
          refine k_region ?_
          refine s_val (wk0 rfl) rfl rfl hE hp (v := (.int .i64 0)) (ex_asn rfl hE rfl) ?_
          intro a hE
          refine s_nil ?_
          refine k_seq ?_
          refine k_seq ?_
          refine k_region ?_
          refine s_val (wk0 rfl) rfl rfl hE hp (v := (.int .i64 x5)) (ex_move rfl hE rfl) ?_
          intro a hE
          refine s_val (wk0 rfl) rfl rfl hE hp (v := (.bool (decide (256 < x5)))) (ex_gtr rfl hE rfl rfl) ?_
          intro a hE
          refine s_nil ?_
          obtain ⟨j2, hj2, hm⟩ := bnd hm
          refine k_cut (fun a w => Env 132 [(2, (.bool p2)), (7, (.int .i64 x5)), (8, (.pointer (some ⟨y2, 0, none⟩))), (9, (.pointer (some ⟨y3, 0, none⟩))), (11, (.int .i64 x8.2)), (13, (.int .i64 x9.2)), (15, (.int .i64 x10.2)), (17, (.int .i64 x11.2)), (20, (.int .i64 x12.2.2)), (21, (.int .i64 j2))] a ∧ Hp Z ((ρ7.un k1).un k2) (TblA 34 3 vr17 usr17 (x11.1 : (List (List Int))) :: TblA 34 3 vr15 usr15 (x10.1 : (List (List Int))) :: Pt y3 (.cells #[(.int .i64 j1.1), (.string j1.2.1), (.int .i64 j1.2.2.1), (.int .i64 j1.2.2.2.1), vc3_4] 24 (0, 0)) :: Pt y2 (.cells #[(.int .i64 j1.2.2.2.2.2.1), (.string j1.2.2.2.2.2.2.1), (.int .i64 j1.2.2.2.2.2.2.2.1), (.int .i64 j1.2.2.2.2.2.2.2.2.1), vc2_4] 24 (0, 0)) :: Pt b1 (.cells #[(.int .i64 p0.kind), (.string p0.text), (.int .i64 p0.at_), (.int .i64 p0.fin), vp0_kids] 24 (0, 0)) :: L) w) ?_ ?_
          ·
            refine k_if hE rfl (fun hb4 => ?_) (fun hb4 => ?_)
            · replace hj2 := (it hb4).symm.trans hj2
              refine k_region ?_
              refine s_val (wk0 rfl) rfl rfl hE hp (v := (.int .i64 8)) (ex_asn rfl hE rfl) ?_
              intro a hE
              refine s_nil ?_
              obtain rfl := Option.some.inj hj2
              exact ⟨hE.cut ⟨rfl, rfl, rfl, rfl, rfl, rfl, rfl, rfl, rfl, rfl, trivial⟩, hp⟩
            · replace hj2 := (ie hb4).symm.trans hj2
              refine k_skip ?_
              obtain rfl := Option.some.inj hj2
              exact ⟨hE.cut ⟨rfl, rfl, rfl, rfl, rfl, rfl, rfl, rfl, rfl, rfl, trivial⟩, hp⟩
          · rintro a w ⟨hE, hp⟩
            refine k_seq ?_
            refine k_region ?_
            refine s_val (wk0 rfl) rfl rfl hE hp (v := (.int .i64 x5)) (ex_move rfl hE rfl) ?_
            intro a hE
            obtain ⟨x13, ex13, hm⟩ := bnd hm
            refine s_call (wk0 rfl) rfl rfl hE rfl [(.int .i64 x5)] ⟨rfl, trivial⟩ ent25 (c_assessorlaw37_wide x5 hp x13 ex13) Ret.ret ?_
            intro v a w hR hE
            obtain ⟨ρ10, vr22_kids, hle9, rfl, hr22_kids, hp⟩ := Ret.of hR
            have hp : Hp Z ρ10 (_ :: _ :: _ :: _ :: _ :: L) w := hp
            obtain ⟨x14, ex14, hm⟩ := bnd hm
            refine s_call (wk0 rfl) rfl rfl hE rfl [(.agg #[(.int .i64 x13.kind), (.string x13.text), (.int .i64 x13.at_), (.int .i64 x13.fin), vr22_kids]), (.slice none 0 0)] ⟨rfl, rfl, trivial⟩ ent24 (c_distance_Nearest x13 vr22_kids hr22_kids [] (.slice none 0 0) (RoSl.nil _) hp x14 ex14) Ret.ret ?_
            intro v a w hR hE
            obtain ⟨rfl, hp⟩ := Ret.of hR
            have hp : Hp Z ρ10 (_ :: _ :: _ :: _ :: _ :: L) w := hp
            refine s_val (wk0 rfl) rfl rfl hE hp (v := (.tuple #[(.int .i64 x14.1), (.int .i64 x14.2.1), (.int .i64 x14.2.2)])) (ex_move rfl hE rfl) ?_
            intro a hE
            refine s_val (wk0 rfl) rfl rfl hE hp (v := (.int .i64 x14.1)) (ex_extract rfl hE rfl rfl) ?_
            intro a hE
            refine s_val (wk0 rfl) rfl rfl hE hp (v := (.int .i64 x14.2.1)) (ex_extract rfl hE rfl rfl) ?_
            intro a hE
            refine s_val (wk0 rfl) rfl rfl hE hp (v := (.int .i64 x14.2.2)) (ex_extract rfl hE rfl rfl) ?_
            intro a hE
            refine s_val (wk0 rfl) rfl rfl hE hp (v := (.int .i64 x14.1)) (ex_asn rfl hE rfl) ?_
            intro a hE
            refine s_val (wk0 rfl) rfl rfl hE hp (v := (.int .i64 x14.2.1)) (ex_asn rfl hE rfl) ?_
            intro a hE
            refine s_val (wk0 rfl) rfl rfl hE hp (v := (.int .i64 x14.2.2)) (ex_asn rfl hE rfl) ?_
            intro a hE
            refine s_nil ?_
            refine k_seq ?_
            refine k_seq ?_
            refine k_region ?_
            refine s_val (wk0 rfl) rfl rfl hE hp (v := (.int .i64 x5)) (ex_move rfl hE rfl) ?_
            intro a hE
            refine s_val (wk0 rfl) rfl rfl hE hp (v := (.bool (decide (x5 ≤ 256)))) (ex_leq rfl hE rfl rfl) ?_
            intro a hE
            refine s_val (wk0 rfl) rfl rfl hE hp (v := (.bool (decide (x5 ≤ 256)))) (ex_move rfl hE rfl) ?_
            intro a hE
            refine s_cut [_, _, _] (fun a w => Env 132 [(89, (.bool ((decide (x5 ≤ 256)) && (!decide (x14.2.2 = 7))))), (2, (.bool p2)), (7, (.int .i64 x5)), (8, (.pointer (some ⟨y2, 0, none⟩))), (9, (.pointer (some ⟨y3, 0, none⟩))), (11, (.int .i64 x8.2)), (13, (.int .i64 x9.2)), (15, (.int .i64 x10.2)), (17, (.int .i64 x11.2)), (20, (.int .i64 x12.2.2)), (21, (.int .i64 j2)), (24, (.int .i64 x14.2.2))] a ∧ Hp Z ρ10 (TblA 34 3 vr17 usr17 (x11.1 : (List (List Int))) :: TblA 34 3 vr15 usr15 (x10.1 : (List (List Int))) :: Pt y3 (.cells #[(.int .i64 j1.1), (.string j1.2.1), (.int .i64 j1.2.2.1), (.int .i64 j1.2.2.2.1), vc3_4] 24 (0, 0)) :: Pt y2 (.cells #[(.int .i64 j1.2.2.2.2.2.1), (.string j1.2.2.2.2.2.2.1), (.int .i64 j1.2.2.2.2.2.2.2.1), (.int .i64 j1.2.2.2.2.2.2.2.2.1), vc2_4] 24 (0, 0)) :: Pt b1 (.cells #[(.int .i64 p0.kind), (.string p0.text), (.int .i64 p0.at_), (.int .i64 p0.fin), vp0_kids] 24 (0, 0)) :: L) w) ?_ ?_
            · rcases Bool.eq_false_or_eq_true (decide (x5 ≤ 256)) with hb5 | hb5
              ·
                refine s_val (wk1 hE rfl rfl rfl hb5) rfl rfl hE hp (v := (.int .i64 x14.2.2)) (ex_move rfl hE rfl) ?_
                intro a hE
                refine s_val (wk1 hE rfl rfl rfl hb5) rfl rfl hE hp (v := (.bool (!decide (x14.2.2 = 7)))) (ex_neq rfl hE rfl rfl) ?_
                intro a hE
                refine s_val (wk0 rfl) rfl rfl hE hp (v := (.bool (!decide (x14.2.2 = 7)))) (ex_pick1 rfl hE rfl hb5 rfl) ?_
                intro a hE
                have hE := hE.eqv (v' := (.bool ((decide (x5 ≤ 256)) && (!decide (x14.2.2 = 7))))) (by rw [hb5]; rfl)
                exact s_nil ⟨hE.cut ⟨rfl, rfl, rfl, rfl, rfl, rfl, rfl, rfl, rfl, rfl, rfl, rfl, trivial⟩, hp⟩
              ·
                refine s_skip (wk2 hE rfl rfl rfl hb5) rfl rfl hE ?_
                intro a hE
                refine s_skip (wk2 hE rfl rfl rfl hb5) rfl rfl hE ?_
                intro a hE
                refine s_val (wk0 rfl) rfl rfl hE hp (v := (.bool false)) (ex_pick0 rfl hE rfl hb5 rfl) ?_
                intro a hE
                have hE := hE.eqv (v' := (.bool ((decide (x5 ≤ 256)) && (!decide (x14.2.2 = 7))))) (by rw [hb5]; rfl)
                exact s_nil ⟨hE.cut ⟨rfl, rfl, rfl, rfl, rfl, rfl, rfl, rfl, rfl, rfl, rfl, rfl, trivial⟩, hp⟩
            · rintro a w ⟨hE, hp⟩
              refine s_val (wk0 rfl) rfl rfl hE hp (v := (.bool ((decide (x5 ≤ 256)) && (!decide (x14.2.2 = 7))))) (ex_move rfl hE rfl) ?_
              intro a hE
              refine s_cut [_, _, _, _, _, _, _] (fun a w => Env 132 [(97, (.bool (((decide (x5 ≤ 256)) && (!decide (x14.2.2 = 7))) || ((decide (256 < x5)) && (!decide (x14.2.2 = 8)))))), (2, (.bool p2)), (7, (.int .i64 x5)), (8, (.pointer (some ⟨y2, 0, none⟩))), (9, (.pointer (some ⟨y3, 0, none⟩))), (11, (.int .i64 x8.2)), (13, (.int .i64 x9.2)), (15, (.int .i64 x10.2)), (17, (.int .i64 x11.2)), (20, (.int .i64 x12.2.2)), (21, (.int .i64 j2))] a ∧ Hp Z ρ10 (TblA 34 3 vr17 usr17 (x11.1 : (List (List Int))) :: TblA 34 3 vr15 usr15 (x10.1 : (List (List Int))) :: Pt y3 (.cells #[(.int .i64 j1.1), (.string j1.2.1), (.int .i64 j1.2.2.1), (.int .i64 j1.2.2.2.1), vc3_4] 24 (0, 0)) :: Pt y2 (.cells #[(.int .i64 j1.2.2.2.2.2.1), (.string j1.2.2.2.2.2.2.1), (.int .i64 j1.2.2.2.2.2.2.2.1), (.int .i64 j1.2.2.2.2.2.2.2.2.1), vc2_4] 24 (0, 0)) :: Pt b1 (.cells #[(.int .i64 p0.kind), (.string p0.text), (.int .i64 p0.at_), (.int .i64 p0.fin), vp0_kids] 24 (0, 0)) :: L) w) ?_ ?_
              · rcases Bool.eq_false_or_eq_true ((decide (x5 ≤ 256)) && (!decide (x14.2.2 = 7))) with hb6 | hb6
                ·
                  refine s_skip (wk2 hE rfl rfl rfl hb6) rfl rfl hE ?_
                  intro a hE
                  refine s_skip (wk2 hE rfl rfl rfl hb6) rfl rfl hE ?_
                  intro a hE
                  refine s_skip (wk2 hE rfl rfl rfl hb6) rfl rfl hE ?_
                  intro a hE
                  refine s_skip (wk3 hE rfl rfl rfl) rfl rfl hE ?_
                  intro a hE
                  refine s_skip (wk3 hE rfl rfl rfl) rfl rfl hE ?_
                  intro a hE
                  refine s_skip (wk2 hE rfl rfl rfl hb6) rfl rfl hE ?_
                  intro a hE
                  refine s_val (wk0 rfl) rfl rfl hE hp (v := (.bool true)) (ex_pick1 rfl hE rfl hb6 rfl) ?_
                  intro a hE
                  have hE := hE.eqv (v' := (.bool (((decide (x5 ≤ 256)) && (!decide (x14.2.2 = 7))) || ((decide (256 < x5)) && (!decide (x14.2.2 = 8)))))) (by rw [hb6]; rfl)
                  exact s_nil ⟨hE.cut ⟨rfl, rfl, rfl, rfl, rfl, rfl, rfl, rfl, rfl, rfl, rfl, trivial⟩, hp⟩
                ·
                  refine s_val (wk1 hE rfl rfl rfl hb6) rfl rfl hE hp (v := (.int .i64 x5)) (ex_move rfl hE rfl) ?_
                  intro a hE
                  refine s_val (wk1 hE rfl rfl rfl hb6) rfl rfl hE hp (v := (.bool (decide (256 < x5)))) (ex_gtr rfl hE rfl rfl) ?_
                  intro a hE
                  refine s_val (wk1 hE rfl rfl rfl hb6) rfl rfl hE hp (v := (.bool (decide (256 < x5)))) (ex_move rfl hE rfl) ?_
                  intro a hE
                  refine s_cut [_, _, _] (fun a w => Env 132 [(96, (.bool ((decide (256 < x5)) && (!decide (x14.2.2 = 8))))), (2, (.bool p2)), (7, (.int .i64 x5)), (8, (.pointer (some ⟨y2, 0, none⟩))), (9, (.pointer (some ⟨y3, 0, none⟩))), (11, (.int .i64 x8.2)), (13, (.int .i64 x9.2)), (15, (.int .i64 x10.2)), (17, (.int .i64 x11.2)), (20, (.int .i64 x12.2.2)), (21, (.int .i64 j2)), (90, (.bool ((decide (x5 ≤ 256)) && (!decide (x14.2.2 = 7)))))] a ∧ Hp Z ρ10 (TblA 34 3 vr17 usr17 (x11.1 : (List (List Int))) :: TblA 34 3 vr15 usr15 (x10.1 : (List (List Int))) :: Pt y3 (.cells #[(.int .i64 j1.1), (.string j1.2.1), (.int .i64 j1.2.2.1), (.int .i64 j1.2.2.2.1), vc3_4] 24 (0, 0)) :: Pt y2 (.cells #[(.int .i64 j1.2.2.2.2.2.1), (.string j1.2.2.2.2.2.2.1), (.int .i64 j1.2.2.2.2.2.2.2.1), (.int .i64 j1.2.2.2.2.2.2.2.2.1), vc2_4] 24 (0, 0)) :: Pt b1 (.cells #[(.int .i64 p0.kind), (.string p0.text), (.int .i64 p0.at_), (.int .i64 p0.fin), vp0_kids] 24 (0, 0)) :: L) w) ?_ ?_
                  · rcases Bool.eq_false_or_eq_true (decide (256 < x5)) with hb7 | hb7
                    ·
                      refine s_val (wk1 hE rfl rfl rfl hb7) rfl rfl hE hp (v := (.int .i64 x14.2.2)) (ex_move rfl hE rfl) ?_
                      intro a hE
                      refine s_val (wk1 hE rfl rfl rfl hb7) rfl rfl hE hp (v := (.bool (!decide (x14.2.2 = 8)))) (ex_neq rfl hE rfl rfl) ?_
                      intro a hE
                      refine s_val (wk1 hE rfl rfl rfl hb6) rfl rfl hE hp (v := (.bool (!decide (x14.2.2 = 8)))) (ex_pick1 rfl hE rfl hb7 rfl) ?_
                      intro a hE
                      have hE := hE.eqv (v' := (.bool ((decide (256 < x5)) && (!decide (x14.2.2 = 8))))) (by rw [hb7]; rfl)
                      exact s_nil ⟨hE.cut ⟨rfl, rfl, rfl, rfl, rfl, rfl, rfl, rfl, rfl, rfl, rfl, rfl, trivial⟩, hp⟩
                    ·
                      refine s_skip (wk2 hE rfl rfl rfl hb7) rfl rfl hE ?_
                      intro a hE
                      refine s_skip (wk2 hE rfl rfl rfl hb7) rfl rfl hE ?_
                      intro a hE
                      refine s_val (wk1 hE rfl rfl rfl hb6) rfl rfl hE hp (v := (.bool false)) (ex_pick0 rfl hE rfl hb7 rfl) ?_
                      intro a hE
                      have hE := hE.eqv (v' := (.bool ((decide (256 < x5)) && (!decide (x14.2.2 = 8))))) (by rw [hb7]; rfl)
                      exact s_nil ⟨hE.cut ⟨rfl, rfl, rfl, rfl, rfl, rfl, rfl, rfl, rfl, rfl, rfl, rfl, trivial⟩, hp⟩
                  · rintro a w ⟨hE, hp⟩
                    refine s_val (wk0 rfl) rfl rfl hE hp (v := (.bool ((decide (256 < x5)) && (!decide (x14.2.2 = 8))))) (ex_pick0 rfl hE rfl hb6 rfl) ?_
                    intro a hE
                    have hE := hE.eqv (v' := (.bool (((decide (x5 ≤ 256)) && (!decide (x14.2.2 = 7))) || ((decide (256 < x5)) && (!decide (x14.2.2 = 8)))))) (by rw [hb6]; rfl)
                    exact s_nil ⟨hE.cut ⟨rfl, rfl, rfl, rfl, rfl, rfl, rfl, rfl, rfl, rfl, rfl, trivial⟩, hp⟩
              · rintro a w ⟨hE, hp⟩
                refine s_nil ?_
                refine k_if hE rfl (fun hb8 => ?_) (fun hb8 => ?_)
                · replace hm := (it hb8).symm.trans hm
                  refine k_seq ?_
                  refine k_region ?_
                  refine s_val (wk0 rfl) rfl rfl hE hp (v := (.bool false)) (ex_asn rfl hE rfl) ?_
                  intro a hE
                  refine s_nil ?_
                  refine k_ret ?_
                  obtain rfl := Option.some.inj hm
                  exact ret1 hE rfl rfl ⟨_, rfl, rfl, ((((((((((((((hp.get 4 rfl).drop).get 3 rfl).drop).get 2 rfl).drop).get 1 rfl).drop).drop).less hle9).less (PH.le_un _ k2)).less (PH.le_un _ k1)).less hlg7).less hley1)⟩
                · replace hm := (ie hb8).symm.trans hm
                  refine k_skip ?_
                  refine k_seq ?_
                  refine k_region ?_
                  refine s_val (wk0 rfl) rfl rfl hE hp (v := (.int .i64 x8.2)) (ex_move rfl hE rfl) ?_
                  intro a hE
                  refine s_val (wk0 rfl) rfl rfl hE hp (v := (.int .i64 j2)) (ex_move rfl hE rfl) ?_
                  intro a hE
                  refine s_val (wk0 rfl) rfl rfl hE hp (v := (.bool (decide (x8.2 = j2)))) (ex_eql rfl hE rfl rfl) ?_
                  intro a hE
                  refine s_val (wk0 rfl) rfl rfl hE hp (v := (.bool (decide (x8.2 = j2)))) (ex_move rfl hE rfl) ?_
                  intro a hE
                  refine s_cut [_, _, _, _] (fun a w => Env 132 [(105, (.bool ((decide (x8.2 = j2)) && (decide (x9.2 = j2))))), (2, (.bool p2)), (7, (.int .i64 x5)), (8, (.pointer (some ⟨y2, 0, none⟩))), (9, (.pointer (some ⟨y3, 0, none⟩))), (15, (.int .i64 x10.2)), (17, (.int .i64 x11.2)), (20, (.int .i64 x12.2.2)), (21, (.int .i64 j2))] a ∧ Hp Z ρ10 (TblA 34 3 vr17 usr17 (x11.1 : (List (List Int))) :: TblA 34 3 vr15 usr15 (x10.1 : (List (List Int))) :: Pt y3 (.cells #[(.int .i64 j1.1), (.string j1.2.1), (.int .i64 j1.2.2.1), (.int .i64 j1.2.2.2.1), vc3_4] 24 (0, 0)) :: Pt y2 (.cells #[(.int .i64 j1.2.2.2.2.2.1), (.string j1.2.2.2.2.2.2.1), (.int .i64 j1.2.2.2.2.2.2.2.1), (.int .i64 j1.2.2.2.2.2.2.2.2.1), vc2_4] 24 (0, 0)) :: Pt b1 (.cells #[(.int .i64 p0.kind), (.string p0.text), (.int .i64 p0.at_), (.int .i64 p0.fin), vp0_kids] 24 (0, 0)) :: L) w) ?_ ?_
                  · rcases Bool.eq_false_or_eq_true (decide (x8.2 = j2)) with hb9 | hb9
                    ·
                      refine s_val (wk1 hE rfl rfl rfl hb9) rfl rfl hE hp (v := (.int .i64 x9.2)) (ex_move rfl hE rfl) ?_
                      intro a hE
                      refine s_val (wk1 hE rfl rfl rfl hb9) rfl rfl hE hp (v := (.int .i64 j2)) (ex_move rfl hE rfl) ?_
                      intro a hE
                      refine s_val (wk1 hE rfl rfl rfl hb9) rfl rfl hE hp (v := (.bool (decide (x9.2 = j2)))) (ex_eql rfl hE rfl rfl) ?_
                      intro a hE
                      refine s_val (wk0 rfl) rfl rfl hE hp (v := (.bool (decide (x9.2 = j2)))) (ex_pick1 rfl hE rfl hb9 rfl) ?_
                      intro a hE
                      have hE := hE.eqv (v' := (.bool ((decide (x8.2 = j2)) && (decide (x9.2 = j2))))) (by rw [hb9]; rfl)
                      exact s_nil ⟨hE.cut ⟨rfl, rfl, rfl, rfl, rfl, rfl, rfl, rfl, rfl, trivial⟩, hp⟩
                    ·
                      refine s_skip (wk2 hE rfl rfl rfl hb9) rfl rfl hE ?_
                      intro a hE
                      refine s_skip (wk2 hE rfl rfl rfl hb9) rfl rfl hE ?_
                      intro a hE
                      refine s_skip (wk2 hE rfl rfl rfl hb9) rfl rfl hE ?_
                      intro a hE
                      refine s_val (wk0 rfl) rfl rfl hE hp (v := (.bool false)) (ex_pick0 rfl hE rfl hb9 rfl) ?_
                      intro a hE
                      have hE := hE.eqv (v' := (.bool ((decide (x8.2 = j2)) && (decide (x9.2 = j2))))) (by rw [hb9]; rfl)
                      exact s_nil ⟨hE.cut ⟨rfl, rfl, rfl, rfl, rfl, rfl, rfl, rfl, rfl, trivial⟩, hp⟩
                  · rintro a w ⟨hE, hp⟩
                    refine s_val (wk0 rfl) rfl rfl hE hp (v := (.bool ((decide (x8.2 = j2)) && (decide (x9.2 = j2))))) (ex_move rfl hE rfl) ?_
                    intro a hE
                    refine s_cut [_, _, _, _] (fun a w => Env 132 [(110, (.bool (((decide (x8.2 = j2)) && (decide (x9.2 = j2))) && (decide (x10.2 = j2))))), (2, (.bool p2)), (7, (.int .i64 x5)), (8, (.pointer (some ⟨y2, 0, none⟩))), (9, (.pointer (some ⟨y3, 0, none⟩))), (17, (.int .i64 x11.2)), (20, (.int .i64 x12.2.2)), (21, (.int .i64 j2))] a ∧ Hp Z ρ10 (TblA 34 3 vr17 usr17 (x11.1 : (List (List Int))) :: TblA 34 3 vr15 usr15 (x10.1 : (List (List Int))) :: Pt y3 (.cells #[(.int .i64 j1.1), (.string j1.2.1), (.int .i64 j1.2.2.1), (.int .i64 j1.2.2.2.1), vc3_4] 24 (0, 0)) :: Pt y2 (.cells #[(.int .i64 j1.2.2.2.2.2.1), (.string j1.2.2.2.2.2.2.1), (.int .i64 j1.2.2.2.2.2.2.2.1), (.int .i64 j1.2.2.2.2.2.2.2.2.1), vc2_4] 24 (0, 0)) :: Pt b1 (.cells #[(.int .i64 p0.kind), (.string p0.text), (.int .i64 p0.at_), (.int .i64 p0.fin), vp0_kids] 24 (0, 0)) :: L) w) ?_ ?_
                    · rcases Bool.eq_false_or_eq_true ((decide (x8.2 = j2)) && (decide (x9.2 = j2))) with hb10 | hb10
                      ·
                        refine s_val (wk1 hE rfl rfl rfl hb10) rfl rfl hE hp (v := (.int .i64 x10.2)) (ex_move rfl hE rfl) ?_
                        intro a hE
                        refine s_val (wk1 hE rfl rfl rfl hb10) rfl rfl hE hp (v := (.int .i64 j2)) (ex_move rfl hE rfl) ?_
                        intro a hE
                        refine s_val (wk1 hE rfl rfl rfl hb10) rfl rfl hE hp (v := (.bool (decide (x10.2 = j2)))) (ex_eql rfl hE rfl rfl) ?_
                        intro a hE
                        refine s_val (wk0 rfl) rfl rfl hE hp (v := (.bool (decide (x10.2 = j2)))) (ex_pick1 rfl hE rfl hb10 rfl) ?_
                        intro a hE
                        have hE := hE.eqv (v' := (.bool (((decide (x8.2 = j2)) && (decide (x9.2 = j2))) && (decide (x10.2 = j2))))) (by rw [hb10]; rfl)
                        exact s_nil ⟨hE.cut ⟨rfl, rfl, rfl, rfl, rfl, rfl, rfl, rfl, trivial⟩, hp⟩
                      ·
                        refine s_skip (wk2 hE rfl rfl rfl hb10) rfl rfl hE ?_
                        intro a hE
                        refine s_skip (wk2 hE rfl rfl rfl hb10) rfl rfl hE ?_
                        intro a hE
                        refine s_skip (wk2 hE rfl rfl rfl hb10) rfl rfl hE ?_
                        intro a hE
                        refine s_val (wk0 rfl) rfl rfl hE hp (v := (.bool false)) (ex_pick0 rfl hE rfl hb10 rfl) ?_
                        intro a hE
                        have hE := hE.eqv (v' := (.bool (((decide (x8.2 = j2)) && (decide (x9.2 = j2))) && (decide (x10.2 = j2))))) (by rw [hb10]; rfl)
                        exact s_nil ⟨hE.cut ⟨rfl, rfl, rfl, rfl, rfl, rfl, rfl, rfl, trivial⟩, hp⟩
                    · rintro a w ⟨hE, hp⟩
                      refine s_val (wk0 rfl) rfl rfl hE hp (v := (.bool (((decide (x8.2 = j2)) && (decide (x9.2 = j2))) && (decide (x10.2 = j2))))) (ex_move rfl hE rfl) ?_
                      intro a hE
                      refine s_cut [_, _, _, _] (fun a w => Env 132 [(115, (.bool ((((decide (x8.2 = j2)) && (decide (x9.2 = j2))) && (decide (x10.2 = j2))) && (decide (x12.2.2 = j2))))), (2, (.bool p2)), (7, (.int .i64 x5)), (8, (.pointer (some ⟨y2, 0, none⟩))), (9, (.pointer (some ⟨y3, 0, none⟩))), (17, (.int .i64 x11.2)), (21, (.int .i64 j2))] a ∧ Hp Z ρ10 (TblA 34 3 vr17 usr17 (x11.1 : (List (List Int))) :: TblA 34 3 vr15 usr15 (x10.1 : (List (List Int))) :: Pt y3 (.cells #[(.int .i64 j1.1), (.string j1.2.1), (.int .i64 j1.2.2.1), (.int .i64 j1.2.2.2.1), vc3_4] 24 (0, 0)) :: Pt y2 (.cells #[(.int .i64 j1.2.2.2.2.2.1), (.string j1.2.2.2.2.2.2.1), (.int .i64 j1.2.2.2.2.2.2.2.1), (.int .i64 j1.2.2.2.2.2.2.2.2.1), vc2_4] 24 (0, 0)) :: Pt b1 (.cells #[(.int .i64 p0.kind), (.string p0.text), (.int .i64 p0.at_), (.int .i64 p0.fin), vp0_kids] 24 (0, 0)) :: L) w) ?_ ?_
                      · rcases Bool.eq_false_or_eq_true (((decide (x8.2 = j2)) && (decide (x9.2 = j2))) && (decide (x10.2 = j2))) with hb11 | hb11
                        ·
                          refine s_val (wk1 hE rfl rfl rfl hb11) rfl rfl hE hp (v := (.int .i64 x12.2.2)) (ex_move rfl hE rfl) ?_
                          intro a hE
                          refine s_val (wk1 hE rfl rfl rfl hb11) rfl rfl hE hp (v := (.int .i64 j2)) (ex_move rfl hE rfl) ?_
                          intro a hE
                          refine s_val (wk1 hE rfl rfl rfl hb11) rfl rfl hE hp (v := (.bool (decide (x12.2.2 = j2)))) (ex_eql rfl hE rfl rfl) ?_
                          intro a hE
                          refine s_val (wk0 rfl) rfl rfl hE hp (v := (.bool (decide (x12.2.2 = j2)))) (ex_pick1 rfl hE rfl hb11 rfl) ?_
                          intro a hE
                          have hE := hE.eqv (v' := (.bool ((((decide (x8.2 = j2)) && (decide (x9.2 = j2))) && (decide (x10.2 = j2))) && (decide (x12.2.2 = j2))))) (by rw [hb11]; rfl)
                          exact s_nil ⟨hE.cut ⟨rfl, rfl, rfl, rfl, rfl, rfl, rfl, trivial⟩, hp⟩
                        ·
                          refine s_skip (wk2 hE rfl rfl rfl hb11) rfl rfl hE ?_
                          intro a hE
                          refine s_skip (wk2 hE rfl rfl rfl hb11) rfl rfl hE ?_
                          intro a hE
                          refine s_skip (wk2 hE rfl rfl rfl hb11) rfl rfl hE ?_
                          intro a hE
                          refine s_val (wk0 rfl) rfl rfl hE hp (v := (.bool false)) (ex_pick0 rfl hE rfl hb11 rfl) ?_
                          intro a hE
                          have hE := hE.eqv (v' := (.bool ((((decide (x8.2 = j2)) && (decide (x9.2 = j2))) && (decide (x10.2 = j2))) && (decide (x12.2.2 = j2))))) (by rw [hb11]; rfl)
                          exact s_nil ⟨hE.cut ⟨rfl, rfl, rfl, rfl, rfl, rfl, rfl, trivial⟩, hp⟩
                      · rintro a w ⟨hE, hp⟩
                        refine s_val (wk0 rfl) rfl rfl hE hp (v := (.bool ((((decide (x8.2 = j2)) && (decide (x9.2 = j2))) && (decide (x10.2 = j2))) && (decide (x12.2.2 = j2))))) (ex_move rfl hE rfl) ?_
                        intro a hE
                        refine s_cut [_, _, _, _, _, _, _] (fun a w => Env 132 [(123, (.bool (((((decide (x8.2 = j2)) && (decide (x9.2 = j2))) && (decide (x10.2 = j2))) && (decide (x12.2.2 = j2))) && (p2 || (decide (x11.2 = j2)))))), (7, (.int .i64 x5)), (8, (.pointer (some ⟨y2, 0, none⟩))), (9, (.pointer (some ⟨y3, 0, none⟩)))] a ∧ Hp Z ρ10 (TblA 34 3 vr17 usr17 (x11.1 : (List (List Int))) :: TblA 34 3 vr15 usr15 (x10.1 : (List (List Int))) :: Pt y3 (.cells #[(.int .i64 j1.1), (.string j1.2.1), (.int .i64 j1.2.2.1), (.int .i64 j1.2.2.2.1), vc3_4] 24 (0, 0)) :: Pt y2 (.cells #[(.int .i64 j1.2.2.2.2.2.1), (.string j1.2.2.2.2.2.2.1), (.int .i64 j1.2.2.2.2.2.2.2.1), (.int .i64 j1.2.2.2.2.2.2.2.2.1), vc2_4] 24 (0, 0)) :: Pt b1 (.cells #[(.int .i64 p0.kind), (.string p0.text), (.int .i64 p0.at_), (.int .i64 p0.fin), vp0_kids] 24 (0, 0)) :: L) w) ?_ ?_
                        · rcases Bool.eq_false_or_eq_true ((((decide (x8.2 = j2)) && (decide (x9.2 = j2))) && (decide (x10.2 = j2))) && (decide (x12.2.2 = j2))) with hb12 | hb12
                          ·
                            refine s_val (wk1 hE rfl rfl rfl hb12) rfl rfl hE hp (v := (.bool p2)) (ex_move rfl hE rfl) ?_
                            intro a hE
                            refine s_val (wk1 hE rfl rfl rfl hb12) rfl rfl hE hp (v := (.bool p2)) (ex_move rfl hE rfl) ?_
                            intro a hE
                            refine s_cut [_, _, _, _] (fun a w => Env 132 [(122, (.bool (p2 || (decide (x11.2 = j2))))), (7, (.int .i64 x5)), (8, (.pointer (some ⟨y2, 0, none⟩))), (9, (.pointer (some ⟨y3, 0, none⟩))), (116, (.bool ((((decide (x8.2 = j2)) && (decide (x9.2 = j2))) && (decide (x10.2 = j2))) && (decide (x12.2.2 = j2)))))] a ∧ Hp Z ρ10 (TblA 34 3 vr17 usr17 (x11.1 : (List (List Int))) :: TblA 34 3 vr15 usr15 (x10.1 : (List (List Int))) :: Pt y3 (.cells #[(.int .i64 j1.1), (.string j1.2.1), (.int .i64 j1.2.2.1), (.int .i64 j1.2.2.2.1), vc3_4] 24 (0, 0)) :: Pt y2 (.cells #[(.int .i64 j1.2.2.2.2.2.1), (.string j1.2.2.2.2.2.2.1), (.int .i64 j1.2.2.2.2.2.2.2.1), (.int .i64 j1.2.2.2.2.2.2.2.2.1), vc2_4] 24 (0, 0)) :: Pt b1 (.cells #[(.int .i64 p0.kind), (.string p0.text), (.int .i64 p0.at_), (.int .i64 p0.fin), vp0_kids] 24 (0, 0)) :: L) w) ?_ ?_
                            · rcases Bool.eq_false_or_eq_true p2 with hb13 | hb13
                              ·
                                refine s_skip (wk2 hE rfl rfl rfl hb13) rfl rfl hE ?_
                                intro a hE
                                refine s_skip (wk2 hE rfl rfl rfl hb13) rfl rfl hE ?_
                                intro a hE
                                refine s_skip (wk2 hE rfl rfl rfl hb13) rfl rfl hE ?_
                                intro a hE
                                refine s_val (wk1 hE rfl rfl rfl hb12) rfl rfl hE hp (v := (.bool true)) (ex_pick1 rfl hE rfl hb13 rfl) ?_
                                intro a hE
                                have hE := hE.eqv (v' := (.bool (p2 || (decide (x11.2 = j2))))) (by rw [hb13]; rfl)
                                exact s_nil ⟨hE.cut ⟨rfl, rfl, rfl, rfl, rfl, trivial⟩, hp⟩
                              ·
                                refine s_val (wk1 hE rfl rfl rfl hb13) rfl rfl hE hp (v := (.int .i64 x11.2)) (ex_move rfl hE rfl) ?_
                                intro a hE
                                refine s_val (wk1 hE rfl rfl rfl hb13) rfl rfl hE hp (v := (.int .i64 j2)) (ex_move rfl hE rfl) ?_
                                intro a hE
                                refine s_val (wk1 hE rfl rfl rfl hb13) rfl rfl hE hp (v := (.bool (decide (x11.2 = j2)))) (ex_eql rfl hE rfl rfl) ?_
                                intro a hE
                                refine s_val (wk1 hE rfl rfl rfl hb12) rfl rfl hE hp (v := (.bool (decide (x11.2 = j2)))) (ex_pick0 rfl hE rfl hb13 rfl) ?_
                                intro a hE
                                have hE := hE.eqv (v' := (.bool (p2 || (decide (x11.2 = j2))))) (by rw [hb13]; rfl)
                                exact s_nil ⟨hE.cut ⟨rfl, rfl, rfl, rfl, rfl, trivial⟩, hp⟩
                            · rintro a w ⟨hE, hp⟩
                              refine s_val (wk0 rfl) rfl rfl hE hp (v := (.bool (p2 || (decide (x11.2 = j2))))) (ex_pick1 rfl hE rfl hb12 rfl) ?_
                              intro a hE
                              have hE := hE.eqv (v' := (.bool (((((decide (x8.2 = j2)) && (decide (x9.2 = j2))) && (decide (x10.2 = j2))) && (decide (x12.2.2 = j2))) && (p2 || (decide (x11.2 = j2)))))) (by rw [hb12]; rfl)
                              exact s_nil ⟨hE.cut ⟨rfl, rfl, rfl, rfl, trivial⟩, hp⟩
                          ·
                            refine s_skip (wk2 hE rfl rfl rfl hb12) rfl rfl hE ?_
                            intro a hE
                            refine s_skip (wk2 hE rfl rfl rfl hb12) rfl rfl hE ?_
                            intro a hE
                            refine s_skip (wk3 hE rfl rfl rfl) rfl rfl hE ?_
                            intro a hE
                            refine s_skip (wk3 hE rfl rfl rfl) rfl rfl hE ?_
                            intro a hE
                            refine s_skip (wk3 hE rfl rfl rfl) rfl rfl hE ?_
                            intro a hE
                            refine s_skip (wk2 hE rfl rfl rfl hb12) rfl rfl hE ?_
                            intro a hE
                            refine s_val (wk0 rfl) rfl rfl hE hp (v := (.bool false)) (ex_pick0 rfl hE rfl hb12 rfl) ?_
                            intro a hE
                            have hE := hE.eqv (v' := (.bool (((((decide (x8.2 = j2)) && (decide (x9.2 = j2))) && (decide (x10.2 = j2))) && (decide (x12.2.2 = j2))) && (p2 || (decide (x11.2 = j2)))))) (by rw [hb12]; rfl)
                            exact s_nil ⟨hE.cut ⟨rfl, rfl, rfl, rfl, trivial⟩, hp⟩
                        · rintro a w ⟨hE, hp⟩
                          refine s_val (wk0 rfl) rfl rfl hE hp (v := (.bool (((((decide (x8.2 = j2)) && (decide (x9.2 = j2))) && (decide (x10.2 = j2))) && (decide (x12.2.2 = j2))) && (p2 || (decide (x11.2 = j2)))))) (ex_move rfl hE rfl) ?_
                          intro a hE
                          obtain ⟨m1, hg1, hm⟩ := bnd hm
                          refine s_cut [_, _, _, _, _, _, _] (fun a w => Env 132 [(131, (.bool m1))] a ∧ Hp Z ρ10 (TblA 34 3 vr17 usr17 (x11.1 : (List (List Int))) :: TblA 34 3 vr15 usr15 (x10.1 : (List (List Int))) :: Pt y3 (.cells #[(.int .i64 j1.1), (.string j1.2.1), (.int .i64 j1.2.2.1), (.int .i64 j1.2.2.2.1), vc3_4] 24 (0, 0)) :: Pt y2 (.cells #[(.int .i64 j1.2.2.2.2.2.1), (.string j1.2.2.2.2.2.2.1), (.int .i64 j1.2.2.2.2.2.2.2.1), (.int .i64 j1.2.2.2.2.2.2.2.2.1), vc2_4] 24 (0, 0)) :: Pt b1 (.cells #[(.int .i64 p0.kind), (.string p0.text), (.int .i64 p0.at_), (.int .i64 p0.fin), vp0_kids] 24 (0, 0)) :: L) w) ?_ ?_
                          · rcases Bool.eq_false_or_eq_true (((((decide (x8.2 = j2)) && (decide (x9.2 = j2))) && (decide (x10.2 = j2))) && (decide (x12.2.2 = j2))) && (p2 || (decide (x11.2 = j2)))) with hb14 | hb14
                            ·
                              replace hg1 := (it hb14).symm.trans hg1
                              refine s_val (wk1 hE rfl rfl rfl hb14) rfl rfl hE hp (v := (.agg #[(.int .i64 j1.2.2.2.2.2.1), (.string j1.2.2.2.2.2.2.1), (.int .i64 j1.2.2.2.2.2.2.2.1), (.int .i64 j1.2.2.2.2.2.2.2.2.1), vc2_4])) (ex_load rfl hE rfl (fun w hw => run_ldN (cs := [(.int .i64 j1.2.2.2.2.2.1), (.string j1.2.2.2.2.2.2.1), (.int .i64 j1.2.2.2.2.2.2.2.1), (.int .i64 j1.2.2.2.2.2.2.2.2.1), vc2_4]) varty24 (Hp.cN 3 rfl 0 _ (sub_all rfl) w hw))) ?_
                              intro a hE
                              refine s_val (wk1 hE rfl rfl rfl hb14) rfl rfl hE hp (v := (.agg #[(.int .i64 j1.1), (.string j1.2.1), (.int .i64 j1.2.2.1), (.int .i64 j1.2.2.2.1), vc3_4])) (ex_load rfl hE rfl (fun w hw => run_ldN (cs := [(.int .i64 j1.1), (.string j1.2.1), (.int .i64 j1.2.2.1), (.int .i64 j1.2.2.2.1), vc3_4]) varty24 (Hp.cN 2 rfl 0 _ (sub_all rfl) w hw))) ?_
                              intro a hE
                              obtain ⟨x15, ex15, hg1⟩ := bnd hg1
                              refine s_call (wk1 hE rfl rfl rfl hb14) rfl rfl hE rfl [(.agg #[(.int .i64 j1.2.2.2.2.2.1), (.string j1.2.2.2.2.2.2.1), (.int .i64 j1.2.2.2.2.2.2.2.1), (.int .i64 j1.2.2.2.2.2.2.2.2.1), vc2_4]), (.agg #[(.int .i64 j1.1), (.string j1.2.1), (.int .i64 j1.2.2.1), (.int .i64 j1.2.2.2.1), vc3_4])] ⟨rfl, rfl, trivial⟩ ent15 (c_distance_Bound (Node.mk j1.2.2.2.2.2.1 j1.2.2.2.2.2.2.1 j1.2.2.2.2.2.2.2.1 j1.2.2.2.2.2.2.2.2.1 j1.2.2.2.2.2.2.2.2.2) vc2_4 (RoSl.mono (RoSl.mono (RoSl.mono hc2_4 (PH.le_un _ k1)) (PH.le_un _ k2)) hle9) (Node.mk j1.1 j1.2.1 j1.2.2.1 j1.2.2.2.1 j1.2.2.2.2.1) vc3_4 (RoSl.mono (RoSl.mono (RoSl.mono hc3_4 (PH.le_un _ k1)) (PH.le_un _ k2)) hle9) hp x15 ex15) Ret.ret ?_
                              intro v a w hR hE
                              obtain ⟨rfl, hp⟩ := Ret.of hR
                              have hp : Hp Z ρ10 (_ :: _ :: _ :: _ :: _ :: L) w := hp
                              refine s_val (wk1 hE rfl rfl rfl hb14) rfl rfl hE hp (v := (.int .i64 x5)) (ex_move rfl hE rfl) ?_
                              intro a hE
                              obtain ⟨x16, ex16, hg1⟩ := bnd hg1
                              refine s_val (wk1 hE rfl rfl rfl hb14) rfl rfl hE hp (v := (.int .i64 x16)) (ex_sub rfl hE rfl rfl (inK_some ex16)) ?_
                              intro a hE
                              refine s_val (wk1 hE rfl rfl rfl hb14) rfl rfl hE hp (v := (.bool (decide (x16 ≤ x15)))) (ex_geq rfl hE rfl rfl) ?_
                              intro a hE
                              refine s_val (wk0 rfl) rfl rfl hE hp (v := (.bool (decide (x16 ≤ x15)))) (ex_pick1 rfl hE rfl hb14 rfl) ?_
                              intro a hE
                              obtain rfl := Option.some.inj hg1
                              exact s_nil ⟨hE.cut ⟨rfl, trivial⟩, hp⟩
                            ·
                              replace hg1 := (ie hb14).symm.trans hg1
                              refine s_skip (wk2 hE rfl rfl rfl hb14) rfl rfl hE ?_
                              intro a hE
                              refine s_skip (wk2 hE rfl rfl rfl hb14) rfl rfl hE ?_
                              intro a hE
                              refine s_skip (wk2 hE rfl rfl rfl hb14) rfl rfl hE ?_
                              intro a hE
                              refine s_skip (wk2 hE rfl rfl rfl hb14) rfl rfl hE ?_
                              intro a hE
                              refine s_skip (wk2 hE rfl rfl rfl hb14) rfl rfl hE ?_
                              intro a hE
                              refine s_skip (wk2 hE rfl rfl rfl hb14) rfl rfl hE ?_
                              intro a hE
                              refine s_val (wk0 rfl) rfl rfl hE hp (v := (.bool false)) (ex_pick0 rfl hE rfl hb14 rfl) ?_
                              intro a hE
                              obtain rfl := Option.some.inj hg1
                              exact s_nil ⟨hE.cut ⟨rfl, trivial⟩, hp⟩
                          · rintro a w ⟨hE, hp⟩
                            refine s_val (wk0 rfl) rfl rfl hE hp (v := (.bool m1)) (ex_asn rfl hE rfl) ?_
                            intro a hE
                            refine s_nil ?_
                            refine k_ret ?_
                            obtain rfl := Option.some.inj hm
                            exact ret1 hE rfl rfl ⟨_, rfl, rfl, ((((((((((((((hp.get 4 rfl).drop).get 3 rfl).drop).get 2 rfl).drop).get 1 rfl).drop).drop).less hle9).less (PH.le_un _ k2)).less (PH.le_un _ k1)).less hlg7).less hley1)⟩
end Go.Proofs.Ytnnccbagbgndpaa

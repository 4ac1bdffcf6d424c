/-
  The code goes as its model: assessor/assessorref37.flat, assessor/assessorref37.table, assessor/assessorref37.forests. (Printed by wip/sp/gen.py.)
-/
import Derived.Test.YtnnccbagbgndpaaRRM
import Derived.Test.YtnnccbagbgndpaaFct
import Derived.Test.YtnnccbagbgndpaaRS
set_option linter.unusedVariables false
set_option linter.unusedSimpArgs false
namespace Go.Proofs.Ytnnccbagbgndpaa
open Go.RowKit

/- assessor/assessorref37.flat -/
set_option maxRecDepth 100000 in
set_option maxHeartbeats 4000000 in
theorem c_assessorref37_flat_body (self : RFlat → Node → Int → Option RFlat) (hself : ∀ {Z : World} {ρ : PH} {L : List Atom} {w : World} (p0 : RFlat) (vp0_kinds : Value) (vp0_texts : Value) (vp0_left : Value) (vp0_numbers : Value) (p1 : Node) (vp1_kids : Value) (hp1_kids : RoSl ρ vp1_kids p1.kids) (p2 : Int) (hp : Hp Z ρ (OwnSl 3 vp0_kinds p0.kinds :: OwnSl 9 vp0_texts p0.texts :: OwnSl 3 vp0_left p0.left :: OwnSl 3 vp0_numbers p0.numbers :: L) w) (r : RFlat) (hm : self p0 p1 p2 = some r), Calls Try.prog 31 #[(.agg #[vp0_kinds, vp0_texts, vp0_left, vp0_numbers]), (.agg #[(.int .i64 p1.kind), (.string p1.text), (.int .i64 p1.at_), (.int .i64 p1.fin), vp1_kids]), (.int .i64 p2)] w (Ret fun v w' => ∃ (vr1_kinds : Value) (vr1_texts : Value) (vr1_left : Value) (vr1_numbers : Value), v = (.agg #[vr1_kinds, vr1_texts, vr1_left, vr1_numbers]) ∧ Hp Z ρ (OwnSl 3 vr1_kinds r.kinds :: OwnSl 9 vr1_texts r.texts :: OwnSl 3 vr1_left r.left :: OwnSl 3 vr1_numbers r.numbers :: L) w')) {Z : World} {ρ : PH} {L : List Atom} {w : World} (p0 : RFlat) (vp0_kinds : Value) (vp0_texts : Value) (vp0_left : Value) (vp0_numbers : Value) (p1 : Node) (vp1_kids : Value) (hp1_kids : RoSl ρ vp1_kids p1.kids) (p2 : Int) (hp : Hp Z ρ (OwnSl 3 vp0_kinds p0.kinds :: OwnSl 9 vp0_texts p0.texts :: OwnSl 3 vp0_left p0.left :: OwnSl 3 vp0_numbers p0.numbers :: L) w) (r : RFlat) (hm : m_assessorref37_flat_body self p0 p1 p2 = some r) :
    Calls Try.prog 31 #[(.agg #[vp0_kinds, vp0_texts, vp0_left, vp0_numbers]), (.agg #[(.int .i64 p1.kind), (.string p1.text), (.int .i64 p1.at_), (.int .i64 p1.fin), vp1_kids]), (.int .i64 p2)] w (Ret fun v w' => ∃ (vr1_kinds : Value) (vr1_texts : Value) (vr1_left : Value) (vr1_numbers : Value), v = (.agg #[vr1_kinds, vr1_texts, vr1_left, vr1_numbers]) ∧ Hp Z ρ (OwnSl 3 vr1_kinds r.kinds :: OwnSl 9 vr1_texts r.texts :: OwnSl 3 vr1_left r.left :: OwnSl 3 vr1_numbers r.numbers :: L) w') := by
  refine enter (N := 65) Try.func31 rfl rfl [(0, (.agg #[vp0_kinds, vp0_texts, vp0_left, vp0_numbers])), (1, (.agg #[(.int .i64 p1.kind), (.string p1.text), (.int .i64 p1.at_), (.int .i64 p1.fin), vp1_kids])), (2, (.int .i64 p2))] rfl (argsIn_mem ⟨rfl, rfl, rfl, trivial⟩) fun a hE => ?_
  unfold m_assessorref37_flat_body at hm
  refine k_seq ?_
  refine k_region ?_
  refine s_box (wk0 rfl) rfl rfl hE hp rfl (v := (.agg #[vp0_kinds, vp0_texts, vp0_left, vp0_numbers])) rfl ?_
  intro a w b1 hE hp
  have hp : Hp Z ρ (Pt b1 (.cells #[vp0_kinds, vp0_texts, vp0_left, vp0_numbers] 60 (0, 0)) :: OwnSl 3 vp0_kinds p0.kinds :: OwnSl 9 vp0_texts p0.texts :: OwnSl 3 vp0_left p0.left :: OwnSl 3 vp0_numbers p0.numbers :: L) w := hp
  refine s_box (wk0 rfl) rfl rfl hE hp rfl (v := (.agg #[(.int .i64 p1.kind), (.string p1.text), (.int .i64 p1.at_), (.int .i64 p1.fin), vp1_kids])) rfl ?_
  intro a w b2 hE hp
  have hp : Hp Z ρ (Pt b2 (.cells #[(.int .i64 p1.kind), (.string p1.text), (.int .i64 p1.at_), (.int .i64 p1.fin), vp1_kids] 24 (0, 0)) :: _ :: _ :: _ :: _ :: _ :: L) w := hp
  refine s_new (wk0 rfl) rfl rfl hE hp rfl [(.slice none 0 0), (.slice none 0 0), (.slice none 0 0), (.slice none 0 0)] (fun w => by simp [Instr.alloc, go_sem] <;> rfl) ?_
  intro a w b3 hE hp
  have hp : Hp Z ρ (Pt b3 (.cells #[(.slice none 0 0), (.slice none 0 0), (.slice none 0 0), (.slice none 0 0)] 60 (0, 0)) :: _ :: _ :: _ :: _ :: _ :: _ :: L) w := hp
  refine s_nil ?_
  refine k_seq ?_
  refine k_region ?_
  refine s_val (wk0 rfl) rfl rfl hE hp (v := (.pointer (some ⟨b1, 0, none⟩))) (ex_field rfl hE rfl (fldty60_0 _ _)) ?_
  intro a hE
  refine s_val (wk0 rfl) rfl rfl hE hp (v := vp0_kinds) (ex_load rfl hE rfl (fun w hw => run_ld1 varty34 (Hp.c 2 rfl 0 rfl w hw))) ?_
  intro a hE
  refine s_val (wk0 rfl) rfl rfl hE hp (v := (.int .i64 (p0.kinds.length : Int))) (ex_len rfl hE rfl (OwnSl.len hp 3 rfl slty34)) ?_
  intro a hE
  refine s_val (wk0 rfl) rfl rfl hE hp (v := (.int .i64 (p0.kinds.length : Int))) (ex_asn rfl hE rfl) ?_
  intro a hE
  refine s_nil ?_
  refine k_seq ?_
  refine k_region ?_
  refine s_val (wk0 rfl) rfl rfl hE hp (v := (.int .i64 p2)) (ex_move rfl hE rfl) ?_
  intro a hE
  obtain ⟨x1, ex1, hm⟩ := bnd hm
  refine s_val (wk0 rfl) rfl rfl hE hp (v := (.int .i64 x1)) (ex_add rfl hE rfl rfl (inK_some ex1)) ?_
  intro a hE
  refine s_val (wk0 rfl) rfl rfl hE hp (v := (.int .i64 x1)) (ex_asn rfl hE rfl) ?_
  intro a hE
  refine s_nil ?_
  refine k_seq ?_
  refine k_seq ?_
  refine k_region ?_
  refine s_val (wk0 rfl) rfl rfl hE hp (v := (.int .i64 0)) (ex_asn rfl hE rfl) ?_
  intro a hE
  refine s_nil ?_
  obtain ⟨b4, hb1, hm⟩ := bnd hm
  refine k_block (fun a w => ∃ (w1 : Value) (w2 : Value) (w3 : Value) (w4 : Value), Env 65 [(2, (.int .i64 p2)), (3, (.pointer (some ⟨b1, 0, none⟩))), (4, (.pointer (some ⟨b2, 0, none⟩))), (6, (.pointer (some ⟨b3, 0, none⟩))), (7, (.int .i64 (p0.kinds.length : Int)))] a ∧ Hp Z ρ (Pt b3 (.cells #[(.slice none 0 0), (.slice none 0 0), (.slice none 0 0), (.slice none 0 0)] 60 (0, 0)) :: Pt b2 (.cells #[(.int .i64 p1.kind), (.string p1.text), (.int .i64 p1.at_), (.int .i64 p1.fin), vp1_kids] 24 (0, 0)) :: Pt b1 (.cells #[w1, w2, w3, w4] 60 (0, 0)) :: OwnSl 3 w1 b4.1 :: OwnSl 9 w2 b4.2.1 :: OwnSl 3 w3 b4.2.2.1 :: OwnSl 3 w4 b4.2.2.2 :: L) w) ?_ ?_
  · refine k_loop hb1 (fun s a w => ∃ (w1 : Value) (w2 : Value) (w3 : Value) (w4 : Value), Env 65 [(2, (.int .i64 p2)), (3, (.pointer (some ⟨b1, 0, none⟩))), (4, (.pointer (some ⟨b2, 0, none⟩))), (6, (.pointer (some ⟨b3, 0, none⟩))), (7, (.int .i64 (p0.kinds.length : Int))), (8, (.int .i64 s.1)), (9, (.int .i64 s.2.1))] a ∧ Hp Z ρ (Pt b3 (.cells #[(.slice none 0 0), (.slice none 0 0), (.slice none 0 0), (.slice none 0 0)] 60 (0, 0)) :: Pt b2 (.cells #[(.int .i64 p1.kind), (.string p1.text), (.int .i64 p1.at_), (.int .i64 p1.fin), vp1_kids] 24 (0, 0)) :: Pt b1 (.cells #[w1, w2, w3, w4] 60 (0, 0)) :: OwnSl 3 w1 s.2.2.1 :: OwnSl 9 w2 s.2.2.2.1 :: OwnSl 3 w3 s.2.2.2.2.1 :: OwnSl 3 w4 s.2.2.2.2.2 :: L) w) ?_ ?_
    · exact ⟨_, _, _, _, hE.cut ⟨rfl, rfl, rfl, rfl, rfl, rfl, rfl, trivial⟩, hp⟩
    · rintro ⟨lp1_0, lp1_1, lp1_2, lp1_3, lp1_4, lp1_5⟩ st a w ⟨w1, w2, w3, w4, hE, hp⟩ hl1
      have hE : Env 65 [(2, (.int .i64 p2)), (3, (.pointer (some ⟨b1, 0, none⟩))), (4, (.pointer (some ⟨b2, 0, none⟩))), (6, (.pointer (some ⟨b3, 0, none⟩))), (7, (.int .i64 (p0.kinds.length : Int))), (8, (.int .i64 lp1_0)), (9, (.int .i64 lp1_1))] a := hE
      have hp : Hp Z ρ (_ :: _ :: Pt b1 (.cells #[w1, w2, w3, w4] 60 (0, 0)) :: OwnSl 3 w1 lp1_2 :: OwnSl 9 w2 lp1_3 :: OwnSl 3 w3 lp1_4 :: OwnSl 3 w4 lp1_5 :: L) w := hp
      replace hl1 : m_assessorref37_flat_body_lp1 p1 self lp1_0 lp1_1 lp1_2 lp1_3 lp1_4 lp1_5 = some st := hl1
      unfold m_assessorref37_flat_body_lp1 at hl1
      refine k_seq ?_
      refine k_seq ?_
      refine k_region ?_
      refine s_val (wk0 rfl) rfl rfl hE hp (v := (.int .i64 lp1_1)) (ex_move rfl hE rfl) ?_
      intro a hE
      refine s_val (wk0 rfl) rfl rfl hE hp (v := (.pointer (some ⟨b2, 4, none⟩))) (ex_field rfl hE rfl (fldty24_4 _ _)) ?_
      intro a hE
      refine s_val (wk0 rfl) rfl rfl hE hp (v := vp1_kids) (ex_load rfl hE rfl (fun w hw => run_ld1 varty22 (Hp.c 1 rfl 4 rfl w hw))) ?_
      intro a hE
      refine s_val (wk0 rfl) rfl rfl hE hp (v := (.int .i64 (p1.kids.length : Int))) (ex_len rfl hE rfl (RoSl.len hp1_kids slty22)) ?_
      intro a hE
      refine s_val (wk0 rfl) rfl rfl hE hp (v := (.bool (decide (lp1_1 < (p1.kids.length : Int))))) (ex_lss rfl hE rfl rfl) ?_
      intro a hE
      refine s_nil ?_
      refine k_if hE rfl (fun hb2 => ?_) (fun hb2 => ?_)
      · replace hl1 := (it hb2).symm.trans hl1
        refine k_skip ?_
        refine k_seq ?_
        refine k_plain ?_
        refine k_seq ?_
        obtain ⟨x2, ex2, hl1⟩ := bnd hl1
        obtain ⟨x3, ex3, hl1⟩ := bnd hl1
        have hp := hp.drew
        refine k_heldV ([([], At0 Z ρ), ([], At1 Z ρ (Pt b2 (.cells #[(.int .i64 p1.kind), (.string p1.text), (.int .i64 p1.at_), (.int .i64 p1.fin), vp1_kids] 24 (0, 0)))), ([8], At1 Z ρ (Pt b1 (.cells #[w1, w2, w3, w4] 60 (0, 0))))] : Facts) (fun a w => ∃ y1 : Value, ∃ y2 : Value, ∃ y3 : Value, ∃ y4 : Value, Env 65 [(2, (.int .i64 p2)), (3, (.pointer (some ⟨b1, 0, none⟩))), (4, (.pointer (some ⟨b2, 0, none⟩))), (6, (.pointer (some ⟨b3, 0, none⟩))), (7, (.int .i64 (p0.kinds.length : Int))), (8, (.int .i64 lp1_0)), (9, (.int .i64 lp1_1))] a ∧ Hp Z ρ (OwnSl 3 y1 x3.kinds :: OwnSl 9 y2 x3.texts :: OwnSl 3 y3 x3.left :: OwnSl 3 y4 x3.numbers :: Pt b3 (.cells #[(.slice none 0 0), (.slice none 0 0), (.slice none 0 0), (.slice none 0 0)] 60 (0, 0)) :: Pt b2 (.cells #[(.int .i64 p1.kind), (.string p1.text), (.int .i64 p1.at_), (.int .i64 p1.fin), vp1_kids] 24 (0, 0)) :: Pt b1 (.cells #[y1, y2, y3, y4] 60 (0, 0)) :: L) w) (by kernel_rfl) ⟨fun _ => ⟨_, hp⟩, fun _ => ⟨_, (hp.get 1 rfl)⟩, fun _ => ⟨_, (hp.get 2 rfl)⟩, trivial⟩ (fun hS => ?_) ?_
        ·
          generalize w.drew = w at hS hp ⊢
          refine v_take1 0 2 (wk0 rfl) rfl rfl rfl hE (by kernel_rfl) (by kernel_rfl) (by kernel_rfl) rfl (by kernel_rfl) hS (v := (.agg #[w1, w2, w3, w4])) (fun _ => ex_load rfl hE rfl (fun w hw => run_ldN (cs := [w1, w2, w3, w4]) varty60 (Hp.cN 0 rfl 0 _ (sub_all rfl) w hw))) ?_
          intro a hE hS
          refine v_take0 1 (wk0 rfl) rfl rfl rfl hE (by kernel_rfl) (by kernel_rfl) (by kernel_rfl) rfl (by kernel_rfl) hS (v := (.pointer (some ⟨b2, 4, none⟩))) (fun _ => ex_field rfl hE rfl (fldty24_4 _ _)) ?_
          intro a hE hS
          refine v_take1 2 1 (wk0 rfl) rfl rfl rfl hE (by kernel_rfl) (by kernel_rfl) (by kernel_rfl) rfl (by kernel_rfl) hS (v := vp1_kids) (fun _ => ex_load rfl hE rfl (fun w hw => run_ld1 varty22 (Hp.c 0 rfl 4 rfl w hw))) ?_
          intro a hE hS
          refine v_take0 3 (wk0 rfl) rfl rfl rfl hE (by kernel_rfl) (by kernel_rfl) (by kernel_rfl) rfl (by kernel_rfl) hS (v := (.int .i64 lp1_1)) (fun _ => ex_move rfl hE rfl) ?_
          intro a hE hS
          obtain ⟨b6, b6o, b6c, b6r, b6k, b6f⟩ := RoSl.at hp1_kids slty22 ex2
          obtain ⟨vb6_kids, rfl, hb6_kids⟩ := NodeAt.opens b6k
          have b6f : AtP ρ b6 b6o [(.int .i64 x2.kind), (.string x2.text), (.int .i64 x2.at_), (.int .i64 x2.fin), vb6_kids] := b6f
          refine v_take0 4 (wk0 rfl) rfl rfl rfl hE (by kernel_rfl) (by kernel_rfl) (by kernel_rfl) rfl (by kernel_rfl) hS (v := (.pointer (some ⟨b6, b6o, none⟩))) (fun _ => ex_index rfl hE rfl rfl b6r) ?_
          intro a hE hS
          refine v_take0 5 (wk0 rfl) rfl rfl rfl hE (by kernel_rfl) (by kernel_rfl) (by kernel_rfl) rfl (by kernel_rfl) hS (v := (.agg #[(.int .i64 x2.kind), (.string x2.text), (.int .i64 x2.at_), (.int .i64 x2.fin), vb6_kids])) (fun _ => ex_load rfl hE rfl (fun w hw => run_ldN (cs := [(.int .i64 x2.kind), (.string x2.text), (.int .i64 x2.at_), (.int .i64 x2.fin), vb6_kids]) varty24 (fun j u hj => cell_of hw.le (b6f j u hj)))) ?_
          intro a hE hS
          refine v_take0 6 (wk0 rfl) rfl rfl rfl hE (by kernel_rfl) (by kernel_rfl) (by kernel_rfl) rfl (by kernel_rfl) hS (v := (.int .i64 lp1_0)) (fun _ => ex_move rfl hE rfl) ?_
          intro a hE hS
          refine v_all [7] (by kernel_rfl) rfl ?_
          refine List.forall_mem_cons.2 ⟨?_, fun _ h => absurd h (by simp)⟩
          ·
            refine h_op rfl ?_
            refine s_call (wk0 rfl) rfl rfl hE rfl [(.agg #[w1, w2, w3, w4]), (.agg #[(.int .i64 x2.kind), (.string x2.text), (.int .i64 x2.at_), (.int .i64 x2.fin), vb6_kids]), (.int .i64 lp1_0)] ⟨rfl, rfl, rfl, trivial⟩ ent31 (hself (RFlat.mk lp1_2 lp1_3 lp1_4 lp1_5) w1 w2 w3 w4 x2 vb6_kids hb6_kids lp1_0 ((((hp.get 6 rfl).get 6 rfl).get 6 rfl).get 6 rfl) x3 ex3) Ret.ret ?_
            intro v a w hR hE
            obtain ⟨vr2_kinds, vr2_texts, vr2_left, vr2_numbers, rfl, hp⟩ := Ret.of hR
            have hp : Hp Z ρ (OwnSl 3 vr2_kinds x3.kinds :: OwnSl 9 vr2_texts x3.texts :: OwnSl 3 vr2_left x3.left :: OwnSl 3 vr2_numbers x3.numbers :: _ :: _ :: _ :: L) w := hp
            refine s_nil (and_with ⟨fun _ => ⟨_, hp⟩, fun _ => ⟨_, (hp.get 5 rfl)⟩, fun _ => ⟨_, (hp.get 6 rfl)⟩, trivial⟩ fun hS => ?_)
            refine v_all [8] (by kernel_rfl) rfl ?_
            refine List.forall_mem_cons.2 ⟨?_, fun _ h => absurd h (by simp)⟩
            ·
              refine h_op rfl ?_
              refine s_store (wk0 rfl) rfl hE hp rfl rfl rfl 6 rfl varty60.size_ rfl (allOne_mem ⟨(OwnSl.one hp 0 rfl), (OwnSl.one hp 1 rfl), (OwnSl.one hp 2 rfl), (OwnSl.one hp 3 rfl), trivial⟩) [vr2_kinds, vr2_texts, vr2_left, vr2_numbers] rfl ?_
              intro w hp
              have hp : Hp Z ρ (_ :: _ :: _ :: _ :: _ :: _ :: Pt b1 (.cells #[vr2_kinds, vr2_texts, vr2_left, vr2_numbers] 60 (0, 0)) :: L) w := hp
              refine s_nil (and_with ⟨fun _ => ⟨_, hp⟩, fun _ => ⟨_, (hp.get 5 rfl)⟩, dead (by kernel_rfl), trivial⟩ fun hS => ?_)
              exact v_done (by kernel_rfl) ⟨_, _, _, _, hE.cut ⟨rfl, rfl, rfl, rfl, rfl, rfl, rfl, trivial⟩, hp⟩
        · rintro a w ⟨y1, y2, y3, y4, hE, hp⟩
          refine k_region ?_
          refine s_val (wk0 rfl) rfl rfl hE hp (v := (.int .i64 lp1_0)) (ex_move rfl hE rfl) ?_
          intro a hE
          refine s_val (wk0 rfl) rfl rfl hE hp (v := (.pointer (some ⟨b2, 4, none⟩))) (ex_field rfl hE rfl (fldty24_4 _ _)) ?_
          intro a hE
          refine s_val (wk0 rfl) rfl rfl hE hp (v := vp1_kids) (ex_load rfl hE rfl (fun w hw => run_ld1 varty22 (Hp.c 5 rfl 4 rfl w hw))) ?_
          intro a hE
          refine s_val (wk0 rfl) rfl rfl hE hp (v := (.int .i64 lp1_1)) (ex_move rfl hE rfl) ?_
          intro a hE
          obtain ⟨x4, ex4, hl1⟩ := bnd hl1
          obtain ⟨b7, b7o, b7c, b7r, b7k, b7f⟩ := RoSl.at hp1_kids slty22 ex4
          obtain ⟨vb7_kids, rfl, hb7_kids⟩ := NodeAt.opens b7k
          have b7f : AtP ρ b7 b7o [(.int .i64 x4.kind), (.string x4.text), (.int .i64 x4.at_), (.int .i64 x4.fin), vb7_kids] := b7f
          refine s_val (wk0 rfl) rfl rfl hE hp (v := (.pointer (some ⟨b7, b7o, none⟩))) (ex_index rfl hE rfl rfl b7r) ?_
          intro a hE
          refine s_val (wk0 rfl) rfl rfl hE hp (v := (.agg #[(.int .i64 x4.kind), (.string x4.text), (.int .i64 x4.at_), (.int .i64 x4.fin), vb7_kids])) (ex_load rfl hE rfl (fun w hw => run_ldN (cs := [(.int .i64 x4.kind), (.string x4.text), (.int .i64 x4.at_), (.int .i64 x4.fin), vb7_kids]) varty24 (fun j u hj => cell_of hw.le (b7f j u hj)))) ?_
          intro a hE
          obtain ⟨x5, ex5, hl1⟩ := bnd hl1
          refine s_call (wk0 rfl) rfl rfl hE rfl [(.agg #[(.int .i64 x4.kind), (.string x4.text), (.int .i64 x4.at_), (.int .i64 x4.fin), vb7_kids])] ⟨rfl, trivial⟩ ent21 (c_assessorref37_Count x4 vb7_kids hb7_kids hp x5 ex5) Ret.ret ?_
          intro v a w hR hE
          obtain ⟨rfl, hp⟩ := Ret.of hR
          have hp : Hp Z ρ (OwnSl 3 y1 x3.kinds :: OwnSl 9 y2 x3.texts :: OwnSl 3 y3 x3.left :: OwnSl 3 y4 x3.numbers :: _ :: _ :: Pt b1 (.cells #[y1, y2, y3, y4] 60 (0, 0)) :: L) w := hp
          obtain ⟨x6, ex6, hl1⟩ := bnd hl1
          refine s_val (wk0 rfl) rfl rfl hE hp (v := (.int .i64 x6)) (ex_add rfl hE rfl rfl (inK_some ex6)) ?_
          intro a hE
          refine s_val (wk0 rfl) rfl rfl hE hp (v := (.int .i64 x6)) (ex_asn rfl hE rfl) ?_
          intro a hE
          refine s_nil ?_
          refine k_region ?_
          refine s_val (wk0 rfl) rfl rfl hE hp (v := (.int .i64 lp1_1)) (ex_move rfl hE rfl) ?_
          intro a hE
          obtain ⟨x7, ex7, hl1⟩ := bnd hl1
          refine s_val (wk0 rfl) rfl rfl hE hp (v := (.int .i64 x7)) (ex_add rfl hE rfl rfl (inK_some ex7)) ?_
          intro a hE
          refine s_val (wk0 rfl) rfl rfl hE hp (v := (.int .i64 x7)) (ex_asn rfl hE rfl) ?_
          intro a hE
          refine s_nil ?_
          exact ⟨_, (Option.some.inj hl1).symm, _, _, _, _, hE.cut ⟨rfl, rfl, rfl, rfl, rfl, rfl, rfl, trivial⟩, (((((((hp.get 3 rfl).get 3 rfl).get 3 rfl).get 3 rfl).get 6 rfl).get 6 rfl).get 6 rfl)⟩
      · replace hl1 := (ie hb2).symm.trans hl1
        refine k_exit ?_
        refine ⟨_, (Option.some.inj hl1).symm, fun hbb => ?_⟩
        subst hbb
        exact ⟨_, _, _, _, hE.cut ⟨rfl, rfl, rfl, rfl, rfl, trivial⟩, hp⟩
  · rintro a w ⟨w1, w2, w3, w4, hE, hp⟩
    refine k_seq ?_
    refine k_region ?_
    refine s_val (wk0 rfl) rfl rfl hE hp (v := (.pointer (some ⟨b1, 0, none⟩))) (ex_field rfl hE rfl (fldty60_0 _ _)) ?_
    intro a hE
    refine s_val (wk0 rfl) rfl rfl hE hp (v := w1) (ex_load rfl hE rfl (fun w hw => run_ld1 varty34 (Hp.c 2 rfl 0 rfl w hw))) ?_
    intro a hE
    refine s_val (wk0 rfl) rfl rfl hE hp (v := (.pointer (some ⟨b2, 0, none⟩))) (ex_field rfl hE rfl (fldty24_0 _ _)) ?_
    intro a hE
    refine s_val (wk0 rfl) rfl rfl hE hp (v := (.int .i64 p1.kind)) (ex_load rfl hE rfl (fun w hw => run_ld1 varty3 (Hp.c 1 rfl 0 rfl w hw))) ?_
    intro a hE
    refine s_lit (wk0 rfl) rfl rfl hE hp rfl [(0, (.int .i64 p1.kind))] ⟨⟨rfl, rfl⟩, trivial⟩ [(.int .i64 p1.kind)] 3 (fun w => by simp [Instr.buildSlice, Instr.fill, Value.cells, go_sem]) ?_
    intro a w b8 hE hp
    have hp : Hp Z ρ (Pt b8 (.cells #[(.int .i64 p1.kind)] 3 (0, 0)) :: _ :: _ :: Pt b1 (.cells #[w1, w2, w3, w4] 60 (0, 0)) :: OwnSl 3 w1 b4.1 :: OwnSl 9 w2 b4.2.1 :: OwnSl 3 w3 b4.2.2.1 :: OwnSl 3 w4 b4.2.2.2 :: L) w := hp
    obtain ⟨x8, ex8, hm⟩ := bnd hm
    refine s_app (wk0 rfl) rfl rfl hE hp rfl slty34 rfl rfl 4 rfl rfl (l2 := [p1.kind]) rfl (fun j u hj => by have := Hp.cN 0 rfl 0 _ (sub_all rfl) w hp j u hj; simpa using this) ex8 ?_
    intro v1 a w hE hp
    have hp : Hp Z ρ (_ :: _ :: _ :: _ :: OwnSl 3 v1 x8 :: _ :: _ :: _ :: L) w := hp
    refine s_val (wk0 rfl) rfl rfl hE hp (v := (.pointer (some ⟨b1, 0, none⟩))) (ex_field rfl hE rfl (fldty60_0 _ _)) ?_
    intro a hE
    refine s_store1 (wk0 rfl) rfl hE hp rfl rfl rfl 3 rfl varty34.size_ (OwnSl.cells hp 4 rfl) (OwnSl.one hp 4 rfl) rfl [v1, w2, w3, w4] rfl ?_
    intro w hp
    have hp : Hp Z ρ (_ :: _ :: _ :: Pt b1 (.cells #[v1, w2, w3, w4] 60 (0, 0)) :: _ :: _ :: _ :: _ :: L) w := hp
    refine s_nil ?_
    have hE := hE.cut (E' := [(2, (.int .i64 p2)), (3, (.pointer (some ⟨b1, 0, none⟩))), (4, (.pointer (some ⟨b2, 0, none⟩))), (6, (.pointer (some ⟨b3, 0, none⟩))), (7, (.int .i64 (p0.kinds.length : Int)))]) ⟨rfl, rfl, rfl, rfl, rfl, trivial⟩
    refine k_seq ?_
    refine k_region ?_
    refine s_val (wk0 rfl) rfl rfl hE hp (v := (.pointer (some ⟨b1, 1, none⟩))) (ex_field rfl hE rfl (fldty60_1 _ _)) ?_
    intro a hE
    refine s_val (wk0 rfl) rfl rfl hE hp (v := w2) (ex_load rfl hE rfl (fun w hw => run_ld1 varty58 (Hp.c 3 rfl 1 rfl w hw))) ?_
    intro a hE
    refine s_val (wk0 rfl) rfl rfl hE hp (v := (.pointer (some ⟨b2, 1, none⟩))) (ex_field rfl hE rfl (fldty24_1 _ _)) ?_
    intro a hE
    refine s_val (wk0 rfl) rfl rfl hE hp (v := (.string p1.text)) (ex_load rfl hE rfl (fun w hw => run_ld1 varty9 (Hp.c 2 rfl 1 rfl w hw))) ?_
    intro a hE
    refine s_lit (wk0 rfl) rfl rfl hE hp rfl [(0, (.string p1.text))] ⟨⟨rfl, rfl⟩, trivial⟩ [(.string p1.text)] 9 (fun w => by simp [Instr.buildSlice, Instr.fill, Value.cells, go_sem]) ?_
    intro a w b9 hE hp
    have hp : Hp Z ρ (Pt b9 (.cells #[(.string p1.text)] 9 (0, 0)) :: _ :: _ :: _ :: _ :: _ :: _ :: _ :: _ :: L) w := hp
    obtain ⟨x9, ex9, hm⟩ := bnd hm
    refine s_app (wk0 rfl) rfl rfl hE hp rfl slty58 rfl rfl 6 rfl rfl (l2 := [p1.text]) rfl (fun j u hj => by have := Hp.cN 0 rfl 0 _ (sub_all rfl) w hp j u hj; simpa using this) ex9 ?_
    intro v2 a w hE hp
    have hp : Hp Z ρ (_ :: _ :: _ :: _ :: _ :: _ :: OwnSl 9 v2 x9 :: _ :: _ :: L) w := hp
    refine s_val (wk0 rfl) rfl rfl hE hp (v := (.pointer (some ⟨b1, 1, none⟩))) (ex_field rfl hE rfl (fldty60_1 _ _)) ?_
    intro a hE
    refine s_store1 (wk0 rfl) rfl hE hp rfl rfl rfl 4 rfl varty58.size_ (OwnSl.cells hp 6 rfl) (OwnSl.one hp 6 rfl) rfl [v1, v2, w3, w4] rfl ?_
    intro w hp
    have hp : Hp Z ρ (_ :: _ :: _ :: _ :: Pt b1 (.cells #[v1, v2, w3, w4] 60 (0, 0)) :: _ :: _ :: _ :: _ :: L) w := hp
    refine s_nil ?_
    refine k_seq ?_
    refine k_region ?_
    refine s_val (wk0 rfl) rfl rfl hE hp (v := (.pointer (some ⟨b1, 2, none⟩))) (ex_field rfl hE rfl (fldty60_2 _ _)) ?_
    intro a hE
    refine s_val (wk0 rfl) rfl rfl hE hp (v := w3) (ex_load rfl hE rfl (fun w hw => run_ld1 varty34 (Hp.c 4 rfl 2 rfl w hw))) ?_
    intro a hE
    refine s_val (wk0 rfl) rfl rfl hE hp (v := (.int .i64 (p0.kinds.length : Int))) (ex_move rfl hE rfl) ?_
    intro a hE
    refine s_lit (wk0 rfl) rfl rfl hE hp rfl [(0, (.int .i64 (p0.kinds.length : Int)))] ⟨⟨rfl, rfl⟩, trivial⟩ [(.int .i64 (p0.kinds.length : Int))] 3 (fun w => by simp [Instr.buildSlice, Instr.fill, Value.cells, go_sem]) ?_
    intro a w b10 hE hp
    have hp : Hp Z ρ (Pt b10 (.cells #[(.int .i64 (p0.kinds.length : Int))] 3 (0, 0)) :: _ :: _ :: _ :: _ :: _ :: _ :: _ :: _ :: _ :: L) w := hp
    obtain ⟨x10, ex10, hm⟩ := bnd hm
    refine s_app (wk0 rfl) rfl rfl hE hp rfl slty34 rfl rfl 8 rfl rfl (l2 := [(p0.kinds.length : Int)]) rfl (fun j u hj => by have := Hp.cN 0 rfl 0 _ (sub_all rfl) w hp j u hj; simpa using this) ex10 ?_
    intro v3 a w hE hp
    have hp : Hp Z ρ (_ :: _ :: _ :: _ :: _ :: _ :: _ :: _ :: OwnSl 3 v3 x10 :: _ :: L) w := hp
    refine s_val (wk0 rfl) rfl rfl hE hp (v := (.pointer (some ⟨b1, 2, none⟩))) (ex_field rfl hE rfl (fldty60_2 _ _)) ?_
    intro a hE
    refine s_store1 (wk0 rfl) rfl hE hp rfl rfl rfl 5 rfl varty34.size_ (OwnSl.cells hp 8 rfl) (OwnSl.one hp 8 rfl) rfl [v1, v2, v3, w4] rfl ?_
    intro w hp
    have hp : Hp Z ρ (_ :: _ :: _ :: _ :: _ :: Pt b1 (.cells #[v1, v2, v3, w4] 60 (0, 0)) :: _ :: _ :: _ :: _ :: L) w := hp
    refine s_nil ?_
    refine k_seq ?_
    refine k_region ?_
    refine s_val (wk0 rfl) rfl rfl hE hp (v := (.pointer (some ⟨b1, 3, none⟩))) (ex_field rfl hE rfl (fldty60_3 _ _)) ?_
    intro a hE
    refine s_val (wk0 rfl) rfl rfl hE hp (v := w4) (ex_load rfl hE rfl (fun w hw => run_ld1 varty34 (Hp.c 5 rfl 3 rfl w hw))) ?_
    intro a hE
    refine s_val (wk0 rfl) rfl rfl hE hp (v := (.int .i64 p2)) (ex_move rfl hE rfl) ?_
    intro a hE
    refine s_lit (wk0 rfl) rfl rfl hE hp rfl [(0, (.int .i64 p2))] ⟨⟨rfl, rfl⟩, trivial⟩ [(.int .i64 p2)] 3 (fun w => by simp [Instr.buildSlice, Instr.fill, Value.cells, go_sem]) ?_
    intro a w b11 hE hp
    have hp : Hp Z ρ (Pt b11 (.cells #[(.int .i64 p2)] 3 (0, 0)) :: _ :: _ :: _ :: _ :: _ :: _ :: _ :: _ :: _ :: _ :: L) w := hp
    obtain ⟨x11, ex11, hm⟩ := bnd hm
    refine s_app (wk0 rfl) rfl rfl hE hp rfl slty34 rfl rfl 10 rfl rfl (l2 := [p2]) rfl (fun j u hj => by have := Hp.cN 0 rfl 0 _ (sub_all rfl) w hp j u hj; simpa using this) ex11 ?_
    intro v4 a w hE hp
    have hp : Hp Z ρ (_ :: _ :: _ :: _ :: _ :: _ :: _ :: _ :: _ :: _ :: OwnSl 3 v4 x11 :: L) w := hp
    refine s_val (wk0 rfl) rfl rfl hE hp (v := (.pointer (some ⟨b1, 3, none⟩))) (ex_field rfl hE rfl (fldty60_3 _ _)) ?_
    intro a hE
    refine s_store1 (wk0 rfl) rfl hE hp rfl rfl rfl 6 rfl varty34.size_ (OwnSl.cells hp 10 rfl) (OwnSl.one hp 10 rfl) rfl [v1, v2, v3, v4] rfl ?_
    intro w hp
    have hp : Hp Z ρ (_ :: _ :: _ :: _ :: _ :: _ :: Pt b1 (.cells #[v1, v2, v3, v4] 60 (0, 0)) :: _ :: _ :: _ :: _ :: L) w := hp
    refine s_nil ?_
    refine k_seq ?_
    refine k_region ?_
    refine s_val (wk0 rfl) rfl rfl hE hp (v := (.agg #[v1, v2, v3, v4])) (ex_load rfl hE rfl (fun w hw => run_ldN (cs := [v1, v2, v3, v4]) varty60 (Hp.cN 6 rfl 0 _ (sub_all rfl) w hw))) ?_
    intro a hE
    refine s_store (wk0 rfl) rfl hE hp rfl rfl rfl 4 rfl varty60.size_ rfl (allOne_mem ⟨(OwnSl.one hp 7 rfl), (OwnSl.one hp 8 rfl), (OwnSl.one hp 9 rfl), (OwnSl.one hp 10 rfl), trivial⟩) [v1, v2, v3, v4] rfl ?_
    intro w hp
    have hp : Hp Z ρ (_ :: _ :: _ :: _ :: Pt b3 (.cells #[v1, v2, v3, v4] 60 (0, 0)) :: _ :: _ :: _ :: _ :: _ :: _ :: L) w := hp
    refine s_nil ?_
    have hE := hE.cut (E' := [(6, (.pointer (some ⟨b3, 0, none⟩)))]) ⟨rfl, trivial⟩
    refine k_ret ?_
    obtain rfl := Option.some.inj hm
    exact retc1 hE rfl rfl (run_lvN (cs := [v1, v2, v3, v4]) varty60 (Hp.cN 4 rfl 0 _ (sub_all rfl) _ hp)) ⟨_, rfl, _, _, _, _, rfl, (((((((((((((hp.get 6 rfl).drop).get 5 rfl).drop).get 4 rfl).drop).get 3 rfl).drop).get 2 rfl).drop).get 1 rfl).drop).drop)⟩
theorem c_assessorref37_flat_r : ∀ (n : Nat), ∀ {Z : World} {ρ : PH} {L : List Atom} {w : World} (p0 : RFlat) (vp0_kinds : Value) (vp0_texts : Value) (vp0_left : Value) (vp0_numbers : Value) (p1 : Node) (vp1_kids : Value) (hp1_kids : RoSl ρ vp1_kids p1.kids) (p2 : Int) (hp : Hp Z ρ (OwnSl 3 vp0_kinds p0.kinds :: OwnSl 9 vp0_texts p0.texts :: OwnSl 3 vp0_left p0.left :: OwnSl 3 vp0_numbers p0.numbers :: L) w) (r : RFlat) (hm : m_assessorref37_flat_r n p0 p1 p2 = some r), Calls Try.prog 31 #[(.agg #[vp0_kinds, vp0_texts, vp0_left, vp0_numbers]), (.agg #[(.int .i64 p1.kind), (.string p1.text), (.int .i64 p1.at_), (.int .i64 p1.fin), vp1_kids]), (.int .i64 p2)] w (Ret fun v w' => ∃ (vr1_kinds : Value) (vr1_texts : Value) (vr1_left : Value) (vr1_numbers : Value), v = (.agg #[vr1_kinds, vr1_texts, vr1_left, vr1_numbers]) ∧ Hp Z ρ (OwnSl 3 vr1_kinds r.kinds :: OwnSl 9 vr1_texts r.texts :: OwnSl 3 vr1_left r.left :: OwnSl 3 vr1_numbers r.numbers :: L) w') := by
  intro n
  induction n with
  | zero => intro Z ρ L w p0 vp0_kinds vp0_texts vp0_left vp0_numbers p1 vp1_kids hp1_kids p2 hp r hm; cases hm
  | succ n ih => intro Z ρ L w p0 vp0_kinds vp0_texts vp0_left vp0_numbers p1 vp1_kids hp1_kids p2 hp r hm; exact c_assessorref37_flat_body (m_assessorref37_flat_r n) ih p0 vp0_kinds vp0_texts vp0_left vp0_numbers p1 vp1_kids hp1_kids p2 hp r hm
theorem c_assessorref37_flat {Z : World} {ρ : PH} {L : List Atom} {w : World} (p0 : RFlat) (vp0_kinds : Value) (vp0_texts : Value) (vp0_left : Value) (vp0_numbers : Value) (p1 : Node) (vp1_kids : Value) (hp1_kids : RoSl ρ vp1_kids p1.kids) (p2 : Int) (hp : Hp Z ρ (OwnSl 3 vp0_kinds p0.kinds :: OwnSl 9 vp0_texts p0.texts :: OwnSl 3 vp0_left p0.left :: OwnSl 3 vp0_numbers p0.numbers :: L) w) (r : RFlat) (hm : m_assessorref37_flat p0 p1 p2 = some r) :
    Calls Try.prog 31 #[(.agg #[vp0_kinds, vp0_texts, vp0_left, vp0_numbers]), (.agg #[(.int .i64 p1.kind), (.string p1.text), (.int .i64 p1.at_), (.int .i64 p1.fin), vp1_kids]), (.int .i64 p2)] w (Ret fun v w' => ∃ (vr1_kinds : Value) (vr1_texts : Value) (vr1_left : Value) (vr1_numbers : Value), v = (.agg #[vr1_kinds, vr1_texts, vr1_left, vr1_numbers]) ∧ Hp Z ρ (OwnSl 3 vr1_kinds r.kinds :: OwnSl 9 vr1_texts r.texts :: OwnSl 3 vr1_left r.left :: OwnSl 3 vr1_numbers r.numbers :: L) w') := c_assessorref37_flat_r _ p0 vp0_kinds vp0_texts vp0_left vp0_numbers p1 vp1_kids hp1_kids p2 hp r hm
/- assessor/assessorref37.table -/
set_option maxRecDepth 100000 in
set_option maxHeartbeats 4000000 in
theorem c_assessorref37_table {Z : World} {ρ : PH} {L : List Atom} {w : World} (p0 : Int) (p1 : Int) (hp : Hp Z ρ (L) w) (r : (List (List Int))) (hm : m_assessorref37_table p0 p1 = some r) :
    Calls Try.prog 32 #[(.int .i64 p0), (.int .i64 p1)] w (Ret fun v w' => ∃ (vr1 : Value) (usr1 : List Sl), v = vr1 ∧ Hp Z ρ (TblA 34 3 vr1 usr1 (r : (List (List Int))) :: L) w') := by
  refine enter (N := 19) Try.func32 rfl rfl [(0, (.int .i64 p0)), (1, (.int .i64 p1))] rfl (argsIn_mem ⟨rfl, rfl, trivial⟩) fun a hE => ?_
  unfold m_assessorref37_table at hm
  refine k_seq ?_
  refine k_region ?_
  refine s_val (wk0 rfl) rfl rfl hE hp (v := (.slice none 0 0)) (ex_asn rfl hE rfl) ?_
  intro a hE
  refine s_nil ?_
  refine k_seq ?_
  refine k_region ?_
  refine s_lit (wk0 rfl) rfl rfl hE hp rfl [] trivial [] 34 (fun w => by simp [Instr.buildSlice, Instr.fill, Value.cells, go_sem]) ?_
  intro a w b1 hE hp
  have hp : Hp Z ρ (Pt b1 (.cells #[] 34 (0, 0)) :: L) w := hp
  refine s_val (wk0 rfl) rfl rfl hE hp (v := (.slice (some ⟨b1, 0, none⟩) 0 0)) (ex_asn rfl hE rfl) ?_
  intro a hE
  refine s_nil ?_
  refine k_seq ?_
  refine k_seq ?_
  refine k_region ?_
  refine s_val (wk0 rfl) rfl rfl hE hp (v := (.int .i64 0)) (ex_asn rfl hE rfl) ?_
  intro a hE
  refine s_nil ?_
  have hp := hp.emp (TblA.none (α := Int) 34 3 (some ⟨b1, 0, none⟩))
  have hp : Hp Z ρ (TblA 34 3 (.slice (some ⟨b1, 0, none⟩) 0 0) ([]) ([] : (List (List Int))) :: _ :: L) w := hp
  obtain ⟨b2, hb1, hm⟩ := bnd hm
  refine k_block (fun a w => ∃ (w6 : Value) (us6 : List Sl), Env 19 [(5, w6)] a ∧ Hp Z ρ (TblA 34 3 w6 us6 (b2 : (List (List Int))) :: Pt b1 (.cells #[] 34 (0, 0)) :: L) w) ?_ ?_
  · refine k_loop hb1 (fun s a w => ∃ (w6 : Value) (us6 : List Sl), Env 19 [(0, (.int .i64 p0)), (1, (.int .i64 p1)), (5, w6), (6, (.int .i64 s.1))] a ∧ Hp Z ρ (TblA 34 3 w6 us6 (s.2 : (List (List Int))) :: Pt b1 (.cells #[] 34 (0, 0)) :: L) w) ?_ ?_
    · exact ⟨_, _, hE.cut ⟨rfl, rfl, rfl, rfl, trivial⟩, hp⟩
    · rintro ⟨lp1_0, lp1_1⟩ st a w ⟨w6, us6, hE, hp⟩ hl1
      have hE : Env 19 [(0, (.int .i64 p0)), (1, (.int .i64 p1)), (5, w6), (6, (.int .i64 lp1_0))] a := hE
      have hp : Hp Z ρ (TblA 34 3 w6 us6 (lp1_1 : (List (List Int))) :: _ :: L) w := hp
      replace hl1 : m_assessorref37_table_lp1 p0 p1 lp1_0 lp1_1 = some st := hl1
      unfold m_assessorref37_table_lp1 at hl1
      refine k_seq ?_
      refine k_seq ?_
      refine k_region ?_
      refine s_val (wk0 rfl) rfl rfl hE hp (v := (.int .i64 lp1_0)) (ex_move rfl hE rfl) ?_
      intro a hE
      refine s_val (wk0 rfl) rfl rfl hE hp (v := (.int .i64 p0)) (ex_move rfl hE rfl) ?_
      intro a hE
      refine s_val (wk0 rfl) rfl rfl hE hp (v := (.bool (decide (lp1_0 < p0)))) (ex_lss rfl hE rfl rfl) ?_
      intro a hE
      refine s_nil ?_
      refine k_if hE rfl (fun hb2 => ?_) (fun hb2 => ?_)
      · replace hl1 := (it hb2).symm.trans hl1
        refine k_skip ?_
        refine k_seq ?_
        refine k_plain ?_
        refine k_region ?_
        refine s_val (wk0 rfl) rfl rfl hE hp (v := w6) (ex_move rfl hE rfl) ?_
        intro a hE
        refine s_val (wk0 rfl) rfl rfl hE hp (v := (.int .i64 p1)) (ex_move rfl hE rfl) ?_
        intro a hE
        obtain ⟨x1, ex1, hl1⟩ := bnd hl1
        refine s_make (wk0 rfl) rfl rfl hE hp rfl (El := 3) (bytes := 8) (by kernel_rfl) (0 : Int) (by kernel_rfl) (by kernel_rfl) rfl rfl ex1 ?_
        intro v1 a w hE hp
        have hp : Hp Z ρ (OwnSl 3 v1 x1 :: _ :: _ :: L) w := hp
        refine s_lit (wk0 rfl) rfl rfl hE hp rfl [(0, v1)] ⟨⟨rfl, rfl⟩, trivial⟩ [v1] 34 (fun w => by have hc0 := OwnSl.cells hp 0 rfl; simp only [Value.cells] at hc0; simp [Instr.buildSlice, Instr.fill, Value.cells, hc0, go_sem]) ?_
        intro a w b3 hE hp
        have hp : Hp Z ρ (Pt b3 (.cells #[v1] 34 (0, 0)) :: _ :: _ :: _ :: L) w := hp
        obtain ⟨x2, ex2, hl1⟩ := bnd hl1
        obtain ⟨sl1, sl1e⟩ := OwnSl.toSl hp 1 rfl
        refine s_tapp (wk0 rfl) rfl rfl hE sl1e (hp.get 1 rfl) rfl slty30 rfl rfl 1 rfl rfl (Hp.c 0 rfl 0 rfl w hp) ex2 ?_
        intro v2 us1 a w hE hp
        have hp : Hp Z ρ (_ :: TblA 34 3 v2 us1 (x2 : (List (List Int))) :: _ :: L) w := hp
        refine s_val (wk0 rfl) rfl rfl hE hp (v := v2) (ex_asn rfl hE rfl) ?_
        intro a hE
        refine s_nil ?_
        refine k_region ?_
        refine s_val (wk0 rfl) rfl rfl hE hp (v := (.int .i64 lp1_0)) (ex_move rfl hE rfl) ?_
        intro a hE
        obtain ⟨x3, ex3, hl1⟩ := bnd hl1
        refine s_val (wk0 rfl) rfl rfl hE hp (v := (.int .i64 x3)) (ex_add rfl hE rfl rfl (inK_some ex3)) ?_
        intro a hE
        refine s_val (wk0 rfl) rfl rfl hE hp (v := (.int .i64 x3)) (ex_asn rfl hE rfl) ?_
        intro a hE
        refine s_nil ?_
        exact ⟨_, (Option.some.inj hl1).symm, _, _, hE.cut ⟨rfl, rfl, rfl, rfl, trivial⟩, (hp.drop)⟩
      · replace hl1 := (ie hb2).symm.trans hl1
        refine k_exit ?_
        refine ⟨_, (Option.some.inj hl1).symm, fun hbb => ?_⟩
        subst hbb
        exact ⟨_, _, hE.cut ⟨rfl, trivial⟩, hp⟩
  · rintro a w ⟨w6, us6, hE, hp⟩
    refine k_seq ?_
    refine k_region ?_
    refine s_val (wk0 rfl) rfl rfl hE hp (v := w6) (ex_move rfl hE rfl) ?_
    intro a hE
    refine s_val (wk0 rfl) rfl rfl hE hp (v := w6) (ex_asn rfl hE rfl) ?_
    intro a hE
    refine s_nil ?_
    refine k_ret ?_
    obtain rfl := Option.some.inj hm
    exact ret1 hE rfl rfl ⟨_, rfl, _, _, rfl, ((hp.get 1 rfl).drop)⟩
/- assessor/assessorref37.forests -/
set_option maxRecDepth 100000 in
set_option maxHeartbeats 4000000 in
theorem c_assessorref37_forests {Z : World} {ρ : PH} {L : List Atom} {w : World} (p0 : RFlat) (vp0_kinds : Value) (hp0_kinds : RoSl ρ vp0_kinds p0.kinds) (vp0_texts : Value) (hp0_texts : RoSl ρ vp0_texts p0.texts) (vp0_left : Value) (hp0_left : RoSl ρ vp0_left p0.left) (vp0_numbers : Value) (hp0_numbers : RoSl ρ vp0_numbers p0.numbers) (p1 : RFlat) (vp1_kinds : Value) (hp1_kinds : RoSl ρ vp1_kinds p1.kinds) (vp1_texts : Value) (hp1_texts : RoSl ρ vp1_texts p1.texts) (vp1_left : Value) (hp1_left : RoSl ρ vp1_left p1.left) (vp1_numbers : Value) (hp1_numbers : RoSl ρ vp1_numbers p1.numbers) (p2 : Int) (p3 : Int) (p4 : (List (List Int))) (vp4 : Value) (usp4 : List Sl) (hp : Hp Z ρ (TblA 34 3 vp4 usp4 (p4 : (List (List Int))) :: L) w) (r : (List (List Int))) (hm : m_assessorref37_forests p0 p1 p2 p3 p4 = some r) :
    Calls Try.prog 33 #[(.agg #[vp0_kinds, vp0_texts, vp0_left, vp0_numbers]), (.agg #[vp1_kinds, vp1_texts, vp1_left, vp1_numbers]), (.int .i64 p2), (.int .i64 p3), vp4] w (Ret fun v w' => v = .tuple #[] ∧ Hp Z ρ (TblA 34 3 vp4 usp4 (r : (List (List Int))) :: L) w') := by
  refine enter (N := 207) Try.func33 rfl rfl [(0, (.agg #[vp0_kinds, vp0_texts, vp0_left, vp0_numbers])), (1, (.agg #[vp1_kinds, vp1_texts, vp1_left, vp1_numbers])), (2, (.int .i64 p2)), (3, (.int .i64 p3)), (4, vp4)] rfl (argsIn_mem ⟨rfl, rfl, rfl, rfl, rfl, trivial⟩) fun a hE => ?_
  unfold m_assessorref37_forests at hm
  refine k_seq ?_
  refine k_region ?_
  refine s_box (wk0 rfl) rfl rfl hE hp rfl (v := (.agg #[vp0_kinds, vp0_texts, vp0_left, vp0_numbers])) rfl ?_
  intro a w b1 hE hp
  have hp : Hp Z ρ (Pt b1 (.cells #[vp0_kinds, vp0_texts, vp0_left, vp0_numbers] 60 (0, 0)) :: TblA 34 3 vp4 usp4 (p4 : (List (List Int))) :: L) w := hp
  refine s_box (wk0 rfl) rfl rfl hE hp rfl (v := (.agg #[vp1_kinds, vp1_texts, vp1_left, vp1_numbers])) rfl ?_
  intro a w b2 hE hp
  have hp : Hp Z ρ (Pt b2 (.cells #[vp1_kinds, vp1_texts, vp1_left, vp1_numbers] 60 (0, 0)) :: _ :: _ :: L) w := hp
  refine s_nil ?_
  refine k_seq ?_
  refine k_quiet (by kernel_rfl) (by kernel_rfl) hp ?_
  refine q_val (wk0 rfl) rfl rfl hE (v := (.pointer (some ⟨b1, 2, none⟩))) (ex_field rfl hE rfl (fldty60_2 _ _)) ?_
  intro a hE
  refine q_val (wk0 rfl) rfl rfl hE (v := vp0_left) (ex_load rfl hE rfl (fun w hw => run_ld1 varty34 (Hp.c 1 rfl 2 rfl w hw))) ?_
  intro a hE
  refine q_val (wk0 rfl) rfl rfl hE (v := (.int .i64 p2)) (ex_move rfl hE rfl) ?_
  intro a hE
  obtain ⟨x1, ex1, hm⟩ := bnd hm
  obtain ⟨b3, b3o, b3c, b3r, b3k, b3f⟩ := RoSl.at hp0_left slty34 ex1
  obtain rfl : b3c = Enc.enc x1 := b3k
  have b3f : AtP ρ b3 b3o [(.int .i64 x1)] := b3f
  refine q_val (wk0 rfl) rfl rfl hE (v := (.pointer (some ⟨b3, b3o, none⟩))) (ex_index rfl hE rfl rfl b3r) ?_
  intro a hE
  refine q_val (wk0 rfl) rfl rfl hE (v := (.int .i64 x1)) (ex_load rfl hE rfl (fun w hw => run_ld1 varty3 (b3f.c 0 rfl w hw))) ?_
  intro a hE
  refine q_val (wk0 rfl) rfl rfl hE (v := (.pointer (some ⟨b2, 2, none⟩))) (ex_field rfl hE rfl (fldty60_2 _ _)) ?_
  intro a hE
  refine q_val (wk0 rfl) rfl rfl hE (v := vp1_left) (ex_load rfl hE rfl (fun w hw => run_ld1 varty34 (Hp.c 0 rfl 2 rfl w hw))) ?_
  intro a hE
  refine q_val (wk0 rfl) rfl rfl hE (v := (.int .i64 p3)) (ex_move rfl hE rfl) ?_
  intro a hE
  obtain ⟨x2, ex2, hm⟩ := bnd hm
  obtain ⟨b4, b4o, b4c, b4r, b4k, b4f⟩ := RoSl.at hp1_left slty34 ex2
  obtain rfl : b4c = Enc.enc x2 := b4k
  have b4f : AtP ρ b4 b4o [(.int .i64 x2)] := b4f
  refine q_val (wk0 rfl) rfl rfl hE (v := (.pointer (some ⟨b4, b4o, none⟩))) (ex_index rfl hE rfl rfl b4r) ?_
  intro a hE
  refine q_val (wk0 rfl) rfl rfl hE (v := (.int .i64 x2)) (ex_load rfl hE rfl (fun w hw => run_ld1 varty3 (b4f.c 0 rfl w hw))) ?_
  intro a hE
  refine q_val (wk0 rfl) rfl rfl hE (v := (.int .i64 x1)) (ex_asn rfl hE rfl) ?_
  intro a hE
  refine q_val (wk0 rfl) rfl rfl hE (v := (.int .i64 x2)) (ex_asn rfl hE rfl) ?_
  intro a hE
  refine q_nil fun w hp => ?_
  have hp : Hp Z ρ (_ :: _ :: _ :: L) w := hp
  refine k_seq ?_
  refine k_region ?_
  refine s_val (wk0 rfl) rfl rfl hE hp (v := (.int .i64 p2)) (ex_move rfl hE rfl) ?_
  intro a hE
  refine s_val (wk0 rfl) rfl rfl hE hp (v := (.int .i64 x1)) (ex_move rfl hE rfl) ?_
  intro a hE
  obtain ⟨x3, ex3, hm⟩ := bnd hm
  refine s_val (wk0 rfl) rfl rfl hE hp (v := (.int .i64 x3)) (ex_sub rfl hE rfl rfl (inK_some ex3)) ?_
  intro a hE
  obtain ⟨x4, ex4, hm⟩ := bnd hm
  refine s_val (wk0 rfl) rfl rfl hE hp (v := (.int .i64 x4)) (ex_add rfl hE rfl rfl (inK_some ex4)) ?_
  intro a hE
  refine s_val (wk0 rfl) rfl rfl hE hp (v := (.int .i64 p3)) (ex_move rfl hE rfl) ?_
  intro a hE
  refine s_val (wk0 rfl) rfl rfl hE hp (v := (.int .i64 x2)) (ex_move rfl hE rfl) ?_
  intro a hE
  obtain ⟨x5, ex5, hm⟩ := bnd hm
  refine s_val (wk0 rfl) rfl rfl hE hp (v := (.int .i64 x5)) (ex_sub rfl hE rfl rfl (inK_some ex5)) ?_
  intro a hE
  obtain ⟨x6, ex6, hm⟩ := bnd hm
  refine s_val (wk0 rfl) rfl rfl hE hp (v := (.int .i64 x6)) (ex_add rfl hE rfl rfl (inK_some ex6)) ?_
  intro a hE
  obtain ⟨x7, ex7, hm⟩ := bnd hm
  refine s_call (wk0 rfl) rfl rfl hE rfl [(.int .i64 x4), (.int .i64 x6)] ⟨rfl, rfl, trivial⟩ ent32 (c_assessorref37_table x4 x6 hp x7 ex7) Ret.ret ?_
  intro vr1 a w hR hE
  obtain ⟨u, usr1, rfl, hp⟩ := Ret.of hR
  have hp : Hp Z ρ (TblA 34 3 vr1 usr1 (x7 : (List (List Int))) :: _ :: _ :: _ :: L) w := hp
  refine s_val (wk0 rfl) rfl rfl hE hp (v := vr1) (ex_asn rfl hE rfl) ?_
  intro a hE
  refine s_nil ?_
  refine k_seq ?_
  refine k_seq ?_
  refine k_region ?_
  refine s_val (wk0 rfl) rfl rfl hE hp (v := (.int .i64 1)) (ex_asn rfl hE rfl) ?_
  intro a hE
  refine s_nil ?_
  have hE := hE.cut (E' := [(2, (.int .i64 p2)), (3, (.int .i64 p3)), (4, vp4), (5, (.pointer (some ⟨b1, 0, none⟩))), (6, (.pointer (some ⟨b2, 0, none⟩))), (10, (.int .i64 x1)), (11, (.int .i64 x2)), (12, vr1), (13, (.int .i64 1))]) ⟨rfl, rfl, rfl, rfl, rfl, rfl, rfl, rfl, rfl, trivial⟩
  obtain ⟨b5, hb1, hm⟩ := bnd hm
  refine k_block (fun a w => Env 207 [(2, (.int .i64 p2)), (3, (.int .i64 p3)), (4, vp4), (5, (.pointer (some ⟨b1, 0, none⟩))), (6, (.pointer (some ⟨b2, 0, none⟩))), (10, (.int .i64 x1)), (11, (.int .i64 x2)), (12, vr1)] a ∧ Hp Z ρ (TblA 34 3 vr1 usr1 (b5 : (List (List Int))) :: Pt b2 (.cells #[vp1_kinds, vp1_texts, vp1_left, vp1_numbers] 60 (0, 0)) :: Pt b1 (.cells #[vp0_kinds, vp0_texts, vp0_left, vp0_numbers] 60 (0, 0)) :: TblA 34 3 vp4 usp4 (p4 : (List (List Int))) :: L) w) ?_ ?_
  · refine k_loop hb1 (fun s a w => Env 207 [(2, (.int .i64 p2)), (3, (.int .i64 p3)), (4, vp4), (5, (.pointer (some ⟨b1, 0, none⟩))), (6, (.pointer (some ⟨b2, 0, none⟩))), (10, (.int .i64 x1)), (11, (.int .i64 x2)), (12, vr1), (13, (.int .i64 s.1))] a ∧ Hp Z ρ (TblA 34 3 vr1 usr1 (s.2 : (List (List Int))) :: Pt b2 (.cells #[vp1_kinds, vp1_texts, vp1_left, vp1_numbers] 60 (0, 0)) :: Pt b1 (.cells #[vp0_kinds, vp0_texts, vp0_left, vp0_numbers] 60 (0, 0)) :: TblA 34 3 vp4 usp4 (p4 : (List (List Int))) :: L) w) ?_ ?_
    · exact ⟨hE.cut ⟨rfl, rfl, rfl, rfl, rfl, rfl, rfl, rfl, rfl, trivial⟩, hp⟩
    · rintro ⟨lp1_0, lp1_1⟩ st a w ⟨hE, hp⟩ hl1
      have hE : Env 207 [(2, (.int .i64 p2)), (3, (.int .i64 p3)), (4, vp4), (5, (.pointer (some ⟨b1, 0, none⟩))), (6, (.pointer (some ⟨b2, 0, none⟩))), (10, (.int .i64 x1)), (11, (.int .i64 x2)), (12, vr1), (13, (.int .i64 lp1_0))] a := hE
      have hp : Hp Z ρ (TblA 34 3 vr1 usr1 (lp1_1 : (List (List Int))) :: _ :: _ :: _ :: L) w := hp
      replace hl1 : m_assessorref37_forests_lp1 p2 x1 lp1_0 lp1_1 = some st := hl1
      unfold m_assessorref37_forests_lp1 at hl1
      refine k_seq ?_
      refine k_seq ?_
      refine k_region ?_
      refine s_val (wk0 rfl) rfl rfl hE hp (v := (.int .i64 lp1_0)) (ex_move rfl hE rfl) ?_
      intro a hE
      refine s_val (wk0 rfl) rfl rfl hE hp (v := (.int .i64 p2)) (ex_move rfl hE rfl) ?_
      intro a hE
      refine s_val (wk0 rfl) rfl rfl hE hp (v := (.int .i64 x1)) (ex_move rfl hE rfl) ?_
      intro a hE
      obtain ⟨x8, ex8, hl1⟩ := bnd hl1
      refine s_val (wk0 rfl) rfl rfl hE hp (v := (.int .i64 x8)) (ex_sub rfl hE rfl rfl (inK_some ex8)) ?_
      intro a hE
      obtain ⟨x9, ex9, hl1⟩ := bnd hl1
      refine s_val (wk0 rfl) rfl rfl hE hp (v := (.int .i64 x9)) (ex_add rfl hE rfl rfl (inK_some ex9)) ?_
      intro a hE
      refine s_val (wk0 rfl) rfl rfl hE hp (v := (.bool (decide (lp1_0 ≤ x9)))) (ex_leq rfl hE rfl rfl) ?_
      intro a hE
      refine s_nil ?_
      have hE := hE.cut (E' := [(2, (.int .i64 p2)), (3, (.int .i64 p3)), (4, vp4), (5, (.pointer (some ⟨b1, 0, none⟩))), (6, (.pointer (some ⟨b2, 0, none⟩))), (10, (.int .i64 x1)), (11, (.int .i64 x2)), (12, vr1), (13, (.int .i64 lp1_0)), (45, (.bool (decide (lp1_0 ≤ x9))))]) ⟨rfl, rfl, rfl, rfl, rfl, rfl, rfl, rfl, rfl, rfl, trivial⟩
      refine k_if hE rfl (fun hb2 => ?_) (fun hb2 => ?_)
      · replace hl1 := (it hb2).symm.trans hl1
        refine k_skip ?_
        refine k_seq ?_
        refine k_plain ?_
        refine k_region ?_
        refine s_val (wk0 rfl) rfl rfl hE hp (v := vr1) (ex_move rfl hE rfl) ?_
        intro a hE
        refine s_val (wk0 rfl) rfl rfl hE hp (v := (.int .i64 lp1_0)) (ex_move rfl hE rfl) ?_
        intro a hE
        obtain ⟨x10, ex10, hl1⟩ := bnd hl1
        obtain ⟨b6u, b6, b6o, b6h, b6r, b6v, b6f⟩ := TblA.hdr hp 0 rfl slty30 ex10
        have b6f : ∀ (j : Nat) (u : Value), ([(Sl.v b6u)] : List Value)[j]? = some u → ∀ ρ' L' w, Hp Z ρ' (TblA 34 3 vr1 usr1 (lp1_1 : (List (List Int))) :: L') w → w.cell? ⟨b6, b6o + j, none⟩ = some u := b6f
        refine s_val (wk0 rfl) rfl rfl hE hp (v := (.pointer (some ⟨b6, b6o, none⟩))) (ex_index rfl hE rfl rfl b6r) ?_
        intro a hE
        refine s_val (wk0 rfl) rfl rfl hE hp (v := (Sl.v b6u)) (ex_load rfl hE rfl (fun w hw => run_ld1 varty34 (b6f 0 _ rfl _ _ w (hw.get 0 rfl)))) ?_
        intro a hE
        refine s_val (wk0 rfl) rfl rfl hE hp (v := (.int .i64 lp1_0)) (ex_move rfl hE rfl) ?_
        intro a hE
        obtain ⟨x11, ex11, hl1⟩ := bnd hl1
        obtain ⟨b7, b7o, b7r, b7v, b7f⟩ := TblA.at hp 0 rfl slty34 b6h ex10 ex11
        have b7f : ∀ (j : Nat) (u : Value), ([(.int .i64 x11)] : List Value)[j]? = some u → ∀ ρ' L' w, Hp Z ρ' (TblA 34 3 vr1 usr1 (lp1_1 : (List (List Int))) :: L') w → w.cell? ⟨b7, b7o + j, none⟩ = some u := b7f
        refine s_val (wk0 rfl) rfl rfl hE hp (v := (.pointer (some ⟨b7, b7o, none⟩))) (ex_index rfl hE rfl rfl b7r) ?_
        intro a hE
        refine s_tstel (wk0 rfl) rfl hE hp rfl rfl rfl 0 rfl b6h ex10 ex11 b7v 0 (e' := lp1_0) varty3.size_ rfl rfl rfl ⟨rfl, rfl⟩ ?_
        intro w hp
        have hp : Hp Z ρ (TblA 34 3 vr1 usr1 (lp1_1.set lp1_0.toNat (x10.set (0 : Int).toNat lp1_0) : (List (List Int))) :: _ :: _ :: _ :: L) w := hp
        refine s_nil ?_
        refine k_region ?_
        refine s_val (wk0 rfl) rfl rfl hE hp (v := (.int .i64 lp1_0)) (ex_move rfl hE rfl) ?_
        intro a hE
        obtain ⟨x12, ex12, hl1⟩ := bnd hl1
        refine s_val (wk0 rfl) rfl rfl hE hp (v := (.int .i64 x12)) (ex_add rfl hE rfl rfl (inK_some ex12)) ?_
        intro a hE
        refine s_val (wk0 rfl) rfl rfl hE hp (v := (.int .i64 x12)) (ex_asn rfl hE rfl) ?_
        intro a hE
        refine s_nil ?_
        exact ⟨_, (Option.some.inj hl1).symm, hE.cut ⟨rfl, rfl, rfl, rfl, rfl, rfl, rfl, rfl, rfl, trivial⟩, hp⟩
      · replace hl1 := (ie hb2).symm.trans hl1
        refine k_exit ?_
        refine ⟨_, (Option.some.inj hl1).symm, fun hbb => ?_⟩
        subst hbb
        exact ⟨hE.cut ⟨rfl, rfl, rfl, rfl, rfl, rfl, rfl, rfl, trivial⟩, hp⟩
  · rintro a w ⟨hE, hp⟩
    refine k_seq ?_
    refine k_seq ?_
    refine k_region ?_
    refine s_val (wk0 rfl) rfl rfl hE hp (v := (.int .i64 1)) (ex_asn rfl hE rfl) ?_
    intro a hE
    refine s_nil ?_
    obtain ⟨b8, hb3, hm⟩ := bnd hm
    refine k_block (fun a w => Env 207 [(2, (.int .i64 p2)), (3, (.int .i64 p3)), (4, vp4), (5, (.pointer (some ⟨b1, 0, none⟩))), (6, (.pointer (some ⟨b2, 0, none⟩))), (10, (.int .i64 x1)), (11, (.int .i64 x2)), (12, vr1)] a ∧ Hp Z ρ (TblA 34 3 vr1 usr1 (b8 : (List (List Int))) :: Pt b2 (.cells #[vp1_kinds, vp1_texts, vp1_left, vp1_numbers] 60 (0, 0)) :: Pt b1 (.cells #[vp0_kinds, vp0_texts, vp0_left, vp0_numbers] 60 (0, 0)) :: TblA 34 3 vp4 usp4 (p4 : (List (List Int))) :: L) w) ?_ ?_
    · refine k_loop hb3 (fun s a w => Env 207 [(2, (.int .i64 p2)), (3, (.int .i64 p3)), (4, vp4), (5, (.pointer (some ⟨b1, 0, none⟩))), (6, (.pointer (some ⟨b2, 0, none⟩))), (10, (.int .i64 x1)), (11, (.int .i64 x2)), (12, vr1), (14, (.int .i64 s.1))] a ∧ Hp Z ρ (TblA 34 3 vr1 usr1 (s.2 : (List (List Int))) :: Pt b2 (.cells #[vp1_kinds, vp1_texts, vp1_left, vp1_numbers] 60 (0, 0)) :: Pt b1 (.cells #[vp0_kinds, vp0_texts, vp0_left, vp0_numbers] 60 (0, 0)) :: TblA 34 3 vp4 usp4 (p4 : (List (List Int))) :: L) w) ?_ ?_
      · exact ⟨hE.cut ⟨rfl, rfl, rfl, rfl, rfl, rfl, rfl, rfl, rfl, trivial⟩, hp⟩
      · rintro ⟨lp2_0, lp2_1⟩ st a w ⟨hE, hp⟩ hl2
        have hE : Env 207 [(2, (.int .i64 p2)), (3, (.int .i64 p3)), (4, vp4), (5, (.pointer (some ⟨b1, 0, none⟩))), (6, (.pointer (some ⟨b2, 0, none⟩))), (10, (.int .i64 x1)), (11, (.int .i64 x2)), (12, vr1), (14, (.int .i64 lp2_0))] a := hE
        have hp : Hp Z ρ (TblA 34 3 vr1 usr1 (lp2_1 : (List (List Int))) :: _ :: _ :: _ :: L) w := hp
        replace hl2 : m_assessorref37_forests_lp2 p3 x2 lp2_0 lp2_1 = some st := hl2
        unfold m_assessorref37_forests_lp2 at hl2
        refine k_seq ?_
        refine k_seq ?_
        refine k_region ?_
        refine s_val (wk0 rfl) rfl rfl hE hp (v := (.int .i64 lp2_0)) (ex_move rfl hE rfl) ?_
        intro a hE
        refine s_val (wk0 rfl) rfl rfl hE hp (v := (.int .i64 p3)) (ex_move rfl hE rfl) ?_
        intro a hE
        refine s_val (wk0 rfl) rfl rfl hE hp (v := (.int .i64 x2)) (ex_move rfl hE rfl) ?_
        intro a hE
        obtain ⟨x13, ex13, hl2⟩ := bnd hl2
        refine s_val (wk0 rfl) rfl rfl hE hp (v := (.int .i64 x13)) (ex_sub rfl hE rfl rfl (inK_some ex13)) ?_
        intro a hE
        obtain ⟨x14, ex14, hl2⟩ := bnd hl2
        refine s_val (wk0 rfl) rfl rfl hE hp (v := (.int .i64 x14)) (ex_add rfl hE rfl rfl (inK_some ex14)) ?_
        intro a hE
        refine s_val (wk0 rfl) rfl rfl hE hp (v := (.bool (decide (lp2_0 ≤ x14)))) (ex_leq rfl hE rfl rfl) ?_
        intro a hE
        refine s_nil ?_
        have hE := hE.cut (E' := [(2, (.int .i64 p2)), (3, (.int .i64 p3)), (4, vp4), (5, (.pointer (some ⟨b1, 0, none⟩))), (6, (.pointer (some ⟨b2, 0, none⟩))), (10, (.int .i64 x1)), (11, (.int .i64 x2)), (12, vr1), (14, (.int .i64 lp2_0)), (59, (.bool (decide (lp2_0 ≤ x14))))]) ⟨rfl, rfl, rfl, rfl, rfl, rfl, rfl, rfl, rfl, rfl, trivial⟩
        refine k_if hE rfl (fun hb4 => ?_) (fun hb4 => ?_)
        · replace hl2 := (it hb4).symm.trans hl2
          refine k_skip ?_
          refine k_seq ?_
          refine k_plain ?_
          refine k_region ?_
          refine s_val (wk0 rfl) rfl rfl hE hp (v := vr1) (ex_move rfl hE rfl) ?_
          intro a hE
          obtain ⟨x15, ex15, hl2⟩ := bnd hl2
          obtain ⟨b9u, b9, b9o, b9h, b9r, b9v, b9f⟩ := TblA.hdr hp 0 rfl slty30 ex15
          have b9f : ∀ (j : Nat) (u : Value), ([(Sl.v b9u)] : List Value)[j]? = some u → ∀ ρ' L' w, Hp Z ρ' (TblA 34 3 vr1 usr1 (lp2_1 : (List (List Int))) :: L') w → w.cell? ⟨b9, b9o + j, none⟩ = some u := b9f
          refine s_val (wk0 rfl) rfl rfl hE hp (v := (.pointer (some ⟨b9, b9o, none⟩))) (ex_index rfl hE rfl rfl b9r) ?_
          intro a hE
          refine s_val (wk0 rfl) rfl rfl hE hp (v := (Sl.v b9u)) (ex_load rfl hE rfl (fun w hw => run_ld1 varty34 (b9f 0 _ rfl _ _ w (hw.get 0 rfl)))) ?_
          intro a hE
          refine s_val (wk0 rfl) rfl rfl hE hp (v := (.int .i64 lp2_0)) (ex_move rfl hE rfl) ?_
          intro a hE
          refine s_val (wk0 rfl) rfl rfl hE hp (v := (.int .i64 lp2_0)) (ex_move rfl hE rfl) ?_
          intro a hE
          obtain ⟨x16, ex16, hl2⟩ := bnd hl2
          obtain ⟨b10, b10o, b10r, b10v, b10f⟩ := TblA.at hp 0 rfl slty34 b9h ex15 ex16
          have b10f : ∀ (j : Nat) (u : Value), ([(.int .i64 x16)] : List Value)[j]? = some u → ∀ ρ' L' w, Hp Z ρ' (TblA 34 3 vr1 usr1 (lp2_1 : (List (List Int))) :: L') w → w.cell? ⟨b10, b10o + j, none⟩ = some u := b10f
          refine s_val (wk0 rfl) rfl rfl hE hp (v := (.pointer (some ⟨b10, b10o, none⟩))) (ex_index rfl hE rfl rfl b10r) ?_
          intro a hE
          refine s_tstel (wk0 rfl) rfl hE hp rfl rfl rfl 0 rfl b9h ex15 ex16 b10v 0 (e' := lp2_0) varty3.size_ rfl rfl rfl ⟨rfl, rfl⟩ ?_
          intro w hp
          have hp : Hp Z ρ (TblA 34 3 vr1 usr1 (lp2_1.set (0 : Int).toNat (x15.set lp2_0.toNat lp2_0) : (List (List Int))) :: _ :: _ :: _ :: L) w := hp
          refine s_nil ?_
          refine k_region ?_
          refine s_val (wk0 rfl) rfl rfl hE hp (v := (.int .i64 lp2_0)) (ex_move rfl hE rfl) ?_
          intro a hE
          obtain ⟨x17, ex17, hl2⟩ := bnd hl2
          refine s_val (wk0 rfl) rfl rfl hE hp (v := (.int .i64 x17)) (ex_add rfl hE rfl rfl (inK_some ex17)) ?_
          intro a hE
          refine s_val (wk0 rfl) rfl rfl hE hp (v := (.int .i64 x17)) (ex_asn rfl hE rfl) ?_
          intro a hE
          refine s_nil ?_
          exact ⟨_, (Option.some.inj hl2).symm, hE.cut ⟨rfl, rfl, rfl, rfl, rfl, rfl, rfl, rfl, rfl, trivial⟩, hp⟩
        · replace hl2 := (ie hb4).symm.trans hl2
          refine k_exit ?_
          refine ⟨_, (Option.some.inj hl2).symm, fun hbb => ?_⟩
          subst hbb
          exact ⟨hE.cut ⟨rfl, rfl, rfl, rfl, rfl, rfl, rfl, rfl, trivial⟩, hp⟩
    · rintro a w ⟨hE, hp⟩
      refine k_seq ?_
      refine k_region ?_
      refine s_val (wk0 rfl) rfl rfl hE hp (v := (.int .i64 1)) (ex_asn rfl hE rfl) ?_
      intro a hE
      refine s_nil ?_
      obtain ⟨b11, hb5, hm⟩ := bnd hm
      refine k_block (fun a w => Env 207 [] a ∧ Hp Z ρ (TblA 34 3 vr1 usr1 (b11.1 : (List (List Int))) :: Pt b2 (.cells #[vp1_kinds, vp1_texts, vp1_left, vp1_numbers] 60 (0, 0)) :: Pt b1 (.cells #[vp0_kinds, vp0_texts, vp0_left, vp0_numbers] 60 (0, 0)) :: TblA 34 3 vp4 usp4 (b11.2 : (List (List Int))) :: L) w) ?_ ?_
      · refine k_loop hb5 (fun s a w => Env 207 [(2, (.int .i64 p2)), (3, (.int .i64 p3)), (4, vp4), (5, (.pointer (some ⟨b1, 0, none⟩))), (6, (.pointer (some ⟨b2, 0, none⟩))), (10, (.int .i64 x1)), (11, (.int .i64 x2)), (12, vr1), (15, (.int .i64 s.1))] a ∧ Hp Z ρ (TblA 34 3 vr1 usr1 (s.2.1 : (List (List Int))) :: Pt b2 (.cells #[vp1_kinds, vp1_texts, vp1_left, vp1_numbers] 60 (0, 0)) :: Pt b1 (.cells #[vp0_kinds, vp0_texts, vp0_left, vp0_numbers] 60 (0, 0)) :: TblA 34 3 vp4 usp4 (s.2.2 : (List (List Int))) :: L) w) ?_ ?_
        · exact ⟨hE.cut ⟨rfl, rfl, rfl, rfl, rfl, rfl, rfl, rfl, rfl, trivial⟩, hp⟩
        · rintro ⟨lp3_0, lp3_1, lp3_2⟩ st a w ⟨hE, hp⟩ hl3
          have hE : Env 207 [(2, (.int .i64 p2)), (3, (.int .i64 p3)), (4, vp4), (5, (.pointer (some ⟨b1, 0, none⟩))), (6, (.pointer (some ⟨b2, 0, none⟩))), (10, (.int .i64 x1)), (11, (.int .i64 x2)), (12, vr1), (15, (.int .i64 lp3_0))] a := hE
          have hp : Hp Z ρ (TblA 34 3 vr1 usr1 (lp3_1 : (List (List Int))) :: _ :: _ :: TblA 34 3 vp4 usp4 (lp3_2 : (List (List Int))) :: L) w := hp
          replace hl3 : m_assessorref37_forests_lp3 p0 p1 p2 p3 x1 x2 lp3_0 lp3_1 lp3_2 = some st := hl3
          unfold m_assessorref37_forests_lp3 at hl3
          refine k_seq ?_
          refine k_seq ?_
          refine k_region ?_
          refine s_val (wk0 rfl) rfl rfl hE hp (v := (.int .i64 lp3_0)) (ex_move rfl hE rfl) ?_
          intro a hE
          refine s_val (wk0 rfl) rfl rfl hE hp (v := (.int .i64 p2)) (ex_move rfl hE rfl) ?_
          intro a hE
          refine s_val (wk0 rfl) rfl rfl hE hp (v := (.int .i64 x1)) (ex_move rfl hE rfl) ?_
          intro a hE
          obtain ⟨x18, ex18, hl3⟩ := bnd hl3
          refine s_val (wk0 rfl) rfl rfl hE hp (v := (.int .i64 x18)) (ex_sub rfl hE rfl rfl (inK_some ex18)) ?_
          intro a hE
          obtain ⟨x19, ex19, hl3⟩ := bnd hl3
          refine s_val (wk0 rfl) rfl rfl hE hp (v := (.int .i64 x19)) (ex_add rfl hE rfl rfl (inK_some ex19)) ?_
          intro a hE
          refine s_val (wk0 rfl) rfl rfl hE hp (v := (.bool (decide (lp3_0 ≤ x19)))) (ex_leq rfl hE rfl rfl) ?_
          intro a hE
          refine s_nil ?_
          have hE := hE.cut (E' := [(2, (.int .i64 p2)), (3, (.int .i64 p3)), (4, vp4), (5, (.pointer (some ⟨b1, 0, none⟩))), (6, (.pointer (some ⟨b2, 0, none⟩))), (10, (.int .i64 x1)), (11, (.int .i64 x2)), (12, vr1), (15, (.int .i64 lp3_0)), (73, (.bool (decide (lp3_0 ≤ x19))))]) ⟨rfl, rfl, rfl, rfl, rfl, rfl, rfl, rfl, rfl, rfl, trivial⟩
          refine k_if hE rfl (fun hb6 => ?_) (fun hb6 => ?_)
          · replace hl3 := (it hb6).symm.trans hl3
            refine k_skip ?_
            refine k_seq ?_
            refine k_plain ?_
            refine k_seq ?_
            refine k_region ?_
            refine s_val (wk0 rfl) rfl rfl hE hp (v := (.int .i64 1)) (ex_asn rfl hE rfl) ?_
            intro a hE
            refine s_nil ?_
            obtain ⟨b12, hb7, hl3⟩ := bnd hl3
            refine k_block (fun a w => Env 207 [(2, (.int .i64 p2)), (3, (.int .i64 p3)), (4, vp4), (5, (.pointer (some ⟨b1, 0, none⟩))), (6, (.pointer (some ⟨b2, 0, none⟩))), (10, (.int .i64 x1)), (11, (.int .i64 x2)), (12, vr1), (15, (.int .i64 lp3_0))] a ∧ Hp Z ρ (TblA 34 3 vr1 usr1 (b12.1 : (List (List Int))) :: Pt b2 (.cells #[vp1_kinds, vp1_texts, vp1_left, vp1_numbers] 60 (0, 0)) :: Pt b1 (.cells #[vp0_kinds, vp0_texts, vp0_left, vp0_numbers] 60 (0, 0)) :: TblA 34 3 vp4 usp4 (b12.2 : (List (List Int))) :: L) w) ?_ ?_
            · refine k_loop hb7 (fun s a w => Env 207 [(2, (.int .i64 p2)), (3, (.int .i64 p3)), (4, vp4), (5, (.pointer (some ⟨b1, 0, none⟩))), (6, (.pointer (some ⟨b2, 0, none⟩))), (10, (.int .i64 x1)), (11, (.int .i64 x2)), (12, vr1), (15, (.int .i64 lp3_0)), (16, (.int .i64 s.1))] a ∧ Hp Z ρ (TblA 34 3 vr1 usr1 (s.2.1 : (List (List Int))) :: Pt b2 (.cells #[vp1_kinds, vp1_texts, vp1_left, vp1_numbers] 60 (0, 0)) :: Pt b1 (.cells #[vp0_kinds, vp0_texts, vp0_left, vp0_numbers] 60 (0, 0)) :: TblA 34 3 vp4 usp4 (s.2.2 : (List (List Int))) :: L) w) ?_ ?_
              · exact ⟨hE.cut ⟨rfl, rfl, rfl, rfl, rfl, rfl, rfl, rfl, rfl, rfl, trivial⟩, hp⟩
              · rintro ⟨lp4_0, lp4_1, lp4_2⟩ st a w ⟨hE, hp⟩ hl4
                have hE : Env 207 [(2, (.int .i64 p2)), (3, (.int .i64 p3)), (4, vp4), (5, (.pointer (some ⟨b1, 0, none⟩))), (6, (.pointer (some ⟨b2, 0, none⟩))), (10, (.int .i64 x1)), (11, (.int .i64 x2)), (12, vr1), (15, (.int .i64 lp3_0)), (16, (.int .i64 lp4_0))] a := hE
                have hp : Hp Z ρ (TblA 34 3 vr1 usr1 (lp4_1 : (List (List Int))) :: _ :: _ :: TblA 34 3 vp4 usp4 (lp4_2 : (List (List Int))) :: L) w := hp
                replace hl4 : m_assessorref37_forests_lp4 p0 p1 p3 x1 x2 lp3_0 lp4_0 lp4_1 lp4_2 = some st := hl4
                unfold m_assessorref37_forests_lp4 at hl4
                refine k_seq ?_
                refine k_seq ?_
                refine k_region ?_
                refine s_val (wk0 rfl) rfl rfl hE hp (v := (.int .i64 lp4_0)) (ex_move rfl hE rfl) ?_
                intro a hE
                refine s_val (wk0 rfl) rfl rfl hE hp (v := (.int .i64 p3)) (ex_move rfl hE rfl) ?_
                intro a hE
                refine s_val (wk0 rfl) rfl rfl hE hp (v := (.int .i64 x2)) (ex_move rfl hE rfl) ?_
                intro a hE
                obtain ⟨x20, ex20, hl4⟩ := bnd hl4
                refine s_val (wk0 rfl) rfl rfl hE hp (v := (.int .i64 x20)) (ex_sub rfl hE rfl rfl (inK_some ex20)) ?_
                intro a hE
                obtain ⟨x21, ex21, hl4⟩ := bnd hl4
                refine s_val (wk0 rfl) rfl rfl hE hp (v := (.int .i64 x21)) (ex_add rfl hE rfl rfl (inK_some ex21)) ?_
                intro a hE
                refine s_val (wk0 rfl) rfl rfl hE hp (v := (.bool (decide (lp4_0 ≤ x21)))) (ex_leq rfl hE rfl rfl) ?_
                intro a hE
                refine s_nil ?_
                have hE := hE.cut (E' := [(2, (.int .i64 p2)), (3, (.int .i64 p3)), (4, vp4), (5, (.pointer (some ⟨b1, 0, none⟩))), (6, (.pointer (some ⟨b2, 0, none⟩))), (10, (.int .i64 x1)), (11, (.int .i64 x2)), (12, vr1), (15, (.int .i64 lp3_0)), (16, (.int .i64 lp4_0)), (81, (.bool (decide (lp4_0 ≤ x21))))]) ⟨rfl, rfl, rfl, rfl, rfl, rfl, rfl, rfl, rfl, rfl, rfl, trivial⟩
                refine k_if hE rfl (fun hb8 => ?_) (fun hb8 => ?_)
                · replace hl4 := (it hb8).symm.trans hl4
                  refine k_skip ?_
                  refine k_seq ?_
                  refine k_plain ?_
                  refine k_seq ?_
                  refine k_region ?_
                  refine s_val (wk0 rfl) rfl rfl hE hp (v := (.int .i64 x1)) (ex_move rfl hE rfl) ?_
                  intro a hE
                  refine s_val (wk0 rfl) rfl rfl hE hp (v := (.int .i64 lp3_0)) (ex_move rfl hE rfl) ?_
                  intro a hE
                  obtain ⟨x22, ex22, hl4⟩ := bnd hl4
                  refine s_val (wk0 rfl) rfl rfl hE hp (v := (.int .i64 x22)) (ex_add rfl hE rfl rfl (inK_some ex22)) ?_
                  intro a hE
                  obtain ⟨x23, ex23, hl4⟩ := bnd hl4
                  refine s_val (wk0 rfl) rfl rfl hE hp (v := (.int .i64 x23)) (ex_sub rfl hE rfl rfl (inK_some ex23)) ?_
                  intro a hE
                  refine s_val (wk0 rfl) rfl rfl hE hp (v := (.int .i64 x2)) (ex_move rfl hE rfl) ?_
                  intro a hE
                  refine s_val (wk0 rfl) rfl rfl hE hp (v := (.int .i64 lp4_0)) (ex_move rfl hE rfl) ?_
                  intro a hE
                  obtain ⟨x24, ex24, hl4⟩ := bnd hl4
                  refine s_val (wk0 rfl) rfl rfl hE hp (v := (.int .i64 x24)) (ex_add rfl hE rfl rfl (inK_some ex24)) ?_
                  intro a hE
                  obtain ⟨x25, ex25, hl4⟩ := bnd hl4
                  refine s_val (wk0 rfl) rfl rfl hE hp (v := (.int .i64 x25)) (ex_sub rfl hE rfl rfl (inK_some ex25)) ?_
                  intro a hE
                  refine s_val (wk0 rfl) rfl rfl hE hp (v := (.int .i64 x23)) (ex_asn rfl hE rfl) ?_
                  intro a hE
                  refine s_val (wk0 rfl) rfl rfl hE hp (v := (.int .i64 x25)) (ex_asn rfl hE rfl) ?_
                  intro a hE
                  refine s_nil ?_
                  refine k_seq ?_
                  refine k_quiet (by kernel_rfl) (by kernel_rfl) hp ?_
                  refine q_val (wk0 rfl) rfl rfl hE (v := vr1) (ex_move rfl hE rfl) ?_
                  intro a hE
                  refine q_val (wk0 rfl) rfl rfl hE (v := (.int .i64 lp3_0)) (ex_move rfl hE rfl) ?_
                  intro a hE
                  obtain ⟨x26, ex26, hl4⟩ := bnd hl4
                  refine q_val (wk0 rfl) rfl rfl hE (v := (.int .i64 x26)) (ex_sub rfl hE rfl rfl (inK_some ex26)) ?_
                  intro a hE
                  obtain ⟨x27, ex27, hl4⟩ := bnd hl4
                  obtain ⟨b13u, b13, b13o, b13h, b13r, b13v, b13f⟩ := TblA.hdr hp 0 rfl slty30 ex27
                  have b13f : ∀ (j : Nat) (u : Value), ([(Sl.v b13u)] : List Value)[j]? = some u → ∀ ρ' L' w, Hp Z ρ' (TblA 34 3 vr1 usr1 (lp4_1 : (List (List Int))) :: L') w → w.cell? ⟨b13, b13o + j, none⟩ = some u := b13f
                  refine q_val (wk0 rfl) rfl rfl hE (v := (.pointer (some ⟨b13, b13o, none⟩))) (ex_index rfl hE rfl rfl b13r) ?_
                  intro a hE
                  refine q_val (wk0 rfl) rfl rfl hE (v := (Sl.v b13u)) (ex_load rfl hE rfl (fun w hw => run_ld1 varty34 (b13f 0 _ rfl _ _ w (hw.get 0 rfl)))) ?_
                  intro a hE
                  refine q_val (wk0 rfl) rfl rfl hE (v := (.int .i64 lp4_0)) (ex_move rfl hE rfl) ?_
                  intro a hE
                  obtain ⟨x28, ex28, hl4⟩ := bnd hl4
                  obtain ⟨b14, b14o, b14r, b14v, b14f⟩ := TblA.at hp 0 rfl slty34 b13h ex27 ex28
                  have b14f : ∀ (j : Nat) (u : Value), ([(.int .i64 x28)] : List Value)[j]? = some u → ∀ ρ' L' w, Hp Z ρ' (TblA 34 3 vr1 usr1 (lp4_1 : (List (List Int))) :: L') w → w.cell? ⟨b14, b14o + j, none⟩ = some u := b14f
                  refine q_val (wk0 rfl) rfl rfl hE (v := (.pointer (some ⟨b14, b14o, none⟩))) (ex_index rfl hE rfl rfl b14r) ?_
                  intro a hE
                  refine q_val (wk0 rfl) rfl rfl hE (v := (.int .i64 x28)) (ex_load rfl hE rfl (fun w hw => run_ld1 varty3 (b14f 0 _ rfl _ _ w (hw.get 0 rfl)))) ?_
                  intro a hE
                  refine q_val (wk0 rfl) rfl rfl hE (v := vr1) (ex_move rfl hE rfl) ?_
                  intro a hE
                  refine q_val (wk0 rfl) rfl rfl hE (v := (.int .i64 lp3_0)) (ex_move rfl hE rfl) ?_
                  intro a hE
                  obtain ⟨x29, ex29, hl4⟩ := bnd hl4
                  obtain ⟨b15u, b15, b15o, b15h, b15r, b15v, b15f⟩ := TblA.hdr hp 0 rfl slty30 ex29
                  have b15f : ∀ (j : Nat) (u : Value), ([(Sl.v b15u)] : List Value)[j]? = some u → ∀ ρ' L' w, Hp Z ρ' (TblA 34 3 vr1 usr1 (lp4_1 : (List (List Int))) :: L') w → w.cell? ⟨b15, b15o + j, none⟩ = some u := b15f
                  refine q_val (wk0 rfl) rfl rfl hE (v := (.pointer (some ⟨b15, b15o, none⟩))) (ex_index rfl hE rfl rfl b15r) ?_
                  intro a hE
                  refine q_val (wk0 rfl) rfl rfl hE (v := (Sl.v b15u)) (ex_load rfl hE rfl (fun w hw => run_ld1 varty34 (b15f 0 _ rfl _ _ w (hw.get 0 rfl)))) ?_
                  intro a hE
                  refine q_val (wk0 rfl) rfl rfl hE (v := (.int .i64 lp4_0)) (ex_move rfl hE rfl) ?_
                  intro a hE
                  obtain ⟨x30, ex30, hl4⟩ := bnd hl4
                  refine q_val (wk0 rfl) rfl rfl hE (v := (.int .i64 x30)) (ex_sub rfl hE rfl rfl (inK_some ex30)) ?_
                  intro a hE
                  obtain ⟨x31, ex31, hl4⟩ := bnd hl4
                  obtain ⟨b16, b16o, b16r, b16v, b16f⟩ := TblA.at hp 0 rfl slty34 b15h ex29 ex31
                  have b16f : ∀ (j : Nat) (u : Value), ([(.int .i64 x31)] : List Value)[j]? = some u → ∀ ρ' L' w, Hp Z ρ' (TblA 34 3 vr1 usr1 (lp4_1 : (List (List Int))) :: L') w → w.cell? ⟨b16, b16o + j, none⟩ = some u := b16f
                  refine q_val (wk0 rfl) rfl rfl hE (v := (.pointer (some ⟨b16, b16o, none⟩))) (ex_index rfl hE rfl rfl b16r) ?_
                  intro a hE
                  refine q_val (wk0 rfl) rfl rfl hE (v := (.int .i64 x31)) (ex_load rfl hE rfl (fun w hw => run_ld1 varty3 (b16f 0 _ rfl _ _ w (hw.get 0 rfl)))) ?_
                  intro a hE
                  refine q_val (wk0 rfl) rfl rfl hE (v := (.int .i64 (min x28 x31))) (ex_min rfl hE rfl rfl) ?_
                  intro a hE
                  obtain ⟨x32, ex32, hl4⟩ := bnd hl4
                  refine q_val (wk0 rfl) rfl rfl hE (v := (.int .i64 x32)) (ex_add rfl hE rfl rfl (inK_some ex32)) ?_
                  intro a hE
                  refine q_val (wk0 rfl) rfl rfl hE (v := (.int .i64 x32)) (ex_asn rfl hE rfl) ?_
                  intro a hE
                  refine q_nil fun w hp => ?_
                  have hp : Hp Z ρ (_ :: _ :: _ :: _ :: L) w := hp
                  have hE := hE.cut (E' := [(2, (.int .i64 p2)), (3, (.int .i64 p3)), (4, vp4), (5, (.pointer (some ⟨b1, 0, none⟩))), (6, (.pointer (some ⟨b2, 0, none⟩))), (10, (.int .i64 x1)), (11, (.int .i64 x2)), (12, vr1), (15, (.int .i64 lp3_0)), (16, (.int .i64 lp4_0)), (17, (.int .i64 x23)), (18, (.int .i64 x25)), (19, (.int .i64 x32))]) ⟨rfl, rfl, rfl, rfl, rfl, rfl, rfl, rfl, rfl, rfl, rfl, rfl, rfl, trivial⟩
                  refine k_seq ?_
                  refine k_seq ?_
                  refine k_region ?_
                  refine s_val (wk0 rfl) rfl rfl hE hp (v := (.pointer (some ⟨b1, 2, none⟩))) (ex_field rfl hE rfl (fldty60_2 _ _)) ?_
                  intro a hE
                  refine s_val (wk0 rfl) rfl rfl hE hp (v := vp0_left) (ex_load rfl hE rfl (fun w hw => run_ld1 varty34 (Hp.c 2 rfl 2 rfl w hw))) ?_
                  intro a hE
                  refine s_val (wk0 rfl) rfl rfl hE hp (v := (.int .i64 x23)) (ex_move rfl hE rfl) ?_
                  intro a hE
                  obtain ⟨x33, ex33, hl4⟩ := bnd hl4
                  obtain ⟨b17, b17o, b17c, b17r, b17k, b17f⟩ := RoSl.at hp0_left slty34 ex33
                  obtain rfl : b17c = Enc.enc x33 := b17k
                  have b17f : AtP ρ b17 b17o [(.int .i64 x33)] := b17f
                  refine s_val (wk0 rfl) rfl rfl hE hp (v := (.pointer (some ⟨b17, b17o, none⟩))) (ex_index rfl hE rfl rfl b17r) ?_
                  intro a hE
                  refine s_val (wk0 rfl) rfl rfl hE hp (v := (.int .i64 x33)) (ex_load rfl hE rfl (fun w hw => run_ld1 varty3 (b17f.c 0 rfl w hw))) ?_
                  intro a hE
                  refine s_val (wk0 rfl) rfl rfl hE hp (v := (.int .i64 x1)) (ex_move rfl hE rfl) ?_
                  intro a hE
                  refine s_val (wk0 rfl) rfl rfl hE hp (v := (.bool (decide (x33 = x1)))) (ex_eql rfl hE rfl rfl) ?_
                  intro a hE
                  refine s_val (wk0 rfl) rfl rfl hE hp (v := (.bool (decide (x33 = x1)))) (ex_move rfl hE rfl) ?_
                  intro a hE
                  obtain ⟨m1, hg1, hl4⟩ := bnd hl4
                  refine s_cut [_, _, _, _, _, _, _, _] (fun a w => Env 207 [(125, (.bool m1)), (2, (.int .i64 p2)), (3, (.int .i64 p3)), (4, vp4), (5, (.pointer (some ⟨b1, 0, none⟩))), (6, (.pointer (some ⟨b2, 0, none⟩))), (10, (.int .i64 x1)), (11, (.int .i64 x2)), (12, vr1), (15, (.int .i64 lp3_0)), (16, (.int .i64 lp4_0)), (17, (.int .i64 x23)), (18, (.int .i64 x25)), (19, (.int .i64 x32))] a ∧ Hp Z ρ (TblA 34 3 vr1 usr1 (lp4_1 : (List (List Int))) :: Pt b2 (.cells #[vp1_kinds, vp1_texts, vp1_left, vp1_numbers] 60 (0, 0)) :: Pt b1 (.cells #[vp0_kinds, vp0_texts, vp0_left, vp0_numbers] 60 (0, 0)) :: TblA 34 3 vp4 usp4 (lp4_2 : (List (List Int))) :: L) w) ?_ ?_
                  · rcases Bool.eq_false_or_eq_true (decide (x33 = x1)) with hb9 | hb9
                    ·
                      replace hg1 := (it hb9).symm.trans hg1
                      refine s_val (wk1 hE rfl rfl rfl hb9) rfl rfl hE hp (v := (.pointer (some ⟨b2, 2, none⟩))) (ex_field rfl hE rfl (fldty60_2 _ _)) ?_
                      intro a hE
                      refine s_val (wk1 hE rfl rfl rfl hb9) rfl rfl hE hp (v := vp1_left) (ex_load rfl hE rfl (fun w hw => run_ld1 varty34 (Hp.c 1 rfl 2 rfl w hw))) ?_
                      intro a hE
                      refine s_val (wk1 hE rfl rfl rfl hb9) rfl rfl hE hp (v := (.int .i64 x25)) (ex_move rfl hE rfl) ?_
                      intro a hE
                      obtain ⟨x34, ex34, hg1⟩ := bnd hg1
                      obtain ⟨b18, b18o, b18c, b18r, b18k, b18f⟩ := RoSl.at hp1_left slty34 ex34
                      obtain rfl : b18c = Enc.enc x34 := b18k
                      have b18f : AtP ρ b18 b18o [(.int .i64 x34)] := b18f
                      refine s_val (wk1 hE rfl rfl rfl hb9) rfl rfl hE hp (v := (.pointer (some ⟨b18, b18o, none⟩))) (ex_index rfl hE rfl rfl b18r) ?_
                      intro a hE
                      refine s_val (wk1 hE rfl rfl rfl hb9) rfl rfl hE hp (v := (.int .i64 x34)) (ex_load rfl hE rfl (fun w hw => run_ld1 varty3 (b18f.c 0 rfl w hw))) ?_
                      intro a hE
                      refine s_val (wk1 hE rfl rfl rfl hb9) rfl rfl hE hp (v := (.int .i64 x2)) (ex_move rfl hE rfl) ?_
                      intro a hE
                      refine s_val (wk1 hE rfl rfl rfl hb9) rfl rfl hE hp (v := (.bool (decide (x34 = x2)))) (ex_eql rfl hE rfl rfl) ?_
                      intro a hE
                      refine s_val (wk0 rfl) rfl rfl hE hp (v := (.bool (decide (x34 = x2)))) (ex_pick1 rfl hE rfl hb9 rfl) ?_
                      intro a hE
                      obtain rfl := Option.some.inj hg1
                      exact s_nil ⟨hE.cut ⟨rfl, rfl, rfl, rfl, rfl, rfl, rfl, rfl, rfl, rfl, rfl, rfl, rfl, rfl, trivial⟩, hp⟩
                    ·
                      replace hg1 := (ie hb9).symm.trans hg1
                      refine s_skip (wk2 hE rfl rfl rfl hb9) rfl rfl hE ?_
                      intro a hE
                      refine s_skip (wk2 hE rfl rfl rfl hb9) rfl rfl hE ?_
                      intro a hE
                      refine s_skip (wk2 hE rfl rfl rfl hb9) rfl rfl hE ?_
                      intro a hE
                      refine s_skip (wk2 hE rfl rfl rfl hb9) rfl rfl hE ?_
                      intro a hE
                      refine s_skip (wk2 hE rfl rfl rfl hb9) rfl rfl hE ?_
                      intro a hE
                      refine s_skip (wk2 hE rfl rfl rfl hb9) rfl rfl hE ?_
                      intro a hE
                      refine s_skip (wk2 hE rfl rfl rfl hb9) rfl rfl hE ?_
                      intro a hE
                      refine s_val (wk0 rfl) rfl rfl hE hp (v := (.bool false)) (ex_pick0 rfl hE rfl hb9 rfl) ?_
                      intro a hE
                      obtain rfl := Option.some.inj hg1
                      exact s_nil ⟨hE.cut ⟨rfl, rfl, rfl, rfl, rfl, rfl, rfl, rfl, rfl, rfl, rfl, rfl, rfl, rfl, trivial⟩, hp⟩
                  · rintro a w ⟨hE, hp⟩
                    refine s_nil ?_
                    obtain ⟨j1, hj1, hl4⟩ := bnd hl4
                    refine k_cut (fun a w => Env 207 [(2, (.int .i64 p2)), (3, (.int .i64 p3)), (4, vp4), (5, (.pointer (some ⟨b1, 0, none⟩))), (6, (.pointer (some ⟨b2, 0, none⟩))), (10, (.int .i64 x1)), (11, (.int .i64 x2)), (12, vr1), (15, (.int .i64 lp3_0)), (16, (.int .i64 lp4_0)), (19, (.int .i64 j1.1))] a ∧ Hp Z ρ (TblA 34 3 vr1 usr1 (lp4_1 : (List (List Int))) :: Pt b2 (.cells #[vp1_kinds, vp1_texts, vp1_left, vp1_numbers] 60 (0, 0)) :: Pt b1 (.cells #[vp0_kinds, vp0_texts, vp0_left, vp0_numbers] 60 (0, 0)) :: TblA 34 3 vp4 usp4 (j1.2 : (List (List Int))) :: L) w) ?_ ?_
                    ·
                      refine k_if hE rfl (fun hb10 => ?_) (fun hb10 => ?_)
                      · replace hj1 := (it hb10).symm.trans hj1
                        refine k_seq ?_
                        refine k_region ?_
                        refine s_val (wk0 rfl) rfl rfl hE hp (v := vr1) (ex_move rfl hE rfl) ?_
                        intro a hE
                        refine s_val (wk0 rfl) rfl rfl hE hp (v := (.int .i64 lp3_0)) (ex_move rfl hE rfl) ?_
                        intro a hE
                        obtain ⟨x35, ex35, hj1⟩ := bnd hj1
                        refine s_val (wk0 rfl) rfl rfl hE hp (v := (.int .i64 x35)) (ex_sub rfl hE rfl rfl (inK_some ex35)) ?_
                        intro a hE
                        obtain ⟨x36, ex36, hj1⟩ := bnd hj1
                        obtain ⟨b19u, b19, b19o, b19h, b19r, b19v, b19f⟩ := TblA.hdr hp 0 rfl slty30 ex36
                        have b19f : ∀ (j : Nat) (u : Value), ([(Sl.v b19u)] : List Value)[j]? = some u → ∀ ρ' L' w, Hp Z ρ' (TblA 34 3 vr1 usr1 (lp4_1 : (List (List Int))) :: L') w → w.cell? ⟨b19, b19o + j, none⟩ = some u := b19f
                        refine s_val (wk0 rfl) rfl rfl hE hp (v := (.pointer (some ⟨b19, b19o, none⟩))) (ex_index rfl hE rfl rfl b19r) ?_
                        intro a hE
                        refine s_val (wk0 rfl) rfl rfl hE hp (v := (Sl.v b19u)) (ex_load rfl hE rfl (fun w hw => run_ld1 varty34 (b19f 0 _ rfl _ _ w (hw.get 0 rfl)))) ?_
                        intro a hE
                        refine s_val (wk0 rfl) rfl rfl hE hp (v := (.int .i64 lp4_0)) (ex_move rfl hE rfl) ?_
                        intro a hE
                        obtain ⟨x37, ex37, hj1⟩ := bnd hj1
                        refine s_val (wk0 rfl) rfl rfl hE hp (v := (.int .i64 x37)) (ex_sub rfl hE rfl rfl (inK_some ex37)) ?_
                        intro a hE
                        obtain ⟨x38, ex38, hj1⟩ := bnd hj1
                        obtain ⟨b20, b20o, b20r, b20v, b20f⟩ := TblA.at hp 0 rfl slty34 b19h ex36 ex38
                        have b20f : ∀ (j : Nat) (u : Value), ([(.int .i64 x38)] : List Value)[j]? = some u → ∀ ρ' L' w, Hp Z ρ' (TblA 34 3 vr1 usr1 (lp4_1 : (List (List Int))) :: L') w → w.cell? ⟨b20, b20o + j, none⟩ = some u := b20f
                        refine s_val (wk0 rfl) rfl rfl hE hp (v := (.pointer (some ⟨b20, b20o, none⟩))) (ex_index rfl hE rfl rfl b20r) ?_
                        intro a hE
                        refine s_val (wk0 rfl) rfl rfl hE hp (v := (.int .i64 x38)) (ex_load rfl hE rfl (fun w hw => run_ld1 varty3 (b20f 0 _ rfl _ _ w (hw.get 0 rfl)))) ?_
                        intro a hE
                        refine s_val (wk0 rfl) rfl rfl hE hp (v := (.int .i64 x38)) (ex_asn rfl hE rfl) ?_
                        intro a hE
                        refine s_nil ?_
                        refine k_seq ?_
                        refine k_seq ?_
                        refine k_quiet (by kernel_rfl) (by kernel_rfl) hp ?_
                        refine q_val (wk0 rfl) rfl rfl hE (v := (.pointer (some ⟨b1, 0, none⟩))) (ex_field rfl hE rfl (fldty60_0 _ _)) ?_
                        intro a hE
                        refine q_val (wk0 rfl) rfl rfl hE (v := vp0_kinds) (ex_load rfl hE rfl (fun w hw => run_ld1 varty34 (Hp.c 2 rfl 0 rfl w hw))) ?_
                        intro a hE
                        refine q_val (wk0 rfl) rfl rfl hE (v := (.int .i64 x23)) (ex_move rfl hE rfl) ?_
                        intro a hE
                        obtain ⟨x39, ex39, hj1⟩ := bnd hj1
                        obtain ⟨b21, b21o, b21c, b21r, b21k, b21f⟩ := RoSl.at hp0_kinds slty34 ex39
                        obtain rfl : b21c = Enc.enc x39 := b21k
                        have b21f : AtP ρ b21 b21o [(.int .i64 x39)] := b21f
                        refine q_val (wk0 rfl) rfl rfl hE (v := (.pointer (some ⟨b21, b21o, none⟩))) (ex_index rfl hE rfl rfl b21r) ?_
                        intro a hE
                        refine q_val (wk0 rfl) rfl rfl hE (v := (.int .i64 x39)) (ex_load rfl hE rfl (fun w hw => run_ld1 varty3 (b21f.c 0 rfl w hw))) ?_
                        intro a hE
                        refine q_val (wk0 rfl) rfl rfl hE (v := (.pointer (some ⟨b2, 0, none⟩))) (ex_field rfl hE rfl (fldty60_0 _ _)) ?_
                        intro a hE
                        refine q_val (wk0 rfl) rfl rfl hE (v := vp1_kinds) (ex_load rfl hE rfl (fun w hw => run_ld1 varty34 (Hp.c 1 rfl 0 rfl w hw))) ?_
                        intro a hE
                        refine q_val (wk0 rfl) rfl rfl hE (v := (.int .i64 x25)) (ex_move rfl hE rfl) ?_
                        intro a hE
                        obtain ⟨x40, ex40, hj1⟩ := bnd hj1
                        obtain ⟨b22, b22o, b22c, b22r, b22k, b22f⟩ := RoSl.at hp1_kinds slty34 ex40
                        obtain rfl : b22c = Enc.enc x40 := b22k
                        have b22f : AtP ρ b22 b22o [(.int .i64 x40)] := b22f
                        refine q_val (wk0 rfl) rfl rfl hE (v := (.pointer (some ⟨b22, b22o, none⟩))) (ex_index rfl hE rfl rfl b22r) ?_
                        intro a hE
                        refine q_val (wk0 rfl) rfl rfl hE (v := (.int .i64 x40)) (ex_load rfl hE rfl (fun w hw => run_ld1 varty3 (b22f.c 0 rfl w hw))) ?_
                        intro a hE
                        refine q_val (wk0 rfl) rfl rfl hE (v := (.bool (!decide (x39 = x40)))) (ex_neq rfl hE rfl rfl) ?_
                        intro a hE
                        refine q_val (wk0 rfl) rfl rfl hE (v := (.bool (!decide (x39 = x40)))) (ex_move rfl hE rfl) ?_
                        intro a hE
                        obtain ⟨m2, hg2, hj1⟩ := bnd hj1
                        refine q_cut [_, _, _, _, _, _, _, _, _, _, _, _] (fun a => Env 207 [(158, (.bool m2)), (2, (.int .i64 p2)), (3, (.int .i64 p3)), (4, vp4), (5, (.pointer (some ⟨b1, 0, none⟩))), (6, (.pointer (some ⟨b2, 0, none⟩))), (10, (.int .i64 x1)), (11, (.int .i64 x2)), (12, vr1), (15, (.int .i64 lp3_0)), (16, (.int .i64 lp4_0)), (17, (.int .i64 x23)), (18, (.int .i64 x25)), (19, (.int .i64 x32)), (20, (.int .i64 x38))] a) ?_ ?_
                        · rcases Bool.eq_false_or_eq_true (!decide (x39 = x40)) with hb11 | hb11
                          ·
                            replace hg2 := (it hb11).symm.trans hg2
                            refine q_skip (wk2 hE rfl rfl rfl hb11) rfl rfl hE ?_
                            intro a hE
                            refine q_skip (wk2 hE rfl rfl rfl hb11) rfl rfl hE ?_
                            intro a hE
                            refine q_skip (wk2 hE rfl rfl rfl hb11) rfl rfl hE ?_
                            intro a hE
                            refine q_skip (wk2 hE rfl rfl rfl hb11) rfl rfl hE ?_
                            intro a hE
                            refine q_skip (wk2 hE rfl rfl rfl hb11) rfl rfl hE ?_
                            intro a hE
                            refine q_skip (wk2 hE rfl rfl rfl hb11) rfl rfl hE ?_
                            intro a hE
                            refine q_skip (wk2 hE rfl rfl rfl hb11) rfl rfl hE ?_
                            intro a hE
                            refine q_skip (wk2 hE rfl rfl rfl hb11) rfl rfl hE ?_
                            intro a hE
                            refine q_skip (wk2 hE rfl rfl rfl hb11) rfl rfl hE ?_
                            intro a hE
                            refine q_skip (wk2 hE rfl rfl rfl hb11) rfl rfl hE ?_
                            intro a hE
                            refine q_skip (wk2 hE rfl rfl rfl hb11) rfl rfl hE ?_
                            intro a hE
                            refine q_val (wk0 rfl) rfl rfl hE (v := (.bool true)) (ex_pick1 rfl hE rfl hb11 rfl) ?_
                            intro a hE
                            obtain rfl := Option.some.inj hg2
                            exact q_nil (hE.cut ⟨rfl, rfl, rfl, rfl, rfl, rfl, rfl, rfl, rfl, rfl, rfl, rfl, rfl, rfl, rfl, trivial⟩)
                          ·
                            replace hg2 := (ie hb11).symm.trans hg2
                            refine q_val (wk1 hE rfl rfl rfl hb11) rfl rfl hE (v := (.pointer (some ⟨b1, 1, none⟩))) (ex_field rfl hE rfl (fldty60_1 _ _)) ?_
                            intro a hE
                            refine q_val (wk1 hE rfl rfl rfl hb11) rfl rfl hE (v := vp0_texts) (ex_load rfl hE rfl (fun w hw => run_ld1 varty58 (Hp.c 2 rfl 1 rfl w hw))) ?_
                            intro a hE
                            refine q_val (wk1 hE rfl rfl rfl hb11) rfl rfl hE (v := (.int .i64 x23)) (ex_move rfl hE rfl) ?_
                            intro a hE
                            obtain ⟨x41, ex41, hg2⟩ := bnd hg2
                            obtain ⟨b23, b23o, b23c, b23r, b23k, b23f⟩ := RoSl.at hp0_texts slty58 ex41
                            obtain rfl : b23c = Enc.enc x41 := b23k
                            have b23f : AtP ρ b23 b23o [(.string x41)] := b23f
                            refine q_val (wk1 hE rfl rfl rfl hb11) rfl rfl hE (v := (.pointer (some ⟨b23, b23o, none⟩))) (ex_index rfl hE rfl rfl b23r) ?_
                            intro a hE
                            refine q_val (wk1 hE rfl rfl rfl hb11) rfl rfl hE (v := (.string x41)) (ex_load rfl hE rfl (fun w hw => run_ld1 varty9 (b23f.c 0 rfl w hw))) ?_
                            intro a hE
                            refine q_val (wk1 hE rfl rfl rfl hb11) rfl rfl hE (v := (.pointer (some ⟨b2, 1, none⟩))) (ex_field rfl hE rfl (fldty60_1 _ _)) ?_
                            intro a hE
                            refine q_val (wk1 hE rfl rfl rfl hb11) rfl rfl hE (v := vp1_texts) (ex_load rfl hE rfl (fun w hw => run_ld1 varty58 (Hp.c 1 rfl 1 rfl w hw))) ?_
                            intro a hE
                            refine q_val (wk1 hE rfl rfl rfl hb11) rfl rfl hE (v := (.int .i64 x25)) (ex_move rfl hE rfl) ?_
                            intro a hE
                            obtain ⟨x42, ex42, hg2⟩ := bnd hg2
                            obtain ⟨b24, b24o, b24c, b24r, b24k, b24f⟩ := RoSl.at hp1_texts slty58 ex42
                            obtain rfl : b24c = Enc.enc x42 := b24k
                            have b24f : AtP ρ b24 b24o [(.string x42)] := b24f
                            refine q_val (wk1 hE rfl rfl rfl hb11) rfl rfl hE (v := (.pointer (some ⟨b24, b24o, none⟩))) (ex_index rfl hE rfl rfl b24r) ?_
                            intro a hE
                            refine q_val (wk1 hE rfl rfl rfl hb11) rfl rfl hE (v := (.string x42)) (ex_load rfl hE rfl (fun w hw => run_ld1 varty9 (b24f.c 0 rfl w hw))) ?_
                            intro a hE
                            refine q_val (wk1 hE rfl rfl rfl hb11) rfl rfl hE (v := (.bool (!decide (x41 = x42)))) (ex_sneq rfl hE rfl rfl) ?_
                            intro a hE
                            refine q_val (wk0 rfl) rfl rfl hE (v := (.bool (!decide (x41 = x42)))) (ex_pick0 rfl hE rfl hb11 rfl) ?_
                            intro a hE
                            obtain rfl := Option.some.inj hg2
                            exact q_nil (hE.cut ⟨rfl, rfl, rfl, rfl, rfl, rfl, rfl, rfl, rfl, rfl, rfl, rfl, rfl, rfl, rfl, trivial⟩)
                        · intro a hE
                          refine q_nil fun w hp => ?_
                          have hp : Hp Z ρ (_ :: _ :: _ :: _ :: L) w := hp
                          obtain ⟨j2, hj2, hj1⟩ := bnd hj1
                          refine k_cut (fun a w => Env 207 [(2, (.int .i64 p2)), (3, (.int .i64 p3)), (4, vp4), (5, (.pointer (some ⟨b1, 0, none⟩))), (6, (.pointer (some ⟨b2, 0, none⟩))), (10, (.int .i64 x1)), (11, (.int .i64 x2)), (12, vr1), (15, (.int .i64 lp3_0)), (16, (.int .i64 lp4_0)), (17, (.int .i64 x23)), (18, (.int .i64 x25)), (19, (.int .i64 x32)), (20, (.int .i64 j2))] a ∧ Hp Z ρ (TblA 34 3 vr1 usr1 (lp4_1 : (List (List Int))) :: Pt b2 (.cells #[vp1_kinds, vp1_texts, vp1_left, vp1_numbers] 60 (0, 0)) :: Pt b1 (.cells #[vp0_kinds, vp0_texts, vp0_left, vp0_numbers] 60 (0, 0)) :: TblA 34 3 vp4 usp4 (lp4_2 : (List (List Int))) :: L) w) ?_ ?_
                          ·
                            refine k_if hE rfl (fun hb12 => ?_) (fun hb12 => ?_)
                            · replace hj2 := (it hb12).symm.trans hj2
                              refine k_region ?_
                              refine s_val (wk0 rfl) rfl rfl hE hp (v := (.int .i64 x38)) (ex_move rfl hE rfl) ?_
                              intro a hE
                              obtain ⟨x43, ex43, hj2⟩ := bnd hj2
                              refine s_val (wk0 rfl) rfl rfl hE hp (v := (.int .i64 x43)) (ex_add rfl hE rfl rfl (inK_some ex43)) ?_
                              intro a hE
                              refine s_val (wk0 rfl) rfl rfl hE hp (v := (.int .i64 x43)) (ex_asn rfl hE rfl) ?_
                              intro a hE
                              refine s_nil ?_
                              obtain rfl := Option.some.inj hj2
                              exact ⟨hE.cut ⟨rfl, rfl, rfl, rfl, rfl, rfl, rfl, rfl, rfl, rfl, rfl, rfl, rfl, rfl, trivial⟩, hp⟩
                            · replace hj2 := (ie hb12).symm.trans hj2
                              refine k_skip ?_
                              obtain rfl := Option.some.inj hj2
                              exact ⟨hE.cut ⟨rfl, rfl, rfl, rfl, rfl, rfl, rfl, rfl, rfl, rfl, rfl, rfl, rfl, rfl, trivial⟩, hp⟩
                          · rintro a w ⟨hE, hp⟩
                            refine k_seq ?_
                            refine k_region ?_
                            refine s_val (wk0 rfl) rfl rfl hE hp (v := (.int .i64 x32)) (ex_move rfl hE rfl) ?_
                            intro a hE
                            refine s_val (wk0 rfl) rfl rfl hE hp (v := (.int .i64 j2)) (ex_move rfl hE rfl) ?_
                            intro a hE
                            refine s_val (wk0 rfl) rfl rfl hE hp (v := (.int .i64 (min x32 j2))) (ex_min rfl hE rfl rfl) ?_
                            intro a hE
                            refine s_val (wk0 rfl) rfl rfl hE hp (v := (.int .i64 (min x32 j2))) (ex_asn rfl hE rfl) ?_
                            intro a hE
                            refine s_nil ?_
                            have hE := hE.cut (E' := [(2, (.int .i64 p2)), (3, (.int .i64 p3)), (4, vp4), (5, (.pointer (some ⟨b1, 0, none⟩))), (6, (.pointer (some ⟨b2, 0, none⟩))), (10, (.int .i64 x1)), (11, (.int .i64 x2)), (12, vr1), (15, (.int .i64 lp3_0)), (16, (.int .i64 lp4_0)), (17, (.int .i64 x23)), (18, (.int .i64 x25)), (19, (.int .i64 (min x32 j2)))]) ⟨rfl, rfl, rfl, rfl, rfl, rfl, rfl, rfl, rfl, rfl, rfl, rfl, rfl, trivial⟩
                            refine k_region ?_
                            refine s_val (wk0 rfl) rfl rfl hE hp (v := vp4) (ex_move rfl hE rfl) ?_
                            intro a hE
                            refine s_val (wk0 rfl) rfl rfl hE hp (v := (.int .i64 x23)) (ex_move rfl hE rfl) ?_
                            intro a hE
                            obtain ⟨x44, ex44, hj1⟩ := bnd hj1
                            obtain ⟨b25u, b25, b25o, b25h, b25r, b25v, b25f⟩ := TblA.hdr hp 3 rfl slty30 ex44
                            have b25f : ∀ (j : Nat) (u : Value), ([(Sl.v b25u)] : List Value)[j]? = some u → ∀ ρ' L' w, Hp Z ρ' (TblA 34 3 vp4 usp4 (lp4_2 : (List (List Int))) :: L') w → w.cell? ⟨b25, b25o + j, none⟩ = some u := b25f
                            refine s_val (wk0 rfl) rfl rfl hE hp (v := (.pointer (some ⟨b25, b25o, none⟩))) (ex_index rfl hE rfl rfl b25r) ?_
                            intro a hE
                            refine s_val (wk0 rfl) rfl rfl hE hp (v := (Sl.v b25u)) (ex_load rfl hE rfl (fun w hw => run_ld1 varty34 (b25f 0 _ rfl _ _ w (hw.get 3 rfl)))) ?_
                            intro a hE
                            refine s_val (wk0 rfl) rfl rfl hE hp (v := (.int .i64 x25)) (ex_move rfl hE rfl) ?_
                            intro a hE
                            refine s_val (wk0 rfl) rfl rfl hE hp (v := (.int .i64 (min x32 j2))) (ex_move rfl hE rfl) ?_
                            intro a hE
                            obtain ⟨x45, ex45, hj1⟩ := bnd hj1
                            obtain ⟨b26, b26o, b26r, b26v, b26f⟩ := TblA.at hp 3 rfl slty34 b25h ex44 ex45
                            have b26f : ∀ (j : Nat) (u : Value), ([(.int .i64 x45)] : List Value)[j]? = some u → ∀ ρ' L' w, Hp Z ρ' (TblA 34 3 vp4 usp4 (lp4_2 : (List (List Int))) :: L') w → w.cell? ⟨b26, b26o + j, none⟩ = some u := b26f
                            refine s_val (wk0 rfl) rfl rfl hE hp (v := (.pointer (some ⟨b26, b26o, none⟩))) (ex_index rfl hE rfl rfl b26r) ?_
                            intro a hE
                            refine s_tstel (wk0 rfl) rfl hE hp rfl rfl rfl 3 rfl b25h ex44 ex45 b26v 0 (e' := min x32 j2) varty3.size_ rfl rfl rfl ⟨rfl, rfl⟩ ?_
                            intro w hp
                            have hp : Hp Z ρ (_ :: _ :: _ :: TblA 34 3 vp4 usp4 (lp4_2.set x23.toNat (x44.set x25.toNat (min x32 j2)) : (List (List Int))) :: L) w := hp
                            refine s_nil ?_
                            obtain rfl := Option.some.inj hj1
                            exact ⟨hE.cut ⟨rfl, rfl, rfl, rfl, rfl, rfl, rfl, rfl, rfl, rfl, rfl, trivial⟩, hp⟩
                      · replace hj1 := (ie hb10).symm.trans hj1
                        refine k_quiet (by kernel_rfl) (by kernel_rfl) hp ?_
                        refine q_val (wk0 rfl) rfl rfl hE (v := (.int .i64 x32)) (ex_move rfl hE rfl) ?_
                        intro a hE
                        refine q_val (wk0 rfl) rfl rfl hE (v := vr1) (ex_move rfl hE rfl) ?_
                        intro a hE
                        refine q_val (wk0 rfl) rfl rfl hE (v := (.pointer (some ⟨b1, 2, none⟩))) (ex_field rfl hE rfl (fldty60_2 _ _)) ?_
                        intro a hE
                        refine q_val (wk0 rfl) rfl rfl hE (v := vp0_left) (ex_load rfl hE rfl (fun w hw => run_ld1 varty34 (Hp.c 2 rfl 2 rfl w hw))) ?_
                        intro a hE
                        refine q_val (wk0 rfl) rfl rfl hE (v := (.int .i64 x23)) (ex_move rfl hE rfl) ?_
                        intro a hE
                        obtain ⟨x46, ex46, hj1⟩ := bnd hj1
                        obtain ⟨b27, b27o, b27c, b27r, b27k, b27f⟩ := RoSl.at hp0_left slty34 ex46
                        obtain rfl : b27c = Enc.enc x46 := b27k
                        have b27f : AtP ρ b27 b27o [(.int .i64 x46)] := b27f
                        refine q_val (wk0 rfl) rfl rfl hE (v := (.pointer (some ⟨b27, b27o, none⟩))) (ex_index rfl hE rfl rfl b27r) ?_
                        intro a hE
                        refine q_val (wk0 rfl) rfl rfl hE (v := (.int .i64 x46)) (ex_load rfl hE rfl (fun w hw => run_ld1 varty3 (b27f.c 0 rfl w hw))) ?_
                        intro a hE
                        refine q_val (wk0 rfl) rfl rfl hE (v := (.int .i64 x1)) (ex_move rfl hE rfl) ?_
                        intro a hE
                        obtain ⟨x47, ex47, hj1⟩ := bnd hj1
                        refine q_val (wk0 rfl) rfl rfl hE (v := (.int .i64 x47)) (ex_sub rfl hE rfl rfl (inK_some ex47)) ?_
                        intro a hE
                        obtain ⟨x48, ex48, hj1⟩ := bnd hj1
                        obtain ⟨b28u, b28, b28o, b28h, b28r, b28v, b28f⟩ := TblA.hdr hp 0 rfl slty30 ex48
                        have b28f : ∀ (j : Nat) (u : Value), ([(Sl.v b28u)] : List Value)[j]? = some u → ∀ ρ' L' w, Hp Z ρ' (TblA 34 3 vr1 usr1 (lp4_1 : (List (List Int))) :: L') w → w.cell? ⟨b28, b28o + j, none⟩ = some u := b28f
                        refine q_val (wk0 rfl) rfl rfl hE (v := (.pointer (some ⟨b28, b28o, none⟩))) (ex_index rfl hE rfl rfl b28r) ?_
                        intro a hE
                        refine q_val (wk0 rfl) rfl rfl hE (v := (Sl.v b28u)) (ex_load rfl hE rfl (fun w hw => run_ld1 varty34 (b28f 0 _ rfl _ _ w (hw.get 0 rfl)))) ?_
                        intro a hE
                        refine q_val (wk0 rfl) rfl rfl hE (v := (.pointer (some ⟨b2, 2, none⟩))) (ex_field rfl hE rfl (fldty60_2 _ _)) ?_
                        intro a hE
                        refine q_val (wk0 rfl) rfl rfl hE (v := vp1_left) (ex_load rfl hE rfl (fun w hw => run_ld1 varty34 (Hp.c 1 rfl 2 rfl w hw))) ?_
                        intro a hE
                        refine q_val (wk0 rfl) rfl rfl hE (v := (.int .i64 x25)) (ex_move rfl hE rfl) ?_
                        intro a hE
                        obtain ⟨x49, ex49, hj1⟩ := bnd hj1
                        obtain ⟨b29, b29o, b29c, b29r, b29k, b29f⟩ := RoSl.at hp1_left slty34 ex49
                        obtain rfl : b29c = Enc.enc x49 := b29k
                        have b29f : AtP ρ b29 b29o [(.int .i64 x49)] := b29f
                        refine q_val (wk0 rfl) rfl rfl hE (v := (.pointer (some ⟨b29, b29o, none⟩))) (ex_index rfl hE rfl rfl b29r) ?_
                        intro a hE
                        refine q_val (wk0 rfl) rfl rfl hE (v := (.int .i64 x49)) (ex_load rfl hE rfl (fun w hw => run_ld1 varty3 (b29f.c 0 rfl w hw))) ?_
                        intro a hE
                        refine q_val (wk0 rfl) rfl rfl hE (v := (.int .i64 x2)) (ex_move rfl hE rfl) ?_
                        intro a hE
                        obtain ⟨x50, ex50, hj1⟩ := bnd hj1
                        refine q_val (wk0 rfl) rfl rfl hE (v := (.int .i64 x50)) (ex_sub rfl hE rfl rfl (inK_some ex50)) ?_
                        intro a hE
                        obtain ⟨x51, ex51, hj1⟩ := bnd hj1
                        obtain ⟨b30, b30o, b30r, b30v, b30f⟩ := TblA.at hp 0 rfl slty34 b28h ex48 ex51
                        have b30f : ∀ (j : Nat) (u : Value), ([(.int .i64 x51)] : List Value)[j]? = some u → ∀ ρ' L' w, Hp Z ρ' (TblA 34 3 vr1 usr1 (lp4_1 : (List (List Int))) :: L') w → w.cell? ⟨b30, b30o + j, none⟩ = some u := b30f
                        refine q_val (wk0 rfl) rfl rfl hE (v := (.pointer (some ⟨b30, b30o, none⟩))) (ex_index rfl hE rfl rfl b30r) ?_
                        intro a hE
                        refine q_val (wk0 rfl) rfl rfl hE (v := (.int .i64 x51)) (ex_load rfl hE rfl (fun w hw => run_ld1 varty3 (b30f 0 _ rfl _ _ w (hw.get 0 rfl)))) ?_
                        intro a hE
                        refine q_val (wk0 rfl) rfl rfl hE (v := vp4) (ex_move rfl hE rfl) ?_
                        intro a hE
                        refine q_val (wk0 rfl) rfl rfl hE (v := (.int .i64 x23)) (ex_move rfl hE rfl) ?_
                        intro a hE
                        obtain ⟨x52, ex52, hj1⟩ := bnd hj1
                        obtain ⟨b31u, b31, b31o, b31h, b31r, b31v, b31f⟩ := TblA.hdr hp 3 rfl slty30 ex52
                        have b31f : ∀ (j : Nat) (u : Value), ([(Sl.v b31u)] : List Value)[j]? = some u → ∀ ρ' L' w, Hp Z ρ' (TblA 34 3 vp4 usp4 (lp4_2 : (List (List Int))) :: L') w → w.cell? ⟨b31, b31o + j, none⟩ = some u := b31f
                        refine q_val (wk0 rfl) rfl rfl hE (v := (.pointer (some ⟨b31, b31o, none⟩))) (ex_index rfl hE rfl rfl b31r) ?_
                        intro a hE
                        refine q_val (wk0 rfl) rfl rfl hE (v := (Sl.v b31u)) (ex_load rfl hE rfl (fun w hw => run_ld1 varty34 (b31f 0 _ rfl _ _ w (hw.get 3 rfl)))) ?_
                        intro a hE
                        refine q_val (wk0 rfl) rfl rfl hE (v := (.int .i64 x25)) (ex_move rfl hE rfl) ?_
                        intro a hE
                        obtain ⟨x53, ex53, hj1⟩ := bnd hj1
                        obtain ⟨b32, b32o, b32r, b32v, b32f⟩ := TblA.at hp 3 rfl slty34 b31h ex52 ex53
                        have b32f : ∀ (j : Nat) (u : Value), ([(.int .i64 x53)] : List Value)[j]? = some u → ∀ ρ' L' w, Hp Z ρ' (TblA 34 3 vp4 usp4 (lp4_2 : (List (List Int))) :: L') w → w.cell? ⟨b32, b32o + j, none⟩ = some u := b32f
                        refine q_val (wk0 rfl) rfl rfl hE (v := (.pointer (some ⟨b32, b32o, none⟩))) (ex_index rfl hE rfl rfl b32r) ?_
                        intro a hE
                        refine q_val (wk0 rfl) rfl rfl hE (v := (.int .i64 x53)) (ex_load rfl hE rfl (fun w hw => run_ld1 varty3 (b32f 0 _ rfl _ _ w (hw.get 3 rfl)))) ?_
                        intro a hE
                        obtain ⟨x54, ex54, hj1⟩ := bnd hj1
                        refine q_val (wk0 rfl) rfl rfl hE (v := (.int .i64 x54)) (ex_add rfl hE rfl rfl (inK_some ex54)) ?_
                        intro a hE
                        refine q_val (wk0 rfl) rfl rfl hE (v := (.int .i64 (min x32 x54))) (ex_min rfl hE rfl rfl) ?_
                        intro a hE
                        refine q_val (wk0 rfl) rfl rfl hE (v := (.int .i64 (min x32 x54))) (ex_asn rfl hE rfl) ?_
                        intro a hE
                        refine q_nil fun w hp => ?_
                        have hp : Hp Z ρ (_ :: _ :: _ :: _ :: L) w := hp
                        have hE := hE.cut (E' := [(2, (.int .i64 p2)), (3, (.int .i64 p3)), (4, vp4), (5, (.pointer (some ⟨b1, 0, none⟩))), (6, (.pointer (some ⟨b2, 0, none⟩))), (10, (.int .i64 x1)), (11, (.int .i64 x2)), (12, vr1), (15, (.int .i64 lp3_0)), (16, (.int .i64 lp4_0)), (19, (.int .i64 (min x32 x54)))]) ⟨rfl, rfl, rfl, rfl, rfl, rfl, rfl, rfl, rfl, rfl, rfl, trivial⟩
                        obtain rfl := Option.some.inj hj1
                        exact ⟨hE.cut ⟨rfl, rfl, rfl, rfl, rfl, rfl, rfl, rfl, rfl, rfl, rfl, trivial⟩, hp⟩
                    · rintro a w ⟨hE, hp⟩
                      refine k_region ?_
                      refine s_val (wk0 rfl) rfl rfl hE hp (v := vr1) (ex_move rfl hE rfl) ?_
                      intro a hE
                      refine s_val (wk0 rfl) rfl rfl hE hp (v := (.int .i64 lp3_0)) (ex_move rfl hE rfl) ?_
                      intro a hE
                      obtain ⟨x55, ex55, hl4⟩ := bnd hl4
                      obtain ⟨b33u, b33, b33o, b33h, b33r, b33v, b33f⟩ := TblA.hdr hp 0 rfl slty30 ex55
                      have b33f : ∀ (j : Nat) (u : Value), ([(Sl.v b33u)] : List Value)[j]? = some u → ∀ ρ' L' w, Hp Z ρ' (TblA 34 3 vr1 usr1 (lp4_1 : (List (List Int))) :: L') w → w.cell? ⟨b33, b33o + j, none⟩ = some u := b33f
                      refine s_val (wk0 rfl) rfl rfl hE hp (v := (.pointer (some ⟨b33, b33o, none⟩))) (ex_index rfl hE rfl rfl b33r) ?_
                      intro a hE
                      refine s_val (wk0 rfl) rfl rfl hE hp (v := (Sl.v b33u)) (ex_load rfl hE rfl (fun w hw => run_ld1 varty34 (b33f 0 _ rfl _ _ w (hw.get 0 rfl)))) ?_
                      intro a hE
                      refine s_val (wk0 rfl) rfl rfl hE hp (v := (.int .i64 lp4_0)) (ex_move rfl hE rfl) ?_
                      intro a hE
                      refine s_val (wk0 rfl) rfl rfl hE hp (v := (.int .i64 j1.1)) (ex_move rfl hE rfl) ?_
                      intro a hE
                      obtain ⟨x56, ex56, hl4⟩ := bnd hl4
                      obtain ⟨b34, b34o, b34r, b34v, b34f⟩ := TblA.at hp 0 rfl slty34 b33h ex55 ex56
                      have b34f : ∀ (j : Nat) (u : Value), ([(.int .i64 x56)] : List Value)[j]? = some u → ∀ ρ' L' w, Hp Z ρ' (TblA 34 3 vr1 usr1 (lp4_1 : (List (List Int))) :: L') w → w.cell? ⟨b34, b34o + j, none⟩ = some u := b34f
                      refine s_val (wk0 rfl) rfl rfl hE hp (v := (.pointer (some ⟨b34, b34o, none⟩))) (ex_index rfl hE rfl rfl b34r) ?_
                      intro a hE
                      refine s_tstel (wk0 rfl) rfl hE hp rfl rfl rfl 0 rfl b33h ex55 ex56 b34v 0 (e' := j1.1) varty3.size_ rfl rfl rfl ⟨rfl, rfl⟩ ?_
                      intro w hp
                      have hp : Hp Z ρ (TblA 34 3 vr1 usr1 (lp4_1.set lp3_0.toNat (x55.set lp4_0.toNat j1.1) : (List (List Int))) :: _ :: _ :: TblA 34 3 vp4 usp4 (j1.2 : (List (List Int))) :: L) w := hp
                      refine s_nil ?_
                      refine k_region ?_
                      refine s_val (wk0 rfl) rfl rfl hE hp (v := (.int .i64 lp4_0)) (ex_move rfl hE rfl) ?_
                      intro a hE
                      obtain ⟨x57, ex57, hl4⟩ := bnd hl4
                      refine s_val (wk0 rfl) rfl rfl hE hp (v := (.int .i64 x57)) (ex_add rfl hE rfl rfl (inK_some ex57)) ?_
                      intro a hE
                      refine s_val (wk0 rfl) rfl rfl hE hp (v := (.int .i64 x57)) (ex_asn rfl hE rfl) ?_
                      intro a hE
                      refine s_nil ?_
                      exact ⟨_, (Option.some.inj hl4).symm, hE.cut ⟨rfl, rfl, rfl, rfl, rfl, rfl, rfl, rfl, rfl, rfl, trivial⟩, hp⟩
                · replace hl4 := (ie hb8).symm.trans hl4
                  refine k_exit ?_
                  refine ⟨_, (Option.some.inj hl4).symm, fun hbb => ?_⟩
                  subst hbb
                  exact ⟨hE.cut ⟨rfl, rfl, rfl, rfl, rfl, rfl, rfl, rfl, rfl, trivial⟩, hp⟩
            · rintro a w ⟨hE, hp⟩
              refine k_region ?_
              refine s_val (wk0 rfl) rfl rfl hE hp (v := (.int .i64 lp3_0)) (ex_move rfl hE rfl) ?_
              intro a hE
              obtain ⟨x58, ex58, hl3⟩ := bnd hl3
              refine s_val (wk0 rfl) rfl rfl hE hp (v := (.int .i64 x58)) (ex_add rfl hE rfl rfl (inK_some ex58)) ?_
              intro a hE
              refine s_val (wk0 rfl) rfl rfl hE hp (v := (.int .i64 x58)) (ex_asn rfl hE rfl) ?_
              intro a hE
              refine s_nil ?_
              exact ⟨_, (Option.some.inj hl3).symm, hE.cut ⟨rfl, rfl, rfl, rfl, rfl, rfl, rfl, rfl, rfl, trivial⟩, hp⟩
          · replace hl3 := (ie hb6).symm.trans hl3
            refine k_exit ?_
            refine ⟨_, (Option.some.inj hl3).symm, fun hbb => ?_⟩
            subst hbb
            exact ⟨hE.cut trivial, hp⟩
      · rintro a w ⟨hE, hp⟩
        obtain rfl := Option.some.inj hm
        exact ret0n hE rfl ⟨_, rfl, rfl, (((((hp.get 2 rfl).drop).get 1 rfl).drop).drop)⟩
end Go.Proofs.Ytnnccbagbgndpaa

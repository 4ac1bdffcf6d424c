/-
  The code goes as its model: assessor/assessorlaw37.DistanceLists. (Printed by wip/sp/gen.py.)
-/
import Derived.Test.YtnnccbagbgndpaaWLM
import Derived.Test.YtnnccbagbgndpaaFct
import Derived.Test.YtnnccbagbgndpaaWS
set_option linter.unusedVariables false
set_option linter.unusedSimpArgs false
namespace Go.Proofs.Ytnnccbagbgndpaa
open Go.RowKit

/- assessor/assessorlaw37.DistanceLists -/
set_option maxRecDepth 100000 in
set_option maxHeartbeats 4000000 in
theorem c_assessorlaw37_DistanceLists {Z : World} {ρ : PH} {L : List Atom} {w : World} (p0 : Node) (vp0_kids : Value) (hp0_kids : RoSl ρ vp0_kids p0.kids) (p1 : (List Node)) (vp1 : Value) (hp1 : RoSl ρ vp1 p1) (hp : Hp Z ρ (L) w) (r : Bool) (hm : m_assessorlaw37_DistanceLists p0 p1 = some r) :
    Calls Try.prog 8 #[(.agg #[(.int .i64 p0.kind), (.string p0.text), (.int .i64 p0.at_), (.int .i64 p0.fin), vp0_kids]), vp1] w (Ret fun v w' => v = (.bool r) ∧ Hp Z ρ (L) w') := by
  refine enter (N := 168) Try.func8 rfl rfl [(0, (.agg #[(.int .i64 p0.kind), (.string p0.text), (.int .i64 p0.at_), (.int .i64 p0.fin), vp0_kids])), (1, vp1)] rfl (argsIn_mem ⟨rfl, rfl, trivial⟩) fun a hE => ?_
  unfold m_assessorlaw37_DistanceLists at hm
  refine k_seq ?_
  refine k_region ?_
  refine s_box (wk0 rfl) rfl rfl hE hp rfl (v := (.agg #[(.int .i64 p0.kind), (.string p0.text), (.int .i64 p0.at_), (.int .i64 p0.fin), vp0_kids])) rfl ?_
  intro a w b1 hE hp
  have hp : Hp Z ρ (Pt b1 (.cells #[(.int .i64 p0.kind), (.string p0.text), (.int .i64 p0.at_), (.int .i64 p0.fin), vp0_kids] 24 (0, 0)) :: L) w := hp
  refine s_val (wk0 rfl) rfl rfl hE hp (v := (.bool false)) (ex_asn rfl hE rfl) ?_
  intro a hE
  refine s_nil ?_
  refine k_seq ?_
  refine k_seq ?_
  refine k_region ?_
  obtain ⟨x1, ex1, hm⟩ := bnd hm
  refine s_call (wk0 rfl) rfl rfl hE rfl [] trivial ent10 (c_assessorlaw37_awake  hp x1 ex1) Ret.ret ?_
  intro v a w hR hE
  obtain ⟨rfl, hp⟩ := Ret.of hR
  have hp : Hp Z ρ (_ :: L) w := hp
  refine s_val (wk0 rfl) rfl rfl hE hp (v := (.bool (!x1))) (ex_not rfl hE rfl) ?_
  intro a hE
  refine s_nil ?_
  refine k_if hE rfl (fun hb1 => ?_) (fun hb1 => ?_)
  · replace hm := (it hb1).symm.trans hm
    refine k_seq ?_
    refine k_region ?_
    refine s_val (wk0 rfl) rfl rfl hE hp (v := (.bool false)) (ex_asn rfl hE rfl) ?_
    intro a hE
    refine s_nil ?_
    refine k_ret ?_
    obtain rfl := Option.some.inj hm
    exact ret1 hE rfl rfl ⟨_, rfl, rfl, (hp.drop)⟩
  · replace hm := (ie hb1).symm.trans hm
    refine k_skip ?_
    refine k_seq ?_
    refine k_seq ?_
    refine k_region ?_
    refine s_val (wk0 rfl) rfl rfl hE hp (v := vp1) (ex_move rfl hE rfl) ?_
    intro a hE
    refine s_val (wk0 rfl) rfl rfl hE hp (v := (.int .i64 (p1.length : Int))) (ex_len rfl hE rfl (RoSl.len hp1 slty22)) ?_
    intro a hE
    refine s_val (wk0 rfl) rfl rfl hE hp (v := (.bool (decide (5 < (p1.length : Int))))) (ex_gtr rfl hE rfl rfl) ?_
    intro a hE
    refine s_val (wk0 rfl) rfl rfl hE hp (v := (.bool (decide (5 < (p1.length : Int))))) (ex_move rfl hE rfl) ?_
    intro a hE
    obtain ⟨m1, hg1, hm⟩ := bnd hm
    refine s_cut [_, _, _, _, _] (fun a w => Env 168 [(32, (.bool m1)), (1, vp1), (2, (.pointer (some ⟨b1, 0, none⟩)))] a ∧ Hp Z ρ (Pt b1 (.cells #[(.int .i64 p0.kind), (.string p0.text), (.int .i64 p0.at_), (.int .i64 p0.fin), vp0_kids] 24 (0, 0)) :: L) w) ?_ ?_
    · rcases Bool.eq_false_or_eq_true (decide (5 < (p1.length : Int))) with hb2 | hb2
      ·
        replace hg1 := (it hb2).symm.trans hg1
        refine s_skip (wk2 hE rfl rfl rfl hb2) rfl rfl hE ?_
        intro a hE
        refine s_skip (wk2 hE rfl rfl rfl hb2) rfl rfl hE ?_
        intro a hE
        refine s_skip (wk2 hE rfl rfl rfl hb2) rfl rfl hE ?_
        intro a hE
        refine s_skip (wk2 hE rfl rfl rfl hb2) rfl rfl hE ?_
        intro a hE
        refine s_val (wk0 rfl) rfl rfl hE hp (v := (.bool true)) (ex_pick1 rfl hE rfl hb2 rfl) ?_
        intro a hE
        obtain rfl := Option.some.inj hg1
        exact s_nil ⟨hE.cut ⟨rfl, rfl, rfl, trivial⟩, hp⟩
      ·
        replace hg1 := (ie hb2).symm.trans hg1
        refine s_val (wk1 hE rfl rfl rfl hb2) rfl rfl hE hp (v := (.agg #[(.int .i64 p0.kind), (.string p0.text), (.int .i64 p0.at_), (.int .i64 p0.fin), vp0_kids])) (ex_load rfl hE rfl (fun w hw => run_ldN (cs := [(.int .i64 p0.kind), (.string p0.text), (.int .i64 p0.at_), (.int .i64 p0.fin), vp0_kids]) varty24 (Hp.cN 0 rfl 0 _ (sub_all rfl) w hw))) ?_
        intro a hE
        refine s_val (wk1 hE rfl rfl rfl hb2) rfl rfl hE hp (v := (.agg #[(.int .i64 p0.kind), (.string p0.text), (.int .i64 p0.at_), (.int .i64 p0.fin), vp0_kids])) (ex_load rfl hE rfl (fun w hw => run_ldN (cs := [(.int .i64 p0.kind), (.string p0.text), (.int .i64 p0.at_), (.int .i64 p0.fin), vp0_kids]) varty24 (Hp.cN 0 rfl 0 _ (sub_all rfl) w hw))) ?_
        intro a hE
        obtain ⟨x2, ex2, hg1⟩ := bnd hg1
        refine s_call (wk1 hE rfl rfl rfl hb2) rfl rfl hE rfl [(.agg #[(.int .i64 p0.kind), (.string p0.text), (.int .i64 p0.at_), (.int .i64 p0.fin), vp0_kids]), (.agg #[(.int .i64 p0.kind), (.string p0.text), (.int .i64 p0.at_), (.int .i64 p0.fin), vp0_kids]), (.int .i64 12)] ⟨rfl, rfl, rfl, trivial⟩ ent11 (c_assessorlaw37_few p0 vp0_kids hp0_kids p0 vp0_kids hp0_kids 12 hp x2 ex2) Ret.ret ?_
        intro v a w hR hE
        obtain ⟨rfl, hp⟩ := Ret.of hR
        have hp : Hp Z ρ (_ :: L) w := hp
        refine s_val (wk1 hE rfl rfl rfl hb2) rfl rfl hE hp (v := (.bool (!x2))) (ex_not rfl hE rfl) ?_
        intro a hE
        refine s_val (wk0 rfl) rfl rfl hE hp (v := (.bool (!x2))) (ex_pick0 rfl hE rfl hb2 rfl) ?_
        intro a hE
        obtain rfl := Option.some.inj hg1
        exact s_nil ⟨hE.cut ⟨rfl, rfl, rfl, trivial⟩, hp⟩
    · rintro a w ⟨hE, hp⟩
      refine s_nil ?_
      refine k_if hE rfl (fun hb3 => ?_) (fun hb3 => ?_)
      · replace hm := (it hb3).symm.trans hm
        refine k_seq ?_
        refine k_region ?_
        refine s_val (wk0 rfl) rfl rfl hE hp (v := (.bool true)) (ex_asn rfl hE rfl) ?_
        intro a hE
        refine s_nil ?_
        refine k_ret ?_
        obtain rfl := Option.some.inj hm
        exact ret1 hE rfl rfl ⟨_, rfl, rfl, (hp.drop)⟩
      · replace hm := (ie hb3).symm.trans hm
        refine k_skip ?_
        refine k_seq ?_
        refine k_seq ?_
        refine k_region ?_
        refine s_val (wk0 rfl) rfl rfl hE hp (v := vp1) (ex_move rfl hE rfl) ?_
        intro a hE
        refine s_val (wk0 rfl) rfl rfl hE hp (v := (.int .i64 (p1.length : Int))) (ex_len rfl hE rfl (RoSl.len hp1 slty22)) ?_
        intro a hE
        refine s_val (wk0 rfl) rfl rfl hE hp (v := (.int .i64 0)) (ex_move rfl hE rfl) ?_
        intro a hE
        refine s_nil ?_
        obtain ⟨b2, hb4, hm⟩ := bnd hm
        refine k_block (fun a w => ∃ s : Unit, b2 = .brk s ∧ (Env 168 [(1, vp1), (2, (.pointer (some ⟨b1, 0, none⟩)))] a ∧ Hp Z ρ (Pt b1 (.cells #[(.int .i64 p0.kind), (.string p0.text), (.int .i64 p0.at_), (.int .i64 p0.fin), vp0_kids] 24 (0, 0)) :: L) w)) ?_ ?_
        · refine k_loop hb4 (fun s a w => Env 168 [(1, vp1), (2, (.pointer (some ⟨b1, 0, none⟩))), (33, vp1), (34, (.int .i64 (p1.length : Int))), (35, (.int .i64 s))] a ∧ Hp Z ρ (Pt b1 (.cells #[(.int .i64 p0.kind), (.string p0.text), (.int .i64 p0.at_), (.int .i64 p0.fin), vp0_kids] 24 (0, 0)) :: L) w) ?_ ?_
          · exact ⟨hE.cut ⟨rfl, rfl, rfl, rfl, rfl, trivial⟩, hp⟩
          · rintro lp1_0 st a w ⟨hE, hp⟩ hl1
            have hE : Env 168 [(1, vp1), (2, (.pointer (some ⟨b1, 0, none⟩))), (33, vp1), (34, (.int .i64 (p1.length : Int))), (35, (.int .i64 lp1_0))] a := hE
            have hp : Hp Z ρ (_ :: L) w := hp
            replace hl1 : m_assessorlaw37_DistanceLists_lp1 p1 lp1_0 = some st := hl1
            unfold m_assessorlaw37_DistanceLists_lp1 at hl1
            refine k_seq ?_
            refine k_region ?_
            refine s_val (wk0 rfl) rfl rfl hE hp (v := (.bool (decide (lp1_0 < (p1.length : Int))))) (ex_lss rfl hE rfl rfl) ?_
            intro a hE
            refine s_nil ?_
            refine k_seq ?_
            refine k_if hE rfl (fun hb5 => ?_) (fun hb5 => ?_)
            · replace hl1 := (it hb5).symm.trans hl1
              refine k_skip ?_
              refine k_seq ?_
              refine k_plain ?_
              refine k_seq ?_
              refine k_region ?_
              obtain ⟨x3, ex3, hl1⟩ := bnd hl1
              obtain ⟨b3, b3o, b3c, b3r, b3k, b3f⟩ := RoSl.at hp1 slty22 ex3
              obtain ⟨vb3_kids, rfl, hb3_kids⟩ := NodeAt.opens b3k
              have b3f : AtP ρ b3 b3o [(.int .i64 x3.kind), (.string x3.text), (.int .i64 x3.at_), (.int .i64 x3.fin), vb3_kids] := b3f
              refine s_val (wk0 rfl) rfl rfl hE hp (v := (.pointer (some ⟨b3, b3o, none⟩))) (ex_index rfl hE rfl rfl b3r) ?_
              intro a hE
              refine s_val (wk0 rfl) rfl rfl hE hp (v := (.agg #[(.int .i64 x3.kind), (.string x3.text), (.int .i64 x3.at_), (.int .i64 x3.fin), vb3_kids])) (ex_load rfl hE rfl (fun w hw => run_ldN (cs := [(.int .i64 x3.kind), (.string x3.text), (.int .i64 x3.at_), (.int .i64 x3.fin), vb3_kids]) varty24 (fun j u hj => cell_of hw.le (b3f j u hj)))) ?_
              intro a hE
              refine s_new (wk0 rfl) rfl rfl hE hp rfl [(.int .i64 0), (.string ByteArray.empty), (.int .i64 0), (.int .i64 0), (.slice none 0 0)] (fun w => by simp [Instr.alloc, go_sem] <;> rfl) ?_
              intro a w b4 hE hp
              have hp : Hp Z ρ (Pt b4 (.cells #[(.int .i64 0), (.string ByteArray.empty), (.int .i64 0), (.int .i64 0), (.slice none 0 0)] 24 (0, 0)) :: _ :: L) w := hp
              refine s_store (wk0 rfl) rfl hE hp rfl rfl rfl 0 rfl varty24.size_ rfl (allOne_mem ⟨rfl, rfl, rfl, rfl, (RoSl.one hb3_kids), trivial⟩) [(.int .i64 x3.kind), (.string x3.text), (.int .i64 x3.at_), (.int .i64 x3.fin), vb3_kids] rfl ?_
              intro w hp
              have hp : Hp Z ρ (Pt b4 (.cells #[(.int .i64 x3.kind), (.string x3.text), (.int .i64 x3.at_), (.int .i64 x3.fin), vb3_kids] 24 (0, 0)) :: _ :: L) w := hp
              refine s_nil ?_
              refine k_seq ?_
              refine k_region ?_
              refine s_val (wk0 rfl) rfl rfl hE hp (v := (.agg #[(.int .i64 x3.kind), (.string x3.text), (.int .i64 x3.at_), (.int .i64 x3.fin), vb3_kids])) (ex_load rfl hE rfl (fun w hw => run_ldN (cs := [(.int .i64 x3.kind), (.string x3.text), (.int .i64 x3.at_), (.int .i64 x3.fin), vb3_kids]) varty24 (Hp.cN 0 rfl 0 _ (sub_all rfl) w hw))) ?_
              intro a hE
              refine s_val (wk0 rfl) rfl rfl hE hp (v := (.agg #[(.int .i64 x3.kind), (.string x3.text), (.int .i64 x3.at_), (.int .i64 x3.fin), vb3_kids])) (ex_load rfl hE rfl (fun w hw => run_ldN (cs := [(.int .i64 x3.kind), (.string x3.text), (.int .i64 x3.at_), (.int .i64 x3.fin), vb3_kids]) varty24 (Hp.cN 0 rfl 0 _ (sub_all rfl) w hw))) ?_
              intro a hE
              obtain ⟨x4, ex4, hl1⟩ := bnd hl1
              refine s_call (wk0 rfl) rfl rfl hE rfl [(.agg #[(.int .i64 x3.kind), (.string x3.text), (.int .i64 x3.at_), (.int .i64 x3.fin), vb3_kids]), (.agg #[(.int .i64 x3.kind), (.string x3.text), (.int .i64 x3.at_), (.int .i64 x3.fin), vb3_kids]), (.int .i64 12)] ⟨rfl, rfl, rfl, trivial⟩ ent11 (c_assessorlaw37_few x3 vb3_kids hb3_kids x3 vb3_kids hb3_kids 12 hp x4 ex4) Ret.ret ?_
              intro v a w hR hE
              obtain ⟨rfl, hp⟩ := Ret.of hR
              have hp : Hp Z ρ (_ :: _ :: L) w := hp
              refine s_val (wk0 rfl) rfl rfl hE hp (v := (.bool (!x4))) (ex_not rfl hE rfl) ?_
              intro a hE
              refine s_nil ?_
              have hE := hE.cut (E' := [(1, vp1), (2, (.pointer (some ⟨b1, 0, none⟩))), (33, vp1), (34, (.int .i64 (p1.length : Int))), (35, (.int .i64 lp1_0)), (42, (.bool (!x4)))]) ⟨rfl, rfl, rfl, rfl, rfl, rfl, trivial⟩
              refine k_if hE rfl (fun hb6 => ?_) (fun hb6 => ?_)
              · replace hl1 := (it hb6).symm.trans hl1
                refine k_seq ?_
                refine k_region ?_
                refine s_val (wk0 rfl) rfl rfl hE hp (v := (.bool true)) (ex_asn rfl hE rfl) ?_
                intro a hE
                refine s_nil ?_
                refine k_ret ?_
                refine ⟨_, (Option.some.inj hl1).symm, fun hb => ?_⟩
                subst hb
                obtain rfl := Option.some.inj hm
                exact ret1 hE rfl rfl ⟨_, rfl, rfl, (((hp.get 1 rfl).drop).drop)⟩
              · replace hl1 := (ie hb6).symm.trans hl1
                refine k_skip ?_
                refine k_region ?_
                obtain ⟨x5, ex5, hl1⟩ := bnd hl1
                refine s_val (wk0 rfl) rfl rfl hE hp (v := (.int .i64 x5)) (ex_add rfl hE rfl rfl (inK_some ex5)) ?_
                intro a hE
                refine s_val (wk0 rfl) rfl rfl hE hp (v := (.int .i64 x5)) (ex_move rfl hE rfl) ?_
                intro a hE
                refine s_nil ?_
                exact ⟨_, (Option.some.inj hl1).symm, hE.cut ⟨rfl, rfl, rfl, rfl, rfl, trivial⟩, (hp.drop)⟩
            · replace hl1 := (ie hb5).symm.trans hl1
              refine k_exit ?_
              refine ⟨_, (Option.some.inj hl1).symm, fun hbb => ?_⟩
              exact ⟨_, hbb.symm, hE.cut ⟨rfl, rfl, trivial⟩, hp⟩
        · rintro a w ⟨b2s, rfl, hE, hp⟩
          dsimp only at hm
          refine k_seq ?_
          refine k_region ?_
          refine s_val (wk0 rfl) rfl rfl hE hp (v := vp1) (ex_move rfl hE rfl) ?_
          intro a hE
          obtain ⟨x6, ex6, hm⟩ := bnd hm
          refine s_call (wk0 rfl) rfl rfl hE rfl [vp1] ⟨rfl, trivial⟩ ent23 (c_distance_Matrix p1 vp1 hp1 hp x6 ex6) Ret.ret ?_
          intro v a w hR hE
          obtain ⟨vr4, usr4, rfl, hp⟩ := Ret.of hR
          have hp : Hp Z ρ (TblA 34 3 vr4 usr4 (x6.1 : (List (List Int))) :: _ :: L) w := hp
          refine s_val (wk0 rfl) rfl rfl hE hp (v := (.tuple #[vr4, (.int .i64 x6.2)])) (ex_move rfl hE rfl) ?_
          intro a hE
          refine s_val (wk0 rfl) rfl rfl hE hp (v := vr4) (ex_extract rfl hE rfl rfl) ?_
          intro a hE
          refine s_val (wk0 rfl) rfl rfl hE hp (v := (.int .i64 x6.2)) (ex_extract rfl hE rfl rfl) ?_
          intro a hE
          refine s_val (wk0 rfl) rfl rfl hE hp (v := vr4) (ex_asn rfl hE rfl) ?_
          intro a hE
          refine s_val (wk0 rfl) rfl rfl hE hp (v := (.int .i64 x6.2)) (ex_asn rfl hE rfl) ?_
          intro a hE
          refine s_nil ?_
          refine k_seq ?_
          refine k_region ?_
          refine s_val (wk0 rfl) rfl rfl hE hp (v := (.agg #[(.int .i64 p0.kind), (.string p0.text), (.int .i64 p0.at_), (.int .i64 p0.fin), vp0_kids])) (ex_load rfl hE rfl (fun w hw => run_ldN (cs := [(.int .i64 p0.kind), (.string p0.text), (.int .i64 p0.at_), (.int .i64 p0.fin), vp0_kids]) varty24 (Hp.cN 1 rfl 0 _ (sub_all rfl) w hw))) ?_
          intro a hE
          refine s_val (wk0 rfl) rfl rfl hE hp (v := vp1) (ex_move rfl hE rfl) ?_
          intro a hE
          obtain ⟨x7, ex7, hm⟩ := bnd hm
          refine s_call (wk0 rfl) rfl rfl hE rfl [(.agg #[(.int .i64 p0.kind), (.string p0.text), (.int .i64 p0.at_), (.int .i64 p0.fin), vp0_kids]), vp1] ⟨rfl, rfl, trivial⟩ ent24 (c_distance_Nearest p0 vp0_kids hp0_kids p1 vp1 hp1 hp x7 ex7) Ret.ret ?_
          intro v a w hR hE
          obtain ⟨rfl, hp⟩ := Ret.of hR
          have hp : Hp Z ρ (_ :: _ :: L) w := hp
          refine s_val (wk0 rfl) rfl rfl hE hp (v := (.tuple #[(.int .i64 x7.1), (.int .i64 x7.2.1), (.int .i64 x7.2.2)])) (ex_move rfl hE rfl) ?_
          intro a hE
          refine s_val (wk0 rfl) rfl rfl hE hp (v := (.int .i64 x7.1)) (ex_extract rfl hE rfl rfl) ?_
          intro a hE
          refine s_val (wk0 rfl) rfl rfl hE hp (v := (.int .i64 x7.2.1)) (ex_extract rfl hE rfl rfl) ?_
          intro a hE
          refine s_val (wk0 rfl) rfl rfl hE hp (v := (.int .i64 x7.2.2)) (ex_extract rfl hE rfl rfl) ?_
          intro a hE
          refine s_val (wk0 rfl) rfl rfl hE hp (v := (.int .i64 x7.1)) (ex_asn rfl hE rfl) ?_
          intro a hE
          refine s_val (wk0 rfl) rfl rfl hE hp (v := (.int .i64 x7.2.1)) (ex_asn rfl hE rfl) ?_
          intro a hE
          refine s_val (wk0 rfl) rfl rfl hE hp (v := (.int .i64 x7.2.2)) (ex_asn rfl hE rfl) ?_
          intro a hE
          refine s_nil ?_
          have hE := hE.cut (E' := [(1, vp1), (2, (.pointer (some ⟨b1, 0, none⟩))), (7, vr4), (8, (.int .i64 x6.2)), (9, (.int .i64 x7.1)), (10, (.int .i64 x7.2.1)), (11, (.int .i64 x7.2.2))]) ⟨rfl, rfl, rfl, rfl, rfl, rfl, rfl, trivial⟩
          refine k_seq ?_
          refine k_seq ?_
          refine k_region ?_
          refine s_val (wk0 rfl) rfl rfl hE hp (v := (.int .i64 x6.2)) (ex_move rfl hE rfl) ?_
          intro a hE
          refine s_val (wk0 rfl) rfl rfl hE hp (v := (.bool (!decide (x6.2 = 0)))) (ex_neq rfl hE rfl rfl) ?_
          intro a hE
          refine s_val (wk0 rfl) rfl rfl hE hp (v := (.bool (!decide (x6.2 = 0)))) (ex_move rfl hE rfl) ?_
          intro a hE
          refine s_cut [_, _, _, _, _, _] (fun a w => Env 168 [(64, (.bool ((!decide (x6.2 = 0)) || (!decide ((x6.1.length : Int) = (p1.length : Int)))))), (1, vp1), (2, (.pointer (some ⟨b1, 0, none⟩))), (7, vr4), (8, (.int .i64 x6.2)), (9, (.int .i64 x7.1)), (10, (.int .i64 x7.2.1)), (11, (.int .i64 x7.2.2))] a ∧ Hp Z ρ (TblA 34 3 vr4 usr4 (x6.1 : (List (List Int))) :: Pt b1 (.cells #[(.int .i64 p0.kind), (.string p0.text), (.int .i64 p0.at_), (.int .i64 p0.fin), vp0_kids] 24 (0, 0)) :: L) w) ?_ ?_
          · rcases Bool.eq_false_or_eq_true (!decide (x6.2 = 0)) with hb7 | hb7
            ·
              refine s_skip (wk2 hE rfl rfl rfl hb7) rfl rfl hE ?_
              intro a hE
              refine s_skip (wk2 hE rfl rfl rfl hb7) rfl rfl hE ?_
              intro a hE
              refine s_skip (wk2 hE rfl rfl rfl hb7) rfl rfl hE ?_
              intro a hE
              refine s_skip (wk2 hE rfl rfl rfl hb7) rfl rfl hE ?_
              intro a hE
              refine s_skip (wk2 hE rfl rfl rfl hb7) rfl rfl hE ?_
              intro a hE
              refine s_val (wk0 rfl) rfl rfl hE hp (v := (.bool true)) (ex_pick1 rfl hE rfl hb7 rfl) ?_
              intro a hE
              have hE := hE.eqv (v' := (.bool ((!decide (x6.2 = 0)) || (!decide ((x6.1.length : Int) = (p1.length : Int)))))) (by rw [hb7]; rfl)
              exact s_nil ⟨hE.cut ⟨rfl, rfl, rfl, rfl, rfl, rfl, rfl, rfl, trivial⟩, hp⟩
            ·
              refine s_val (wk1 hE rfl rfl rfl hb7) rfl rfl hE hp (v := vr4) (ex_move rfl hE rfl) ?_
              intro a hE
              refine s_val (wk1 hE rfl rfl rfl hb7) rfl rfl hE hp (v := (.int .i64 (x6.1.length : Int))) (ex_len rfl hE rfl (TblA.len hp 0 rfl slty30)) ?_
              intro a hE
              refine s_val (wk1 hE rfl rfl rfl hb7) rfl rfl hE hp (v := vp1) (ex_move rfl hE rfl) ?_
              intro a hE
              refine s_val (wk1 hE rfl rfl rfl hb7) rfl rfl hE hp (v := (.int .i64 (p1.length : Int))) (ex_len rfl hE rfl (RoSl.len hp1 slty22)) ?_
              intro a hE
              refine s_val (wk1 hE rfl rfl rfl hb7) rfl rfl hE hp (v := (.bool (!decide ((x6.1.length : Int) = (p1.length : Int))))) (ex_neq rfl hE rfl rfl) ?_
              intro a hE
              refine s_val (wk0 rfl) rfl rfl hE hp (v := (.bool (!decide ((x6.1.length : Int) = (p1.length : Int))))) (ex_pick0 rfl hE rfl hb7 rfl) ?_
              intro a hE
              have hE := hE.eqv (v' := (.bool ((!decide (x6.2 = 0)) || (!decide ((x6.1.length : Int) = (p1.length : Int)))))) (by rw [hb7]; rfl)
              exact s_nil ⟨hE.cut ⟨rfl, rfl, rfl, rfl, rfl, rfl, rfl, rfl, trivial⟩, hp⟩
          · rintro a w ⟨hE, hp⟩
            refine s_val (wk0 rfl) rfl rfl hE hp (v := (.bool ((!decide (x6.2 = 0)) || (!decide ((x6.1.length : Int) = (p1.length : Int)))))) (ex_move rfl hE rfl) ?_
            intro a hE
            refine s_cut [_, _, _, _] (fun a w => Env 168 [(69, (.bool (((!decide (x6.2 = 0)) || (!decide ((x6.1.length : Int) = (p1.length : Int)))) || (decide ((p1.length : Int) = 0))))), (1, vp1), (2, (.pointer (some ⟨b1, 0, none⟩))), (7, vr4), (8, (.int .i64 x6.2)), (9, (.int .i64 x7.1)), (10, (.int .i64 x7.2.1)), (11, (.int .i64 x7.2.2))] a ∧ Hp Z ρ (TblA 34 3 vr4 usr4 (x6.1 : (List (List Int))) :: Pt b1 (.cells #[(.int .i64 p0.kind), (.string p0.text), (.int .i64 p0.at_), (.int .i64 p0.fin), vp0_kids] 24 (0, 0)) :: L) w) ?_ ?_
            · rcases Bool.eq_false_or_eq_true ((!decide (x6.2 = 0)) || (!decide ((x6.1.length : Int) = (p1.length : Int)))) with hb8 | hb8
              ·
                refine s_skip (wk2 hE rfl rfl rfl hb8) rfl rfl hE ?_
                intro a hE
                refine s_skip (wk2 hE rfl rfl rfl hb8) rfl rfl hE ?_
                intro a hE
                refine s_skip (wk2 hE rfl rfl rfl hb8) rfl rfl hE ?_
                intro a hE
                refine s_val (wk0 rfl) rfl rfl hE hp (v := (.bool true)) (ex_pick1 rfl hE rfl hb8 rfl) ?_
                intro a hE
                have hE := hE.eqv (v' := (.bool (((!decide (x6.2 = 0)) || (!decide ((x6.1.length : Int) = (p1.length : Int)))) || (decide ((p1.length : Int) = 0))))) (by rw [hb8]; rfl)
                exact s_nil ⟨hE.cut ⟨rfl, rfl, rfl, rfl, rfl, rfl, rfl, rfl, trivial⟩, hp⟩
              ·
                refine s_val (wk1 hE rfl rfl rfl hb8) rfl rfl hE hp (v := vp1) (ex_move rfl hE rfl) ?_
                intro a hE
                refine s_val (wk1 hE rfl rfl rfl hb8) rfl rfl hE hp (v := (.int .i64 (p1.length : Int))) (ex_len rfl hE rfl (RoSl.len hp1 slty22)) ?_
                intro a hE
                refine s_val (wk1 hE rfl rfl rfl hb8) rfl rfl hE hp (v := (.bool (decide ((p1.length : Int) = 0)))) (ex_eql rfl hE rfl rfl) ?_
                intro a hE
                refine s_val (wk0 rfl) rfl rfl hE hp (v := (.bool (decide ((p1.length : Int) = 0)))) (ex_pick0 rfl hE rfl hb8 rfl) ?_
                intro a hE
                have hE := hE.eqv (v' := (.bool (((!decide (x6.2 = 0)) || (!decide ((x6.1.length : Int) = (p1.length : Int)))) || (decide ((p1.length : Int) = 0))))) (by rw [hb8]; rfl)
                exact s_nil ⟨hE.cut ⟨rfl, rfl, rfl, rfl, rfl, rfl, rfl, rfl, trivial⟩, hp⟩
            · rintro a w ⟨hE, hp⟩
              refine s_nil ?_
              refine k_if hE rfl (fun hb9 => ?_) (fun hb9 => ?_)
              · replace hm := (it hb9).symm.trans hm
                refine k_seq ?_
                refine k_region ?_
                refine s_val (wk0 rfl) rfl rfl hE hp (v := (.int .i64 x6.2)) (ex_move rfl hE rfl) ?_
                intro a hE
                refine s_val (wk0 rfl) rfl rfl hE hp (v := (.bool (decide (x6.2 = 0)))) (ex_eql rfl hE rfl rfl) ?_
                intro a hE
                refine s_val (wk0 rfl) rfl rfl hE hp (v := (.bool (decide (x6.2 = 0)))) (ex_move rfl hE rfl) ?_
                intro a hE
                refine s_cut [_, _, _, _] (fun a w => Env 168 [(76, (.bool ((decide (x6.2 = 0)) && (decide ((x6.1.length : Int) = 0))))), (1, vp1), (9, (.int .i64 x7.1)), (10, (.int .i64 x7.2.1)), (11, (.int .i64 x7.2.2))] a ∧ Hp Z ρ (TblA 34 3 vr4 usr4 (x6.1 : (List (List Int))) :: Pt b1 (.cells #[(.int .i64 p0.kind), (.string p0.text), (.int .i64 p0.at_), (.int .i64 p0.fin), vp0_kids] 24 (0, 0)) :: L) w) ?_ ?_
                · rcases Bool.eq_false_or_eq_true (decide (x6.2 = 0)) with hb10 | hb10
                  ·
                    refine s_val (wk1 hE rfl rfl rfl hb10) rfl rfl hE hp (v := vr4) (ex_move rfl hE rfl) ?_
                    intro a hE
                    refine s_val (wk1 hE rfl rfl rfl hb10) rfl rfl hE hp (v := (.int .i64 (x6.1.length : Int))) (ex_len rfl hE rfl (TblA.len hp 0 rfl slty30)) ?_
                    intro a hE
                    refine s_val (wk1 hE rfl rfl rfl hb10) rfl rfl hE hp (v := (.bool (decide ((x6.1.length : Int) = 0)))) (ex_eql rfl hE rfl rfl) ?_
                    intro a hE
                    refine s_val (wk0 rfl) rfl rfl hE hp (v := (.bool (decide ((x6.1.length : Int) = 0)))) (ex_pick1 rfl hE rfl hb10 rfl) ?_
                    intro a hE
                    have hE := hE.eqv (v' := (.bool ((decide (x6.2 = 0)) && (decide ((x6.1.length : Int) = 0))))) (by rw [hb10]; rfl)
                    exact s_nil ⟨hE.cut ⟨rfl, rfl, rfl, rfl, rfl, trivial⟩, hp⟩
                  ·
                    refine s_skip (wk2 hE rfl rfl rfl hb10) rfl rfl hE ?_
                    intro a hE
                    refine s_skip (wk2 hE rfl rfl rfl hb10) rfl rfl hE ?_
                    intro a hE
                    refine s_skip (wk2 hE rfl rfl rfl hb10) rfl rfl hE ?_
                    intro a hE
                    refine s_val (wk0 rfl) rfl rfl hE hp (v := (.bool false)) (ex_pick0 rfl hE rfl hb10 rfl) ?_
                    intro a hE
                    have hE := hE.eqv (v' := (.bool ((decide (x6.2 = 0)) && (decide ((x6.1.length : Int) = 0))))) (by rw [hb10]; rfl)
                    exact s_nil ⟨hE.cut ⟨rfl, rfl, rfl, rfl, rfl, trivial⟩, hp⟩
                · rintro a w ⟨hE, hp⟩
                  refine s_val (wk0 rfl) rfl rfl hE hp (v := (.bool ((decide (x6.2 = 0)) && (decide ((x6.1.length : Int) = 0))))) (ex_move rfl hE rfl) ?_
                  intro a hE
                  refine s_cut [_, _, _, _] (fun a w => Env 168 [(81, (.bool (((decide (x6.2 = 0)) && (decide ((x6.1.length : Int) = 0))) && (decide ((p1.length : Int) = 0))))), (9, (.int .i64 x7.1)), (10, (.int .i64 x7.2.1)), (11, (.int .i64 x7.2.2))] a ∧ Hp Z ρ (TblA 34 3 vr4 usr4 (x6.1 : (List (List Int))) :: Pt b1 (.cells #[(.int .i64 p0.kind), (.string p0.text), (.int .i64 p0.at_), (.int .i64 p0.fin), vp0_kids] 24 (0, 0)) :: L) w) ?_ ?_
                  · rcases Bool.eq_false_or_eq_true ((decide (x6.2 = 0)) && (decide ((x6.1.length : Int) = 0))) with hb11 | hb11
                    ·
                      refine s_val (wk1 hE rfl rfl rfl hb11) rfl rfl hE hp (v := vp1) (ex_move rfl hE rfl) ?_
                      intro a hE
                      refine s_val (wk1 hE rfl rfl rfl hb11) rfl rfl hE hp (v := (.int .i64 (p1.length : Int))) (ex_len rfl hE rfl (RoSl.len hp1 slty22)) ?_
                      intro a hE
                      refine s_val (wk1 hE rfl rfl rfl hb11) rfl rfl hE hp (v := (.bool (decide ((p1.length : Int) = 0)))) (ex_eql rfl hE rfl rfl) ?_
                      intro a hE
                      refine s_val (wk0 rfl) rfl rfl hE hp (v := (.bool (decide ((p1.length : Int) = 0)))) (ex_pick1 rfl hE rfl hb11 rfl) ?_
                      intro a hE
                      have hE := hE.eqv (v' := (.bool (((decide (x6.2 = 0)) && (decide ((x6.1.length : Int) = 0))) && (decide ((p1.length : Int) = 0))))) (by rw [hb11]; rfl)
                      exact s_nil ⟨hE.cut ⟨rfl, rfl, rfl, rfl, trivial⟩, hp⟩
                    ·
                      refine s_skip (wk2 hE rfl rfl rfl hb11) rfl rfl hE ?_
                      intro a hE
                      refine s_skip (wk2 hE rfl rfl rfl hb11) rfl rfl hE ?_
                      intro a hE
                      refine s_skip (wk2 hE rfl rfl rfl hb11) rfl rfl hE ?_
                      intro a hE
                      refine s_val (wk0 rfl) rfl rfl hE hp (v := (.bool false)) (ex_pick0 rfl hE rfl hb11 rfl) ?_
                      intro a hE
                      have hE := hE.eqv (v' := (.bool (((decide (x6.2 = 0)) && (decide ((x6.1.length : Int) = 0))) && (decide ((p1.length : Int) = 0))))) (by rw [hb11]; rfl)
                      exact s_nil ⟨hE.cut ⟨rfl, rfl, rfl, rfl, trivial⟩, hp⟩
                  · rintro a w ⟨hE, hp⟩
                    refine s_val (wk0 rfl) rfl rfl hE hp (v := (.bool (((decide (x6.2 = 0)) && (decide ((x6.1.length : Int) = 0))) && (decide ((p1.length : Int) = 0))))) (ex_move rfl hE rfl) ?_
                    intro a hE
                    refine s_cut [_, _, _] (fun a w => Env 168 [(85, (.bool ((((decide (x6.2 = 0)) && (decide ((x6.1.length : Int) = 0))) && (decide ((p1.length : Int) = 0))) && (decide (x7.1 = 0))))), (10, (.int .i64 x7.2.1)), (11, (.int .i64 x7.2.2))] a ∧ Hp Z ρ (TblA 34 3 vr4 usr4 (x6.1 : (List (List Int))) :: Pt b1 (.cells #[(.int .i64 p0.kind), (.string p0.text), (.int .i64 p0.at_), (.int .i64 p0.fin), vp0_kids] 24 (0, 0)) :: L) w) ?_ ?_
                    · rcases Bool.eq_false_or_eq_true (((decide (x6.2 = 0)) && (decide ((x6.1.length : Int) = 0))) && (decide ((p1.length : Int) = 0))) with hb12 | hb12
                      ·
                        refine s_val (wk1 hE rfl rfl rfl hb12) rfl rfl hE hp (v := (.int .i64 x7.1)) (ex_move rfl hE rfl) ?_
                        intro a hE
                        refine s_val (wk1 hE rfl rfl rfl hb12) rfl rfl hE hp (v := (.bool (decide (x7.1 = 0)))) (ex_eql rfl hE rfl rfl) ?_
                        intro a hE
                        refine s_val (wk0 rfl) rfl rfl hE hp (v := (.bool (decide (x7.1 = 0)))) (ex_pick1 rfl hE rfl hb12 rfl) ?_
                        intro a hE
                        have hE := hE.eqv (v' := (.bool ((((decide (x6.2 = 0)) && (decide ((x6.1.length : Int) = 0))) && (decide ((p1.length : Int) = 0))) && (decide (x7.1 = 0))))) (by rw [hb12]; rfl)
                        exact s_nil ⟨hE.cut ⟨rfl, rfl, rfl, trivial⟩, hp⟩
                      ·
                        refine s_skip (wk2 hE rfl rfl rfl hb12) rfl rfl hE ?_
                        intro a hE
                        refine s_skip (wk2 hE rfl rfl rfl hb12) rfl rfl hE ?_
                        intro a hE
                        refine s_val (wk0 rfl) rfl rfl hE hp (v := (.bool false)) (ex_pick0 rfl hE rfl hb12 rfl) ?_
                        intro a hE
                        have hE := hE.eqv (v' := (.bool ((((decide (x6.2 = 0)) && (decide ((x6.1.length : Int) = 0))) && (decide ((p1.length : Int) = 0))) && (decide (x7.1 = 0))))) (by rw [hb12]; rfl)
                        exact s_nil ⟨hE.cut ⟨rfl, rfl, rfl, trivial⟩, hp⟩
                    · rintro a w ⟨hE, hp⟩
                      refine s_val (wk0 rfl) rfl rfl hE hp (v := (.bool ((((decide (x6.2 = 0)) && (decide ((x6.1.length : Int) = 0))) && (decide ((p1.length : Int) = 0))) && (decide (x7.1 = 0))))) (ex_move rfl hE rfl) ?_
                      intro a hE
                      refine s_cut [_, _, _] (fun a w => Env 168 [(89, (.bool (((((decide (x6.2 = 0)) && (decide ((x6.1.length : Int) = 0))) && (decide ((p1.length : Int) = 0))) && (decide (x7.1 = 0))) && (decide (x7.2.1 = 0))))), (11, (.int .i64 x7.2.2))] a ∧ Hp Z ρ (TblA 34 3 vr4 usr4 (x6.1 : (List (List Int))) :: Pt b1 (.cells #[(.int .i64 p0.kind), (.string p0.text), (.int .i64 p0.at_), (.int .i64 p0.fin), vp0_kids] 24 (0, 0)) :: L) w) ?_ ?_
                      · rcases Bool.eq_false_or_eq_true ((((decide (x6.2 = 0)) && (decide ((x6.1.length : Int) = 0))) && (decide ((p1.length : Int) = 0))) && (decide (x7.1 = 0))) with hb13 | hb13
                        ·
                          refine s_val (wk1 hE rfl rfl rfl hb13) rfl rfl hE hp (v := (.int .i64 x7.2.1)) (ex_move rfl hE rfl) ?_
                          intro a hE
                          refine s_val (wk1 hE rfl rfl rfl hb13) rfl rfl hE hp (v := (.bool (decide (x7.2.1 = 0)))) (ex_eql rfl hE rfl rfl) ?_
                          intro a hE
                          refine s_val (wk0 rfl) rfl rfl hE hp (v := (.bool (decide (x7.2.1 = 0)))) (ex_pick1 rfl hE rfl hb13 rfl) ?_
                          intro a hE
                          have hE := hE.eqv (v' := (.bool (((((decide (x6.2 = 0)) && (decide ((x6.1.length : Int) = 0))) && (decide ((p1.length : Int) = 0))) && (decide (x7.1 = 0))) && (decide (x7.2.1 = 0))))) (by rw [hb13]; rfl)
                          exact s_nil ⟨hE.cut ⟨rfl, rfl, trivial⟩, hp⟩
                        ·
                          refine s_skip (wk2 hE rfl rfl rfl hb13) rfl rfl hE ?_
                          intro a hE
                          refine s_skip (wk2 hE rfl rfl rfl hb13) rfl rfl hE ?_
                          intro a hE
                          refine s_val (wk0 rfl) rfl rfl hE hp (v := (.bool false)) (ex_pick0 rfl hE rfl hb13 rfl) ?_
                          intro a hE
                          have hE := hE.eqv (v' := (.bool (((((decide (x6.2 = 0)) && (decide ((x6.1.length : Int) = 0))) && (decide ((p1.length : Int) = 0))) && (decide (x7.1 = 0))) && (decide (x7.2.1 = 0))))) (by rw [hb13]; rfl)
                          exact s_nil ⟨hE.cut ⟨rfl, rfl, trivial⟩, hp⟩
                      · rintro a w ⟨hE, hp⟩
                        refine s_val (wk0 rfl) rfl rfl hE hp (v := (.bool (((((decide (x6.2 = 0)) && (decide ((x6.1.length : Int) = 0))) && (decide ((p1.length : Int) = 0))) && (decide (x7.1 = 0))) && (decide (x7.2.1 = 0))))) (ex_move rfl hE rfl) ?_
                        intro a hE
                        refine s_cut [_, _, _] (fun a w => Env 168 [(93, (.bool ((((((decide (x6.2 = 0)) && (decide ((x6.1.length : Int) = 0))) && (decide ((p1.length : Int) = 0))) && (decide (x7.1 = 0))) && (decide (x7.2.1 = 0))) && (decide (x7.2.2 = 7)))))] a ∧ Hp Z ρ (TblA 34 3 vr4 usr4 (x6.1 : (List (List Int))) :: Pt b1 (.cells #[(.int .i64 p0.kind), (.string p0.text), (.int .i64 p0.at_), (.int .i64 p0.fin), vp0_kids] 24 (0, 0)) :: L) w) ?_ ?_
                        · rcases Bool.eq_false_or_eq_true (((((decide (x6.2 = 0)) && (decide ((x6.1.length : Int) = 0))) && (decide ((p1.length : Int) = 0))) && (decide (x7.1 = 0))) && (decide (x7.2.1 = 0))) with hb14 | hb14
                          ·
                            refine s_val (wk1 hE rfl rfl rfl hb14) rfl rfl hE hp (v := (.int .i64 x7.2.2)) (ex_move rfl hE rfl) ?_
                            intro a hE
                            refine s_val (wk1 hE rfl rfl rfl hb14) rfl rfl hE hp (v := (.bool (decide (x7.2.2 = 7)))) (ex_eql rfl hE rfl rfl) ?_
                            intro a hE
                            refine s_val (wk0 rfl) rfl rfl hE hp (v := (.bool (decide (x7.2.2 = 7)))) (ex_pick1 rfl hE rfl hb14 rfl) ?_
                            intro a hE
                            have hE := hE.eqv (v' := (.bool ((((((decide (x6.2 = 0)) && (decide ((x6.1.length : Int) = 0))) && (decide ((p1.length : Int) = 0))) && (decide (x7.1 = 0))) && (decide (x7.2.1 = 0))) && (decide (x7.2.2 = 7))))) (by rw [hb14]; rfl)
                            exact s_nil ⟨hE.cut ⟨rfl, trivial⟩, hp⟩
                          ·
                            refine s_skip (wk2 hE rfl rfl rfl hb14) rfl rfl hE ?_
                            intro a hE
                            refine s_skip (wk2 hE rfl rfl rfl hb14) rfl rfl hE ?_
                            intro a hE
                            refine s_val (wk0 rfl) rfl rfl hE hp (v := (.bool false)) (ex_pick0 rfl hE rfl hb14 rfl) ?_
                            intro a hE
                            have hE := hE.eqv (v' := (.bool ((((((decide (x6.2 = 0)) && (decide ((x6.1.length : Int) = 0))) && (decide ((p1.length : Int) = 0))) && (decide (x7.1 = 0))) && (decide (x7.2.1 = 0))) && (decide (x7.2.2 = 7))))) (by rw [hb14]; rfl)
                            exact s_nil ⟨hE.cut ⟨rfl, trivial⟩, hp⟩
                        · rintro a w ⟨hE, hp⟩
                          refine s_val (wk0 rfl) rfl rfl hE hp (v := (.bool ((((((decide (x6.2 = 0)) && (decide ((x6.1.length : Int) = 0))) && (decide ((p1.length : Int) = 0))) && (decide (x7.1 = 0))) && (decide (x7.2.1 = 0))) && (decide (x7.2.2 = 7))))) (ex_asn rfl hE rfl) ?_
                          intro a hE
                          refine s_nil ?_
                          refine k_ret ?_
                          obtain rfl := Option.some.inj hm
                          exact ret1 hE rfl rfl ⟨_, rfl, rfl, (((hp.get 1 rfl).drop).drop)⟩
              · replace hm := (ie hb9).symm.trans hm
                refine k_skip ?_
                refine k_seq ?_
                refine k_region ?_
                refine s_val (wk0 rfl) rfl rfl hE hp (v := (.int .i64 (-1))) (ex_asn rfl hE rfl) ?_
                intro a hE
                refine s_val (wk0 rfl) rfl rfl hE hp (v := (.int .i64 0)) (ex_asn rfl hE rfl) ?_
                intro a hE
                refine s_nil ?_
                refine k_seq ?_
                refine k_seq ?_
                refine k_region ?_
                refine s_val (wk0 rfl) rfl rfl hE hp (v := vp1) (ex_move rfl hE rfl) ?_
                intro a hE
                refine s_val (wk0 rfl) rfl rfl hE hp (v := (.int .i64 (p1.length : Int))) (ex_len rfl hE rfl (RoSl.len hp1 slty22)) ?_
                intro a hE
                refine s_val (wk0 rfl) rfl rfl hE hp (v := (.int .i64 0)) (ex_move rfl hE rfl) ?_
                intro a hE
                refine s_nil ?_
                obtain ⟨b5, hb15, hm⟩ := bnd hm
                refine k_block (fun a w => ∃ s : (Int × Int), b5 = .brk s ∧ (Env 168 [(9, (.int .i64 x7.1)), (10, (.int .i64 x7.2.1)), (11, (.int .i64 x7.2.2)), (12, (.int .i64 s.1)), (13, (.int .i64 s.2))] a ∧ Hp Z ρ (TblA 34 3 vr4 usr4 (x6.1 : (List (List Int))) :: Pt b1 (.cells #[(.int .i64 p0.kind), (.string p0.text), (.int .i64 p0.at_), (.int .i64 p0.fin), vp0_kids] 24 (0, 0)) :: L) w)) ?_ ?_
                · refine k_loop hb15 (fun s a w => Env 168 [(1, vp1), (2, (.pointer (some ⟨b1, 0, none⟩))), (7, vr4), (9, (.int .i64 x7.1)), (10, (.int .i64 x7.2.1)), (11, (.int .i64 x7.2.2)), (12, (.int .i64 s.1)), (13, (.int .i64 s.2.1)), (94, vp1), (95, (.int .i64 (p1.length : Int))), (96, (.int .i64 s.2.2))] a ∧ Hp Z ρ (TblA 34 3 vr4 usr4 (x6.1 : (List (List Int))) :: Pt b1 (.cells #[(.int .i64 p0.kind), (.string p0.text), (.int .i64 p0.at_), (.int .i64 p0.fin), vp0_kids] 24 (0, 0)) :: L) w) ?_ ?_
                  · exact ⟨hE.cut ⟨rfl, rfl, rfl, rfl, rfl, rfl, rfl, rfl, rfl, rfl, rfl, trivial⟩, hp⟩
                  · rintro ⟨lp2_0, lp2_1, lp2_2⟩ st a w ⟨hE, hp⟩ hl2
                    have hE : Env 168 [(1, vp1), (2, (.pointer (some ⟨b1, 0, none⟩))), (7, vr4), (9, (.int .i64 x7.1)), (10, (.int .i64 x7.2.1)), (11, (.int .i64 x7.2.2)), (12, (.int .i64 lp2_0)), (13, (.int .i64 lp2_1)), (94, vp1), (95, (.int .i64 (p1.length : Int))), (96, (.int .i64 lp2_2))] a := hE
                    have hp : Hp Z ρ (_ :: _ :: L) w := hp
                    replace hl2 : m_assessorlaw37_DistanceLists_lp2 p0 p1 x6 lp2_0 lp2_1 lp2_2 = some st := hl2
                    unfold m_assessorlaw37_DistanceLists_lp2 at hl2
                    refine k_seq ?_
                    refine k_region ?_
                    refine s_val (wk0 rfl) rfl rfl hE hp (v := (.bool (decide (lp2_2 < (p1.length : Int))))) (ex_lss rfl hE rfl rfl) ?_
                    intro a hE
                    refine s_nil ?_
                    refine k_seq ?_
                    refine k_if hE rfl (fun hb16 => ?_) (fun hb16 => ?_)
                    · replace hl2 := (it hb16).symm.trans hl2
                      refine k_skip ?_
                      refine k_seq ?_
                      refine k_plain ?_
                      refine k_seq ?_
                      refine k_region ?_
                      refine s_val (wk0 rfl) rfl rfl hE hp (v := (.int .i64 lp2_2)) (ex_move rfl hE rfl) ?_
                      intro a hE
                      obtain ⟨x8, ex8, hl2⟩ := bnd hl2
                      obtain ⟨b6, b6o, b6c, b6r, b6k, b6f⟩ := RoSl.at hp1 slty22 ex8
                      obtain ⟨vb6_kids, rfl, hb6_kids⟩ := NodeAt.opens b6k
                      have b6f : AtP ρ b6 b6o [(.int .i64 x8.kind), (.string x8.text), (.int .i64 x8.at_), (.int .i64 x8.fin), vb6_kids] := b6f
                      refine s_val (wk0 rfl) rfl rfl hE hp (v := (.pointer (some ⟨b6, b6o, none⟩))) (ex_index rfl hE rfl rfl b6r) ?_
                      intro a hE
                      refine s_val (wk0 rfl) rfl rfl hE hp (v := (.agg #[(.int .i64 x8.kind), (.string x8.text), (.int .i64 x8.at_), (.int .i64 x8.fin), vb6_kids])) (ex_load rfl hE rfl (fun w hw => run_ldN (cs := [(.int .i64 x8.kind), (.string x8.text), (.int .i64 x8.at_), (.int .i64 x8.fin), vb6_kids]) varty24 (fun j u hj => cell_of hw.le (b6f j u hj)))) ?_
                      intro a hE
                      refine s_new (wk0 rfl) rfl rfl hE hp rfl [(.int .i64 0), (.string ByteArray.empty), (.int .i64 0), (.int .i64 0), (.slice none 0 0)] (fun w => by simp [Instr.alloc, go_sem] <;> rfl) ?_
                      intro a w b7 hE hp
                      have hp : Hp Z ρ (Pt b7 (.cells #[(.int .i64 0), (.string ByteArray.empty), (.int .i64 0), (.int .i64 0), (.slice none 0 0)] 24 (0, 0)) :: _ :: _ :: L) w := hp
                      refine s_val (wk0 rfl) rfl rfl hE hp (v := (.int .i64 lp2_2)) (ex_asn rfl hE rfl) ?_
                      intro a hE
                      refine s_store (wk0 rfl) rfl hE hp rfl rfl rfl 0 rfl varty24.size_ rfl (allOne_mem ⟨rfl, rfl, rfl, rfl, (RoSl.one hb6_kids), trivial⟩) [(.int .i64 x8.kind), (.string x8.text), (.int .i64 x8.at_), (.int .i64 x8.fin), vb6_kids] rfl ?_
                      intro w hp
                      have hp : Hp Z ρ (Pt b7 (.cells #[(.int .i64 x8.kind), (.string x8.text), (.int .i64 x8.at_), (.int .i64 x8.fin), vb6_kids] 24 (0, 0)) :: _ :: _ :: L) w := hp
                      refine s_nil ?_
                      have hE := hE.cut (E' := [(1, vp1), (2, (.pointer (some ⟨b1, 0, none⟩))), (7, vr4), (9, (.int .i64 x7.1)), (10, (.int .i64 x7.2.1)), (11, (.int .i64 x7.2.2)), (12, (.int .i64 lp2_0)), (13, (.int .i64 lp2_1)), (14, (.int .i64 lp2_2)), (15, (.pointer (some ⟨b7, 0, none⟩))), (94, vp1), (95, (.int .i64 (p1.length : Int))), (96, (.int .i64 lp2_2))]) ⟨rfl, rfl, rfl, rfl, rfl, rfl, rfl, rfl, rfl, rfl, rfl, rfl, rfl, trivial⟩
                      refine k_seq ?_
                      refine k_seq ?_
                      refine k_region ?_
                      refine s_val (wk0 rfl) rfl rfl hE hp (v := vr4) (ex_move rfl hE rfl) ?_
                      intro a hE
                      refine s_val (wk0 rfl) rfl rfl hE hp (v := (.int .i64 lp2_2)) (ex_move rfl hE rfl) ?_
                      intro a hE
                      obtain ⟨x9, ex9, hl2⟩ := bnd hl2
                      obtain ⟨b8u, b8, b8o, b8h, b8r, b8v, b8f⟩ := TblA.hdr hp 1 rfl slty30 ex9
                      have b8f : ∀ (j : Nat) (u : Value), ([(Sl.v b8u)] : List Value)[j]? = some u → ∀ ρ' L' w, Hp Z ρ' (TblA 34 3 vr4 usr4 (x6.1 : (List (List Int))) :: L') w → w.cell? ⟨b8, b8o + j, none⟩ = some u := b8f
                      refine s_val (wk0 rfl) rfl rfl hE hp (v := (.pointer (some ⟨b8, b8o, none⟩))) (ex_index rfl hE rfl rfl b8r) ?_
                      intro a hE
                      refine s_val (wk0 rfl) rfl rfl hE hp (v := (Sl.v b8u)) (ex_load rfl hE rfl (fun w hw => run_ld1 varty34 (b8f 0 _ rfl _ _ w (hw.get 1 rfl)))) ?_
                      intro a hE
                      refine s_val (wk0 rfl) rfl rfl hE hp (v := (.int .i64 (x9.length : Int))) (ex_len rfl hE rfl (TblA.rlen hp 1 rfl slty34 b8h ex9)) ?_
                      intro a hE
                      refine s_val (wk0 rfl) rfl rfl hE hp (v := vp1) (ex_move rfl hE rfl) ?_
                      intro a hE
                      refine s_val (wk0 rfl) rfl rfl hE hp (v := (.int .i64 (p1.length : Int))) (ex_len rfl hE rfl (RoSl.len hp1 slty22)) ?_
                      intro a hE
                      refine s_val (wk0 rfl) rfl rfl hE hp (v := (.bool (!decide ((x9.length : Int) = (p1.length : Int))))) (ex_neq rfl hE rfl rfl) ?_
                      intro a hE
                      refine s_nil ?_
                      refine k_if hE rfl (fun hb17 => ?_) (fun hb17 => ?_)
                      · replace hl2 := (it hb17).symm.trans hl2
                        refine k_seq ?_
                        refine k_region ?_
                        refine s_val (wk0 rfl) rfl rfl hE hp (v := (.bool false)) (ex_asn rfl hE rfl) ?_
                        intro a hE
                        refine s_nil ?_
                        refine k_ret ?_
                        refine ⟨_, (Option.some.inj hl2).symm, fun hb => ?_⟩
                        subst hb
                        obtain rfl := Option.some.inj hm
                        exact ret1 hE rfl rfl ⟨_, rfl, rfl, (((((hp.get 2 rfl).drop).get 1 rfl).drop).drop)⟩
                      · replace hl2 := (ie hb17).symm.trans hl2
                        refine k_skip ?_
                        refine k_seq ?_
                        refine k_seq ?_
                        refine k_region ?_
                        refine s_val (wk0 rfl) rfl rfl hE hp (v := vp1) (ex_move rfl hE rfl) ?_
                        intro a hE
                        refine s_val (wk0 rfl) rfl rfl hE hp (v := (.int .i64 (p1.length : Int))) (ex_len rfl hE rfl (RoSl.len hp1 slty22)) ?_
                        intro a hE
                        refine s_val (wk0 rfl) rfl rfl hE hp (v := (.int .i64 0)) (ex_move rfl hE rfl) ?_
                        intro a hE
                        refine s_nil ?_
                        have hE := hE.cut (E' := [(1, vp1), (2, (.pointer (some ⟨b1, 0, none⟩))), (7, vr4), (9, (.int .i64 x7.1)), (10, (.int .i64 x7.2.1)), (11, (.int .i64 x7.2.2)), (12, (.int .i64 lp2_0)), (13, (.int .i64 lp2_1)), (14, (.int .i64 lp2_2)), (15, (.pointer (some ⟨b7, 0, none⟩))), (94, vp1), (95, (.int .i64 (p1.length : Int))), (96, (.int .i64 lp2_2)), (109, vp1), (110, (.int .i64 (p1.length : Int))), (111, (.int .i64 0))]) ⟨rfl, rfl, rfl, rfl, rfl, rfl, rfl, rfl, rfl, rfl, rfl, rfl, rfl, rfl, rfl, rfl, trivial⟩
                        obtain ⟨b9, hb18, hl2⟩ := bnd hl2
                        refine k_block (fun a w => ∃ s : Unit, b9 = .brk s ∧ (Env 168 [(1, vp1), (2, (.pointer (some ⟨b1, 0, none⟩))), (7, vr4), (9, (.int .i64 x7.1)), (10, (.int .i64 x7.2.1)), (11, (.int .i64 x7.2.2)), (12, (.int .i64 lp2_0)), (13, (.int .i64 lp2_1)), (14, (.int .i64 lp2_2)), (15, (.pointer (some ⟨b7, 0, none⟩))), (94, vp1), (95, (.int .i64 (p1.length : Int))), (96, (.int .i64 lp2_2))] a ∧ Hp Z ρ (Pt b7 (.cells #[(.int .i64 x8.kind), (.string x8.text), (.int .i64 x8.at_), (.int .i64 x8.fin), vb6_kids] 24 (0, 0)) :: TblA 34 3 vr4 usr4 (x6.1 : (List (List Int))) :: Pt b1 (.cells #[(.int .i64 p0.kind), (.string p0.text), (.int .i64 p0.at_), (.int .i64 p0.fin), vp0_kids] 24 (0, 0)) :: L) w)) ?_ ?_
                        · refine k_loop hb18 (fun s a w => Env 168 [(1, vp1), (2, (.pointer (some ⟨b1, 0, none⟩))), (7, vr4), (9, (.int .i64 x7.1)), (10, (.int .i64 x7.2.1)), (11, (.int .i64 x7.2.2)), (12, (.int .i64 lp2_0)), (13, (.int .i64 lp2_1)), (14, (.int .i64 lp2_2)), (15, (.pointer (some ⟨b7, 0, none⟩))), (94, vp1), (95, (.int .i64 (p1.length : Int))), (96, (.int .i64 lp2_2)), (109, vp1), (110, (.int .i64 (p1.length : Int))), (111, (.int .i64 s))] a ∧ Hp Z ρ (Pt b7 (.cells #[(.int .i64 x8.kind), (.string x8.text), (.int .i64 x8.at_), (.int .i64 x8.fin), vb6_kids] 24 (0, 0)) :: TblA 34 3 vr4 usr4 (x6.1 : (List (List Int))) :: Pt b1 (.cells #[(.int .i64 p0.kind), (.string p0.text), (.int .i64 p0.at_), (.int .i64 p0.fin), vp0_kids] 24 (0, 0)) :: L) w) ?_ ?_
                          · exact ⟨hE.cut ⟨rfl, rfl, rfl, rfl, rfl, rfl, rfl, rfl, rfl, rfl, rfl, rfl, rfl, rfl, rfl, rfl, trivial⟩, hp⟩
                          · rintro lp3_0 st a w ⟨hE, hp⟩ hl3
                            have hE : Env 168 [(1, vp1), (2, (.pointer (some ⟨b1, 0, none⟩))), (7, vr4), (9, (.int .i64 x7.1)), (10, (.int .i64 x7.2.1)), (11, (.int .i64 x7.2.2)), (12, (.int .i64 lp2_0)), (13, (.int .i64 lp2_1)), (14, (.int .i64 lp2_2)), (15, (.pointer (some ⟨b7, 0, none⟩))), (94, vp1), (95, (.int .i64 (p1.length : Int))), (96, (.int .i64 lp2_2)), (109, vp1), (110, (.int .i64 (p1.length : Int))), (111, (.int .i64 lp3_0))] a := hE
                            have hp : Hp Z ρ (_ :: _ :: _ :: L) w := hp
                            replace hl3 : m_assessorlaw37_DistanceLists_lp3 p1 x6 lp2_2 x8 lp3_0 = some st := hl3
                            unfold m_assessorlaw37_DistanceLists_lp3 at hl3
                            refine k_seq ?_
                            refine k_region ?_
                            refine s_val (wk0 rfl) rfl rfl hE hp (v := (.bool (decide (lp3_0 < (p1.length : Int))))) (ex_lss rfl hE rfl rfl) ?_
                            intro a hE
                            refine s_nil ?_
                            refine k_seq ?_
                            refine k_if hE rfl (fun hb19 => ?_) (fun hb19 => ?_)
                            · replace hl3 := (it hb19).symm.trans hl3
                              refine k_skip ?_
                              refine k_seq ?_
                              refine k_plain ?_
                              refine k_seq ?_
                              refine k_region ?_
                              refine s_val (wk0 rfl) rfl rfl hE hp (v := (.int .i64 lp3_0)) (ex_move rfl hE rfl) ?_
                              intro a hE
                              obtain ⟨x10, ex10, hl3⟩ := bnd hl3
                              obtain ⟨b10, b10o, b10c, b10r, b10k, b10f⟩ := RoSl.at hp1 slty22 ex10
                              obtain ⟨vb10_kids, rfl, hb10_kids⟩ := NodeAt.opens b10k
                              have b10f : AtP ρ b10 b10o [(.int .i64 x10.kind), (.string x10.text), (.int .i64 x10.at_), (.int .i64 x10.fin), vb10_kids] := b10f
                              refine s_val (wk0 rfl) rfl rfl hE hp (v := (.pointer (some ⟨b10, b10o, none⟩))) (ex_index rfl hE rfl rfl b10r) ?_
                              intro a hE
                              refine s_val (wk0 rfl) rfl rfl hE hp (v := (.agg #[(.int .i64 x10.kind), (.string x10.text), (.int .i64 x10.at_), (.int .i64 x10.fin), vb10_kids])) (ex_load rfl hE rfl (fun w hw => run_ldN (cs := [(.int .i64 x10.kind), (.string x10.text), (.int .i64 x10.at_), (.int .i64 x10.fin), vb10_kids]) varty24 (fun j u hj => cell_of hw.le (b10f j u hj)))) ?_
                              intro a hE
                              refine s_new (wk0 rfl) rfl rfl hE hp rfl [(.int .i64 0), (.string ByteArray.empty), (.int .i64 0), (.int .i64 0), (.slice none 0 0)] (fun w => by simp [Instr.alloc, go_sem] <;> rfl) ?_
                              intro a w b11 hE hp
                              have hp : Hp Z ρ (Pt b11 (.cells #[(.int .i64 0), (.string ByteArray.empty), (.int .i64 0), (.int .i64 0), (.slice none 0 0)] 24 (0, 0)) :: _ :: _ :: _ :: L) w := hp
                              refine s_val (wk0 rfl) rfl rfl hE hp (v := (.int .i64 lp3_0)) (ex_asn rfl hE rfl) ?_
                              intro a hE
                              refine s_store (wk0 rfl) rfl hE hp rfl rfl rfl 0 rfl varty24.size_ rfl (allOne_mem ⟨rfl, rfl, rfl, rfl, (RoSl.one hb10_kids), trivial⟩) [(.int .i64 x10.kind), (.string x10.text), (.int .i64 x10.at_), (.int .i64 x10.fin), vb10_kids] rfl ?_
                              intro w hp
                              have hp : Hp Z ρ (Pt b11 (.cells #[(.int .i64 x10.kind), (.string x10.text), (.int .i64 x10.at_), (.int .i64 x10.fin), vb10_kids] 24 (0, 0)) :: _ :: _ :: _ :: L) w := hp
                              refine s_nil ?_
                              have hE := hE.cut (E' := [(1, vp1), (2, (.pointer (some ⟨b1, 0, none⟩))), (7, vr4), (9, (.int .i64 x7.1)), (10, (.int .i64 x7.2.1)), (11, (.int .i64 x7.2.2)), (12, (.int .i64 lp2_0)), (13, (.int .i64 lp2_1)), (14, (.int .i64 lp2_2)), (15, (.pointer (some ⟨b7, 0, none⟩))), (16, (.int .i64 lp3_0)), (17, (.pointer (some ⟨b11, 0, none⟩))), (94, vp1), (95, (.int .i64 (p1.length : Int))), (96, (.int .i64 lp2_2)), (109, vp1), (110, (.int .i64 (p1.length : Int))), (111, (.int .i64 lp3_0))]) ⟨rfl, rfl, rfl, rfl, rfl, rfl, rfl, rfl, rfl, rfl, rfl, rfl, rfl, rfl, rfl, rfl, rfl, rfl, trivial⟩
                              refine k_seq ?_
                              refine k_region ?_
                              refine s_val (wk0 rfl) rfl rfl hE hp (v := (.agg #[(.int .i64 x8.kind), (.string x8.text), (.int .i64 x8.at_), (.int .i64 x8.fin), vb6_kids])) (ex_load rfl hE rfl (fun w hw => run_ldN (cs := [(.int .i64 x8.kind), (.string x8.text), (.int .i64 x8.at_), (.int .i64 x8.fin), vb6_kids]) varty24 (Hp.cN 1 rfl 0 _ (sub_all rfl) w hw))) ?_
                              intro a hE
                              refine s_val (wk0 rfl) rfl rfl hE hp (v := (.agg #[(.int .i64 x10.kind), (.string x10.text), (.int .i64 x10.at_), (.int .i64 x10.fin), vb10_kids])) (ex_load rfl hE rfl (fun w hw => run_ldN (cs := [(.int .i64 x10.kind), (.string x10.text), (.int .i64 x10.at_), (.int .i64 x10.fin), vb10_kids]) varty24 (Hp.cN 0 rfl 0 _ (sub_all rfl) w hw))) ?_
                              intro a hE
                              obtain ⟨x11, ex11, hl3⟩ := bnd hl3
                              refine s_call (wk0 rfl) rfl rfl hE rfl [(.agg #[(.int .i64 x8.kind), (.string x8.text), (.int .i64 x8.at_), (.int .i64 x8.fin), vb6_kids]), (.agg #[(.int .i64 x10.kind), (.string x10.text), (.int .i64 x10.at_), (.int .i64 x10.fin), vb10_kids])] ⟨rfl, rfl, trivial⟩ ent12 (c_distance_Distance x8 vb6_kids hb6_kids x10 vb10_kids hb10_kids hp x11 ex11) Ret.ret ?_
                              intro v a w hR hE
                              obtain ⟨rfl, hp⟩ := Ret.of hR
                              have hp : Hp Z ρ (_ :: _ :: _ :: _ :: L) w := hp
                              refine s_val (wk0 rfl) rfl rfl hE hp (v := (.tuple #[(.int .i64 x11.1), (.int .i64 x11.2)])) (ex_move rfl hE rfl) ?_
                              intro a hE
                              refine s_val (wk0 rfl) rfl rfl hE hp (v := (.int .i64 x11.1)) (ex_extract rfl hE rfl rfl) ?_
                              intro a hE
                              refine s_val (wk0 rfl) rfl rfl hE hp (v := (.int .i64 x11.2)) (ex_extract rfl hE rfl rfl) ?_
                              intro a hE
                              refine s_val (wk0 rfl) rfl rfl hE hp (v := (.int .i64 x11.1)) (ex_asn rfl hE rfl) ?_
                              intro a hE
                              refine s_val (wk0 rfl) rfl rfl hE hp (v := (.int .i64 x11.2)) (ex_asn rfl hE rfl) ?_
                              intro a hE
                              refine s_nil ?_
                              have hE := hE.cut (E' := [(1, vp1), (2, (.pointer (some ⟨b1, 0, none⟩))), (7, vr4), (9, (.int .i64 x7.1)), (10, (.int .i64 x7.2.1)), (11, (.int .i64 x7.2.2)), (12, (.int .i64 lp2_0)), (13, (.int .i64 lp2_1)), (14, (.int .i64 lp2_2)), (15, (.pointer (some ⟨b7, 0, none⟩))), (16, (.int .i64 lp3_0)), (18, (.int .i64 x11.1)), (19, (.int .i64 x11.2)), (94, vp1), (95, (.int .i64 (p1.length : Int))), (96, (.int .i64 lp2_2)), (109, vp1), (110, (.int .i64 (p1.length : Int))), (111, (.int .i64 lp3_0))]) ⟨rfl, rfl, rfl, rfl, rfl, rfl, rfl, rfl, rfl, rfl, rfl, rfl, rfl, rfl, rfl, rfl, rfl, rfl, rfl, trivial⟩
                              refine k_seq ?_
                              refine k_region ?_
                              refine s_val (wk0 rfl) rfl rfl hE hp (v := (.int .i64 x11.2)) (ex_move rfl hE rfl) ?_
                              intro a hE
                              refine s_val (wk0 rfl) rfl rfl hE hp (v := (.bool (!decide (x11.2 = 0)))) (ex_neq rfl hE rfl rfl) ?_
                              intro a hE
                              refine s_val (wk0 rfl) rfl rfl hE hp (v := (.bool (!decide (x11.2 = 0)))) (ex_move rfl hE rfl) ?_
                              intro a hE
                              obtain ⟨m2, hg2, hl3⟩ := bnd hl3
                              refine s_cut [_, _, _, _, _, _, _, _, _, _] (fun a w => Env 168 [(134, (.bool m2)), (1, vp1), (2, (.pointer (some ⟨b1, 0, none⟩))), (7, vr4), (9, (.int .i64 x7.1)), (10, (.int .i64 x7.2.1)), (11, (.int .i64 x7.2.2)), (12, (.int .i64 lp2_0)), (13, (.int .i64 lp2_1)), (14, (.int .i64 lp2_2)), (15, (.pointer (some ⟨b7, 0, none⟩))), (94, vp1), (95, (.int .i64 (p1.length : Int))), (96, (.int .i64 lp2_2)), (109, vp1), (110, (.int .i64 (p1.length : Int))), (111, (.int .i64 lp3_0))] a ∧ Hp Z ρ (Pt b11 (.cells #[(.int .i64 x10.kind), (.string x10.text), (.int .i64 x10.at_), (.int .i64 x10.fin), vb10_kids] 24 (0, 0)) :: Pt b7 (.cells #[(.int .i64 x8.kind), (.string x8.text), (.int .i64 x8.at_), (.int .i64 x8.fin), vb6_kids] 24 (0, 0)) :: TblA 34 3 vr4 usr4 (x6.1 : (List (List Int))) :: Pt b1 (.cells #[(.int .i64 p0.kind), (.string p0.text), (.int .i64 p0.at_), (.int .i64 p0.fin), vp0_kids] 24 (0, 0)) :: L) w) ?_ ?_
                              · rcases Bool.eq_false_or_eq_true (!decide (x11.2 = 0)) with hb20 | hb20
                                ·
                                  replace hg2 := (it hb20).symm.trans hg2
                                  refine s_skip (wk2 hE rfl rfl rfl hb20) rfl rfl hE ?_
                                  intro a hE
                                  refine s_skip (wk2 hE rfl rfl rfl hb20) rfl rfl hE ?_
                                  intro a hE
                                  refine s_skip (wk2 hE rfl rfl rfl hb20) rfl rfl hE ?_
                                  intro a hE
                                  refine s_skip (wk2 hE rfl rfl rfl hb20) rfl rfl hE ?_
                                  intro a hE
                                  refine s_skip (wk2 hE rfl rfl rfl hb20) rfl rfl hE ?_
                                  intro a hE
                                  refine s_skip (wk2 hE rfl rfl rfl hb20) rfl rfl hE ?_
                                  intro a hE
                                  refine s_skip (wk2 hE rfl rfl rfl hb20) rfl rfl hE ?_
                                  intro a hE
                                  refine s_skip (wk2 hE rfl rfl rfl hb20) rfl rfl hE ?_
                                  intro a hE
                                  refine s_skip (wk2 hE rfl rfl rfl hb20) rfl rfl hE ?_
                                  intro a hE
                                  refine s_val (wk0 rfl) rfl rfl hE hp (v := (.bool true)) (ex_pick1 rfl hE rfl hb20 rfl) ?_
                                  intro a hE
                                  obtain rfl := Option.some.inj hg2
                                  exact s_nil ⟨hE.cut ⟨rfl, rfl, rfl, rfl, rfl, rfl, rfl, rfl, rfl, rfl, rfl, rfl, rfl, rfl, rfl, rfl, rfl, trivial⟩, hp⟩
                                ·
                                  replace hg2 := (ie hb20).symm.trans hg2
                                  refine s_val (wk1 hE rfl rfl rfl hb20) rfl rfl hE hp (v := vr4) (ex_move rfl hE rfl) ?_
                                  intro a hE
                                  refine s_val (wk1 hE rfl rfl rfl hb20) rfl rfl hE hp (v := (.int .i64 lp2_2)) (ex_move rfl hE rfl) ?_
                                  intro a hE
                                  obtain ⟨x12, ex12, hg2⟩ := bnd hg2
                                  obtain ⟨b12u, b12, b12o, b12h, b12r, b12v, b12f⟩ := TblA.hdr hp 2 rfl slty30 ex12
                                  have b12f : ∀ (j : Nat) (u : Value), ([(Sl.v b12u)] : List Value)[j]? = some u → ∀ ρ' L' w, Hp Z ρ' (TblA 34 3 vr4 usr4 (x6.1 : (List (List Int))) :: L') w → w.cell? ⟨b12, b12o + j, none⟩ = some u := b12f
                                  refine s_val (wk1 hE rfl rfl rfl hb20) rfl rfl hE hp (v := (.pointer (some ⟨b12, b12o, none⟩))) (ex_index rfl hE rfl rfl b12r) ?_
                                  intro a hE
                                  refine s_val (wk1 hE rfl rfl rfl hb20) rfl rfl hE hp (v := (Sl.v b12u)) (ex_load rfl hE rfl (fun w hw => run_ld1 varty34 (b12f 0 _ rfl _ _ w (hw.get 2 rfl)))) ?_
                                  intro a hE
                                  refine s_val (wk1 hE rfl rfl rfl hb20) rfl rfl hE hp (v := (.int .i64 lp3_0)) (ex_move rfl hE rfl) ?_
                                  intro a hE
                                  obtain ⟨x13, ex13, hg2⟩ := bnd hg2
                                  obtain ⟨b13, b13o, b13r, b13v, b13f⟩ := TblA.at hp 2 rfl slty34 b12h ex12 ex13
                                  have b13f : ∀ (j : Nat) (u : Value), ([(.int .i64 x13)] : List Value)[j]? = some u → ∀ ρ' L' w, Hp Z ρ' (TblA 34 3 vr4 usr4 (x6.1 : (List (List Int))) :: L') w → w.cell? ⟨b13, b13o + j, none⟩ = some u := b13f
                                  refine s_val (wk1 hE rfl rfl rfl hb20) rfl rfl hE hp (v := (.pointer (some ⟨b13, b13o, none⟩))) (ex_index rfl hE rfl rfl b13r) ?_
                                  intro a hE
                                  refine s_val (wk1 hE rfl rfl rfl hb20) rfl rfl hE hp (v := (.int .i64 x13)) (ex_load rfl hE rfl (fun w hw => run_ld1 varty3 (b13f 0 _ rfl _ _ w (hw.get 2 rfl)))) ?_
                                  intro a hE
                                  refine s_val (wk1 hE rfl rfl rfl hb20) rfl rfl hE hp (v := (.int .i64 x11.1)) (ex_move rfl hE rfl) ?_
                                  intro a hE
                                  refine s_val (wk1 hE rfl rfl rfl hb20) rfl rfl hE hp (v := (.bool (!decide (x13 = x11.1)))) (ex_neq rfl hE rfl rfl) ?_
                                  intro a hE
                                  refine s_val (wk0 rfl) rfl rfl hE hp (v := (.bool (!decide (x13 = x11.1)))) (ex_pick0 rfl hE rfl hb20 rfl) ?_
                                  intro a hE
                                  obtain rfl := Option.some.inj hg2
                                  exact s_nil ⟨hE.cut ⟨rfl, rfl, rfl, rfl, rfl, rfl, rfl, rfl, rfl, rfl, rfl, rfl, rfl, rfl, rfl, rfl, rfl, trivial⟩, hp⟩
                              · rintro a w ⟨hE, hp⟩
                                refine s_nil ?_
                                refine k_if hE rfl (fun hb21 => ?_) (fun hb21 => ?_)
                                · replace hl3 := (it hb21).symm.trans hl3
                                  refine k_seq ?_
                                  refine k_region ?_
                                  refine s_val (wk0 rfl) rfl rfl hE hp (v := (.bool false)) (ex_asn rfl hE rfl) ?_
                                  intro a hE
                                  refine s_nil ?_
                                  refine k_ret ?_
                                  refine ⟨_, (Option.some.inj hl3).symm, fun hb => ?_⟩
                                  subst hb
                                  refine ⟨_, (Option.some.inj hl2).symm, fun hb => ?_⟩
                                  subst hb
                                  obtain rfl := Option.some.inj hm
                                  exact ret1 hE rfl rfl ⟨_, rfl, rfl, (((((((hp.get 3 rfl).drop).get 2 rfl).drop).get 1 rfl).drop).drop)⟩
                                · replace hl3 := (ie hb21).symm.trans hl3
                                  refine k_skip ?_
                                  refine k_region ?_
                                  obtain ⟨x14, ex14, hl3⟩ := bnd hl3
                                  refine s_val (wk0 rfl) rfl rfl hE hp (v := (.int .i64 x14)) (ex_add rfl hE rfl rfl (inK_some ex14)) ?_
                                  intro a hE
                                  refine s_val (wk0 rfl) rfl rfl hE hp (v := (.int .i64 x14)) (ex_move rfl hE rfl) ?_
                                  intro a hE
                                  refine s_nil ?_
                                  exact ⟨_, (Option.some.inj hl3).symm, hE.cut ⟨rfl, rfl, rfl, rfl, rfl, rfl, rfl, rfl, rfl, rfl, rfl, rfl, rfl, rfl, rfl, rfl, trivial⟩, (hp.drop)⟩
                            · replace hl3 := (ie hb19).symm.trans hl3
                              refine k_exit ?_
                              refine ⟨_, (Option.some.inj hl3).symm, fun hbb => ?_⟩
                              exact ⟨_, hbb.symm, hE.cut ⟨rfl, rfl, rfl, rfl, rfl, rfl, rfl, rfl, rfl, rfl, rfl, rfl, rfl, trivial⟩, hp⟩
                        · rintro a w ⟨b9s, rfl, hE, hp⟩
                          dsimp only at hl2
                          refine k_seq ?_
                          refine k_region ?_
                          refine s_val (wk0 rfl) rfl rfl hE hp (v := (.agg #[(.int .i64 p0.kind), (.string p0.text), (.int .i64 p0.at_), (.int .i64 p0.fin), vp0_kids])) (ex_load rfl hE rfl (fun w hw => run_ldN (cs := [(.int .i64 p0.kind), (.string p0.text), (.int .i64 p0.at_), (.int .i64 p0.fin), vp0_kids]) varty24 (Hp.cN 2 rfl 0 _ (sub_all rfl) w hw))) ?_
                          intro a hE
                          refine s_val (wk0 rfl) rfl rfl hE hp (v := (.agg #[(.int .i64 x8.kind), (.string x8.text), (.int .i64 x8.at_), (.int .i64 x8.fin), vb6_kids])) (ex_load rfl hE rfl (fun w hw => run_ldN (cs := [(.int .i64 x8.kind), (.string x8.text), (.int .i64 x8.at_), (.int .i64 x8.fin), vb6_kids]) varty24 (Hp.cN 0 rfl 0 _ (sub_all rfl) w hw))) ?_
                          intro a hE
                          obtain ⟨x15, ex15, hl2⟩ := bnd hl2
                          refine s_call (wk0 rfl) rfl rfl hE rfl [(.agg #[(.int .i64 p0.kind), (.string p0.text), (.int .i64 p0.at_), (.int .i64 p0.fin), vp0_kids]), (.agg #[(.int .i64 x8.kind), (.string x8.text), (.int .i64 x8.at_), (.int .i64 x8.fin), vb6_kids])] ⟨rfl, rfl, trivial⟩ ent12 (c_distance_Distance p0 vp0_kids hp0_kids x8 vb6_kids hb6_kids hp x15 ex15) Ret.ret ?_
                          intro v a w hR hE
                          obtain ⟨rfl, hp⟩ := Ret.of hR
                          have hp : Hp Z ρ (_ :: _ :: _ :: L) w := hp
                          refine s_val (wk0 rfl) rfl rfl hE hp (v := (.tuple #[(.int .i64 x15.1), (.int .i64 x15.2)])) (ex_move rfl hE rfl) ?_
                          intro a hE
                          refine s_val (wk0 rfl) rfl rfl hE hp (v := (.int .i64 x15.1)) (ex_extract rfl hE rfl rfl) ?_
                          intro a hE
                          refine s_val (wk0 rfl) rfl rfl hE hp (v := (.int .i64 x15.2)) (ex_extract rfl hE rfl rfl) ?_
                          intro a hE
                          refine s_val (wk0 rfl) rfl rfl hE hp (v := (.int .i64 x15.1)) (ex_asn rfl hE rfl) ?_
                          intro a hE
                          refine s_val (wk0 rfl) rfl rfl hE hp (v := (.int .i64 x15.2)) (ex_asn rfl hE rfl) ?_
                          intro a hE
                          refine s_nil ?_
                          have hE := hE.cut (E' := [(1, vp1), (2, (.pointer (some ⟨b1, 0, none⟩))), (7, vr4), (9, (.int .i64 x7.1)), (10, (.int .i64 x7.2.1)), (11, (.int .i64 x7.2.2)), (12, (.int .i64 lp2_0)), (13, (.int .i64 lp2_1)), (14, (.int .i64 lp2_2)), (20, (.int .i64 x15.1)), (21, (.int .i64 x15.2)), (94, vp1), (95, (.int .i64 (p1.length : Int))), (96, (.int .i64 lp2_2))]) ⟨rfl, rfl, rfl, rfl, rfl, rfl, rfl, rfl, rfl, rfl, rfl, rfl, rfl, rfl, trivial⟩
                          refine k_seq ?_
                          refine k_region ?_
                          refine s_val (wk0 rfl) rfl rfl hE hp (v := (.int .i64 x15.2)) (ex_move rfl hE rfl) ?_
                          intro a hE
                          refine s_val (wk0 rfl) rfl rfl hE hp (v := (.bool (!decide (x15.2 = 0)))) (ex_neq rfl hE rfl rfl) ?_
                          intro a hE
                          refine s_val (wk0 rfl) rfl rfl hE hp (v := (.bool (!decide (x15.2 = 0)))) (ex_move rfl hE rfl) ?_
                          intro a hE
                          refine s_cut [_, _, _] (fun a w => Env 168 [(147, (.bool ((!decide (x15.2 = 0)) || (decide (lp2_0 < 0))))), (1, vp1), (2, (.pointer (some ⟨b1, 0, none⟩))), (7, vr4), (9, (.int .i64 x7.1)), (10, (.int .i64 x7.2.1)), (11, (.int .i64 x7.2.2)), (12, (.int .i64 lp2_0)), (13, (.int .i64 lp2_1)), (14, (.int .i64 lp2_2)), (20, (.int .i64 x15.1)), (94, vp1), (95, (.int .i64 (p1.length : Int))), (96, (.int .i64 lp2_2))] a ∧ Hp Z ρ (Pt b7 (.cells #[(.int .i64 x8.kind), (.string x8.text), (.int .i64 x8.at_), (.int .i64 x8.fin), vb6_kids] 24 (0, 0)) :: TblA 34 3 vr4 usr4 (x6.1 : (List (List Int))) :: Pt b1 (.cells #[(.int .i64 p0.kind), (.string p0.text), (.int .i64 p0.at_), (.int .i64 p0.fin), vp0_kids] 24 (0, 0)) :: L) w) ?_ ?_
                          · rcases Bool.eq_false_or_eq_true (!decide (x15.2 = 0)) with hb22 | hb22
                            ·
                              refine s_skip (wk2 hE rfl rfl rfl hb22) rfl rfl hE ?_
                              intro a hE
                              refine s_skip (wk2 hE rfl rfl rfl hb22) rfl rfl hE ?_
                              intro a hE
                              refine s_val (wk0 rfl) rfl rfl hE hp (v := (.bool true)) (ex_pick1 rfl hE rfl hb22 rfl) ?_
                              intro a hE
                              have hE := hE.eqv (v' := (.bool ((!decide (x15.2 = 0)) || (decide (lp2_0 < 0))))) (by rw [hb22]; rfl)
                              exact s_nil ⟨hE.cut ⟨rfl, rfl, rfl, rfl, rfl, rfl, rfl, rfl, rfl, rfl, rfl, rfl, rfl, rfl, trivial⟩, hp⟩
                            ·
                              refine s_val (wk1 hE rfl rfl rfl hb22) rfl rfl hE hp (v := (.int .i64 lp2_0)) (ex_move rfl hE rfl) ?_
                              intro a hE
                              refine s_val (wk1 hE rfl rfl rfl hb22) rfl rfl hE hp (v := (.bool (decide (lp2_0 < 0)))) (ex_lss rfl hE rfl rfl) ?_
                              intro a hE
                              refine s_val (wk0 rfl) rfl rfl hE hp (v := (.bool (decide (lp2_0 < 0)))) (ex_pick0 rfl hE rfl hb22 rfl) ?_
                              intro a hE
                              have hE := hE.eqv (v' := (.bool ((!decide (x15.2 = 0)) || (decide (lp2_0 < 0))))) (by rw [hb22]; rfl)
                              exact s_nil ⟨hE.cut ⟨rfl, rfl, rfl, rfl, rfl, rfl, rfl, rfl, rfl, rfl, rfl, rfl, rfl, rfl, trivial⟩, hp⟩
                          · rintro a w ⟨hE, hp⟩
                            refine s_val (wk0 rfl) rfl rfl hE hp (v := (.bool ((!decide (x15.2 = 0)) || (decide (lp2_0 < 0))))) (ex_move rfl hE rfl) ?_
                            intro a hE
                            refine s_cut [_, _, _, _] (fun a w => Env 168 [(152, (.bool (((!decide (x15.2 = 0)) || (decide (lp2_0 < 0))) || (decide (x15.1 < lp2_0))))), (1, vp1), (2, (.pointer (some ⟨b1, 0, none⟩))), (7, vr4), (9, (.int .i64 x7.1)), (10, (.int .i64 x7.2.1)), (11, (.int .i64 x7.2.2)), (12, (.int .i64 lp2_0)), (13, (.int .i64 lp2_1)), (14, (.int .i64 lp2_2)), (20, (.int .i64 x15.1)), (94, vp1), (95, (.int .i64 (p1.length : Int))), (96, (.int .i64 lp2_2))] a ∧ Hp Z ρ (Pt b7 (.cells #[(.int .i64 x8.kind), (.string x8.text), (.int .i64 x8.at_), (.int .i64 x8.fin), vb6_kids] 24 (0, 0)) :: TblA 34 3 vr4 usr4 (x6.1 : (List (List Int))) :: Pt b1 (.cells #[(.int .i64 p0.kind), (.string p0.text), (.int .i64 p0.at_), (.int .i64 p0.fin), vp0_kids] 24 (0, 0)) :: L) w) ?_ ?_
                            · rcases Bool.eq_false_or_eq_true ((!decide (x15.2 = 0)) || (decide (lp2_0 < 0))) with hb23 | hb23
                              ·
                                refine s_skip (wk2 hE rfl rfl rfl hb23) rfl rfl hE ?_
                                intro a hE
                                refine s_skip (wk2 hE rfl rfl rfl hb23) rfl rfl hE ?_
                                intro a hE
                                refine s_skip (wk2 hE rfl rfl rfl hb23) rfl rfl hE ?_
                                intro a hE
                                refine s_val (wk0 rfl) rfl rfl hE hp (v := (.bool true)) (ex_pick1 rfl hE rfl hb23 rfl) ?_
                                intro a hE
                                have hE := hE.eqv (v' := (.bool (((!decide (x15.2 = 0)) || (decide (lp2_0 < 0))) || (decide (x15.1 < lp2_0))))) (by rw [hb23]; rfl)
                                exact s_nil ⟨hE.cut ⟨rfl, rfl, rfl, rfl, rfl, rfl, rfl, rfl, rfl, rfl, rfl, rfl, rfl, rfl, trivial⟩, hp⟩
                              ·
                                refine s_val (wk1 hE rfl rfl rfl hb23) rfl rfl hE hp (v := (.int .i64 x15.1)) (ex_move rfl hE rfl) ?_
                                intro a hE
                                refine s_val (wk1 hE rfl rfl rfl hb23) rfl rfl hE hp (v := (.int .i64 lp2_0)) (ex_move rfl hE rfl) ?_
                                intro a hE
                                refine s_val (wk1 hE rfl rfl rfl hb23) rfl rfl hE hp (v := (.bool (decide (x15.1 < lp2_0)))) (ex_lss rfl hE rfl rfl) ?_
                                intro a hE
                                refine s_val (wk0 rfl) rfl rfl hE hp (v := (.bool (decide (x15.1 < lp2_0)))) (ex_pick0 rfl hE rfl hb23 rfl) ?_
                                intro a hE
                                have hE := hE.eqv (v' := (.bool (((!decide (x15.2 = 0)) || (decide (lp2_0 < 0))) || (decide (x15.1 < lp2_0))))) (by rw [hb23]; rfl)
                                exact s_nil ⟨hE.cut ⟨rfl, rfl, rfl, rfl, rfl, rfl, rfl, rfl, rfl, rfl, rfl, rfl, rfl, rfl, trivial⟩, hp⟩
                            · rintro a w ⟨hE, hp⟩
                              refine s_nil ?_
                              refine k_if hE rfl (fun hb24 => ?_) (fun hb24 => ?_)
                              · replace hl2 := (it hb24).symm.trans hl2
                                refine k_region ?_
                                refine s_val (wk0 rfl) rfl rfl hE hp (v := (.int .i64 x15.1)) (ex_move rfl hE rfl) ?_
                                intro a hE
                                refine s_val (wk0 rfl) rfl rfl hE hp (v := (.int .i64 lp2_2)) (ex_move rfl hE rfl) ?_
                                intro a hE
                                refine s_val (wk0 rfl) rfl rfl hE hp (v := (.int .i64 x15.1)) (ex_asn rfl hE rfl) ?_
                                intro a hE
                                refine s_val (wk0 rfl) rfl rfl hE hp (v := (.int .i64 lp2_2)) (ex_asn rfl hE rfl) ?_
                                intro a hE
                                refine s_nil ?_
                                refine k_region ?_
                                obtain ⟨x16, ex16, hl2⟩ := bnd hl2
                                refine s_val (wk0 rfl) rfl rfl hE hp (v := (.int .i64 x16)) (ex_add rfl hE rfl rfl (inK_some ex16)) ?_
                                intro a hE
                                refine s_val (wk0 rfl) rfl rfl hE hp (v := (.int .i64 x16)) (ex_move rfl hE rfl) ?_
                                intro a hE
                                refine s_nil ?_
                                exact ⟨_, (Option.some.inj hl2).symm, hE.cut ⟨rfl, rfl, rfl, rfl, rfl, rfl, rfl, rfl, rfl, rfl, rfl, trivial⟩, (hp.drop)⟩
                              · replace hl2 := (ie hb24).symm.trans hl2
                                refine k_skip ?_
                                refine k_region ?_
                                obtain ⟨x17, ex17, hl2⟩ := bnd hl2
                                refine s_val (wk0 rfl) rfl rfl hE hp (v := (.int .i64 x17)) (ex_add rfl hE rfl rfl (inK_some ex17)) ?_
                                intro a hE
                                refine s_val (wk0 rfl) rfl rfl hE hp (v := (.int .i64 x17)) (ex_move rfl hE rfl) ?_
                                intro a hE
                                refine s_nil ?_
                                exact ⟨_, (Option.some.inj hl2).symm, hE.cut ⟨rfl, rfl, rfl, rfl, rfl, rfl, rfl, rfl, rfl, rfl, rfl, trivial⟩, (hp.drop)⟩
                    · replace hl2 := (ie hb16).symm.trans hl2
                      refine k_exit ?_
                      refine ⟨_, (Option.some.inj hl2).symm, fun hbb => ?_⟩
                      exact ⟨_, hbb.symm, hE.cut ⟨rfl, rfl, rfl, rfl, rfl, trivial⟩, hp⟩
                · rintro a w ⟨b5s, rfl, hE, hp⟩
                  dsimp only at hm
                  refine k_seq ?_
                  refine k_region ?_
                  refine s_val (wk0 rfl) rfl rfl hE hp (v := (.int .i64 x7.2.2)) (ex_move rfl hE rfl) ?_
                  intro a hE
                  refine s_val (wk0 rfl) rfl rfl hE hp (v := (.bool (decide (x7.2.2 = 0)))) (ex_eql rfl hE rfl rfl) ?_
                  intro a hE
                  refine s_val (wk0 rfl) rfl rfl hE hp (v := (.bool (decide (x7.2.2 = 0)))) (ex_move rfl hE rfl) ?_
                  intro a hE
                  refine s_cut [_, _, _, _] (fun a w => Env 168 [(162, (.bool ((decide (x7.2.2 = 0)) && (decide (x7.1 = b5s.2))))), (10, (.int .i64 x7.2.1)), (12, (.int .i64 b5s.1))] a ∧ Hp Z ρ (TblA 34 3 vr4 usr4 (x6.1 : (List (List Int))) :: Pt b1 (.cells #[(.int .i64 p0.kind), (.string p0.text), (.int .i64 p0.at_), (.int .i64 p0.fin), vp0_kids] 24 (0, 0)) :: L) w) ?_ ?_
                  · rcases Bool.eq_false_or_eq_true (decide (x7.2.2 = 0)) with hb25 | hb25
                    ·
                      refine s_val (wk1 hE rfl rfl rfl hb25) rfl rfl hE hp (v := (.int .i64 x7.1)) (ex_move rfl hE rfl) ?_
                      intro a hE
                      refine s_val (wk1 hE rfl rfl rfl hb25) rfl rfl hE hp (v := (.int .i64 b5s.2)) (ex_move rfl hE rfl) ?_
                      intro a hE
                      refine s_val (wk1 hE rfl rfl rfl hb25) rfl rfl hE hp (v := (.bool (decide (x7.1 = b5s.2)))) (ex_eql rfl hE rfl rfl) ?_
                      intro a hE
                      refine s_val (wk0 rfl) rfl rfl hE hp (v := (.bool (decide (x7.1 = b5s.2)))) (ex_pick1 rfl hE rfl hb25 rfl) ?_
                      intro a hE
                      have hE := hE.eqv (v' := (.bool ((decide (x7.2.2 = 0)) && (decide (x7.1 = b5s.2))))) (by rw [hb25]; rfl)
                      exact s_nil ⟨hE.cut ⟨rfl, rfl, rfl, trivial⟩, hp⟩
                    ·
                      refine s_skip (wk2 hE rfl rfl rfl hb25) rfl rfl hE ?_
                      intro a hE
                      refine s_skip (wk2 hE rfl rfl rfl hb25) rfl rfl hE ?_
                      intro a hE
                      refine s_skip (wk2 hE rfl rfl rfl hb25) rfl rfl hE ?_
                      intro a hE
                      refine s_val (wk0 rfl) rfl rfl hE hp (v := (.bool false)) (ex_pick0 rfl hE rfl hb25 rfl) ?_
                      intro a hE
                      have hE := hE.eqv (v' := (.bool ((decide (x7.2.2 = 0)) && (decide (x7.1 = b5s.2))))) (by rw [hb25]; rfl)
                      exact s_nil ⟨hE.cut ⟨rfl, rfl, rfl, trivial⟩, hp⟩
                  · rintro a w ⟨hE, hp⟩
                    refine s_val (wk0 rfl) rfl rfl hE hp (v := (.bool ((decide (x7.2.2 = 0)) && (decide (x7.1 = b5s.2))))) (ex_move rfl hE rfl) ?_
                    intro a hE
                    refine s_cut [_, _, _, _] (fun a w => Env 168 [(167, (.bool (((decide (x7.2.2 = 0)) && (decide (x7.1 = b5s.2))) && (decide (x7.2.1 = b5s.1)))))] a ∧ Hp Z ρ (TblA 34 3 vr4 usr4 (x6.1 : (List (List Int))) :: Pt b1 (.cells #[(.int .i64 p0.kind), (.string p0.text), (.int .i64 p0.at_), (.int .i64 p0.fin), vp0_kids] 24 (0, 0)) :: L) w) ?_ ?_
                    · rcases Bool.eq_false_or_eq_true ((decide (x7.2.2 = 0)) && (decide (x7.1 = b5s.2))) with hb26 | hb26
                      ·
                        refine s_val (wk1 hE rfl rfl rfl hb26) rfl rfl hE hp (v := (.int .i64 x7.2.1)) (ex_move rfl hE rfl) ?_
                        intro a hE
                        refine s_val (wk1 hE rfl rfl rfl hb26) rfl rfl hE hp (v := (.int .i64 b5s.1)) (ex_move rfl hE rfl) ?_
                        intro a hE
                        refine s_val (wk1 hE rfl rfl rfl hb26) rfl rfl hE hp (v := (.bool (decide (x7.2.1 = b5s.1)))) (ex_eql rfl hE rfl rfl) ?_
                        intro a hE
                        refine s_val (wk0 rfl) rfl rfl hE hp (v := (.bool (decide (x7.2.1 = b5s.1)))) (ex_pick1 rfl hE rfl hb26 rfl) ?_
                        intro a hE
                        have hE := hE.eqv (v' := (.bool (((decide (x7.2.2 = 0)) && (decide (x7.1 = b5s.2))) && (decide (x7.2.1 = b5s.1))))) (by rw [hb26]; rfl)
                        exact s_nil ⟨hE.cut ⟨rfl, trivial⟩, hp⟩
                      ·
                        refine s_skip (wk2 hE rfl rfl rfl hb26) rfl rfl hE ?_
                        intro a hE
                        refine s_skip (wk2 hE rfl rfl rfl hb26) rfl rfl hE ?_
                        intro a hE
                        refine s_skip (wk2 hE rfl rfl rfl hb26) rfl rfl hE ?_
                        intro a hE
                        refine s_val (wk0 rfl) rfl rfl hE hp (v := (.bool false)) (ex_pick0 rfl hE rfl hb26 rfl) ?_
                        intro a hE
                        have hE := hE.eqv (v' := (.bool (((decide (x7.2.2 = 0)) && (decide (x7.1 = b5s.2))) && (decide (x7.2.1 = b5s.1))))) (by rw [hb26]; rfl)
                        exact s_nil ⟨hE.cut ⟨rfl, trivial⟩, hp⟩
                    · rintro a w ⟨hE, hp⟩
                      refine s_val (wk0 rfl) rfl rfl hE hp (v := (.bool (((decide (x7.2.2 = 0)) && (decide (x7.1 = b5s.2))) && (decide (x7.2.1 = b5s.1))))) (ex_asn rfl hE rfl) ?_
                      intro a hE
                      refine s_nil ?_
                      refine k_ret ?_
                      obtain rfl := Option.some.inj hm
                      exact ret1 hE rfl rfl ⟨_, rfl, rfl, (((hp.get 1 rfl).drop).drop)⟩
end Go.Proofs.Ytnnccbagbgndpaa

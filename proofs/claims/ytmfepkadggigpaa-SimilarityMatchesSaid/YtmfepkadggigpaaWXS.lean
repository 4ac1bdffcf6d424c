/-
  The code goes as its model: assessor/assessorlaw44.SimilarityMatches. (Printed by wip/sp/gen.py.)
-/
import Derived.Test.YtmfepkadggigpaaWXM
import Derived.Test.YtmfepkadggigpaaFct
import Derived.Test.YtmfepkadggigpaaWS
set_option linter.unusedVariables false
set_option linter.unusedSimpArgs false
namespace Go.Proofs.Ytmfepkadggigpaa
open Go.RowKit

/- assessor/assessorlaw44.SimilarityMatches -/
set_option maxRecDepth 100000 in
set_option maxHeartbeats 4000000 in
theorem c_assessorlaw44_SimilarityMatches {Z : World} {ρ : PH} {L : List Atom} {w : World} (p0 : (List Mark)) (vp0 : Value) (hp0 : RoSl ρ vp0 p0) (p1 : (List Mark)) (vp1 : Value) (hp1 : RoSl ρ vp1 p1) (p2 : Int) (hp : Hp Z ρ (L) w) (r : Bool) (hm : m_assessorlaw44_SimilarityMatches p0 p1 p2 = some r) :
    Calls Try.prog 9 #[vp0, vp1, (.int .i64 p2)] w (Ret fun v w' => v = (.bool r) ∧ Hp Z ρ (L) w') := by
  refine enter (N := 210) Try.func9 rfl rfl [(0, vp0), (1, vp1), (2, (.int .i64 p2))] rfl (argsIn_mem ⟨rfl, rfl, rfl, trivial⟩) fun a hE => ?_
  unfold m_assessorlaw44_SimilarityMatches at hm
  refine k_seq ?_
  refine k_region ?_
  refine s_val (wk0 rfl) rfl rfl hE hp (v := (.bool false)) (ex_asn rfl hE rfl) ?_
  intro a hE
  refine s_nil ?_
  refine k_seq ?_
  refine k_seq ?_
  refine k_region ?_
  obtain ⟨x1, ex1, hm⟩ := bnd hm
  refine s_call (wk0 rfl) rfl rfl hE rfl [] trivial ent10 (c_assessorlaw44_awake  hp x1 ex1) Ret.ret ?_
  intro v a w hR hE
  obtain ⟨rfl, hp⟩ := Ret.of hR
  have hp : Hp Z ρ (L) w := hp
  refine s_val (wk0 rfl) rfl rfl hE hp (v := (.bool (!x1))) (ex_not rfl hE rfl) ?_
  intro a hE
  refine s_nil ?_
  refine k_if hE rfl (fun hb1 => ?_) (fun hb1 => ?_)
  · replace hm := (it hb1).symm.trans hm
    refine k_seq ?_
    refine k_region ?_
    refine s_val (wk0 rfl) rfl rfl hE hp (v := (.bool false)) (ex_asn rfl hE rfl) ?_
    intro a hE
    refine s_nil ?_
    refine k_ret ?_
    obtain rfl := Option.some.inj hm
    exact ret1 hE rfl rfl ⟨_, rfl, rfl, hp⟩
  · replace hm := (ie hb1).symm.trans hm
    refine k_skip ?_
    refine k_seq ?_
    refine k_seq ?_
    refine k_region ?_
    refine s_val (wk0 rfl) rfl rfl hE hp (v := vp0) (ex_move rfl hE rfl) ?_
    intro a hE
    refine s_val (wk0 rfl) rfl rfl hE hp (v := vp1) (ex_move rfl hE rfl) ?_
    intro a hE
    refine s_lit (wk0 rfl) rfl rfl hE hp rfl [(0, vp0), (1, vp1)] ⟨⟨rfl, rfl⟩, ⟨rfl, rfl⟩, trivial⟩ [vp0, vp1] 26 (fun w => by have hc0 := RoSl.cells hp0; simp only [Value.cells] at hc0; have hc1 := RoSl.cells hp1; simp only [Value.cells] at hc1; simp [Instr.buildSlice, Instr.fill, Value.cells, hc0, hc1, go_sem]) ?_
    intro a w b1 hE hp
    have hp : Hp Z ρ (Pt b1 (.cells #[vp0, vp1] 26 (0, 0)) :: L) w := hp
    obtain ⟨k1, k1a, k1d, hp⟩ := (hp.get 0 rfl).lend
    have f1 : RoSl (ρ.un k1) (.slice (some ⟨b1, 0, none⟩) 2 2) ([p0, p1] : List (List Mark)) := RoSl.of_all (l := (([p0, p1] : List (List Mark)))) k1d k1a ⟨_, _, rfl, ⟨_, rfl, ((RoSl.mono hp0 (PH.le_un _ k1)))⟩, ⟨_, _, rfl, ⟨_, rfl, ((RoSl.mono hp1 (PH.le_un _ k1)))⟩, rfl⟩⟩
    have hp : Hp Z (ρ.un k1) (L) w := hp
    obtain ⟨x2, ex2, hm⟩ := bnd hm
    refine s_call (wk0 rfl) rfl rfl hE rfl [(.slice (some ⟨b1, 0, none⟩) 2 2), (.int .i64 2), (.int .i64 25)] ⟨rfl, rfl, rfl, trivial⟩ ent11 (c_assessorlaw44_few ([p0, p1] : List (List Mark)) (.slice (some ⟨b1, 0, none⟩) 2 2) f1 2 25 hp x2 ex2) Ret.ret ?_
    intro v a w hR hE
    obtain ⟨rfl, hp⟩ := Ret.of hR
    have hp : Hp Z (ρ.un k1) (L) w := hp
    refine s_val (wk0 rfl) rfl rfl hE hp (v := (.bool (!x2))) (ex_not rfl hE rfl) ?_
    intro a hE
    refine s_nil ?_
    refine k_if hE rfl (fun hb2 => ?_) (fun hb2 => ?_)
    · replace hm := (it hb2).symm.trans hm
      refine k_seq ?_
      refine k_region ?_
      refine s_val (wk0 rfl) rfl rfl hE hp (v := (.bool true)) (ex_asn rfl hE rfl) ?_
      intro a hE
      refine s_nil ?_
      refine k_ret ?_
      obtain rfl := Option.some.inj hm
      exact ret1 hE rfl rfl ⟨_, rfl, rfl, (hp.less (PH.le_un _ k1))⟩
    · replace hm := (ie hb2).symm.trans hm
      refine k_skip ?_
      refine k_seq ?_
      refine k_region ?_
      refine s_val (wk0 rfl) rfl rfl hE hp (v := vp0) (ex_move rfl hE rfl) ?_
      intro a hE
      refine s_val (wk0 rfl) rfl rfl hE hp (v := vp1) (ex_move rfl hE rfl) ?_
      intro a hE
      refine s_val (wk0 rfl) rfl rfl hE hp (v := (.int .i64 p2)) (ex_move rfl hE rfl) ?_
      intro a hE
      obtain ⟨x3, ex3, hm⟩ := bnd hm
      refine s_call (wk0 rfl) rfl rfl hE rfl [vp0, vp1, (.int .i64 p2)] ⟨rfl, rfl, rfl, trivial⟩ ent29 (c_similarity_Overlaps p0 vp0 (RoSl.mono hp0 (PH.le_un _ k1)) p1 vp1 (RoSl.mono hp1 (PH.le_un _ k1)) p2 hp x3 ex3) Ret.ret ?_
      intro v a w hR hE
      obtain ⟨ρ1, vr3, hle1, rfl, hr3, hp⟩ := Ret.of hR
      have hp : Hp Z ρ1 (L) w := hp
      refine s_val (wk0 rfl) rfl rfl hE hp (v := (.tuple #[vr3, (.int .i64 x3.2)])) (ex_move rfl hE rfl) ?_
      intro a hE
      refine s_val (wk0 rfl) rfl rfl hE hp (v := vr3) (ex_extract rfl hE rfl rfl) ?_
      intro a hE
      refine s_val (wk0 rfl) rfl rfl hE hp (v := (.int .i64 x3.2)) (ex_extract rfl hE rfl rfl) ?_
      intro a hE
      refine s_val (wk0 rfl) rfl rfl hE hp (v := vr3) (ex_asn rfl hE rfl) ?_
      intro a hE
      refine s_val (wk0 rfl) rfl rfl hE hp (v := (.int .i64 x3.2)) (ex_asn rfl hE rfl) ?_
      intro a hE
      refine s_nil ?_
      refine k_seq ?_
      refine k_region ?_
      refine s_val (wk0 rfl) rfl rfl hE hp (v := vp1) (ex_move rfl hE rfl) ?_
      intro a hE
      refine s_val (wk0 rfl) rfl rfl hE hp (v := vp0) (ex_move rfl hE rfl) ?_
      intro a hE
      refine s_val (wk0 rfl) rfl rfl hE hp (v := (.int .i64 p2)) (ex_move rfl hE rfl) ?_
      intro a hE
      obtain ⟨x4, ex4, hm⟩ := bnd hm
      refine s_call (wk0 rfl) rfl rfl hE rfl [vp1, vp0, (.int .i64 p2)] ⟨rfl, rfl, rfl, trivial⟩ ent29 (c_similarity_Overlaps p1 vp1 (RoSl.mono (RoSl.mono hp1 (PH.le_un _ k1)) hle1) p0 vp0 (RoSl.mono (RoSl.mono hp0 (PH.le_un _ k1)) hle1) p2 hp x4 ex4) Ret.ret ?_
      intro v a w hR hE
      obtain ⟨ρ2, vr5, hle2, rfl, hr5, hp⟩ := Ret.of hR
      have hp : Hp Z ρ2 (L) w := hp
      refine s_val (wk0 rfl) rfl rfl hE hp (v := (.tuple #[vr5, (.int .i64 x4.2)])) (ex_move rfl hE rfl) ?_
      intro a hE
      refine s_val (wk0 rfl) rfl rfl hE hp (v := vr5) (ex_extract rfl hE rfl rfl) ?_
      intro a hE
      refine s_val (wk0 rfl) rfl rfl hE hp (v := (.int .i64 x4.2)) (ex_extract rfl hE rfl rfl) ?_
      intro a hE
      refine s_val (wk0 rfl) rfl rfl hE hp (v := vr5) (ex_asn rfl hE rfl) ?_
      intro a hE
      refine s_val (wk0 rfl) rfl rfl hE hp (v := (.int .i64 x4.2)) (ex_asn rfl hE rfl) ?_
      intro a hE
      refine s_nil ?_
      have hE := hE.cut (E' := [(0, vp0), (1, vp1), (2, (.int .i64 p2)), (7, vr3), (8, (.int .i64 x3.2)), (9, vr5), (10, (.int .i64 x4.2))]) ⟨rfl, rfl, rfl, rfl, rfl, rfl, rfl, trivial⟩
      refine k_seq ?_
      refine k_seq ?_
      refine k_region ?_
      refine s_val (wk0 rfl) rfl rfl hE hp (v := (.int .i64 x3.2)) (ex_move rfl hE rfl) ?_
      intro a hE
      refine s_val (wk0 rfl) rfl rfl hE hp (v := (.int .i64 x4.2)) (ex_move rfl hE rfl) ?_
      intro a hE
      refine s_val (wk0 rfl) rfl rfl hE hp (v := (.bool (!decide (x3.2 = x4.2)))) (ex_neq rfl hE rfl rfl) ?_
      intro a hE
      refine s_val (wk0 rfl) rfl rfl hE hp (v := (.bool (!decide (x3.2 = x4.2)))) (ex_move rfl hE rfl) ?_
      intro a hE
      refine s_cut [_, _, _, _, _, _] (fun a w => Env 210 [(55, (.bool ((!decide (x3.2 = x4.2)) || (!decide ((x3.1.length : Int) = (x4.1.length : Int)))))), (0, vp0), (1, vp1), (2, (.int .i64 p2)), (7, vr3), (8, (.int .i64 x3.2)), (9, vr5)] a ∧ Hp Z ρ2 (L) w) ?_ ?_
      · rcases Bool.eq_false_or_eq_true (!decide (x3.2 = x4.2)) with hb3 | hb3
        ·
          refine s_skip (wk2 hE rfl rfl rfl hb3) rfl rfl hE ?_
          intro a hE
          refine s_skip (wk2 hE rfl rfl rfl hb3) rfl rfl hE ?_
          intro a hE
          refine s_skip (wk2 hE rfl rfl rfl hb3) rfl rfl hE ?_
          intro a hE
          refine s_skip (wk2 hE rfl rfl rfl hb3) rfl rfl hE ?_
          intro a hE
          refine s_skip (wk2 hE rfl rfl rfl hb3) rfl rfl hE ?_
          intro a hE
          refine s_val (wk0 rfl) rfl rfl hE hp (v := (.bool true)) (ex_pick1 rfl hE rfl hb3 rfl) ?_
          intro a hE
          have hE := hE.eqv (v' := (.bool ((!decide (x3.2 = x4.2)) || (!decide ((x3.1.length : Int) = (x4.1.length : Int)))))) (by rw [hb3]; rfl)
          exact s_nil ⟨hE.cut ⟨rfl, rfl, rfl, rfl, rfl, rfl, rfl, trivial⟩, hp⟩
        ·
          refine s_val (wk1 hE rfl rfl rfl hb3) rfl rfl hE hp (v := vr3) (ex_move rfl hE rfl) ?_
          intro a hE
          refine s_val (wk1 hE rfl rfl rfl hb3) rfl rfl hE hp (v := (.int .i64 (x3.1.length : Int))) (ex_len rfl hE rfl (RoSl.len (RoSl.mono hr3 hle2) slty56)) ?_
          intro a hE
          refine s_val (wk1 hE rfl rfl rfl hb3) rfl rfl hE hp (v := vr5) (ex_move rfl hE rfl) ?_
          intro a hE
          refine s_val (wk1 hE rfl rfl rfl hb3) rfl rfl hE hp (v := (.int .i64 (x4.1.length : Int))) (ex_len rfl hE rfl (RoSl.len hr5 slty56)) ?_
          intro a hE
          refine s_val (wk1 hE rfl rfl rfl hb3) rfl rfl hE hp (v := (.bool (!decide ((x3.1.length : Int) = (x4.1.length : Int))))) (ex_neq rfl hE rfl rfl) ?_
          intro a hE
          refine s_val (wk0 rfl) rfl rfl hE hp (v := (.bool (!decide ((x3.1.length : Int) = (x4.1.length : Int))))) (ex_pick0 rfl hE rfl hb3 rfl) ?_
          intro a hE
          have hE := hE.eqv (v' := (.bool ((!decide (x3.2 = x4.2)) || (!decide ((x3.1.length : Int) = (x4.1.length : Int)))))) (by rw [hb3]; rfl)
          exact s_nil ⟨hE.cut ⟨rfl, rfl, rfl, rfl, rfl, rfl, rfl, trivial⟩, hp⟩
      · rintro a w ⟨hE, hp⟩
        refine s_nil ?_
        refine k_if hE rfl (fun hb4 => ?_) (fun hb4 => ?_)
        · replace hm := (it hb4).symm.trans hm
          refine k_seq ?_
          refine k_region ?_
          refine s_val (wk0 rfl) rfl rfl hE hp (v := (.bool false)) (ex_asn rfl hE rfl) ?_
          intro a hE
          refine s_nil ?_
          refine k_ret ?_
          obtain rfl := Option.some.inj hm
          exact ret1 hE rfl rfl ⟨_, rfl, rfl, (((hp.less hle2).less hle1).less (PH.le_un _ k1))⟩
        · replace hm := (ie hb4).symm.trans hm
          refine k_skip ?_
          refine k_seq ?_
          refine k_seq ?_
          refine k_region ?_
          refine s_val (wk0 rfl) rfl rfl hE hp (v := (.int .i64 x3.2)) (ex_move rfl hE rfl) ?_
          intro a hE
          refine s_val (wk0 rfl) rfl rfl hE hp (v := (.bool (!decide (x3.2 = 0)))) (ex_neq rfl hE rfl rfl) ?_
          intro a hE
          refine s_nil ?_
          refine k_if hE rfl (fun hb5 => ?_) (fun hb5 => ?_)
          · replace hm := (it hb5).symm.trans hm
            refine k_seq ?_
            refine k_region ?_
            refine s_val (wk0 rfl) rfl rfl hE hp (v := vr3) (ex_move rfl hE rfl) ?_
            intro a hE
            refine s_val (wk0 rfl) rfl rfl hE hp (v := (.int .i64 (x3.1.length : Int))) (ex_len rfl hE rfl (RoSl.len (RoSl.mono hr3 hle2) slty56)) ?_
            intro a hE
            refine s_val (wk0 rfl) rfl rfl hE hp (v := (.bool (decide ((x3.1.length : Int) = 0)))) (ex_eql rfl hE rfl rfl) ?_
            intro a hE
            refine s_val (wk0 rfl) rfl rfl hE hp (v := (.bool (decide ((x3.1.length : Int) = 0)))) (ex_asn rfl hE rfl) ?_
            intro a hE
            refine s_nil ?_
            refine k_ret ?_
            obtain rfl := Option.some.inj hm
            exact ret1 hE rfl rfl ⟨_, rfl, rfl, (((hp.less hle2).less hle1).less (PH.le_un _ k1))⟩
          · replace hm := (ie hb5).symm.trans hm
            refine k_skip ?_
            refine k_seq ?_
            refine k_region ?_
            refine s_mkmap (κ := Overlap) (β := Bool) (wk0 rfl) rfl rfl hE hp rfl ?_
            intro a w b2 hE hp
            have hp : Hp Z ρ2 (MapA b2 ([] : List (Overlap × Bool)) :: L) w := hp
            refine s_val (wk0 rfl) rfl rfl hE hp (v := (.map (some b2))) (ex_asn rfl hE rfl) ?_
            intro a hE
            refine s_nil ?_
            refine k_seq ?_
            refine k_seq ?_
            refine k_region ?_
            refine s_val (wk0 rfl) rfl rfl hE hp (v := vr5) (ex_move rfl hE rfl) ?_
            intro a hE
            refine s_val (wk0 rfl) rfl rfl hE hp (v := (.int .i64 (x4.1.length : Int))) (ex_len rfl hE rfl (RoSl.len hr5 slty56)) ?_
            intro a hE
            refine s_val (wk0 rfl) rfl rfl hE hp (v := (.int .i64 0)) (ex_move rfl hE rfl) ?_
            intro a hE
            refine s_nil ?_
            obtain ⟨b3, hb6, hm⟩ := bnd hm
            refine k_block (fun a w => Env 210 [(0, vp0), (1, vp1), (2, (.int .i64 p2)), (7, vr3), (11, (.map (some b2)))] a ∧ Hp Z ρ2 (MapA b2 (b3 : List (Overlap × Bool)) :: L) w) ?_ ?_
            · refine k_loop hb6 (fun s a w => Env 210 [(0, vp0), (1, vp1), (2, (.int .i64 p2)), (7, vr3), (11, (.map (some b2))), (62, vr5), (63, (.int .i64 (x4.1.length : Int))), (64, (.int .i64 s.1))] a ∧ Hp Z ρ2 (MapA b2 (s.2 : List (Overlap × Bool)) :: L) w) ?_ ?_
              · exact ⟨hE.cut ⟨rfl, rfl, rfl, rfl, rfl, rfl, rfl, rfl, trivial⟩, hp⟩
              · rintro ⟨lp1_0, lp1_1⟩ st a w ⟨hE, hp⟩ hl1
                have hE : Env 210 [(0, vp0), (1, vp1), (2, (.int .i64 p2)), (7, vr3), (11, (.map (some b2))), (62, vr5), (63, (.int .i64 (x4.1.length : Int))), (64, (.int .i64 lp1_0))] a := hE
                have hp : Hp Z ρ2 (MapA b2 (lp1_1 : List (Overlap × Bool)) :: L) w := hp
                replace hl1 : m_assessorlaw44_SimilarityMatches_lp1 x4 lp1_0 lp1_1 = some st := hl1
                unfold m_assessorlaw44_SimilarityMatches_lp1 at hl1
                refine k_seq ?_
                refine k_region ?_
                refine s_val (wk0 rfl) rfl rfl hE hp (v := (.bool (decide (lp1_0 < (x4.1.length : Int))))) (ex_lss rfl hE rfl rfl) ?_
                intro a hE
                refine s_nil ?_
                refine k_seq ?_
                refine k_if hE rfl (fun hb7 => ?_) (fun hb7 => ?_)
                · replace hl1 := (it hb7).symm.trans hl1
                  refine k_skip ?_
                  refine k_seq ?_
                  refine k_plain ?_
                  refine k_seq ?_
                  refine k_region ?_
                  obtain ⟨x5, ex5, hl1⟩ := bnd hl1
                  obtain ⟨b4, b4o, b4c, b4r, b4k, b4f⟩ := RoSl.at hr5 slty56 ex5
                  obtain rfl : b4c = Enc.enc x5 := b4k
                  have b4f : AtP ρ2 b4 b4o [(.int .i64 x5.a), (.int .i64 x5.b), (.int .i64 x5.len)] := b4f
                  refine s_val (wk0 rfl) rfl rfl hE hp (v := (.pointer (some ⟨b4, b4o, none⟩))) (ex_index rfl hE rfl rfl b4r) ?_
                  intro a hE
                  refine s_val (wk0 rfl) rfl rfl hE hp (v := (.agg #[(.int .i64 x5.a), (.int .i64 x5.b), (.int .i64 x5.len)])) (ex_load rfl hE rfl (fun w hw => run_ldN (cs := [(.int .i64 x5.a), (.int .i64 x5.b), (.int .i64 x5.len)]) varty63 (fun j u hj => cell_of hw.le (b4f j u hj)))) ?_
                  intro a hE
                  refine s_new (wk0 rfl) rfl rfl hE hp rfl [(.int .i64 0), (.int .i64 0), (.int .i64 0)] (fun w => by simp [Instr.alloc, go_sem] <;> rfl) ?_
                  intro a w b5 hE hp
                  have hp : Hp Z ρ2 (Pt b5 (.cells #[(.int .i64 0), (.int .i64 0), (.int .i64 0)] 63 (0, 0)) :: _ :: L) w := hp
                  refine s_store (wk0 rfl) rfl hE hp rfl rfl rfl 0 rfl varty63.size_ rfl (allOne_mem ⟨rfl, rfl, rfl, trivial⟩) [(.int .i64 x5.a), (.int .i64 x5.b), (.int .i64 x5.len)] rfl ?_
                  intro w hp
                  have hp : Hp Z ρ2 (Pt b5 (.cells #[(.int .i64 x5.a), (.int .i64 x5.b), (.int .i64 x5.len)] 63 (0, 0)) :: _ :: L) w := hp
                  refine s_nil ?_
                  refine k_region ?_
                  refine s_val (wk0 rfl) rfl rfl hE hp (v := (.map (some b2))) (ex_move rfl hE rfl) ?_
                  intro a hE
                  refine s_val (wk0 rfl) rfl rfl hE hp (v := (.pointer (some ⟨b5, 1, none⟩))) (ex_field rfl hE rfl (fldty63_1 _ _)) ?_
                  intro a hE
                  refine s_val (wk0 rfl) rfl rfl hE hp (v := (.int .i64 x5.b)) (ex_load rfl hE rfl (fun w hw => run_ld1 varty3 (Hp.c 0 rfl 1 rfl w hw))) ?_
                  intro a hE
                  refine s_val (wk0 rfl) rfl rfl hE hp (v := (.pointer (some ⟨b5, 0, none⟩))) (ex_field rfl hE rfl (fldty63_0 _ _)) ?_
                  intro a hE
                  refine s_val (wk0 rfl) rfl rfl hE hp (v := (.int .i64 x5.a)) (ex_load rfl hE rfl (fun w hw => run_ld1 varty3 (Hp.c 0 rfl 0 rfl w hw))) ?_
                  intro a hE
                  refine s_val (wk0 rfl) rfl rfl hE hp (v := (.pointer (some ⟨b5, 2, none⟩))) (ex_field rfl hE rfl (fldty63_2 _ _)) ?_
                  intro a hE
                  refine s_val (wk0 rfl) rfl rfl hE hp (v := (.int .i64 x5.len)) (ex_load rfl hE rfl (fun w hw => run_ld1 varty3 (Hp.c 0 rfl 2 rfl w hw))) ?_
                  intro a hE
                  refine s_val (wk0 rfl) rfl rfl hE hp (v := (.agg #[(.int .i64 x5.b), (.int .i64 x5.a), (.int .i64 x5.len)])) (ex_bld rfl hE [(0, (.int .i64 x5.b)), (1, (.int .i64 x5.a)), (2, (.int .i64 x5.len))] (by exact ⟨⟨rfl, rfl⟩, ⟨rfl, rfl⟩, ⟨rfl, rfl⟩, trivial⟩) (fun w => by simp [Instr.build, Instr.fill, Value.cells, go_sem])) ?_
                  intro a hE
                  refine s_mput kt63 mapty61 (wk0 rfl) rfl hE hp rfl 1 (k := (Overlap.mk x5.b x5.a x5.len)) (v := true) rfl rfl rfl rfl ?_
                  intro w hp
                  have hp : Hp Z ρ2 (_ :: MapA b2 (mput lp1_1 (Overlap.mk x5.b x5.a x5.len) true : List (Overlap × Bool)) :: L) w := hp
                  refine s_nil ?_
                  refine k_region ?_
                  obtain ⟨x6, ex6, hl1⟩ := bnd hl1
                  refine s_val (wk0 rfl) rfl rfl hE hp (v := (.int .i64 x6)) (ex_add rfl hE rfl rfl (inK_some ex6)) ?_
                  intro a hE
                  refine s_val (wk0 rfl) rfl rfl hE hp (v := (.int .i64 x6)) (ex_move rfl hE rfl) ?_
                  intro a hE
                  refine s_nil ?_
                  exact ⟨_, (Option.some.inj hl1).symm, hE.cut ⟨rfl, rfl, rfl, rfl, rfl, rfl, rfl, rfl, trivial⟩, (hp.drop)⟩
                · replace hl1 := (ie hb7).symm.trans hl1
                  refine k_exit ?_
                  refine ⟨_, (Option.some.inj hl1).symm, fun hbb => ?_⟩
                  subst hbb
                  exact ⟨hE.cut ⟨rfl, rfl, rfl, rfl, rfl, trivial⟩, hp⟩
            · rintro a w ⟨hE, hp⟩
              refine k_seq ?_
              refine k_seq ?_
              refine k_region ?_
              refine s_val (wk0 rfl) rfl rfl hE hp (v := vr3) (ex_move rfl hE rfl) ?_
              intro a hE
              refine s_val (wk0 rfl) rfl rfl hE hp (v := (.int .i64 (x3.1.length : Int))) (ex_len rfl hE rfl (RoSl.len (RoSl.mono hr3 hle2) slty56)) ?_
              intro a hE
              refine s_val (wk0 rfl) rfl rfl hE hp (v := (.int .i64 0)) (ex_move rfl hE rfl) ?_
              intro a hE
              refine s_nil ?_
              have hE := hE.cut (E' := [(0, vp0), (1, vp1), (2, (.int .i64 p2)), (7, vr3), (11, (.map (some b2))), (77, vr3), (78, (.int .i64 (x3.1.length : Int))), (79, (.int .i64 0))]) ⟨rfl, rfl, rfl, rfl, rfl, rfl, rfl, rfl, trivial⟩
              obtain ⟨b6, hb8, hm⟩ := bnd hm
              refine k_block (fun a w => ∃ s : Unit, b6 = .brk s ∧ (Env 210 [(0, vp0), (1, vp1), (2, (.int .i64 p2)), (7, vr3)] a ∧ Hp Z ρ2 (MapA b2 (b3 : List (Overlap × Bool)) :: L) w)) ?_ ?_
              · refine k_loop hb8 (fun s a w => Env 210 [(0, vp0), (1, vp1), (2, (.int .i64 p2)), (7, vr3), (11, (.map (some b2))), (77, vr3), (78, (.int .i64 (x3.1.length : Int))), (79, (.int .i64 s))] a ∧ Hp Z ρ2 (MapA b2 (b3 : List (Overlap × Bool)) :: L) w) ?_ ?_
                · exact ⟨hE.cut ⟨rfl, rfl, rfl, rfl, rfl, rfl, rfl, rfl, trivial⟩, hp⟩
                · rintro lp2_0 st a w ⟨hE, hp⟩ hl2
                  have hE : Env 210 [(0, vp0), (1, vp1), (2, (.int .i64 p2)), (7, vr3), (11, (.map (some b2))), (77, vr3), (78, (.int .i64 (x3.1.length : Int))), (79, (.int .i64 lp2_0))] a := hE
                  have hp : Hp Z ρ2 (MapA b2 (b3 : List (Overlap × Bool)) :: L) w := hp
                  replace hl2 : m_assessorlaw44_SimilarityMatches_lp2 p2 x3 b3 lp2_0 = some st := hl2
                  unfold m_assessorlaw44_SimilarityMatches_lp2 at hl2
                  refine k_seq ?_
                  refine k_region ?_
                  refine s_val (wk0 rfl) rfl rfl hE hp (v := (.bool (decide (lp2_0 < (x3.1.length : Int))))) (ex_lss rfl hE rfl rfl) ?_
                  intro a hE
                  refine s_nil ?_
                  refine k_seq ?_
                  refine k_if hE rfl (fun hb9 => ?_) (fun hb9 => ?_)
                  · replace hl2 := (it hb9).symm.trans hl2
                    refine k_skip ?_
                    refine k_seq ?_
                    refine k_plain ?_
                    refine k_seq ?_
                    refine k_region ?_
                    refine s_val (wk0 rfl) rfl rfl hE hp (v := (.int .i64 lp2_0)) (ex_move rfl hE rfl) ?_
                    intro a hE
                    obtain ⟨x7, ex7, hl2⟩ := bnd hl2
                    obtain ⟨b7, b7o, b7c, b7r, b7k, b7f⟩ := RoSl.at (RoSl.mono hr3 hle2) slty56 ex7
                    obtain rfl : b7c = Enc.enc x7 := b7k
                    have b7f : AtP ρ2 b7 b7o [(.int .i64 x7.a), (.int .i64 x7.b), (.int .i64 x7.len)] := b7f
                    refine s_val (wk0 rfl) rfl rfl hE hp (v := (.pointer (some ⟨b7, b7o, none⟩))) (ex_index rfl hE rfl rfl b7r) ?_
                    intro a hE
                    refine s_val (wk0 rfl) rfl rfl hE hp (v := (.agg #[(.int .i64 x7.a), (.int .i64 x7.b), (.int .i64 x7.len)])) (ex_load rfl hE rfl (fun w hw => run_ldN (cs := [(.int .i64 x7.a), (.int .i64 x7.b), (.int .i64 x7.len)]) varty63 (fun j u hj => cell_of hw.le (b7f j u hj)))) ?_
                    intro a hE
                    refine s_new (wk0 rfl) rfl rfl hE hp rfl [(.int .i64 0), (.int .i64 0), (.int .i64 0)] (fun w => by simp [Instr.alloc, go_sem] <;> rfl) ?_
                    intro a w b8 hE hp
                    have hp : Hp Z ρ2 (Pt b8 (.cells #[(.int .i64 0), (.int .i64 0), (.int .i64 0)] 63 (0, 0)) :: _ :: L) w := hp
                    refine s_val (wk0 rfl) rfl rfl hE hp (v := (.int .i64 lp2_0)) (ex_asn rfl hE rfl) ?_
                    intro a hE
                    refine s_store (wk0 rfl) rfl hE hp rfl rfl rfl 0 rfl varty63.size_ rfl (allOne_mem ⟨rfl, rfl, rfl, trivial⟩) [(.int .i64 x7.a), (.int .i64 x7.b), (.int .i64 x7.len)] rfl ?_
                    intro w hp
                    have hp : Hp Z ρ2 (Pt b8 (.cells #[(.int .i64 x7.a), (.int .i64 x7.b), (.int .i64 x7.len)] 63 (0, 0)) :: _ :: L) w := hp
                    refine s_nil ?_
                    refine k_seq ?_
                    refine k_seq ?_
                    refine k_quiet (by kernel_rfl) (by kernel_rfl) hp ?_
                    refine q_val (wk0 rfl) rfl rfl hE (v := (.pointer (some ⟨b8, 2, none⟩))) (ex_field rfl hE rfl (fldty63_2 _ _)) ?_
                    intro a hE
                    refine q_val (wk0 rfl) rfl rfl hE (v := (.int .i64 x7.len)) (ex_load rfl hE rfl (fun w hw => run_ld1 varty3 (Hp.c 0 rfl 2 rfl w hw))) ?_
                    intro a hE
                    refine q_val (wk0 rfl) rfl rfl hE (v := (.int .i64 p2)) (ex_move rfl hE rfl) ?_
                    intro a hE
                    refine q_val (wk0 rfl) rfl rfl hE (v := (.bool (decide (x7.len < p2)))) (ex_lss rfl hE rfl rfl) ?_
                    intro a hE
                    refine q_val (wk0 rfl) rfl rfl hE (v := (.bool (decide (x7.len < p2)))) (ex_move rfl hE rfl) ?_
                    intro a hE
                    refine q_cut [_, _, _, _, _] (fun a => Env 210 [(93, (.bool ((decide (x7.len < p2)) || (!((mget (b3 : List (Overlap × Bool)) x7).getD false))))), (0, vp0), (1, vp1), (2, (.int .i64 p2)), (7, vr3), (11, (.map (some b2))), (14, (.int .i64 lp2_0)), (15, (.pointer (some ⟨b8, 0, none⟩))), (77, vr3), (78, (.int .i64 (x3.1.length : Int))), (79, (.int .i64 lp2_0))] a) ?_ ?_
                    · rcases Bool.eq_false_or_eq_true (decide (x7.len < p2)) with hb10 | hb10
                      ·
                        refine q_skip (wk2 hE rfl rfl rfl hb10) rfl rfl hE ?_
                        intro a hE
                        refine q_skip (wk2 hE rfl rfl rfl hb10) rfl rfl hE ?_
                        intro a hE
                        refine q_skip (wk2 hE rfl rfl rfl hb10) rfl rfl hE ?_
                        intro a hE
                        refine q_skip (wk2 hE rfl rfl rfl hb10) rfl rfl hE ?_
                        intro a hE
                        refine q_val (wk0 rfl) rfl rfl hE (v := (.bool true)) (ex_pick1 rfl hE rfl hb10 rfl) ?_
                        intro a hE
                        have hE := hE.eqv (v' := (.bool ((decide (x7.len < p2)) || (!((mget (b3 : List (Overlap × Bool)) x7).getD false))))) (by rw [hb10]; rfl)
                        exact q_nil (hE.cut ⟨rfl, rfl, rfl, rfl, rfl, rfl, rfl, rfl, rfl, rfl, rfl, trivial⟩)
                      ·
                        refine q_val (wk1 hE rfl rfl rfl hb10) rfl rfl hE (v := (.map (some b2))) (ex_move rfl hE rfl) ?_
                        intro a hE
                        refine q_val (wk1 hE rfl rfl rfl hb10) rfl rfl hE (v := (.agg #[(.int .i64 x7.a), (.int .i64 x7.b), (.int .i64 x7.len)])) (ex_load rfl hE rfl (fun w hw => run_ldN (cs := [(.int .i64 x7.a), (.int .i64 x7.b), (.int .i64 x7.len)]) varty63 (Hp.cN 0 rfl 0 _ (sub_all rfl) w hw))) ?_
                        intro a hE
                        refine q_val (wk1 hE rfl rfl rfl hb10) rfl rfl hE (v := (.bool ((mget (b3 : List (Overlap × Bool)) x7).getD false))) (ex_mget0 (zd := (false : Bool)) kt63 mapty61 zero4 rfl hE 1 (k := x7) rfl rfl rfl) ?_
                        intro a hE
                        refine q_val (wk1 hE rfl rfl rfl hb10) rfl rfl hE (v := (.bool (!((mget (b3 : List (Overlap × Bool)) x7).getD false)))) (ex_not rfl hE rfl) ?_
                        intro a hE
                        refine q_val (wk0 rfl) rfl rfl hE (v := (.bool (!((mget (b3 : List (Overlap × Bool)) x7).getD false)))) (ex_pick0 rfl hE rfl hb10 rfl) ?_
                        intro a hE
                        have hE := hE.eqv (v' := (.bool ((decide (x7.len < p2)) || (!((mget (b3 : List (Overlap × Bool)) x7).getD false))))) (by rw [hb10]; rfl)
                        exact q_nil (hE.cut ⟨rfl, rfl, rfl, rfl, rfl, rfl, rfl, rfl, rfl, rfl, rfl, trivial⟩)
                    · intro a hE
                      refine q_val (wk0 rfl) rfl rfl hE (v := (.bool ((decide (x7.len < p2)) || (!((mget (b3 : List (Overlap × Bool)) x7).getD false))))) (ex_move rfl hE rfl) ?_
                      intro a hE
                      obtain ⟨m1, hg1, hl2⟩ := bnd hl2
                      refine q_cut [_, _, _, _, _, _, _, _, _, _, _, _, _, _] (fun a => Env 210 [(108, (.bool m1)), (0, vp0), (1, vp1), (2, (.int .i64 p2)), (7, vr3), (11, (.map (some b2))), (14, (.int .i64 lp2_0)), (15, (.pointer (some ⟨b8, 0, none⟩))), (77, vr3), (78, (.int .i64 (x3.1.length : Int))), (79, (.int .i64 lp2_0))] a) ?_ ?_
                      · rcases Bool.eq_false_or_eq_true ((decide (x7.len < p2)) || (!((mget (b3 : List (Overlap × Bool)) x7).getD false))) with hb11 | hb11
                        ·
                          replace hg1 := (it hb11).symm.trans hg1
                          refine q_skip (wk2 hE rfl rfl rfl hb11) rfl rfl hE ?_
                          intro a hE
                          refine q_skip (wk2 hE rfl rfl rfl hb11) rfl rfl hE ?_
                          intro a hE
                          refine q_skip (wk2 hE rfl rfl rfl hb11) rfl rfl hE ?_
                          intro a hE
                          refine q_skip (wk3 hE rfl rfl rfl) rfl rfl hE ?_
                          intro a hE
                          refine q_skip (wk3 hE rfl rfl rfl) rfl rfl hE ?_
                          intro a hE
                          refine q_skip (wk3 hE rfl rfl rfl) rfl rfl hE ?_
                          intro a hE
                          refine q_skip (wk3 hE rfl rfl rfl) rfl rfl hE ?_
                          intro a hE
                          refine q_skip (wk3 hE rfl rfl rfl) rfl rfl hE ?_
                          intro a hE
                          refine q_skip (wk3 hE rfl rfl rfl) rfl rfl hE ?_
                          intro a hE
                          refine q_skip (wk3 hE rfl rfl rfl) rfl rfl hE ?_
                          intro a hE
                          refine q_skip (wk3 hE rfl rfl rfl) rfl rfl hE ?_
                          intro a hE
                          refine q_skip (wk3 hE rfl rfl rfl) rfl rfl hE ?_
                          intro a hE
                          refine q_skip (wk2 hE rfl rfl rfl hb11) rfl rfl hE ?_
                          intro a hE
                          refine q_val (wk0 rfl) rfl rfl hE (v := (.bool true)) (ex_pick1 rfl hE rfl hb11 rfl) ?_
                          intro a hE
                          obtain rfl := Option.some.inj hg1
                          exact q_nil (hE.cut ⟨rfl, rfl, rfl, rfl, rfl, rfl, rfl, rfl, rfl, rfl, rfl, trivial⟩)
                        ·
                          replace hg1 := (ie hb11).symm.trans hg1
                          refine q_val (wk1 hE rfl rfl rfl hb11) rfl rfl hE (v := (.int .i64 lp2_0)) (ex_move rfl hE rfl) ?_
                          intro a hE
                          refine q_val (wk1 hE rfl rfl rfl hb11) rfl rfl hE (v := (.bool (decide (0 < lp2_0)))) (ex_gtr rfl hE rfl rfl) ?_
                          intro a hE
                          refine q_val (wk1 hE rfl rfl rfl hb11) rfl rfl hE (v := (.bool (decide (0 < lp2_0)))) (ex_move rfl hE rfl) ?_
                          intro a hE
                          obtain ⟨m2, hg2, hg1⟩ := bnd hg1
                          refine q_cut [_, _, _, _, _, _, _, _, _, _] (fun a => Env 210 [(107, (.bool m2)), (0, vp0), (1, vp1), (2, (.int .i64 p2)), (7, vr3), (11, (.map (some b2))), (14, (.int .i64 lp2_0)), (15, (.pointer (some ⟨b8, 0, none⟩))), (77, vr3), (78, (.int .i64 (x3.1.length : Int))), (79, (.int .i64 lp2_0)), (94, (.bool ((decide (x7.len < p2)) || (!((mget (b3 : List (Overlap × Bool)) x7).getD false))))), (95, (.int .i64 lp2_0)), (96, (.bool (decide (0 < lp2_0)))), (97, (.bool (decide (0 < lp2_0))))] a) ?_ ?_
                          · rcases Bool.eq_false_or_eq_true (decide (0 < lp2_0)) with hb12 | hb12
                            ·
                              replace hg2 := (it hb12).symm.trans hg2
                              refine q_val (wk1 hE rfl rfl rfl hb12) rfl rfl hE (v := vr3) (ex_move rfl hE rfl) ?_
                              intro a hE
                              refine q_val (wk1 hE rfl rfl rfl hb12) rfl rfl hE (v := (.int .i64 lp2_0)) (ex_move rfl hE rfl) ?_
                              intro a hE
                              obtain ⟨x8, ex8, hg2⟩ := bnd hg2
                              refine q_val (wk1 hE rfl rfl rfl hb12) rfl rfl hE (v := (.int .i64 x8)) (ex_sub rfl hE rfl rfl (inK_some ex8)) ?_
                              intro a hE
                              obtain ⟨x9, ex9, hg2⟩ := bnd hg2
                              obtain ⟨b9, b9o, b9c, b9r, b9k, b9f⟩ := RoSl.at (RoSl.mono hr3 hle2) slty56 ex9
                              obtain rfl : b9c = Enc.enc x9 := b9k
                              have b9f : AtP ρ2 b9 b9o [(.int .i64 x9.a), (.int .i64 x9.b), (.int .i64 x9.len)] := b9f
                              refine q_val (wk1 hE rfl rfl rfl hb12) rfl rfl hE (v := (.pointer (some ⟨b9, b9o, none⟩))) (ex_index rfl hE rfl rfl b9r) ?_
                              intro a hE
                              refine q_val (wk1 hE rfl rfl rfl hb12) rfl rfl hE (v := (.pointer (some ⟨b9, b9o + 2, none⟩))) (ex_field rfl hE rfl (fldty63_2 _ _)) ?_
                              intro a hE
                              refine q_val (wk1 hE rfl rfl rfl hb12) rfl rfl hE (v := (.int .i64 x9.len)) (ex_load rfl hE rfl (fun w hw => run_ld1 varty3 (b9f.c 2 rfl w hw))) ?_
                              intro a hE
                              refine q_val (wk1 hE rfl rfl rfl hb12) rfl rfl hE (v := (.pointer (some ⟨b8, 2, none⟩))) (ex_field rfl hE rfl (fldty63_2 _ _)) ?_
                              intro a hE
                              refine q_val (wk1 hE rfl rfl rfl hb12) rfl rfl hE (v := (.int .i64 x7.len)) (ex_load rfl hE rfl (fun w hw => run_ld1 varty3 (Hp.c 0 rfl 2 rfl w hw))) ?_
                              intro a hE
                              refine q_val (wk1 hE rfl rfl rfl hb12) rfl rfl hE (v := (.bool (decide (x9.len < x7.len)))) (ex_lss rfl hE rfl rfl) ?_
                              intro a hE
                              refine q_val (wk1 hE rfl rfl rfl hb11) rfl rfl hE (v := (.bool (decide (x9.len < x7.len)))) (ex_pick1 rfl hE rfl hb12 rfl) ?_
                              intro a hE
                              obtain rfl := Option.some.inj hg2
                              exact q_nil (hE.cut ⟨rfl, rfl, rfl, rfl, rfl, rfl, rfl, rfl, rfl, rfl, rfl, rfl, rfl, rfl, rfl, trivial⟩)
                            ·
                              replace hg2 := (ie hb12).symm.trans hg2
                              refine q_skip (wk2 hE rfl rfl rfl hb12) rfl rfl hE ?_
                              intro a hE
                              refine q_skip (wk2 hE rfl rfl rfl hb12) rfl rfl hE ?_
                              intro a hE
                              refine q_skip (wk2 hE rfl rfl rfl hb12) rfl rfl hE ?_
                              intro a hE
                              refine q_skip (wk2 hE rfl rfl rfl hb12) rfl rfl hE ?_
                              intro a hE
                              refine q_skip (wk2 hE rfl rfl rfl hb12) rfl rfl hE ?_
                              intro a hE
                              refine q_skip (wk2 hE rfl rfl rfl hb12) rfl rfl hE ?_
                              intro a hE
                              refine q_skip (wk2 hE rfl rfl rfl hb12) rfl rfl hE ?_
                              intro a hE
                              refine q_skip (wk2 hE rfl rfl rfl hb12) rfl rfl hE ?_
                              intro a hE
                              refine q_skip (wk2 hE rfl rfl rfl hb12) rfl rfl hE ?_
                              intro a hE
                              refine q_val (wk1 hE rfl rfl rfl hb11) rfl rfl hE (v := (.bool false)) (ex_pick0 rfl hE rfl hb12 rfl) ?_
                              intro a hE
                              obtain rfl := Option.some.inj hg2
                              exact q_nil (hE.cut ⟨rfl, rfl, rfl, rfl, rfl, rfl, rfl, rfl, rfl, rfl, rfl, rfl, rfl, rfl, rfl, trivial⟩)
                          · intro a hE
                            refine q_val (wk0 rfl) rfl rfl hE (v := (.bool m2)) (ex_pick0 rfl hE rfl hb11 rfl) ?_
                            intro a hE
                            obtain rfl := Option.some.inj hg1
                            exact q_nil (hE.cut ⟨rfl, rfl, rfl, rfl, rfl, rfl, rfl, rfl, rfl, rfl, rfl, trivial⟩)
                      · intro a hE
                        refine q_nil fun w hp => ?_
                        have hp : Hp Z ρ2 (_ :: _ :: L) w := hp
                        refine k_if hE rfl (fun hb13 => ?_) (fun hb13 => ?_)
                        · replace hl2 := (it hb13).symm.trans hl2
                          refine k_seq ?_
                          refine k_region ?_
                          refine s_val (wk0 rfl) rfl rfl hE hp (v := (.bool false)) (ex_asn rfl hE rfl) ?_
                          intro a hE
                          refine s_nil ?_
                          refine k_ret ?_
                          refine ⟨_, (Option.some.inj hl2).symm, fun hb => ?_⟩
                          subst hb
                          obtain rfl := Option.some.inj hm
                          exact ret1 hE rfl rfl ⟨_, rfl, rfl, ((((((hp.get 1 rfl).drop).drop).less hle2).less hle1).less (PH.le_un _ k1))⟩
                        · replace hl2 := (ie hb13).symm.trans hl2
                          refine k_skip ?_
                          refine k_seq ?_
                          refine k_region ?_
                          refine s_val (wk0 rfl) rfl rfl hE hp (v := vr3) (ex_move rfl hE rfl) ?_
                          intro a hE
                          refine s_val (wk0 rfl) rfl rfl hE hp (v := (.int .i64 lp2_0)) (ex_move rfl hE rfl) ?_
                          intro a hE
                          obtain ⟨x10, ex10, hl2⟩ := bnd hl2
                          obtain ⟨v1, v1r, f2⟩ := RoSl.part (RoSl.mono hr3 hle2) slty56 none (some (.i64, lp2_0)) rfl rfl ex10
                          refine s_val (wk0 rfl) rfl rfl hE hp (v := v1) (ex_sl rfl hE rfl none (some (.i64, lp2_0)) (by exact trivial) (by exact rfl) v1r) ?_
                          intro a hE
                          refine s_val (wk0 rfl) rfl rfl hE hp (v := (.int .i64 (x10.length : Int))) (ex_len rfl hE rfl (RoSl.len f2 slty56)) ?_
                          intro a hE
                          refine s_val (wk0 rfl) rfl rfl hE hp (v := (.int .i64 0)) (ex_move rfl hE rfl) ?_
                          intro a hE
                          refine s_nil ?_
                          obtain ⟨b10, hb14, hl2⟩ := bnd hl2
                          refine k_block (fun a w => ∃ s : Unit, b10 = .brk s ∧ (Env 210 [(0, vp0), (1, vp1), (2, (.int .i64 p2)), (7, vr3), (11, (.map (some b2))), (77, vr3), (78, (.int .i64 (x3.1.length : Int))), (79, (.int .i64 lp2_0))] a ∧ Hp Z ρ2 (Pt b8 (.cells #[(.int .i64 x7.a), (.int .i64 x7.b), (.int .i64 x7.len)] 63 (0, 0)) :: MapA b2 (b3 : List (Overlap × Bool)) :: L) w)) ?_ ?_
                          · refine k_loop hb14 (fun s a w => Env 210 [(0, vp0), (1, vp1), (2, (.int .i64 p2)), (7, vr3), (11, (.map (some b2))), (15, (.pointer (some ⟨b8, 0, none⟩))), (77, vr3), (78, (.int .i64 (x3.1.length : Int))), (79, (.int .i64 lp2_0)), (111, v1), (112, (.int .i64 (x10.length : Int))), (113, (.int .i64 s))] a ∧ Hp Z ρ2 (Pt b8 (.cells #[(.int .i64 x7.a), (.int .i64 x7.b), (.int .i64 x7.len)] 63 (0, 0)) :: MapA b2 (b3 : List (Overlap × Bool)) :: L) w) ?_ ?_
                            · exact ⟨hE.cut ⟨rfl, rfl, rfl, rfl, rfl, rfl, rfl, rfl, rfl, rfl, rfl, rfl, trivial⟩, hp⟩
                            · rintro lp3_0 st a w ⟨hE, hp⟩ hl3
                              have hE : Env 210 [(0, vp0), (1, vp1), (2, (.int .i64 p2)), (7, vr3), (11, (.map (some b2))), (15, (.pointer (some ⟨b8, 0, none⟩))), (77, vr3), (78, (.int .i64 (x3.1.length : Int))), (79, (.int .i64 lp2_0)), (111, v1), (112, (.int .i64 (x10.length : Int))), (113, (.int .i64 lp3_0))] a := hE
                              have hp : Hp Z ρ2 (_ :: _ :: L) w := hp
                              replace hl3 : m_assessorlaw44_SimilarityMatches_lp3 x7 x10 lp3_0 = some st := hl3
                              unfold m_assessorlaw44_SimilarityMatches_lp3 at hl3
                              refine k_seq ?_
                              refine k_region ?_
                              refine s_val (wk0 rfl) rfl rfl hE hp (v := (.bool (decide (lp3_0 < (x10.length : Int))))) (ex_lss rfl hE rfl rfl) ?_
                              intro a hE
                              refine s_nil ?_
                              refine k_seq ?_
                              refine k_if hE rfl (fun hb15 => ?_) (fun hb15 => ?_)
                              · replace hl3 := (it hb15).symm.trans hl3
                                refine k_skip ?_
                                refine k_seq ?_
                                refine k_plain ?_
                                refine k_seq ?_
                                refine k_region ?_
                                obtain ⟨x11, ex11, hl3⟩ := bnd hl3
                                obtain ⟨b11, b11o, b11c, b11r, b11k, b11f⟩ := RoSl.at f2 slty56 ex11
                                obtain rfl : b11c = Enc.enc x11 := b11k
                                have b11f : AtP ρ2 b11 b11o [(.int .i64 x11.a), (.int .i64 x11.b), (.int .i64 x11.len)] := b11f
                                refine s_val (wk0 rfl) rfl rfl hE hp (v := (.pointer (some ⟨b11, b11o, none⟩))) (ex_index rfl hE rfl rfl b11r) ?_
                                intro a hE
                                refine s_val (wk0 rfl) rfl rfl hE hp (v := (.agg #[(.int .i64 x11.a), (.int .i64 x11.b), (.int .i64 x11.len)])) (ex_load rfl hE rfl (fun w hw => run_ldN (cs := [(.int .i64 x11.a), (.int .i64 x11.b), (.int .i64 x11.len)]) varty63 (fun j u hj => cell_of hw.le (b11f j u hj)))) ?_
                                intro a hE
                                refine s_new (wk0 rfl) rfl rfl hE hp rfl [(.int .i64 0), (.int .i64 0), (.int .i64 0)] (fun w => by simp [Instr.alloc, go_sem] <;> rfl) ?_
                                intro a w b12 hE hp
                                have hp : Hp Z ρ2 (Pt b12 (.cells #[(.int .i64 0), (.int .i64 0), (.int .i64 0)] 63 (0, 0)) :: _ :: _ :: L) w := hp
                                refine s_store (wk0 rfl) rfl hE hp rfl rfl rfl 0 rfl varty63.size_ rfl (allOne_mem ⟨rfl, rfl, rfl, trivial⟩) [(.int .i64 x11.a), (.int .i64 x11.b), (.int .i64 x11.len)] rfl ?_
                                intro w hp
                                have hp : Hp Z ρ2 (Pt b12 (.cells #[(.int .i64 x11.a), (.int .i64 x11.b), (.int .i64 x11.len)] 63 (0, 0)) :: _ :: _ :: L) w := hp
                                refine s_nil ?_
                                refine k_seq ?_
                                refine k_region ?_
                                refine s_val (wk0 rfl) rfl rfl hE hp (v := (.pointer (some ⟨b12, 1, none⟩))) (ex_field rfl hE rfl (fldty63_1 _ _)) ?_
                                intro a hE
                                refine s_val (wk0 rfl) rfl rfl hE hp (v := (.int .i64 x11.b)) (ex_load rfl hE rfl (fun w hw => run_ld1 varty3 (Hp.c 0 rfl 1 rfl w hw))) ?_
                                intro a hE
                                refine s_val (wk0 rfl) rfl rfl hE hp (v := (.pointer (some ⟨b12, 0, none⟩))) (ex_field rfl hE rfl (fldty63_0 _ _)) ?_
                                intro a hE
                                refine s_val (wk0 rfl) rfl rfl hE hp (v := (.int .i64 x11.a)) (ex_load rfl hE rfl (fun w hw => run_ld1 varty3 (Hp.c 0 rfl 0 rfl w hw))) ?_
                                intro a hE
                                obtain ⟨x12, ex12, hl3⟩ := bnd hl3
                                refine s_val (wk0 rfl) rfl rfl hE hp (v := (.int .i64 x12)) (ex_sub rfl hE rfl rfl (inK_some ex12)) ?_
                                intro a hE
                                refine s_val (wk0 rfl) rfl rfl hE hp (v := (.pointer (some ⟨b8, 1, none⟩))) (ex_field rfl hE rfl (fldty63_1 _ _)) ?_
                                intro a hE
                                refine s_val (wk0 rfl) rfl rfl hE hp (v := (.int .i64 x7.b)) (ex_load rfl hE rfl (fun w hw => run_ld1 varty3 (Hp.c 1 rfl 1 rfl w hw))) ?_
                                intro a hE
                                refine s_val (wk0 rfl) rfl rfl hE hp (v := (.pointer (some ⟨b8, 0, none⟩))) (ex_field rfl hE rfl (fldty63_0 _ _)) ?_
                                intro a hE
                                refine s_val (wk0 rfl) rfl rfl hE hp (v := (.int .i64 x7.a)) (ex_load rfl hE rfl (fun w hw => run_ld1 varty3 (Hp.c 1 rfl 0 rfl w hw))) ?_
                                intro a hE
                                obtain ⟨x13, ex13, hl3⟩ := bnd hl3
                                refine s_val (wk0 rfl) rfl rfl hE hp (v := (.int .i64 x13)) (ex_sub rfl hE rfl rfl (inK_some ex13)) ?_
                                intro a hE
                                refine s_val (wk0 rfl) rfl rfl hE hp (v := (.bool (decide (x12 = x13)))) (ex_eql rfl hE rfl rfl) ?_
                                intro a hE
                                refine s_val (wk0 rfl) rfl rfl hE hp (v := (.bool (decide (x12 = x13)))) (ex_move rfl hE rfl) ?_
                                intro a hE
                                obtain ⟨m3, hg3, hl3⟩ := bnd hl3
                                refine s_cut [_, _, _, _, _, _, _, _, _] (fun a w => Env 210 [(137, (.bool m3)), (0, vp0), (1, vp1), (2, (.int .i64 p2)), (7, vr3), (11, (.map (some b2))), (15, (.pointer (some ⟨b8, 0, none⟩))), (17, (.pointer (some ⟨b12, 0, none⟩))), (77, vr3), (78, (.int .i64 (x3.1.length : Int))), (79, (.int .i64 lp2_0)), (111, v1), (112, (.int .i64 (x10.length : Int))), (113, (.int .i64 lp3_0))] a ∧ Hp Z ρ2 (Pt b12 (.cells #[(.int .i64 x11.a), (.int .i64 x11.b), (.int .i64 x11.len)] 63 (0, 0)) :: Pt b8 (.cells #[(.int .i64 x7.a), (.int .i64 x7.b), (.int .i64 x7.len)] 63 (0, 0)) :: MapA b2 (b3 : List (Overlap × Bool)) :: L) w) ?_ ?_
                                · rcases Bool.eq_false_or_eq_true (decide (x12 = x13)) with hb16 | hb16
                                  ·
                                    replace hg3 := (it hb16).symm.trans hg3
                                    refine s_val (wk1 hE rfl rfl rfl hb16) rfl rfl hE hp (v := (.pointer (some ⟨b12, 0, none⟩))) (ex_field rfl hE rfl (fldty63_0 _ _)) ?_
                                    intro a hE
                                    refine s_val (wk1 hE rfl rfl rfl hb16) rfl rfl hE hp (v := (.int .i64 x11.a)) (ex_load rfl hE rfl (fun w hw => run_ld1 varty3 (Hp.c 0 rfl 0 rfl w hw))) ?_
                                    intro a hE
                                    refine s_val (wk1 hE rfl rfl rfl hb16) rfl rfl hE hp (v := (.pointer (some ⟨b8, 0, none⟩))) (ex_field rfl hE rfl (fldty63_0 _ _)) ?_
                                    intro a hE
                                    refine s_val (wk1 hE rfl rfl rfl hb16) rfl rfl hE hp (v := (.int .i64 x7.a)) (ex_load rfl hE rfl (fun w hw => run_ld1 varty3 (Hp.c 1 rfl 0 rfl w hw))) ?_
                                    intro a hE
                                    refine s_val (wk1 hE rfl rfl rfl hb16) rfl rfl hE hp (v := (.pointer (some ⟨b8, 2, none⟩))) (ex_field rfl hE rfl (fldty63_2 _ _)) ?_
                                    intro a hE
                                    refine s_val (wk1 hE rfl rfl rfl hb16) rfl rfl hE hp (v := (.int .i64 x7.len)) (ex_load rfl hE rfl (fun w hw => run_ld1 varty3 (Hp.c 1 rfl 2 rfl w hw))) ?_
                                    intro a hE
                                    obtain ⟨x14, ex14, hg3⟩ := bnd hg3
                                    refine s_val (wk1 hE rfl rfl rfl hb16) rfl rfl hE hp (v := (.int .i64 x14)) (ex_add rfl hE rfl rfl (inK_some ex14)) ?_
                                    intro a hE
                                    refine s_val (wk1 hE rfl rfl rfl hb16) rfl rfl hE hp (v := (.bool (decide (x11.a ≤ x14)))) (ex_leq rfl hE rfl rfl) ?_
                                    intro a hE
                                    refine s_val (wk0 rfl) rfl rfl hE hp (v := (.bool (decide (x11.a ≤ x14)))) (ex_pick1 rfl hE rfl hb16 rfl) ?_
                                    intro a hE
                                    obtain rfl := Option.some.inj hg3
                                    exact s_nil ⟨hE.cut ⟨rfl, rfl, rfl, rfl, rfl, rfl, rfl, rfl, rfl, rfl, rfl, rfl, rfl, rfl, trivial⟩, hp⟩
                                  ·
                                    replace hg3 := (ie hb16).symm.trans hg3
                                    refine s_skip (wk2 hE rfl rfl rfl hb16) rfl rfl hE ?_
                                    intro a hE
                                    refine s_skip (wk2 hE rfl rfl rfl hb16) rfl rfl hE ?_
                                    intro a hE
                                    refine s_skip (wk2 hE rfl rfl rfl hb16) rfl rfl hE ?_
                                    intro a hE
                                    refine s_skip (wk2 hE rfl rfl rfl hb16) rfl rfl hE ?_
                                    intro a hE
                                    refine s_skip (wk2 hE rfl rfl rfl hb16) rfl rfl hE ?_
                                    intro a hE
                                    refine s_skip (wk2 hE rfl rfl rfl hb16) rfl rfl hE ?_
                                    intro a hE
                                    refine s_skip (wk2 hE rfl rfl rfl hb16) rfl rfl hE ?_
                                    intro a hE
                                    refine s_skip (wk2 hE rfl rfl rfl hb16) rfl rfl hE ?_
                                    intro a hE
                                    refine s_val (wk0 rfl) rfl rfl hE hp (v := (.bool false)) (ex_pick0 rfl hE rfl hb16 rfl) ?_
                                    intro a hE
                                    obtain rfl := Option.some.inj hg3
                                    exact s_nil ⟨hE.cut ⟨rfl, rfl, rfl, rfl, rfl, rfl, rfl, rfl, rfl, rfl, rfl, rfl, rfl, rfl, trivial⟩, hp⟩
                                · rintro a w ⟨hE, hp⟩
                                  refine s_val (wk0 rfl) rfl rfl hE hp (v := (.bool m3)) (ex_move rfl hE rfl) ?_
                                  intro a hE
                                  obtain ⟨m4, hg4, hl3⟩ := bnd hl3
                                  refine s_cut [_, _, _, _, _, _, _, _, _] (fun a w => Env 210 [(147, (.bool m4)), (0, vp0), (1, vp1), (2, (.int .i64 p2)), (7, vr3), (11, (.map (some b2))), (15, (.pointer (some ⟨b8, 0, none⟩))), (77, vr3), (78, (.int .i64 (x3.1.length : Int))), (79, (.int .i64 lp2_0)), (111, v1), (112, (.int .i64 (x10.length : Int))), (113, (.int .i64 lp3_0))] a ∧ Hp Z ρ2 (Pt b12 (.cells #[(.int .i64 x11.a), (.int .i64 x11.b), (.int .i64 x11.len)] 63 (0, 0)) :: Pt b8 (.cells #[(.int .i64 x7.a), (.int .i64 x7.b), (.int .i64 x7.len)] 63 (0, 0)) :: MapA b2 (b3 : List (Overlap × Bool)) :: L) w) ?_ ?_
                                  · rcases Bool.eq_false_or_eq_true m3 with hb17 | hb17
                                    ·
                                      replace hg4 := (it hb17).symm.trans hg4
                                      refine s_val (wk1 hE rfl rfl rfl hb17) rfl rfl hE hp (v := (.pointer (some ⟨b8, 0, none⟩))) (ex_field rfl hE rfl (fldty63_0 _ _)) ?_
                                      intro a hE
                                      refine s_val (wk1 hE rfl rfl rfl hb17) rfl rfl hE hp (v := (.int .i64 x7.a)) (ex_load rfl hE rfl (fun w hw => run_ld1 varty3 (Hp.c 1 rfl 0 rfl w hw))) ?_
                                      intro a hE
                                      refine s_val (wk1 hE rfl rfl rfl hb17) rfl rfl hE hp (v := (.pointer (some ⟨b12, 0, none⟩))) (ex_field rfl hE rfl (fldty63_0 _ _)) ?_
                                      intro a hE
                                      refine s_val (wk1 hE rfl rfl rfl hb17) rfl rfl hE hp (v := (.int .i64 x11.a)) (ex_load rfl hE rfl (fun w hw => run_ld1 varty3 (Hp.c 0 rfl 0 rfl w hw))) ?_
                                      intro a hE
                                      refine s_val (wk1 hE rfl rfl rfl hb17) rfl rfl hE hp (v := (.pointer (some ⟨b12, 2, none⟩))) (ex_field rfl hE rfl (fldty63_2 _ _)) ?_
                                      intro a hE
                                      refine s_val (wk1 hE rfl rfl rfl hb17) rfl rfl hE hp (v := (.int .i64 x11.len)) (ex_load rfl hE rfl (fun w hw => run_ld1 varty3 (Hp.c 0 rfl 2 rfl w hw))) ?_
                                      intro a hE
                                      obtain ⟨x15, ex15, hg4⟩ := bnd hg4
                                      refine s_val (wk1 hE rfl rfl rfl hb17) rfl rfl hE hp (v := (.int .i64 x15)) (ex_add rfl hE rfl rfl (inK_some ex15)) ?_
                                      intro a hE
                                      refine s_val (wk1 hE rfl rfl rfl hb17) rfl rfl hE hp (v := (.bool (decide (x7.a ≤ x15)))) (ex_leq rfl hE rfl rfl) ?_
                                      intro a hE
                                      refine s_val (wk0 rfl) rfl rfl hE hp (v := (.bool (decide (x7.a ≤ x15)))) (ex_pick1 rfl hE rfl hb17 rfl) ?_
                                      intro a hE
                                      obtain rfl := Option.some.inj hg4
                                      exact s_nil ⟨hE.cut ⟨rfl, rfl, rfl, rfl, rfl, rfl, rfl, rfl, rfl, rfl, rfl, rfl, rfl, trivial⟩, hp⟩
                                    ·
                                      replace hg4 := (ie hb17).symm.trans hg4
                                      refine s_skip (wk2 hE rfl rfl rfl hb17) rfl rfl hE ?_
                                      intro a hE
                                      refine s_skip (wk2 hE rfl rfl rfl hb17) rfl rfl hE ?_
                                      intro a hE
                                      refine s_skip (wk2 hE rfl rfl rfl hb17) rfl rfl hE ?_
                                      intro a hE
                                      refine s_skip (wk2 hE rfl rfl rfl hb17) rfl rfl hE ?_
                                      intro a hE
                                      refine s_skip (wk2 hE rfl rfl rfl hb17) rfl rfl hE ?_
                                      intro a hE
                                      refine s_skip (wk2 hE rfl rfl rfl hb17) rfl rfl hE ?_
                                      intro a hE
                                      refine s_skip (wk2 hE rfl rfl rfl hb17) rfl rfl hE ?_
                                      intro a hE
                                      refine s_skip (wk2 hE rfl rfl rfl hb17) rfl rfl hE ?_
                                      intro a hE
                                      refine s_val (wk0 rfl) rfl rfl hE hp (v := (.bool false)) (ex_pick0 rfl hE rfl hb17 rfl) ?_
                                      intro a hE
                                      obtain rfl := Option.some.inj hg4
                                      exact s_nil ⟨hE.cut ⟨rfl, rfl, rfl, rfl, rfl, rfl, rfl, rfl, rfl, rfl, rfl, rfl, rfl, trivial⟩, hp⟩
                                  · rintro a w ⟨hE, hp⟩
                                    refine s_nil ?_
                                    refine k_if hE rfl (fun hb18 => ?_) (fun hb18 => ?_)
                                    · replace hl3 := (it hb18).symm.trans hl3
                                      refine k_seq ?_
                                      refine k_region ?_
                                      refine s_val (wk0 rfl) rfl rfl hE hp (v := (.bool false)) (ex_asn rfl hE rfl) ?_
                                      intro a hE
                                      refine s_nil ?_
                                      refine k_ret ?_
                                      refine ⟨_, (Option.some.inj hl3).symm, fun hb => ?_⟩
                                      subst hb
                                      refine ⟨_, (Option.some.inj hl2).symm, fun hb => ?_⟩
                                      subst hb
                                      obtain rfl := Option.some.inj hm
                                      exact ret1 hE rfl rfl ⟨_, rfl, rfl, ((((((((hp.get 2 rfl).drop).get 1 rfl).drop).drop).less hle2).less hle1).less (PH.le_un _ k1))⟩
                                    · replace hl3 := (ie hb18).symm.trans hl3
                                      refine k_skip ?_
                                      refine k_region ?_
                                      obtain ⟨x16, ex16, hl3⟩ := bnd hl3
                                      refine s_val (wk0 rfl) rfl rfl hE hp (v := (.int .i64 x16)) (ex_add rfl hE rfl rfl (inK_some ex16)) ?_
                                      intro a hE
                                      refine s_val (wk0 rfl) rfl rfl hE hp (v := (.int .i64 x16)) (ex_move rfl hE rfl) ?_
                                      intro a hE
                                      refine s_nil ?_
                                      exact ⟨_, (Option.some.inj hl3).symm, hE.cut ⟨rfl, rfl, rfl, rfl, rfl, rfl, rfl, rfl, rfl, rfl, rfl, rfl, trivial⟩, (hp.drop)⟩
                              · replace hl3 := (ie hb15).symm.trans hl3
                                refine k_exit ?_
                                refine ⟨_, (Option.some.inj hl3).symm, fun hbb => ?_⟩
                                exact ⟨_, hbb.symm, hE.cut ⟨rfl, rfl, rfl, rfl, rfl, rfl, rfl, rfl, trivial⟩, hp⟩
                          · rintro a w ⟨b10s, rfl, hE, hp⟩
                            dsimp only at hl2
                            refine k_region ?_
                            obtain ⟨x17, ex17, hl2⟩ := bnd hl2
                            refine s_val (wk0 rfl) rfl rfl hE hp (v := (.int .i64 x17)) (ex_add rfl hE rfl rfl (inK_some ex17)) ?_
                            intro a hE
                            refine s_val (wk0 rfl) rfl rfl hE hp (v := (.int .i64 x17)) (ex_move rfl hE rfl) ?_
                            intro a hE
                            refine s_nil ?_
                            exact ⟨_, (Option.some.inj hl2).symm, hE.cut ⟨rfl, rfl, rfl, rfl, rfl, rfl, rfl, rfl, trivial⟩, (hp.drop)⟩
                  · replace hl2 := (ie hb9).symm.trans hl2
                    refine k_exit ?_
                    refine ⟨_, (Option.some.inj hl2).symm, fun hbb => ?_⟩
                    exact ⟨_, hbb.symm, hE.cut ⟨rfl, rfl, rfl, rfl, trivial⟩, hp⟩
              · rintro a w ⟨b6s, rfl, hE, hp⟩
                dsimp only at hm
                refine k_seq ?_
                refine k_seq ?_
                refine k_region ?_
                refine s_val (wk0 rfl) rfl rfl hE hp (v := vp0) (ex_move rfl hE rfl) ?_
                intro a hE
                refine s_val (wk0 rfl) rfl rfl hE hp (v := (.int .i64 (p0.length : Int))) (ex_len rfl hE rfl (RoSl.len (RoSl.mono (RoSl.mono (RoSl.mono hp0 (PH.le_un _ k1)) hle1) hle2) slty26)) ?_
                intro a hE
                refine s_val (wk0 rfl) rfl rfl hE hp (v := (.int .i64 0)) (ex_move rfl hE rfl) ?_
                intro a hE
                refine s_nil ?_
                obtain ⟨b13, hb19, hm⟩ := bnd hm
                refine k_block (fun a w => ∃ s : Unit, b13 = .brk s ∧ (Env 210 [] a ∧ Hp Z ρ2 (MapA b2 (b3 : List (Overlap × Bool)) :: L) w)) ?_ ?_
                · refine k_loop hb19 (fun s a w => Env 210 [(1, vp1), (2, (.int .i64 p2)), (7, vr3), (150, vp0), (151, (.int .i64 (p0.length : Int))), (152, (.int .i64 s))] a ∧ Hp Z ρ2 (MapA b2 (b3 : List (Overlap × Bool)) :: L) w) ?_ ?_
                  · exact ⟨hE.cut ⟨rfl, rfl, rfl, rfl, rfl, rfl, trivial⟩, hp⟩
                  · rintro lp4_0 st a w ⟨hE, hp⟩ hl4
                    have hE : Env 210 [(1, vp1), (2, (.int .i64 p2)), (7, vr3), (150, vp0), (151, (.int .i64 (p0.length : Int))), (152, (.int .i64 lp4_0))] a := hE
                    have hp : Hp Z ρ2 (MapA b2 (b3 : List (Overlap × Bool)) :: L) w := hp
                    replace hl4 : m_assessorlaw44_SimilarityMatches_lp4 p0 p1 p2 x3 lp4_0 = some st := hl4
                    unfold m_assessorlaw44_SimilarityMatches_lp4 at hl4
                    refine k_seq ?_
                    refine k_region ?_
                    refine s_val (wk0 rfl) rfl rfl hE hp (v := (.bool (decide (lp4_0 < (p0.length : Int))))) (ex_lss rfl hE rfl rfl) ?_
                    intro a hE
                    refine s_nil ?_
                    refine k_seq ?_
                    refine k_if hE rfl (fun hb20 => ?_) (fun hb20 => ?_)
                    · replace hl4 := (it hb20).symm.trans hl4
                      refine k_skip ?_
                      refine k_seq ?_
                      refine k_plain ?_
                      refine k_seq ?_
                      refine k_region ?_
                      obtain ⟨x18, ex18, hl4⟩ := bnd hl4
                      obtain ⟨b14, b14o, b14c, b14r, b14k, b14f⟩ := RoSl.at (RoSl.mono (RoSl.mono (RoSl.mono hp0 (PH.le_un _ k1)) hle1) hle2) slty26 ex18
                      obtain rfl : b14c = Enc.enc x18 := b14k
                      have b14f : AtP ρ2 b14 b14o [(.int .i64 x18.hash), (.int .i64 x18.at_)] := b14f
                      refine s_val (wk0 rfl) rfl rfl hE hp (v := (.pointer (some ⟨b14, b14o, none⟩))) (ex_index rfl hE rfl rfl b14r) ?_
                      intro a hE
                      refine s_val (wk0 rfl) rfl rfl hE hp (v := (.agg #[(.int .i64 x18.hash), (.int .i64 x18.at_)])) (ex_load rfl hE rfl (fun w hw => run_ldN (cs := [(.int .i64 x18.hash), (.int .i64 x18.at_)]) varty65 (fun j u hj => cell_of hw.le (b14f j u hj)))) ?_
                      intro a hE
                      refine s_new (wk0 rfl) rfl rfl hE hp rfl [(.int .i64 0), (.int .i64 0)] (fun w => by simp [Instr.alloc, go_sem] <;> rfl) ?_
                      intro a w b15 hE hp
                      have hp : Hp Z ρ2 (Pt b15 (.cells #[(.int .i64 0), (.int .i64 0)] 65 (0, 0)) :: _ :: L) w := hp
                      refine s_store (wk0 rfl) rfl hE hp rfl rfl rfl 0 rfl varty65.size_ rfl (allOne_mem ⟨rfl, rfl, trivial⟩) [(.int .i64 x18.hash), (.int .i64 x18.at_)] rfl ?_
                      intro w hp
                      have hp : Hp Z ρ2 (Pt b15 (.cells #[(.int .i64 x18.hash), (.int .i64 x18.at_)] 65 (0, 0)) :: _ :: L) w := hp
                      refine s_nil ?_
                      refine k_seq ?_
                      refine k_region ?_
                      refine s_val (wk0 rfl) rfl rfl hE hp (v := vp1) (ex_move rfl hE rfl) ?_
                      intro a hE
                      refine s_val (wk0 rfl) rfl rfl hE hp (v := (.int .i64 (p1.length : Int))) (ex_len rfl hE rfl (RoSl.len (RoSl.mono (RoSl.mono (RoSl.mono hp1 (PH.le_un _ k1)) hle1) hle2) slty26)) ?_
                      intro a hE
                      refine s_val (wk0 rfl) rfl rfl hE hp (v := (.int .i64 0)) (ex_move rfl hE rfl) ?_
                      intro a hE
                      refine s_nil ?_
                      obtain ⟨b16, hb21, hl4⟩ := bnd hl4
                      refine k_block (fun a w => ∃ s : Unit, b16 = .brk s ∧ (Env 210 [(1, vp1), (2, (.int .i64 p2)), (7, vr3), (150, vp0), (151, (.int .i64 (p0.length : Int))), (152, (.int .i64 lp4_0))] a ∧ Hp Z ρ2 (Pt b15 (.cells #[(.int .i64 x18.hash), (.int .i64 x18.at_)] 65 (0, 0)) :: MapA b2 (b3 : List (Overlap × Bool)) :: L) w)) ?_ ?_
                      · refine k_loop hb21 (fun s a w => Env 210 [(1, vp1), (2, (.int .i64 p2)), (7, vr3), (19, (.pointer (some ⟨b15, 0, none⟩))), (150, vp0), (151, (.int .i64 (p0.length : Int))), (152, (.int .i64 lp4_0)), (156, vp1), (157, (.int .i64 (p1.length : Int))), (158, (.int .i64 s))] a ∧ Hp Z ρ2 (Pt b15 (.cells #[(.int .i64 x18.hash), (.int .i64 x18.at_)] 65 (0, 0)) :: MapA b2 (b3 : List (Overlap × Bool)) :: L) w) ?_ ?_
                        · exact ⟨hE.cut ⟨rfl, rfl, rfl, rfl, rfl, rfl, rfl, rfl, rfl, rfl, trivial⟩, hp⟩
                        · rintro lp5_0 st a w ⟨hE, hp⟩ hl5
                          have hE : Env 210 [(1, vp1), (2, (.int .i64 p2)), (7, vr3), (19, (.pointer (some ⟨b15, 0, none⟩))), (150, vp0), (151, (.int .i64 (p0.length : Int))), (152, (.int .i64 lp4_0)), (156, vp1), (157, (.int .i64 (p1.length : Int))), (158, (.int .i64 lp5_0))] a := hE
                          have hp : Hp Z ρ2 (_ :: _ :: L) w := hp
                          replace hl5 : m_assessorlaw44_SimilarityMatches_lp5 p1 p2 x3 x18 lp5_0 = some st := hl5
                          unfold m_assessorlaw44_SimilarityMatches_lp5 at hl5
                          refine k_seq ?_
                          refine k_region ?_
                          refine s_val (wk0 rfl) rfl rfl hE hp (v := (.bool (decide (lp5_0 < (p1.length : Int))))) (ex_lss rfl hE rfl rfl) ?_
                          intro a hE
                          refine s_nil ?_
                          refine k_seq ?_
                          refine k_if hE rfl (fun hb22 => ?_) (fun hb22 => ?_)
                          · replace hl5 := (it hb22).symm.trans hl5
                            refine k_skip ?_
                            refine k_seq ?_
                            obtain ⟨j1, hj1, hl5⟩ := bnd hl5
                            refine k_block (fun a w => ∃ s : Unit, j1 = .brk s ∧ (Env 210 [(1, vp1), (2, (.int .i64 p2)), (7, vr3), (19, (.pointer (some ⟨b15, 0, none⟩))), (150, vp0), (151, (.int .i64 (p0.length : Int))), (152, (.int .i64 lp4_0)), (156, vp1), (157, (.int .i64 (p1.length : Int))), (158, (.int .i64 lp5_0))] a ∧ Hp Z ρ2 (Pt b15 (.cells #[(.int .i64 x18.hash), (.int .i64 x18.at_)] 65 (0, 0)) :: MapA b2 (b3 : List (Overlap × Bool)) :: L) w)) ?_ ?_
                            ·
                              refine k_seq ?_
                              refine k_region ?_
                              obtain ⟨x19, ex19, hj1⟩ := bnd hj1
                              obtain ⟨b17, b17o, b17c, b17r, b17k, b17f⟩ := RoSl.at (RoSl.mono (RoSl.mono (RoSl.mono hp1 (PH.le_un _ k1)) hle1) hle2) slty26 ex19
                              obtain rfl : b17c = Enc.enc x19 := b17k
                              have b17f : AtP ρ2 b17 b17o [(.int .i64 x19.hash), (.int .i64 x19.at_)] := b17f
                              refine s_val (wk0 rfl) rfl rfl hE hp (v := (.pointer (some ⟨b17, b17o, none⟩))) (ex_index rfl hE rfl rfl b17r) ?_
                              intro a hE
                              refine s_val (wk0 rfl) rfl rfl hE hp (v := (.agg #[(.int .i64 x19.hash), (.int .i64 x19.at_)])) (ex_load rfl hE rfl (fun w hw => run_ldN (cs := [(.int .i64 x19.hash), (.int .i64 x19.at_)]) varty65 (fun j u hj => cell_of hw.le (b17f j u hj)))) ?_
                              intro a hE
                              refine s_new (wk0 rfl) rfl rfl hE hp rfl [(.int .i64 0), (.int .i64 0)] (fun w => by simp [Instr.alloc, go_sem] <;> rfl) ?_
                              intro a w b18 hE hp
                              have hp : Hp Z ρ2 (Pt b18 (.cells #[(.int .i64 0), (.int .i64 0)] 65 (0, 0)) :: _ :: _ :: L) w := hp
                              refine s_store (wk0 rfl) rfl hE hp rfl rfl rfl 0 rfl varty65.size_ rfl (allOne_mem ⟨rfl, rfl, trivial⟩) [(.int .i64 x19.hash), (.int .i64 x19.at_)] rfl ?_
                              intro w hp
                              have hp : Hp Z ρ2 (Pt b18 (.cells #[(.int .i64 x19.hash), (.int .i64 x19.at_)] 65 (0, 0)) :: _ :: _ :: L) w := hp
                              refine s_nil ?_
                              refine k_seq ?_
                              refine k_seq ?_
                              refine k_region ?_
                              refine s_val (wk0 rfl) rfl rfl hE hp (v := (.pointer (some ⟨b15, 0, none⟩))) (ex_field rfl hE rfl (fldty65_0 _ _)) ?_
                              intro a hE
                              refine s_val (wk0 rfl) rfl rfl hE hp (v := (.int .i64 x18.hash)) (ex_load rfl hE rfl (fun w hw => run_ld1 varty3 (Hp.c 1 rfl 0 rfl w hw))) ?_
                              intro a hE
                              refine s_val (wk0 rfl) rfl rfl hE hp (v := (.pointer (some ⟨b18, 0, none⟩))) (ex_field rfl hE rfl (fldty65_0 _ _)) ?_
                              intro a hE
                              refine s_val (wk0 rfl) rfl rfl hE hp (v := (.int .i64 x19.hash)) (ex_load rfl hE rfl (fun w hw => run_ld1 varty3 (Hp.c 0 rfl 0 rfl w hw))) ?_
                              intro a hE
                              refine s_val (wk0 rfl) rfl rfl hE hp (v := (.bool (!decide (x18.hash = x19.hash)))) (ex_neq rfl hE rfl rfl) ?_
                              intro a hE
                              refine s_nil ?_
                              refine k_if hE rfl (fun hb23 => ?_) (fun hb23 => ?_)
                              · replace hj1 := (it hb23).symm.trans hj1
                                refine k_exit ?_
                                obtain rfl := Option.some.inj hj1
                                exact ⟨_, rfl, hE.cut ⟨rfl, rfl, rfl, rfl, rfl, rfl, rfl, rfl, rfl, rfl, trivial⟩, (hp.drop)⟩
                              · replace hj1 := (ie hb23).symm.trans hj1
                                refine k_skip ?_
                                refine k_seq ?_
                                refine k_region ?_
                                refine s_val (wk0 rfl) rfl rfl hE hp (v := (.int .i64 0)) (ex_asn rfl hE rfl) ?_
                                intro a hE
                                refine s_nil ?_
                                refine k_seq ?_
                                refine k_seq ?_
                                refine k_region ?_
                                refine s_val (wk0 rfl) rfl rfl hE hp (v := vr3) (ex_move rfl hE rfl) ?_
                                intro a hE
                                refine s_val (wk0 rfl) rfl rfl hE hp (v := (.int .i64 (x3.1.length : Int))) (ex_len rfl hE rfl (RoSl.len (RoSl.mono hr3 hle2) slty56)) ?_
                                intro a hE
                                refine s_val (wk0 rfl) rfl rfl hE hp (v := (.int .i64 0)) (ex_move rfl hE rfl) ?_
                                intro a hE
                                refine s_nil ?_
                                obtain ⟨b19, hb24, hj1⟩ := bnd hj1
                                refine k_block (fun a w => Env 210 [(1, vp1), (2, (.int .i64 p2)), (7, vr3), (19, (.pointer (some ⟨b15, 0, none⟩))), (22, (.int .i64 b19)), (150, vp0), (151, (.int .i64 (p0.length : Int))), (152, (.int .i64 lp4_0)), (156, vp1), (157, (.int .i64 (p1.length : Int))), (158, (.int .i64 lp5_0))] a ∧ Hp Z ρ2 (Pt b18 (.cells #[(.int .i64 x19.hash), (.int .i64 x19.at_)] 65 (0, 0)) :: Pt b15 (.cells #[(.int .i64 x18.hash), (.int .i64 x18.at_)] 65 (0, 0)) :: MapA b2 (b3 : List (Overlap × Bool)) :: L) w) ?_ ?_
                                · refine k_loop hb24 (fun s a w => Env 210 [(1, vp1), (2, (.int .i64 p2)), (7, vr3), (19, (.pointer (some ⟨b15, 0, none⟩))), (21, (.pointer (some ⟨b18, 0, none⟩))), (22, (.int .i64 s.1)), (150, vp0), (151, (.int .i64 (p0.length : Int))), (152, (.int .i64 lp4_0)), (156, vp1), (157, (.int .i64 (p1.length : Int))), (158, (.int .i64 lp5_0)), (167, vr3), (168, (.int .i64 (x3.1.length : Int))), (169, (.int .i64 s.2))] a ∧ Hp Z ρ2 (Pt b18 (.cells #[(.int .i64 x19.hash), (.int .i64 x19.at_)] 65 (0, 0)) :: Pt b15 (.cells #[(.int .i64 x18.hash), (.int .i64 x18.at_)] 65 (0, 0)) :: MapA b2 (b3 : List (Overlap × Bool)) :: L) w) ?_ ?_
                                  · exact ⟨hE.cut ⟨rfl, rfl, rfl, rfl, rfl, rfl, rfl, rfl, rfl, rfl, rfl, rfl, rfl, rfl, rfl, trivial⟩, hp⟩
                                  · rintro ⟨lp6_0, lp6_1⟩ st a w ⟨hE, hp⟩ hl6
                                    have hE : Env 210 [(1, vp1), (2, (.int .i64 p2)), (7, vr3), (19, (.pointer (some ⟨b15, 0, none⟩))), (21, (.pointer (some ⟨b18, 0, none⟩))), (22, (.int .i64 lp6_0)), (150, vp0), (151, (.int .i64 (p0.length : Int))), (152, (.int .i64 lp4_0)), (156, vp1), (157, (.int .i64 (p1.length : Int))), (158, (.int .i64 lp5_0)), (167, vr3), (168, (.int .i64 (x3.1.length : Int))), (169, (.int .i64 lp6_1))] a := hE
                                    have hp : Hp Z ρ2 (_ :: _ :: _ :: L) w := hp
                                    replace hl6 : m_assessorlaw44_SimilarityMatches_lp6 p2 x3 x18 x19 lp6_0 lp6_1 = some st := hl6
                                    unfold m_assessorlaw44_SimilarityMatches_lp6 at hl6
                                    refine k_seq ?_
                                    refine k_region ?_
                                    refine s_val (wk0 rfl) rfl rfl hE hp (v := (.bool (decide (lp6_1 < (x3.1.length : Int))))) (ex_lss rfl hE rfl rfl) ?_
                                    intro a hE
                                    refine s_nil ?_
                                    refine k_seq ?_
                                    refine k_if hE rfl (fun hb25 => ?_) (fun hb25 => ?_)
                                    · replace hl6 := (it hb25).symm.trans hl6
                                      refine k_skip ?_
                                      refine k_seq ?_
                                      refine k_plain ?_
                                      refine k_seq ?_
                                      refine k_region ?_
                                      obtain ⟨x20, ex20, hl6⟩ := bnd hl6
                                      obtain ⟨b20, b20o, b20c, b20r, b20k, b20f⟩ := RoSl.at (RoSl.mono hr3 hle2) slty56 ex20
                                      obtain rfl : b20c = Enc.enc x20 := b20k
                                      have b20f : AtP ρ2 b20 b20o [(.int .i64 x20.a), (.int .i64 x20.b), (.int .i64 x20.len)] := b20f
                                      refine s_val (wk0 rfl) rfl rfl hE hp (v := (.pointer (some ⟨b20, b20o, none⟩))) (ex_index rfl hE rfl rfl b20r) ?_
                                      intro a hE
                                      refine s_val (wk0 rfl) rfl rfl hE hp (v := (.agg #[(.int .i64 x20.a), (.int .i64 x20.b), (.int .i64 x20.len)])) (ex_load rfl hE rfl (fun w hw => run_ldN (cs := [(.int .i64 x20.a), (.int .i64 x20.b), (.int .i64 x20.len)]) varty63 (fun j u hj => cell_of hw.le (b20f j u hj)))) ?_
                                      intro a hE
                                      refine s_new (wk0 rfl) rfl rfl hE hp rfl [(.int .i64 0), (.int .i64 0), (.int .i64 0)] (fun w => by simp [Instr.alloc, go_sem] <;> rfl) ?_
                                      intro a w b21 hE hp
                                      have hp : Hp Z ρ2 (Pt b21 (.cells #[(.int .i64 0), (.int .i64 0), (.int .i64 0)] 63 (0, 0)) :: _ :: _ :: _ :: L) w := hp
                                      refine s_store (wk0 rfl) rfl hE hp rfl rfl rfl 0 rfl varty63.size_ rfl (allOne_mem ⟨rfl, rfl, rfl, trivial⟩) [(.int .i64 x20.a), (.int .i64 x20.b), (.int .i64 x20.len)] rfl ?_
                                      intro w hp
                                      have hp : Hp Z ρ2 (Pt b21 (.cells #[(.int .i64 x20.a), (.int .i64 x20.b), (.int .i64 x20.len)] 63 (0, 0)) :: _ :: _ :: _ :: L) w := hp
                                      refine s_nil ?_
                                      have hE := hE.cut (E' := [(1, vp1), (2, (.int .i64 p2)), (7, vr3), (19, (.pointer (some ⟨b15, 0, none⟩))), (21, (.pointer (some ⟨b18, 0, none⟩))), (22, (.int .i64 lp6_0)), (24, (.pointer (some ⟨b21, 0, none⟩))), (150, vp0), (151, (.int .i64 (p0.length : Int))), (152, (.int .i64 lp4_0)), (156, vp1), (157, (.int .i64 (p1.length : Int))), (158, (.int .i64 lp5_0)), (167, vr3), (168, (.int .i64 (x3.1.length : Int))), (169, (.int .i64 lp6_1))]) ⟨rfl, rfl, rfl, rfl, rfl, rfl, rfl, rfl, rfl, rfl, rfl, rfl, rfl, rfl, rfl, rfl, trivial⟩
                                      refine k_seq ?_
                                      refine k_region ?_
                                      refine s_val (wk0 rfl) rfl rfl hE hp (v := (.pointer (some ⟨b21, 1, none⟩))) (ex_field rfl hE rfl (fldty63_1 _ _)) ?_
                                      intro a hE
                                      refine s_val (wk0 rfl) rfl rfl hE hp (v := (.int .i64 x20.b)) (ex_load rfl hE rfl (fun w hw => run_ld1 varty3 (Hp.c 0 rfl 1 rfl w hw))) ?_
                                      intro a hE
                                      refine s_val (wk0 rfl) rfl rfl hE hp (v := (.pointer (some ⟨b21, 0, none⟩))) (ex_field rfl hE rfl (fldty63_0 _ _)) ?_
                                      intro a hE
                                      refine s_val (wk0 rfl) rfl rfl hE hp (v := (.int .i64 x20.a)) (ex_load rfl hE rfl (fun w hw => run_ld1 varty3 (Hp.c 0 rfl 0 rfl w hw))) ?_
                                      intro a hE
                                      obtain ⟨x21, ex21, hl6⟩ := bnd hl6
                                      refine s_val (wk0 rfl) rfl rfl hE hp (v := (.int .i64 x21)) (ex_sub rfl hE rfl rfl (inK_some ex21)) ?_
                                      intro a hE
                                      refine s_val (wk0 rfl) rfl rfl hE hp (v := (.pointer (some ⟨b18, 1, none⟩))) (ex_field rfl hE rfl (fldty65_1 _ _)) ?_
                                      intro a hE
                                      refine s_val (wk0 rfl) rfl rfl hE hp (v := (.int .i64 x19.at_)) (ex_load rfl hE rfl (fun w hw => run_ld1 varty3 (Hp.c 1 rfl 1 rfl w hw))) ?_
                                      intro a hE
                                      refine s_val (wk0 rfl) rfl rfl hE hp (v := (.pointer (some ⟨b15, 1, none⟩))) (ex_field rfl hE rfl (fldty65_1 _ _)) ?_
                                      intro a hE
                                      refine s_val (wk0 rfl) rfl rfl hE hp (v := (.int .i64 x18.at_)) (ex_load rfl hE rfl (fun w hw => run_ld1 varty3 (Hp.c 2 rfl 1 rfl w hw))) ?_
                                      intro a hE
                                      obtain ⟨x22, ex22, hl6⟩ := bnd hl6
                                      refine s_val (wk0 rfl) rfl rfl hE hp (v := (.int .i64 x22)) (ex_sub rfl hE rfl rfl (inK_some ex22)) ?_
                                      intro a hE
                                      refine s_val (wk0 rfl) rfl rfl hE hp (v := (.bool (decide (x21 = x22)))) (ex_eql rfl hE rfl rfl) ?_
                                      intro a hE
                                      refine s_val (wk0 rfl) rfl rfl hE hp (v := (.bool (decide (x21 = x22)))) (ex_move rfl hE rfl) ?_
                                      intro a hE
                                      refine s_cut [_, _, _, _, _, _] (fun a w => Env 210 [(190, (.bool ((decide (x21 = x22)) && (decide (x20.a ≤ x18.at_))))), (1, vp1), (2, (.int .i64 p2)), (7, vr3), (19, (.pointer (some ⟨b15, 0, none⟩))), (21, (.pointer (some ⟨b18, 0, none⟩))), (22, (.int .i64 lp6_0)), (24, (.pointer (some ⟨b21, 0, none⟩))), (150, vp0), (151, (.int .i64 (p0.length : Int))), (152, (.int .i64 lp4_0)), (156, vp1), (157, (.int .i64 (p1.length : Int))), (158, (.int .i64 lp5_0)), (167, vr3), (168, (.int .i64 (x3.1.length : Int))), (169, (.int .i64 lp6_1))] a ∧ Hp Z ρ2 (Pt b21 (.cells #[(.int .i64 x20.a), (.int .i64 x20.b), (.int .i64 x20.len)] 63 (0, 0)) :: Pt b18 (.cells #[(.int .i64 x19.hash), (.int .i64 x19.at_)] 65 (0, 0)) :: Pt b15 (.cells #[(.int .i64 x18.hash), (.int .i64 x18.at_)] 65 (0, 0)) :: MapA b2 (b3 : List (Overlap × Bool)) :: L) w) ?_ ?_
                                      · rcases Bool.eq_false_or_eq_true (decide (x21 = x22)) with hb26 | hb26
                                        ·
                                          refine s_val (wk1 hE rfl rfl rfl hb26) rfl rfl hE hp (v := (.pointer (some ⟨b21, 0, none⟩))) (ex_field rfl hE rfl (fldty63_0 _ _)) ?_
                                          intro a hE
                                          refine s_val (wk1 hE rfl rfl rfl hb26) rfl rfl hE hp (v := (.int .i64 x20.a)) (ex_load rfl hE rfl (fun w hw => run_ld1 varty3 (Hp.c 0 rfl 0 rfl w hw))) ?_
                                          intro a hE
                                          refine s_val (wk1 hE rfl rfl rfl hb26) rfl rfl hE hp (v := (.pointer (some ⟨b15, 1, none⟩))) (ex_field rfl hE rfl (fldty65_1 _ _)) ?_
                                          intro a hE
                                          refine s_val (wk1 hE rfl rfl rfl hb26) rfl rfl hE hp (v := (.int .i64 x18.at_)) (ex_load rfl hE rfl (fun w hw => run_ld1 varty3 (Hp.c 2 rfl 1 rfl w hw))) ?_
                                          intro a hE
                                          refine s_val (wk1 hE rfl rfl rfl hb26) rfl rfl hE hp (v := (.bool (decide (x20.a ≤ x18.at_)))) (ex_leq rfl hE rfl rfl) ?_
                                          intro a hE
                                          refine s_val (wk0 rfl) rfl rfl hE hp (v := (.bool (decide (x20.a ≤ x18.at_)))) (ex_pick1 rfl hE rfl hb26 rfl) ?_
                                          intro a hE
                                          have hE := hE.eqv (v' := (.bool ((decide (x21 = x22)) && (decide (x20.a ≤ x18.at_))))) (by rw [hb26]; rfl)
                                          exact s_nil ⟨hE.cut ⟨rfl, rfl, rfl, rfl, rfl, rfl, rfl, rfl, rfl, rfl, rfl, rfl, rfl, rfl, rfl, rfl, rfl, trivial⟩, hp⟩
                                        ·
                                          refine s_skip (wk2 hE rfl rfl rfl hb26) rfl rfl hE ?_
                                          intro a hE
                                          refine s_skip (wk2 hE rfl rfl rfl hb26) rfl rfl hE ?_
                                          intro a hE
                                          refine s_skip (wk2 hE rfl rfl rfl hb26) rfl rfl hE ?_
                                          intro a hE
                                          refine s_skip (wk2 hE rfl rfl rfl hb26) rfl rfl hE ?_
                                          intro a hE
                                          refine s_skip (wk2 hE rfl rfl rfl hb26) rfl rfl hE ?_
                                          intro a hE
                                          refine s_val (wk0 rfl) rfl rfl hE hp (v := (.bool false)) (ex_pick0 rfl hE rfl hb26 rfl) ?_
                                          intro a hE
                                          have hE := hE.eqv (v' := (.bool ((decide (x21 = x22)) && (decide (x20.a ≤ x18.at_))))) (by rw [hb26]; rfl)
                                          exact s_nil ⟨hE.cut ⟨rfl, rfl, rfl, rfl, rfl, rfl, rfl, rfl, rfl, rfl, rfl, rfl, rfl, rfl, rfl, rfl, rfl, trivial⟩, hp⟩
                                      · rintro a w ⟨hE, hp⟩
                                        refine s_val (wk0 rfl) rfl rfl hE hp (v := (.bool ((decide (x21 = x22)) && (decide (x20.a ≤ x18.at_))))) (ex_move rfl hE rfl) ?_
                                        intro a hE
                                        obtain ⟨m5, hg5, hl6⟩ := bnd hl6
                                        refine s_cut [_, _, _, _, _, _, _, _, _, _, _] (fun a w => Env 210 [(202, (.bool m5)), (1, vp1), (2, (.int .i64 p2)), (7, vr3), (19, (.pointer (some ⟨b15, 0, none⟩))), (21, (.pointer (some ⟨b18, 0, none⟩))), (22, (.int .i64 lp6_0)), (150, vp0), (151, (.int .i64 (p0.length : Int))), (152, (.int .i64 lp4_0)), (156, vp1), (157, (.int .i64 (p1.length : Int))), (158, (.int .i64 lp5_0)), (167, vr3), (168, (.int .i64 (x3.1.length : Int))), (169, (.int .i64 lp6_1))] a ∧ Hp Z ρ2 (Pt b21 (.cells #[(.int .i64 x20.a), (.int .i64 x20.b), (.int .i64 x20.len)] 63 (0, 0)) :: Pt b18 (.cells #[(.int .i64 x19.hash), (.int .i64 x19.at_)] 65 (0, 0)) :: Pt b15 (.cells #[(.int .i64 x18.hash), (.int .i64 x18.at_)] 65 (0, 0)) :: MapA b2 (b3 : List (Overlap × Bool)) :: L) w) ?_ ?_
                                        · rcases Bool.eq_false_or_eq_true ((decide (x21 = x22)) && (decide (x20.a ≤ x18.at_))) with hb27 | hb27
                                          ·
                                            replace hg5 := (it hb27).symm.trans hg5
                                            refine s_val (wk1 hE rfl rfl rfl hb27) rfl rfl hE hp (v := (.pointer (some ⟨b15, 1, none⟩))) (ex_field rfl hE rfl (fldty65_1 _ _)) ?_
                                            intro a hE
                                            refine s_val (wk1 hE rfl rfl rfl hb27) rfl rfl hE hp (v := (.int .i64 x18.at_)) (ex_load rfl hE rfl (fun w hw => run_ld1 varty3 (Hp.c 2 rfl 1 rfl w hw))) ?_
                                            intro a hE
                                            refine s_val (wk1 hE rfl rfl rfl hb27) rfl rfl hE hp (v := (.int .i64 p2)) (ex_move rfl hE rfl) ?_
                                            intro a hE
                                            obtain ⟨x23, ex23, hg5⟩ := bnd hg5
                                            refine s_val (wk1 hE rfl rfl rfl hb27) rfl rfl hE hp (v := (.int .i64 x23)) (ex_add rfl hE rfl rfl (inK_some ex23)) ?_
                                            intro a hE
                                            refine s_val (wk1 hE rfl rfl rfl hb27) rfl rfl hE hp (v := (.pointer (some ⟨b21, 0, none⟩))) (ex_field rfl hE rfl (fldty63_0 _ _)) ?_
                                            intro a hE
                                            refine s_val (wk1 hE rfl rfl rfl hb27) rfl rfl hE hp (v := (.int .i64 x20.a)) (ex_load rfl hE rfl (fun w hw => run_ld1 varty3 (Hp.c 0 rfl 0 rfl w hw))) ?_
                                            intro a hE
                                            refine s_val (wk1 hE rfl rfl rfl hb27) rfl rfl hE hp (v := (.pointer (some ⟨b21, 2, none⟩))) (ex_field rfl hE rfl (fldty63_2 _ _)) ?_
                                            intro a hE
                                            refine s_val (wk1 hE rfl rfl rfl hb27) rfl rfl hE hp (v := (.int .i64 x20.len)) (ex_load rfl hE rfl (fun w hw => run_ld1 varty3 (Hp.c 0 rfl 2 rfl w hw))) ?_
                                            intro a hE
                                            obtain ⟨x24, ex24, hg5⟩ := bnd hg5
                                            refine s_val (wk1 hE rfl rfl rfl hb27) rfl rfl hE hp (v := (.int .i64 x24)) (ex_add rfl hE rfl rfl (inK_some ex24)) ?_
                                            intro a hE
                                            refine s_val (wk1 hE rfl rfl rfl hb27) rfl rfl hE hp (v := (.bool (decide (x23 ≤ x24)))) (ex_leq rfl hE rfl rfl) ?_
                                            intro a hE
                                            refine s_val (wk0 rfl) rfl rfl hE hp (v := (.bool (decide (x23 ≤ x24)))) (ex_pick1 rfl hE rfl hb27 rfl) ?_
                                            intro a hE
                                            obtain rfl := Option.some.inj hg5
                                            exact s_nil ⟨hE.cut ⟨rfl, rfl, rfl, rfl, rfl, rfl, rfl, rfl, rfl, rfl, rfl, rfl, rfl, rfl, rfl, rfl, trivial⟩, hp⟩
                                          ·
                                            replace hg5 := (ie hb27).symm.trans hg5
                                            refine s_skip (wk2 hE rfl rfl rfl hb27) rfl rfl hE ?_
                                            intro a hE
                                            refine s_skip (wk2 hE rfl rfl rfl hb27) rfl rfl hE ?_
                                            intro a hE
                                            refine s_skip (wk2 hE rfl rfl rfl hb27) rfl rfl hE ?_
                                            intro a hE
                                            refine s_skip (wk2 hE rfl rfl rfl hb27) rfl rfl hE ?_
                                            intro a hE
                                            refine s_skip (wk2 hE rfl rfl rfl hb27) rfl rfl hE ?_
                                            intro a hE
                                            refine s_skip (wk2 hE rfl rfl rfl hb27) rfl rfl hE ?_
                                            intro a hE
                                            refine s_skip (wk2 hE rfl rfl rfl hb27) rfl rfl hE ?_
                                            intro a hE
                                            refine s_skip (wk2 hE rfl rfl rfl hb27) rfl rfl hE ?_
                                            intro a hE
                                            refine s_skip (wk2 hE rfl rfl rfl hb27) rfl rfl hE ?_
                                            intro a hE
                                            refine s_skip (wk2 hE rfl rfl rfl hb27) rfl rfl hE ?_
                                            intro a hE
                                            refine s_val (wk0 rfl) rfl rfl hE hp (v := (.bool false)) (ex_pick0 rfl hE rfl hb27 rfl) ?_
                                            intro a hE
                                            obtain rfl := Option.some.inj hg5
                                            exact s_nil ⟨hE.cut ⟨rfl, rfl, rfl, rfl, rfl, rfl, rfl, rfl, rfl, rfl, rfl, rfl, rfl, rfl, rfl, rfl, trivial⟩, hp⟩
                                        · rintro a w ⟨hE, hp⟩
                                          refine s_nil ?_
                                          refine k_if hE rfl (fun hb28 => ?_) (fun hb28 => ?_)
                                          · replace hl6 := (it hb28).symm.trans hl6
                                            refine k_region ?_
                                            refine s_val (wk0 rfl) rfl rfl hE hp (v := (.int .i64 lp6_0)) (ex_move rfl hE rfl) ?_
                                            intro a hE
                                            obtain ⟨x25, ex25, hl6⟩ := bnd hl6
                                            refine s_val (wk0 rfl) rfl rfl hE hp (v := (.int .i64 x25)) (ex_add rfl hE rfl rfl (inK_some ex25)) ?_
                                            intro a hE
                                            refine s_val (wk0 rfl) rfl rfl hE hp (v := (.int .i64 x25)) (ex_asn rfl hE rfl) ?_
                                            intro a hE
                                            refine s_nil ?_
                                            refine k_region ?_
                                            obtain ⟨x26, ex26, hl6⟩ := bnd hl6
                                            refine s_val (wk0 rfl) rfl rfl hE hp (v := (.int .i64 x26)) (ex_add rfl hE rfl rfl (inK_some ex26)) ?_
                                            intro a hE
                                            refine s_val (wk0 rfl) rfl rfl hE hp (v := (.int .i64 x26)) (ex_move rfl hE rfl) ?_
                                            intro a hE
                                            refine s_nil ?_
                                            exact ⟨_, (Option.some.inj hl6).symm, hE.cut ⟨rfl, rfl, rfl, rfl, rfl, rfl, rfl, rfl, rfl, rfl, rfl, rfl, rfl, rfl, rfl, trivial⟩, (hp.drop)⟩
                                          · replace hl6 := (ie hb28).symm.trans hl6
                                            refine k_skip ?_
                                            refine k_region ?_
                                            obtain ⟨x27, ex27, hl6⟩ := bnd hl6
                                            refine s_val (wk0 rfl) rfl rfl hE hp (v := (.int .i64 x27)) (ex_add rfl hE rfl rfl (inK_some ex27)) ?_
                                            intro a hE
                                            refine s_val (wk0 rfl) rfl rfl hE hp (v := (.int .i64 x27)) (ex_move rfl hE rfl) ?_
                                            intro a hE
                                            refine s_nil ?_
                                            exact ⟨_, (Option.some.inj hl6).symm, hE.cut ⟨rfl, rfl, rfl, rfl, rfl, rfl, rfl, rfl, rfl, rfl, rfl, rfl, rfl, rfl, rfl, trivial⟩, (hp.drop)⟩
                                    · replace hl6 := (ie hb25).symm.trans hl6
                                      refine k_exit ?_
                                      refine ⟨_, (Option.some.inj hl6).symm, fun hbb => ?_⟩
                                      subst hbb
                                      exact ⟨hE.cut ⟨rfl, rfl, rfl, rfl, rfl, rfl, rfl, rfl, rfl, rfl, rfl, trivial⟩, hp⟩
                                · rintro a w ⟨hE, hp⟩
                                  refine k_seq ?_
                                  refine k_region ?_
                                  refine s_val (wk0 rfl) rfl rfl hE hp (v := (.int .i64 b19)) (ex_move rfl hE rfl) ?_
                                  intro a hE
                                  refine s_val (wk0 rfl) rfl rfl hE hp (v := (.bool (!decide (b19 = 1)))) (ex_neq rfl hE rfl rfl) ?_
                                  intro a hE
                                  refine s_nil ?_
                                  have hE := hE.cut (E' := [(1, vp1), (2, (.int .i64 p2)), (7, vr3), (19, (.pointer (some ⟨b15, 0, none⟩))), (150, vp0), (151, (.int .i64 (p0.length : Int))), (152, (.int .i64 lp4_0)), (156, vp1), (157, (.int .i64 (p1.length : Int))), (158, (.int .i64 lp5_0)), (207, (.bool (!decide (b19 = 1))))]) ⟨rfl, rfl, rfl, rfl, rfl, rfl, rfl, rfl, rfl, rfl, rfl, trivial⟩
                                  refine k_if hE rfl (fun hb29 => ?_) (fun hb29 => ?_)
                                  · replace hj1 := (it hb29).symm.trans hj1
                                    refine k_seq ?_
                                    refine k_region ?_
                                    refine s_val (wk0 rfl) rfl rfl hE hp (v := (.bool false)) (ex_asn rfl hE rfl) ?_
                                    intro a hE
                                    refine s_nil ?_
                                    refine k_ret ?_
                                    obtain rfl := Option.some.inj hj1
                                    refine ⟨_, (Option.some.inj hl5).symm, fun hb => ?_⟩
                                    subst hb
                                    refine ⟨_, (Option.some.inj hl4).symm, fun hb => ?_⟩
                                    subst hb
                                    obtain rfl := Option.some.inj hm
                                    exact ret1 hE rfl rfl ⟨_, rfl, rfl, ((((((((hp.get 2 rfl).drop).get 1 rfl).drop).drop).less hle2).less hle1).less (PH.le_un _ k1))⟩
                                  · replace hj1 := (ie hb29).symm.trans hj1
                                    refine k_skip ?_
                                    obtain rfl := Option.some.inj hj1
                                    exact ⟨_, rfl, hE.cut ⟨rfl, rfl, rfl, rfl, rfl, rfl, rfl, rfl, rfl, rfl, trivial⟩, (hp.drop)⟩
                            · rintro a w ⟨j1s, rfl, hE, hp⟩
                              dsimp only at hl5
                              refine k_region ?_
                              obtain ⟨x28, ex28, hl5⟩ := bnd hl5
                              refine s_val (wk0 rfl) rfl rfl hE hp (v := (.int .i64 x28)) (ex_add rfl hE rfl rfl (inK_some ex28)) ?_
                              intro a hE
                              refine s_val (wk0 rfl) rfl rfl hE hp (v := (.int .i64 x28)) (ex_move rfl hE rfl) ?_
                              intro a hE
                              refine s_nil ?_
                              exact ⟨_, (Option.some.inj hl5).symm, hE.cut ⟨rfl, rfl, rfl, rfl, rfl, rfl, rfl, rfl, rfl, rfl, trivial⟩, hp⟩
                          · replace hl5 := (ie hb22).symm.trans hl5
                            refine k_exit ?_
                            refine ⟨_, (Option.some.inj hl5).symm, fun hbb => ?_⟩
                            exact ⟨_, hbb.symm, hE.cut ⟨rfl, rfl, rfl, rfl, rfl, rfl, trivial⟩, hp⟩
                      · rintro a w ⟨b16s, rfl, hE, hp⟩
                        dsimp only at hl4
                        refine k_region ?_
                        obtain ⟨x29, ex29, hl4⟩ := bnd hl4
                        refine s_val (wk0 rfl) rfl rfl hE hp (v := (.int .i64 x29)) (ex_add rfl hE rfl rfl (inK_some ex29)) ?_
                        intro a hE
                        refine s_val (wk0 rfl) rfl rfl hE hp (v := (.int .i64 x29)) (ex_move rfl hE rfl) ?_
                        intro a hE
                        refine s_nil ?_
                        exact ⟨_, (Option.some.inj hl4).symm, hE.cut ⟨rfl, rfl, rfl, rfl, rfl, rfl, trivial⟩, (hp.drop)⟩
                    · replace hl4 := (ie hb20).symm.trans hl4
                      refine k_exit ?_
                      refine ⟨_, (Option.some.inj hl4).symm, fun hbb => ?_⟩
                      exact ⟨_, hbb.symm, hE.cut trivial, hp⟩
                · rintro a w ⟨b13s, rfl, hE, hp⟩
                  dsimp only at hm
                  refine k_seq ?_
                  refine k_region ?_
                  refine s_val (wk0 rfl) rfl rfl hE hp (v := (.bool true)) (ex_asn rfl hE rfl) ?_
                  intro a hE
                  refine s_nil ?_
                  refine k_ret ?_
                  obtain rfl := Option.some.inj hm
                  exact ret1 hE rfl rfl ⟨_, rfl, rfl, ((((hp.drop).less hle2).less hle1).less (PH.le_un _ k1))⟩
end Go.Proofs.Ytmfepkadggigpaa

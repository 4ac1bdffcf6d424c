/-
  The code goes as its model: assessor/assessorlaw44.SimilarityOverlaps. (Printed by wip/sp/gen.py.)
-/
import Derived.Test.YtmfepkadggigpaaWOM
import Derived.Test.YtmfepkadggigpaaFct
import Derived.Test.YtmfepkadggigpaaWS
import Derived.Test.YtmfepkadggigpaaROS
set_option linter.unusedVariables false
set_option linter.unusedSimpArgs false
namespace Go.Proofs.Ytmfepkadggigpaa
open Go.RowKit

/- assessor/assessorlaw44.SimilarityOverlaps -/
set_option maxRecDepth 100000 in
set_option maxHeartbeats 4000000 in
theorem c_assessorlaw44_SimilarityOverlaps {Z : World} {ρ : PH} {L : List Atom} {w : World} (p0 : (List Mark)) (vp0 : Value) (hp0 : RoSl ρ vp0 p0) (p1 : (List Mark)) (vp1 : Value) (hp1 : RoSl ρ vp1 p1) (p2 : Int) (hp : Hp Z ρ (L) w) (r : Bool) (hm : m_assessorlaw44_SimilarityOverlaps p0 p1 p2 = some r) :
    Calls Try.prog 8 #[vp0, vp1, (.int .i64 p2)] w (Ret fun v w' => v = (.bool r) ∧ Hp Z ρ (L) w') := by
  refine enter (N := 58) Try.func8 rfl rfl [(0, vp0), (1, vp1), (2, (.int .i64 p2))] rfl (argsIn_mem ⟨rfl, rfl, rfl, trivial⟩) fun a hE => ?_
  unfold m_assessorlaw44_SimilarityOverlaps at hm
  refine k_seq ?_
  refine k_region ?_
  refine s_val (wk0 rfl) rfl rfl hE hp (v := (.bool false)) (ex_asn rfl hE rfl) ?_
  intro a hE
  refine s_nil ?_
  refine k_seq ?_
  refine k_seq ?_
  refine k_region ?_
  obtain ⟨x1, ex1, hm⟩ := bnd hm
  refine s_call (wk0 rfl) rfl rfl hE rfl [] trivial ent10 (c_assessorlaw44_awake  hp x1 ex1) Ret.ret ?_
  intro v a w hR hE
  obtain ⟨rfl, hp⟩ := Ret.of hR
  have hp : Hp Z ρ (L) w := hp
  refine s_val (wk0 rfl) rfl rfl hE hp (v := (.bool (!x1))) (ex_not rfl hE rfl) ?_
  intro a hE
  refine s_nil ?_
  refine k_if hE rfl (fun hb1 => ?_) (fun hb1 => ?_)
  · replace hm := (it hb1).symm.trans hm
    refine k_seq ?_
    refine k_region ?_
    refine s_val (wk0 rfl) rfl rfl hE hp (v := (.bool false)) (ex_asn rfl hE rfl) ?_
    intro a hE
    refine s_nil ?_
    refine k_ret ?_
    obtain rfl := Option.some.inj hm
    exact ret1 hE rfl rfl ⟨_, rfl, rfl, hp⟩
  · replace hm := (ie hb1).symm.trans hm
    refine k_skip ?_
    refine k_seq ?_
    refine k_seq ?_
    refine k_region ?_
    refine s_val (wk0 rfl) rfl rfl hE hp (v := vp0) (ex_move rfl hE rfl) ?_
    intro a hE
    refine s_val (wk0 rfl) rfl rfl hE hp (v := vp1) (ex_move rfl hE rfl) ?_
    intro a hE
    refine s_lit (wk0 rfl) rfl rfl hE hp rfl [(0, vp0), (1, vp1)] ⟨⟨rfl, rfl⟩, ⟨rfl, rfl⟩, trivial⟩ [vp0, vp1] 26 (fun w => by have hc0 := RoSl.cells hp0; simp only [Value.cells] at hc0; have hc1 := RoSl.cells hp1; simp only [Value.cells] at hc1; simp [Instr.buildSlice, Instr.fill, Value.cells, hc0, hc1, go_sem]) ?_
    intro a w b1 hE hp
    have hp : Hp Z ρ (Pt b1 (.cells #[vp0, vp1] 26 (0, 0)) :: L) w := hp
    obtain ⟨k1, k1a, k1d, hp⟩ := (hp.get 0 rfl).lend
    have f1 : RoSl (ρ.un k1) (.slice (some ⟨b1, 0, none⟩) 2 2) ([p0, p1] : List (List Mark)) := RoSl.of_all (l := (([p0, p1] : List (List Mark)))) k1d k1a ⟨_, _, rfl, ⟨_, rfl, ((RoSl.mono hp0 (PH.le_un _ k1)))⟩, ⟨_, _, rfl, ⟨_, rfl, ((RoSl.mono hp1 (PH.le_un _ k1)))⟩, rfl⟩⟩
    have hp : Hp Z (ρ.un k1) (L) w := hp
    obtain ⟨x2, ex2, hm⟩ := bnd hm
    refine s_call (wk0 rfl) rfl rfl hE rfl [(.slice (some ⟨b1, 0, none⟩) 2 2), (.int .i64 2), (.int .i64 25)] ⟨rfl, rfl, rfl, trivial⟩ ent11 (c_assessorlaw44_few ([p0, p1] : List (List Mark)) (.slice (some ⟨b1, 0, none⟩) 2 2) f1 2 25 hp x2 ex2) Ret.ret ?_
    intro v a w hR hE
    obtain ⟨rfl, hp⟩ := Ret.of hR
    have hp : Hp Z (ρ.un k1) (L) w := hp
    refine s_val (wk0 rfl) rfl rfl hE hp (v := (.bool (!x2))) (ex_not rfl hE rfl) ?_
    intro a hE
    refine s_val (wk0 rfl) rfl rfl hE hp (v := (.bool (!x2))) (ex_move rfl hE rfl) ?_
    intro a hE
    obtain ⟨m1, hg1, hm⟩ := bnd hm
    refine s_cut [_, _, _, _, _, _, _, _, _, _, _, _, _, _, _, _, _] (fun a w => Env 58 [(35, (.bool m1)), (0, vp0), (1, vp1), (2, (.int .i64 p2))] a ∧ Hp Z (ρ.un k1) (L) w) ?_ ?_
    · rcases Bool.eq_false_or_eq_true (!x2) with hb2 | hb2
      ·
        replace hg1 := (it hb2).symm.trans hg1
        refine s_val (wk1 hE rfl rfl rfl hb2) rfl rfl hE hp (v := vp0) (ex_move rfl hE rfl) ?_
        intro a hE
        refine s_val (wk1 hE rfl rfl rfl hb2) rfl rfl hE hp (v := (.int .i64 (p0.length : Int))) (ex_len rfl hE rfl (RoSl.len (RoSl.mono hp0 (PH.le_un _ k1)) slty26)) ?_
        intro a hE
        refine s_val (wk1 hE rfl rfl rfl hb2) rfl rfl hE hp (v := (.bool (decide ((p0.length : Int) ≤ 256)))) (ex_leq rfl hE rfl rfl) ?_
        intro a hE
        refine s_val (wk1 hE rfl rfl rfl hb2) rfl rfl hE hp (v := (.bool (decide ((p0.length : Int) ≤ 256)))) (ex_move rfl hE rfl) ?_
        intro a hE
        refine s_cut [_, _, _, _] (fun a w => Env 58 [(26, (.bool ((decide ((p0.length : Int) ≤ 256)) && (decide ((p1.length : Int) ≤ 256))))), (0, vp0), (1, vp1), (2, (.int .i64 p2)), (18, (.bool (!x2)))] a ∧ Hp Z (ρ.un k1) (L) w) ?_ ?_
        · rcases Bool.eq_false_or_eq_true (decide ((p0.length : Int) ≤ 256)) with hb3 | hb3
          ·
            refine s_val (wk1 hE rfl rfl rfl hb3) rfl rfl hE hp (v := vp1) (ex_move rfl hE rfl) ?_
            intro a hE
            refine s_val (wk1 hE rfl rfl rfl hb3) rfl rfl hE hp (v := (.int .i64 (p1.length : Int))) (ex_len rfl hE rfl (RoSl.len (RoSl.mono hp1 (PH.le_un _ k1)) slty26)) ?_
            intro a hE
            refine s_val (wk1 hE rfl rfl rfl hb3) rfl rfl hE hp (v := (.bool (decide ((p1.length : Int) ≤ 256)))) (ex_leq rfl hE rfl rfl) ?_
            intro a hE
            refine s_val (wk1 hE rfl rfl rfl hb2) rfl rfl hE hp (v := (.bool (decide ((p1.length : Int) ≤ 256)))) (ex_pick1 rfl hE rfl hb3 rfl) ?_
            intro a hE
            have hE := hE.eqv (v' := (.bool ((decide ((p0.length : Int) ≤ 256)) && (decide ((p1.length : Int) ≤ 256))))) (by rw [hb3]; rfl)
            exact s_nil ⟨hE.cut ⟨rfl, rfl, rfl, rfl, rfl, trivial⟩, hp⟩
          ·
            refine s_skip (wk2 hE rfl rfl rfl hb3) rfl rfl hE ?_
            intro a hE
            refine s_skip (wk2 hE rfl rfl rfl hb3) rfl rfl hE ?_
            intro a hE
            refine s_skip (wk2 hE rfl rfl rfl hb3) rfl rfl hE ?_
            intro a hE
            refine s_val (wk1 hE rfl rfl rfl hb2) rfl rfl hE hp (v := (.bool false)) (ex_pick0 rfl hE rfl hb3 rfl) ?_
            intro a hE
            have hE := hE.eqv (v' := (.bool ((decide ((p0.length : Int) ≤ 256)) && (decide ((p1.length : Int) ≤ 256))))) (by rw [hb3]; rfl)
            exact s_nil ⟨hE.cut ⟨rfl, rfl, rfl, rfl, rfl, trivial⟩, hp⟩
        · rintro a w ⟨hE, hp⟩
          refine s_val (wk1 hE rfl rfl rfl hb2) rfl rfl hE hp (v := (.bool ((decide ((p0.length : Int) ≤ 256)) && (decide ((p1.length : Int) ≤ 256))))) (ex_move rfl hE rfl) ?_
          intro a hE
          obtain ⟨m2, hg2, hg1⟩ := bnd hg1
          refine s_cut [_, _, _, _, _, _, _] (fun a w => Env 58 [(34, (.bool m2)), (0, vp0), (1, vp1), (2, (.int .i64 p2)), (18, (.bool (!x2)))] a ∧ Hp Z (ρ.un k1) (L) w) ?_ ?_
          · rcases Bool.eq_false_or_eq_true ((decide ((p0.length : Int) ≤ 256)) && (decide ((p1.length : Int) ≤ 256))) with hb4 | hb4
            ·
              replace hg2 := (it hb4).symm.trans hg2
              refine s_skip (wk2 hE rfl rfl rfl hb4) rfl rfl hE ?_
              intro a hE
              refine s_skip (wk2 hE rfl rfl rfl hb4) rfl rfl hE ?_
              intro a hE
              refine s_skip (wk2 hE rfl rfl rfl hb4) rfl rfl hE ?_
              intro a hE
              refine s_skip (wk2 hE rfl rfl rfl hb4) rfl rfl hE ?_
              intro a hE
              refine s_skip (wk2 hE rfl rfl rfl hb4) rfl rfl hE ?_
              intro a hE
              refine s_skip (wk2 hE rfl rfl rfl hb4) rfl rfl hE ?_
              intro a hE
              refine s_val (wk1 hE rfl rfl rfl hb2) rfl rfl hE hp (v := (.bool true)) (ex_pick1 rfl hE rfl hb4 rfl) ?_
              intro a hE
              obtain rfl := Option.some.inj hg2
              exact s_nil ⟨hE.cut ⟨rfl, rfl, rfl, rfl, rfl, trivial⟩, hp⟩
            ·
              replace hg2 := (ie hb4).symm.trans hg2
              refine s_val (wk1 hE rfl rfl rfl hb4) rfl rfl hE hp (v := vp0) (ex_move rfl hE rfl) ?_
              intro a hE
              refine s_val (wk1 hE rfl rfl rfl hb4) rfl rfl hE hp (v := (.int .i64 (p0.length : Int))) (ex_len rfl hE rfl (RoSl.len (RoSl.mono hp0 (PH.le_un _ k1)) slty26)) ?_
              intro a hE
              refine s_val (wk1 hE rfl rfl rfl hb4) rfl rfl hE hp (v := vp1) (ex_move rfl hE rfl) ?_
              intro a hE
              refine s_val (wk1 hE rfl rfl rfl hb4) rfl rfl hE hp (v := (.int .i64 (p1.length : Int))) (ex_len rfl hE rfl (RoSl.len (RoSl.mono hp1 (PH.le_un _ k1)) slty26)) ?_
              intro a hE
              obtain ⟨x3, ex3, hg2⟩ := bnd hg2
              refine s_val (wk1 hE rfl rfl rfl hb4) rfl rfl hE hp (v := (.int .i64 x3)) (ex_add rfl hE rfl rfl (inK_some ex3)) ?_
              intro a hE
              refine s_val (wk1 hE rfl rfl rfl hb4) rfl rfl hE hp (v := (.bool (decide (600 < x3)))) (ex_gtr rfl hE rfl rfl) ?_
              intro a hE
              refine s_val (wk1 hE rfl rfl rfl hb2) rfl rfl hE hp (v := (.bool (decide (600 < x3)))) (ex_pick0 rfl hE rfl hb4 rfl) ?_
              intro a hE
              obtain rfl := Option.some.inj hg2
              exact s_nil ⟨hE.cut ⟨rfl, rfl, rfl, rfl, rfl, trivial⟩, hp⟩
          · rintro a w ⟨hE, hp⟩
            refine s_val (wk0 rfl) rfl rfl hE hp (v := (.bool m2)) (ex_pick1 rfl hE rfl hb2 rfl) ?_
            intro a hE
            obtain rfl := Option.some.inj hg1
            exact s_nil ⟨hE.cut ⟨rfl, rfl, rfl, rfl, trivial⟩, hp⟩
      ·
        replace hg1 := (ie hb2).symm.trans hg1
        refine s_skip (wk2 hE rfl rfl rfl hb2) rfl rfl hE ?_
        intro a hE
        refine s_skip (wk2 hE rfl rfl rfl hb2) rfl rfl hE ?_
        intro a hE
        refine s_skip (wk2 hE rfl rfl rfl hb2) rfl rfl hE ?_
        intro a hE
        refine s_skip (wk2 hE rfl rfl rfl hb2) rfl rfl hE ?_
        intro a hE
        refine s_skip (wk3 hE rfl rfl rfl) rfl rfl hE ?_
        intro a hE
        refine s_skip (wk3 hE rfl rfl rfl) rfl rfl hE ?_
        intro a hE
        refine s_skip (wk3 hE rfl rfl rfl) rfl rfl hE ?_
        intro a hE
        refine s_skip (wk2 hE rfl rfl rfl hb2) rfl rfl hE ?_
        intro a hE
        refine s_skip (wk2 hE rfl rfl rfl hb2) rfl rfl hE ?_
        intro a hE
        refine s_skip (wk3 hE rfl rfl rfl) rfl rfl hE ?_
        intro a hE
        refine s_skip (wk3 hE rfl rfl rfl) rfl rfl hE ?_
        intro a hE
        refine s_skip (wk3 hE rfl rfl rfl) rfl rfl hE ?_
        intro a hE
        refine s_skip (wk3 hE rfl rfl rfl) rfl rfl hE ?_
        intro a hE
        refine s_skip (wk3 hE rfl rfl rfl) rfl rfl hE ?_
        intro a hE
        refine s_skip (wk3 hE rfl rfl rfl) rfl rfl hE ?_
        intro a hE
        refine s_skip (wk2 hE rfl rfl rfl hb2) rfl rfl hE ?_
        intro a hE
        refine s_val (wk0 rfl) rfl rfl hE hp (v := (.bool false)) (ex_pick0 rfl hE rfl hb2 rfl) ?_
        intro a hE
        obtain rfl := Option.some.inj hg1
        exact s_nil ⟨hE.cut ⟨rfl, rfl, rfl, rfl, trivial⟩, hp⟩
    · rintro a w ⟨hE, hp⟩
      refine s_nil ?_
      refine k_if hE rfl (fun hb5 => ?_) (fun hb5 => ?_)
      · replace hm := (it hb5).symm.trans hm
        refine k_seq ?_
        refine k_region ?_
        refine s_val (wk0 rfl) rfl rfl hE hp (v := (.bool true)) (ex_asn rfl hE rfl) ?_
        intro a hE
        refine s_nil ?_
        refine k_ret ?_
        obtain rfl := Option.some.inj hm
        exact ret1 hE rfl rfl ⟨_, rfl, rfl, (hp.less (PH.le_un _ k1))⟩
      · replace hm := (ie hb5).symm.trans hm
        refine k_skip ?_
        refine k_seq ?_
        refine k_region ?_
        refine s_val (wk0 rfl) rfl rfl hE hp (v := vp0) (ex_move rfl hE rfl) ?_
        intro a hE
        refine s_val (wk0 rfl) rfl rfl hE hp (v := vp1) (ex_move rfl hE rfl) ?_
        intro a hE
        refine s_val (wk0 rfl) rfl rfl hE hp (v := (.int .i64 p2)) (ex_move rfl hE rfl) ?_
        intro a hE
        obtain ⟨x4, ex4, hm⟩ := bnd hm
        refine s_call (wk0 rfl) rfl rfl hE rfl [vp0, vp1, (.int .i64 p2)] ⟨rfl, rfl, rfl, trivial⟩ ent29 (c_similarity_Overlaps p0 vp0 (RoSl.mono hp0 (PH.le_un _ k1)) p1 vp1 (RoSl.mono hp1 (PH.le_un _ k1)) p2 hp x4 ex4) Ret.ret ?_
        intro v a w hR hE
        obtain ⟨ρ1, vr3, hle1, rfl, hr3, hp⟩ := Ret.of hR
        have hp : Hp Z ρ1 (L) w := hp
        refine s_val (wk0 rfl) rfl rfl hE hp (v := (.tuple #[vr3, (.int .i64 x4.2)])) (ex_move rfl hE rfl) ?_
        intro a hE
        refine s_val (wk0 rfl) rfl rfl hE hp (v := vr3) (ex_extract rfl hE rfl rfl) ?_
        intro a hE
        refine s_val (wk0 rfl) rfl rfl hE hp (v := (.int .i64 x4.2)) (ex_extract rfl hE rfl rfl) ?_
        intro a hE
        refine s_val (wk0 rfl) rfl rfl hE hp (v := vr3) (ex_asn rfl hE rfl) ?_
        intro a hE
        refine s_val (wk0 rfl) rfl rfl hE hp (v := (.int .i64 x4.2)) (ex_asn rfl hE rfl) ?_
        intro a hE
        refine s_nil ?_
        refine k_seq ?_
        refine k_region ?_
        refine s_val (wk0 rfl) rfl rfl hE hp (v := vp0) (ex_move rfl hE rfl) ?_
        intro a hE
        refine s_val (wk0 rfl) rfl rfl hE hp (v := vp1) (ex_move rfl hE rfl) ?_
        intro a hE
        refine s_val (wk0 rfl) rfl rfl hE hp (v := (.int .i64 p2)) (ex_move rfl hE rfl) ?_
        intro a hE
        obtain ⟨x5, ex5, hm⟩ := bnd hm
        refine s_call (wk0 rfl) rfl rfl hE rfl [vp0, vp1, (.int .i64 p2)] ⟨rfl, rfl, rfl, trivial⟩ ent30 (c_assessorref44_Overlaps p0 vp0 (RoSl.mono (RoSl.mono hp0 (PH.le_un _ k1)) hle1) p1 vp1 (RoSl.mono (RoSl.mono hp1 (PH.le_un _ k1)) hle1) p2 hp x5 ex5) Ret.ret ?_
        intro v a w hR hE
        obtain ⟨vr5, rfl, hp⟩ := Ret.of hR
        have hp : Hp Z ρ1 (OwnSl 63 vr5 x5.1 :: L) w := hp
        refine s_val (wk0 rfl) rfl rfl hE hp (v := (.tuple #[vr5, (.int .i64 x5.2)])) (ex_move rfl hE rfl) ?_
        intro a hE
        refine s_val (wk0 rfl) rfl rfl hE hp (v := vr5) (ex_extract rfl hE rfl rfl) ?_
        intro a hE
        refine s_val (wk0 rfl) rfl rfl hE hp (v := (.int .i64 x5.2)) (ex_extract rfl hE rfl rfl) ?_
        intro a hE
        refine s_val (wk0 rfl) rfl rfl hE hp (v := vr5) (ex_asn rfl hE rfl) ?_
        intro a hE
        refine s_val (wk0 rfl) rfl rfl hE hp (v := (.int .i64 x5.2)) (ex_asn rfl hE rfl) ?_
        intro a hE
        refine s_nil ?_
        refine k_seq ?_
        refine k_region ?_
        refine s_val (wk0 rfl) rfl rfl hE hp (v := (.int .i64 x4.2)) (ex_move rfl hE rfl) ?_
        intro a hE
        refine s_val (wk0 rfl) rfl rfl hE hp (v := (.int .i64 x5.2)) (ex_move rfl hE rfl) ?_
        intro a hE
        refine s_val (wk0 rfl) rfl rfl hE hp (v := (.bool (decide (x4.2 = x5.2)))) (ex_eql rfl hE rfl rfl) ?_
        intro a hE
        refine s_val (wk0 rfl) rfl rfl hE hp (v := (.bool (decide (x4.2 = x5.2)))) (ex_move rfl hE rfl) ?_
        intro a hE
        obtain ⟨m3, hg3, hm⟩ := bnd hm
        refine s_cut [_, _, _, _] (fun a w => Env 58 [(57, (.bool m3))] a ∧ Hp Z ρ1 (OwnSl 63 vr5 x5.1 :: L) w) ?_ ?_
        · rcases Bool.eq_false_or_eq_true (decide (x4.2 = x5.2)) with hb6 | hb6
          ·
            replace hg3 := (it hb6).symm.trans hg3
            refine s_val (wk1 hE rfl rfl rfl hb6) rfl rfl hE hp (v := vr3) (ex_move rfl hE rfl) ?_
            intro a hE
            refine s_val (wk1 hE rfl rfl rfl hb6) rfl rfl hE hp (v := vr5) (ex_move rfl hE rfl) ?_
            intro a hE
            obtain ⟨k2, k2a, k2d, k2h⟩ := (hp.get 0 rfl).lend
            obtain ⟨x6, ex6, hg3⟩ := bnd hg3
            refine s_call (wk1 hE rfl rfl rfl hb6) rfl rfl hE rfl [vr3, vr5] ⟨rfl, rfl, trivial⟩ ent31 (c_assessorlaw44_overlaps x4.1 vr3 (RoSl.mono hr3 (PH.le_un _ _)) x5.1 vr5 (OwnSl.ro k2d k2a) k2h x6 ex6) Ret.ret ?_
            intro v a w hR hE
            obtain ⟨rfl, hp⟩ := Ret.of hR
            have hp := Hp.back k2a k2d hp
            have hp : Hp Z ρ1 (_ :: L) w := hp
            refine s_val (wk0 rfl) rfl rfl hE hp (v := (.bool x6)) (ex_pick1 rfl hE rfl hb6 rfl) ?_
            intro a hE
            obtain rfl := Option.some.inj hg3
            exact s_nil ⟨hE.cut ⟨rfl, trivial⟩, hp⟩
          ·
            replace hg3 := (ie hb6).symm.trans hg3
            refine s_skip (wk2 hE rfl rfl rfl hb6) rfl rfl hE ?_
            intro a hE
            refine s_skip (wk2 hE rfl rfl rfl hb6) rfl rfl hE ?_
            intro a hE
            refine s_skip (wk2 hE rfl rfl rfl hb6) rfl rfl hE ?_
            intro a hE
            refine s_val (wk0 rfl) rfl rfl hE hp (v := (.bool false)) (ex_pick0 rfl hE rfl hb6 rfl) ?_
            intro a hE
            obtain rfl := Option.some.inj hg3
            exact s_nil ⟨hE.cut ⟨rfl, trivial⟩, hp⟩
        · rintro a w ⟨hE, hp⟩
          refine s_val (wk0 rfl) rfl rfl hE hp (v := (.bool m3)) (ex_asn rfl hE rfl) ?_
          intro a hE
          refine s_nil ?_
          refine k_ret ?_
          obtain rfl := Option.some.inj hm
          exact ret1 hE rfl rfl ⟨_, rfl, rfl, (((hp.drop).less hle1).less (PH.le_un _ k1))⟩
end Go.Proofs.Ytmfepkadggigpaa

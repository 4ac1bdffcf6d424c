/-
  The code goes as its model: assessor/assessorlaw44.SimilarityClusters. (Printed by wip/sp/gen.py.)
-/
import Derived.Test.YtmfepkadggigpaaWKM
import Derived.Test.YtmfepkadggigpaaFct
import Derived.Test.YtmfepkadggigpaaWS
import Derived.Test.YtmfepkadggigpaaROS
set_option linter.unusedVariables false
set_option linter.unusedSimpArgs false
namespace Go.Proofs.Ytmfepkadggigpaa
open Go.RowKit

/- assessor/assessorlaw44.SimilarityClusters -/
set_option maxRecDepth 100000 in
set_option maxHeartbeats 4000000 in
theorem c_assessorlaw44_SimilarityClusters {Z : World} {ρ : PH} {L : List Atom} {w : World} (p0 : Int) (p1 : (List Pair)) (vp1 : Value) (hp1 : RoSl ρ vp1 p1) (hp : Hp Z ρ (L) w) (r : Bool) (hm : m_assessorlaw44_SimilarityClusters p0 p1 = some r) :
    Calls Try.prog 6 #[(.int .i64 p0), vp1] w (Ret fun v w' => v = (.bool r) ∧ Hp Z ρ (L) w') := by
  refine enter (N := 134) Try.func6 rfl rfl [(0, (.int .i64 p0)), (1, vp1)] rfl (argsIn_mem ⟨rfl, rfl, trivial⟩) fun a hE => ?_
  unfold m_assessorlaw44_SimilarityClusters at hm
  refine k_seq ?_
  refine k_region ?_
  refine s_val (wk0 rfl) rfl rfl hE hp (v := (.bool false)) (ex_asn rfl hE rfl) ?_
  intro a hE
  refine s_nil ?_
  refine k_seq ?_
  refine k_seq ?_
  refine k_region ?_
  obtain ⟨x1, ex1, hm⟩ := bnd hm
  refine s_call (wk0 rfl) rfl rfl hE rfl [] trivial ent10 (c_assessorlaw44_awake  hp x1 ex1) Ret.ret ?_
  intro v a w hR hE
  obtain ⟨rfl, hp⟩ := Ret.of hR
  have hp : Hp Z ρ (L) w := hp
  refine s_val (wk0 rfl) rfl rfl hE hp (v := (.bool (!x1))) (ex_not rfl hE rfl) ?_
  intro a hE
  refine s_nil ?_
  refine k_if hE rfl (fun hb1 => ?_) (fun hb1 => ?_)
  · replace hm := (it hb1).symm.trans hm
    refine k_seq ?_
    refine k_region ?_
    refine s_val (wk0 rfl) rfl rfl hE hp (v := (.bool false)) (ex_asn rfl hE rfl) ?_
    intro a hE
    refine s_nil ?_
    refine k_ret ?_
    obtain rfl := Option.some.inj hm
    exact ret1 hE rfl rfl ⟨_, rfl, rfl, hp⟩
  · replace hm := (ie hb1).symm.trans hm
    refine k_skip ?_
    refine k_seq ?_
    refine k_seq ?_
    refine k_region ?_
    refine s_val (wk0 rfl) rfl rfl hE hp (v := vp1) (ex_move rfl hE rfl) ?_
    intro a hE
    refine s_val (wk0 rfl) rfl rfl hE hp (v := (.int .i64 (p1.length : Int))) (ex_len rfl hE rfl (RoSl.len hp1 slty37)) ?_
    intro a hE
    refine s_val (wk0 rfl) rfl rfl hE hp (v := (.bool (decide (60 < (p1.length : Int))))) (ex_gtr rfl hE rfl rfl) ?_
    intro a hE
    refine s_val (wk0 rfl) rfl rfl hE hp (v := (.bool (decide (60 < (p1.length : Int))))) (ex_move rfl hE rfl) ?_
    intro a hE
    refine s_cut [_, _, _, _, _, _, _] (fun a w => Env 134 [(33, (.bool ((decide (60 < (p1.length : Int))) || ((decide (40 < p0)) && (decide (p0 ≤ 1024)))))), (0, (.int .i64 p0)), (1, vp1)] a ∧ Hp Z ρ (L) w) ?_ ?_
    · rcases Bool.eq_false_or_eq_true (decide (60 < (p1.length : Int))) with hb2 | hb2
      ·
        refine s_skip (wk2 hE rfl rfl rfl hb2) rfl rfl hE ?_
        intro a hE
        refine s_skip (wk2 hE rfl rfl rfl hb2) rfl rfl hE ?_
        intro a hE
        refine s_skip (wk2 hE rfl rfl rfl hb2) rfl rfl hE ?_
        intro a hE
        refine s_skip (wk3 hE rfl rfl rfl) rfl rfl hE ?_
        intro a hE
        refine s_skip (wk3 hE rfl rfl rfl) rfl rfl hE ?_
        intro a hE
        refine s_skip (wk2 hE rfl rfl rfl hb2) rfl rfl hE ?_
        intro a hE
        refine s_val (wk0 rfl) rfl rfl hE hp (v := (.bool true)) (ex_pick1 rfl hE rfl hb2 rfl) ?_
        intro a hE
        have hE := hE.eqv (v' := (.bool ((decide (60 < (p1.length : Int))) || ((decide (40 < p0)) && (decide (p0 ≤ 1024)))))) (by rw [hb2]; rfl)
        exact s_nil ⟨hE.cut ⟨rfl, rfl, rfl, trivial⟩, hp⟩
      ·
        refine s_val (wk1 hE rfl rfl rfl hb2) rfl rfl hE hp (v := (.int .i64 p0)) (ex_move rfl hE rfl) ?_
        intro a hE
        refine s_val (wk1 hE rfl rfl rfl hb2) rfl rfl hE hp (v := (.bool (decide (40 < p0)))) (ex_gtr rfl hE rfl rfl) ?_
        intro a hE
        refine s_val (wk1 hE rfl rfl rfl hb2) rfl rfl hE hp (v := (.bool (decide (40 < p0)))) (ex_move rfl hE rfl) ?_
        intro a hE
        refine s_cut [_, _, _] (fun a w => Env 134 [(32, (.bool ((decide (40 < p0)) && (decide (p0 ≤ 1024))))), (0, (.int .i64 p0)), (1, vp1), (26, (.bool (decide (60 < (p1.length : Int)))))] a ∧ Hp Z ρ (L) w) ?_ ?_
        · rcases Bool.eq_false_or_eq_true (decide (40 < p0)) with hb3 | hb3
          ·
            refine s_val (wk1 hE rfl rfl rfl hb3) rfl rfl hE hp (v := (.int .i64 p0)) (ex_move rfl hE rfl) ?_
            intro a hE
            refine s_val (wk1 hE rfl rfl rfl hb3) rfl rfl hE hp (v := (.bool (decide (p0 ≤ 1024)))) (ex_leq rfl hE rfl rfl) ?_
            intro a hE
            refine s_val (wk1 hE rfl rfl rfl hb2) rfl rfl hE hp (v := (.bool (decide (p0 ≤ 1024)))) (ex_pick1 rfl hE rfl hb3 rfl) ?_
            intro a hE
            have hE := hE.eqv (v' := (.bool ((decide (40 < p0)) && (decide (p0 ≤ 1024))))) (by rw [hb3]; rfl)
            exact s_nil ⟨hE.cut ⟨rfl, rfl, rfl, rfl, trivial⟩, hp⟩
          ·
            refine s_skip (wk2 hE rfl rfl rfl hb3) rfl rfl hE ?_
            intro a hE
            refine s_skip (wk2 hE rfl rfl rfl hb3) rfl rfl hE ?_
            intro a hE
            refine s_val (wk1 hE rfl rfl rfl hb2) rfl rfl hE hp (v := (.bool false)) (ex_pick0 rfl hE rfl hb3 rfl) ?_
            intro a hE
            have hE := hE.eqv (v' := (.bool ((decide (40 < p0)) && (decide (p0 ≤ 1024))))) (by rw [hb3]; rfl)
            exact s_nil ⟨hE.cut ⟨rfl, rfl, rfl, rfl, trivial⟩, hp⟩
        · rintro a w ⟨hE, hp⟩
          refine s_val (wk0 rfl) rfl rfl hE hp (v := (.bool ((decide (40 < p0)) && (decide (p0 ≤ 1024))))) (ex_pick0 rfl hE rfl hb2 rfl) ?_
          intro a hE
          have hE := hE.eqv (v' := (.bool ((decide (60 < (p1.length : Int))) || ((decide (40 < p0)) && (decide (p0 ≤ 1024)))))) (by rw [hb2]; rfl)
          exact s_nil ⟨hE.cut ⟨rfl, rfl, rfl, trivial⟩, hp⟩
    · rintro a w ⟨hE, hp⟩
      refine s_nil ?_
      refine k_if hE rfl (fun hb4 => ?_) (fun hb4 => ?_)
      · replace hm := (it hb4).symm.trans hm
        refine k_seq ?_
        refine k_region ?_
        refine s_val (wk0 rfl) rfl rfl hE hp (v := (.bool true)) (ex_asn rfl hE rfl) ?_
        intro a hE
        refine s_nil ?_
        refine k_ret ?_
        obtain rfl := Option.some.inj hm
        exact ret1 hE rfl rfl ⟨_, rfl, rfl, hp⟩
      · replace hm := (ie hb4).symm.trans hm
        refine k_skip ?_
        refine k_seq ?_
        refine k_region ?_
        refine s_val (wk0 rfl) rfl rfl hE hp (v := (.int .i64 p0)) (ex_move rfl hE rfl) ?_
        intro a hE
        refine s_val (wk0 rfl) rfl rfl hE hp (v := vp1) (ex_move rfl hE rfl) ?_
        intro a hE
        obtain ⟨x2, ex2, hm⟩ := bnd hm
        refine s_call (wk0 rfl) rfl rfl hE rfl [(.int .i64 p0), vp1] ⟨rfl, rfl, trivial⟩ ent26 (c_similarity_Clusters p0 p1 vp1 hp1 hp x2 ex2) Ret.ret ?_
        intro v a w hR hE
        obtain ⟨ρ1, vr2, hle1, rfl, hr2, hp⟩ := Ret.of hR
        have hp : Hp Z ρ1 (L) w := hp
        refine s_val (wk0 rfl) rfl rfl hE hp (v := (.tuple #[vr2, (.int .i64 x2.2)])) (ex_move rfl hE rfl) ?_
        intro a hE
        refine s_val (wk0 rfl) rfl rfl hE hp (v := vr2) (ex_extract rfl hE rfl rfl) ?_
        intro a hE
        refine s_val (wk0 rfl) rfl rfl hE hp (v := (.int .i64 x2.2)) (ex_extract rfl hE rfl rfl) ?_
        intro a hE
        refine s_val (wk0 rfl) rfl rfl hE hp (v := vr2) (ex_asn rfl hE rfl) ?_
        intro a hE
        refine s_val (wk0 rfl) rfl rfl hE hp (v := (.int .i64 x2.2)) (ex_asn rfl hE rfl) ?_
        intro a hE
        refine s_nil ?_
        refine k_seq ?_
        refine k_region ?_
        refine s_val (wk0 rfl) rfl rfl hE hp (v := (.int .i64 p0)) (ex_move rfl hE rfl) ?_
        intro a hE
        refine s_val (wk0 rfl) rfl rfl hE hp (v := vp1) (ex_move rfl hE rfl) ?_
        intro a hE
        obtain ⟨x3, ex3, hm⟩ := bnd hm
        refine s_call (wk0 rfl) rfl rfl hE rfl [(.int .i64 p0), vp1] ⟨rfl, rfl, trivial⟩ ent27 (c_assessorref44_Clusters p0 p1 vp1 (RoSl.mono hp1 hle1) hp x3 ex3) Ret.ret ?_
        intro v a w hR hE
        obtain ⟨ρ2, vr4, hle2, rfl, hr4, hp⟩ := Ret.of hR
        have hp : Hp Z ρ2 (L) w := hp
        refine s_val (wk0 rfl) rfl rfl hE hp (v := (.tuple #[vr4, (.int .i64 x3.2)])) (ex_move rfl hE rfl) ?_
        intro a hE
        refine s_val (wk0 rfl) rfl rfl hE hp (v := vr4) (ex_extract rfl hE rfl rfl) ?_
        intro a hE
        refine s_val (wk0 rfl) rfl rfl hE hp (v := (.int .i64 x3.2)) (ex_extract rfl hE rfl rfl) ?_
        intro a hE
        refine s_val (wk0 rfl) rfl rfl hE hp (v := vr4) (ex_asn rfl hE rfl) ?_
        intro a hE
        refine s_val (wk0 rfl) rfl rfl hE hp (v := (.int .i64 x3.2)) (ex_asn rfl hE rfl) ?_
        intro a hE
        refine s_nil ?_
        refine k_seq ?_
        refine k_seq ?_
        refine k_region ?_
        refine s_val (wk0 rfl) rfl rfl hE hp (v := (.int .i64 x2.2)) (ex_move rfl hE rfl) ?_
        intro a hE
        refine s_val (wk0 rfl) rfl rfl hE hp (v := (.int .i64 x3.2)) (ex_move rfl hE rfl) ?_
        intro a hE
        refine s_val (wk0 rfl) rfl rfl hE hp (v := (.bool (!decide (x2.2 = x3.2)))) (ex_neq rfl hE rfl rfl) ?_
        intro a hE
        refine s_val (wk0 rfl) rfl rfl hE hp (v := (.bool (!decide (x2.2 = x3.2)))) (ex_move rfl hE rfl) ?_
        intro a hE
        refine s_cut [_, _, _, _, _, _] (fun a w => Env 134 [(55, (.bool ((!decide (x2.2 = x3.2)) || (!decide ((x2.1.length : Int) = (x3.1.length : Int)))))), (1, vp1), (5, vr2), (6, (.int .i64 x2.2)), (7, vr4)] a ∧ Hp Z ρ2 (L) w) ?_ ?_
        · rcases Bool.eq_false_or_eq_true (!decide (x2.2 = x3.2)) with hb5 | hb5
          ·
            refine s_skip (wk2 hE rfl rfl rfl hb5) rfl rfl hE ?_
            intro a hE
            refine s_skip (wk2 hE rfl rfl rfl hb5) rfl rfl hE ?_
            intro a hE
            refine s_skip (wk2 hE rfl rfl rfl hb5) rfl rfl hE ?_
            intro a hE
            refine s_skip (wk2 hE rfl rfl rfl hb5) rfl rfl hE ?_
            intro a hE
            refine s_skip (wk2 hE rfl rfl rfl hb5) rfl rfl hE ?_
            intro a hE
            refine s_val (wk0 rfl) rfl rfl hE hp (v := (.bool true)) (ex_pick1 rfl hE rfl hb5 rfl) ?_
            intro a hE
            have hE := hE.eqv (v' := (.bool ((!decide (x2.2 = x3.2)) || (!decide ((x2.1.length : Int) = (x3.1.length : Int)))))) (by rw [hb5]; rfl)
            exact s_nil ⟨hE.cut ⟨rfl, rfl, rfl, rfl, rfl, trivial⟩, hp⟩
          ·
            refine s_val (wk1 hE rfl rfl rfl hb5) rfl rfl hE hp (v := vr2) (ex_move rfl hE rfl) ?_
            intro a hE
            refine s_val (wk1 hE rfl rfl rfl hb5) rfl rfl hE hp (v := (.int .i64 (x2.1.length : Int))) (ex_len rfl hE rfl (RoSl.len (RoSl.mono hr2 hle2) slty45)) ?_
            intro a hE
            refine s_val (wk1 hE rfl rfl rfl hb5) rfl rfl hE hp (v := vr4) (ex_move rfl hE rfl) ?_
            intro a hE
            refine s_val (wk1 hE rfl rfl rfl hb5) rfl rfl hE hp (v := (.int .i64 (x3.1.length : Int))) (ex_len rfl hE rfl (RoSl.len hr4 slty45)) ?_
            intro a hE
            refine s_val (wk1 hE rfl rfl rfl hb5) rfl rfl hE hp (v := (.bool (!decide ((x2.1.length : Int) = (x3.1.length : Int))))) (ex_neq rfl hE rfl rfl) ?_
            intro a hE
            refine s_val (wk0 rfl) rfl rfl hE hp (v := (.bool (!decide ((x2.1.length : Int) = (x3.1.length : Int))))) (ex_pick0 rfl hE rfl hb5 rfl) ?_
            intro a hE
            have hE := hE.eqv (v' := (.bool ((!decide (x2.2 = x3.2)) || (!decide ((x2.1.length : Int) = (x3.1.length : Int)))))) (by rw [hb5]; rfl)
            exact s_nil ⟨hE.cut ⟨rfl, rfl, rfl, rfl, rfl, trivial⟩, hp⟩
        · rintro a w ⟨hE, hp⟩
          refine s_nil ?_
          refine k_if hE rfl (fun hb6 => ?_) (fun hb6 => ?_)
          · replace hm := (it hb6).symm.trans hm
            refine k_seq ?_
            refine k_region ?_
            refine s_val (wk0 rfl) rfl rfl hE hp (v := (.bool false)) (ex_asn rfl hE rfl) ?_
            intro a hE
            refine s_nil ?_
            refine k_ret ?_
            obtain rfl := Option.some.inj hm
            exact ret1 hE rfl rfl ⟨_, rfl, rfl, ((hp.less hle2).less hle1)⟩
          · replace hm := (ie hb6).symm.trans hm
            refine k_skip ?_
            refine k_seq ?_
            refine k_region ?_
            refine s_mkmap (κ := Int) (β := Int) (wk0 rfl) rfl rfl hE hp rfl ?_
            intro a w b1 hE hp
            have hp : Hp Z ρ2 (MapA b1 ([] : List (Int × Int)) :: L) w := hp
            refine s_val (wk0 rfl) rfl rfl hE hp (v := (.map (some b1))) (ex_asn rfl hE rfl) ?_
            intro a hE
            refine s_nil ?_
            refine k_seq ?_
            refine k_seq ?_
            refine k_region ?_
            refine s_val (wk0 rfl) rfl rfl hE hp (v := vr2) (ex_move rfl hE rfl) ?_
            intro a hE
            refine s_val (wk0 rfl) rfl rfl hE hp (v := (.int .i64 (x2.1.length : Int))) (ex_len rfl hE rfl (RoSl.len (RoSl.mono hr2 hle2) slty45)) ?_
            intro a hE
            refine s_val (wk0 rfl) rfl rfl hE hp (v := (.int .i64 0)) (ex_move rfl hE rfl) ?_
            intro a hE
            refine s_nil ?_
            obtain ⟨b2, hb7, hm⟩ := bnd hm
            refine k_block (fun a w => ∃ s : (List (Int × Int)), b2 = .brk s ∧ (Env 134 [(1, vp1), (6, (.int .i64 x2.2)), (9, (.map (some b1)))] a ∧ Hp Z ρ2 (MapA b1 (s : List (Int × Int)) :: L) w)) ?_ ?_
            · refine k_loop hb7 (fun s a w => Env 134 [(1, vp1), (5, vr2), (6, (.int .i64 x2.2)), (7, vr4), (9, (.map (some b1))), (58, (.int .i64 (x2.1.length : Int))), (59, (.int .i64 s.1))] a ∧ Hp Z ρ2 (MapA b1 (s.2 : List (Int × Int)) :: L) w) ?_ ?_
              · exact ⟨hE.cut ⟨rfl, rfl, rfl, rfl, rfl, rfl, rfl, trivial⟩, hp⟩
              · rintro ⟨lp1_0, lp1_1⟩ st a w ⟨hE, hp⟩ hl1
                have hE : Env 134 [(1, vp1), (5, vr2), (6, (.int .i64 x2.2)), (7, vr4), (9, (.map (some b1))), (58, (.int .i64 (x2.1.length : Int))), (59, (.int .i64 lp1_0))] a := hE
                have hp : Hp Z ρ2 (MapA b1 (lp1_1 : List (Int × Int)) :: L) w := hp
                replace hl1 : m_assessorlaw44_SimilarityClusters_lp1 x2 x3 lp1_0 lp1_1 = some st := hl1
                unfold m_assessorlaw44_SimilarityClusters_lp1 at hl1
                refine k_seq ?_
                refine k_region ?_
                refine s_val (wk0 rfl) rfl rfl hE hp (v := (.bool (decide (lp1_0 < (x2.1.length : Int))))) (ex_lss rfl hE rfl rfl) ?_
                intro a hE
                refine s_nil ?_
                refine k_seq ?_
                refine k_if hE rfl (fun hb8 => ?_) (fun hb8 => ?_)
                · replace hl1 := (it hb8).symm.trans hl1
                  refine k_skip ?_
                  refine k_seq ?_
                  refine k_plain ?_
                  refine k_seq ?_
                  refine k_region ?_
                  refine s_val (wk0 rfl) rfl rfl hE hp (v := (.int .i64 lp1_0)) (ex_move rfl hE rfl) ?_
                  intro a hE
                  refine s_val (wk0 rfl) rfl rfl hE hp (v := (.int .i64 lp1_0)) (ex_asn rfl hE rfl) ?_
                  intro a hE
                  refine s_nil ?_
                  refine k_seq ?_
                  refine k_seq ?_
                  refine k_quiet (by kernel_rfl) (by kernel_rfl) hp ?_
                  refine q_val (wk0 rfl) rfl rfl hE (v := vr2) (ex_move rfl hE rfl) ?_
                  intro a hE
                  refine q_val (wk0 rfl) rfl rfl hE (v := (.int .i64 lp1_0)) (ex_move rfl hE rfl) ?_
                  intro a hE
                  obtain ⟨x4, ex4, hl1⟩ := bnd hl1
                  obtain ⟨b3, b3o, b3c, b3r, b3k, b3f⟩ := RoSl.at (RoSl.mono hr2 hle2) slty45 ex4
                  obtain ⟨vb3, rfl, hb3⟩ := b3k
                  have b3f : AtP ρ2 b3 b3o [vb3] := b3f
                  refine q_val (wk0 rfl) rfl rfl hE (v := (.pointer (some ⟨b3, b3o, none⟩))) (ex_index rfl hE rfl rfl b3r) ?_
                  intro a hE
                  refine q_val (wk0 rfl) rfl rfl hE (v := vb3) (ex_load rfl hE rfl (fun w hw => run_ld1 varty23 (b3f.c 0 rfl w hw))) ?_
                  intro a hE
                  refine q_val (wk0 rfl) rfl rfl hE (v := vr4) (ex_move rfl hE rfl) ?_
                  intro a hE
                  refine q_val (wk0 rfl) rfl rfl hE (v := (.int .i64 lp1_0)) (ex_move rfl hE rfl) ?_
                  intro a hE
                  obtain ⟨x5, ex5, hl1⟩ := bnd hl1
                  obtain ⟨b4, b4o, b4c, b4r, b4k, b4f⟩ := RoSl.at hr4 slty45 ex5
                  obtain ⟨vb4, rfl, hb4⟩ := b4k
                  have b4f : AtP ρ2 b4 b4o [vb4] := b4f
                  refine q_val (wk0 rfl) rfl rfl hE (v := (.pointer (some ⟨b4, b4o, none⟩))) (ex_index rfl hE rfl rfl b4r) ?_
                  intro a hE
                  refine q_val (wk0 rfl) rfl rfl hE (v := vb4) (ex_load rfl hE rfl (fun w hw => run_ld1 varty23 (b4f.c 0 rfl w hw))) ?_
                  intro a hE
                  obtain ⟨x6, ex6, hl1⟩ := bnd hl1
                  refine q_call (wk0 rfl) rfl rfl hE rfl [vb3, vb4] ⟨rfl, rfl, trivial⟩ ent12 (v := (.bool x6)) (fun w hw => Calls.mono (c_assessorref35_Same x4 vb3 hb3 x5 vb4 hb4 hw x6 ex6) fun e w' ⟨v, he, hv, hh⟩ => ⟨by rw [he, hv], hh⟩) ?_
                  intro a hE
                  refine q_val (wk0 rfl) rfl rfl hE (v := (.bool (!x6))) (ex_not rfl hE rfl) ?_
                  intro a hE
                  refine q_nil fun w hp => ?_
                  have hp : Hp Z ρ2 (_ :: L) w := hp
                  refine k_if hE rfl (fun hb9 => ?_) (fun hb9 => ?_)
                  · replace hl1 := (it hb9).symm.trans hl1
                    refine k_seq ?_
                    refine k_region ?_
                    refine s_val (wk0 rfl) rfl rfl hE hp (v := (.bool false)) (ex_asn rfl hE rfl) ?_
                    intro a hE
                    refine s_nil ?_
                    refine k_ret ?_
                    refine ⟨_, (Option.some.inj hl1).symm, fun hb => ?_⟩
                    subst hb
                    obtain rfl := Option.some.inj hm
                    exact ret1 hE rfl rfl ⟨_, rfl, rfl, (((hp.drop).less hle2).less hle1)⟩
                  · replace hl1 := (ie hb9).symm.trans hl1
                    refine k_skip ?_
                    refine k_seq ?_
                    refine k_region ?_
                    refine s_val (wk0 rfl) rfl rfl hE hp (v := vr2) (ex_move rfl hE rfl) ?_
                    intro a hE
                    refine s_val (wk0 rfl) rfl rfl hE hp (v := (.int .i64 lp1_0)) (ex_move rfl hE rfl) ?_
                    intro a hE
                    obtain ⟨x7, ex7, hl1⟩ := bnd hl1
                    obtain ⟨b5, b5o, b5c, b5r, b5k, b5f⟩ := RoSl.at (RoSl.mono hr2 hle2) slty45 ex7
                    obtain ⟨vb5, rfl, hb5⟩ := b5k
                    have b5f : AtP ρ2 b5 b5o [vb5] := b5f
                    refine s_val (wk0 rfl) rfl rfl hE hp (v := (.pointer (some ⟨b5, b5o, none⟩))) (ex_index rfl hE rfl rfl b5r) ?_
                    intro a hE
                    refine s_val (wk0 rfl) rfl rfl hE hp (v := vb5) (ex_load rfl hE rfl (fun w hw => run_ld1 varty23 (b5f.c 0 rfl w hw))) ?_
                    intro a hE
                    refine s_val (wk0 rfl) rfl rfl hE hp (v := (.int .i64 (x7.length : Int))) (ex_len rfl hE rfl (RoSl.len hb5 slty23)) ?_
                    intro a hE
                    refine s_val (wk0 rfl) rfl rfl hE hp (v := (.int .i64 0)) (ex_move rfl hE rfl) ?_
                    intro a hE
                    refine s_nil ?_
                    have hE := hE.cut (E' := [(1, vp1), (5, vr2), (6, (.int .i64 x2.2)), (7, vr4), (9, (.map (some b1))), (10, (.int .i64 lp1_0)), (58, (.int .i64 (x2.1.length : Int))), (59, (.int .i64 lp1_0)), (75, vb5), (76, (.int .i64 (x7.length : Int))), (77, (.int .i64 0))]) ⟨rfl, rfl, rfl, rfl, rfl, rfl, rfl, rfl, rfl, rfl, rfl, trivial⟩
                    obtain ⟨b6, hb10, hl1⟩ := bnd hl1
                    refine k_block (fun a w => ∃ s : (List (Int × Int)), b6 = .brk s ∧ (Env 134 [(1, vp1), (5, vr2), (6, (.int .i64 x2.2)), (7, vr4), (9, (.map (some b1))), (58, (.int .i64 (x2.1.length : Int))), (59, (.int .i64 lp1_0))] a ∧ Hp Z ρ2 (MapA b1 (s : List (Int × Int)) :: L) w)) ?_ ?_
                    · refine k_loop hb10 (fun s a w => Env 134 [(1, vp1), (5, vr2), (6, (.int .i64 x2.2)), (7, vr4), (9, (.map (some b1))), (10, (.int .i64 lp1_0)), (58, (.int .i64 (x2.1.length : Int))), (59, (.int .i64 lp1_0)), (75, vb5), (76, (.int .i64 (x7.length : Int))), (77, (.int .i64 s.1))] a ∧ Hp Z ρ2 (MapA b1 (s.2 : List (Int × Int)) :: L) w) ?_ ?_
                      · exact ⟨hE.cut ⟨rfl, rfl, rfl, rfl, rfl, rfl, rfl, rfl, rfl, rfl, rfl, trivial⟩, hp⟩
                      · rintro ⟨lp2_0, lp2_1⟩ st a w ⟨hE, hp⟩ hl2
                        have hE : Env 134 [(1, vp1), (5, vr2), (6, (.int .i64 x2.2)), (7, vr4), (9, (.map (some b1))), (10, (.int .i64 lp1_0)), (58, (.int .i64 (x2.1.length : Int))), (59, (.int .i64 lp1_0)), (75, vb5), (76, (.int .i64 (x7.length : Int))), (77, (.int .i64 lp2_0))] a := hE
                        have hp : Hp Z ρ2 (MapA b1 (lp2_1 : List (Int × Int)) :: L) w := hp
                        replace hl2 : m_assessorlaw44_SimilarityClusters_lp2 lp1_0 x7 lp2_0 lp2_1 = some st := hl2
                        unfold m_assessorlaw44_SimilarityClusters_lp2 at hl2
                        refine k_seq ?_
                        refine k_region ?_
                        refine s_val (wk0 rfl) rfl rfl hE hp (v := (.bool (decide (lp2_0 < (x7.length : Int))))) (ex_lss rfl hE rfl rfl) ?_
                        intro a hE
                        refine s_nil ?_
                        refine k_seq ?_
                        refine k_if hE rfl (fun hb11 => ?_) (fun hb11 => ?_)
                        · replace hl2 := (it hb11).symm.trans hl2
                          refine k_skip ?_
                          refine k_seq ?_
                          refine k_plain ?_
                          refine k_seq ?_
                          refine k_region ?_
                          obtain ⟨x8, ex8, hl2⟩ := bnd hl2
                          obtain ⟨b7, b7o, b7c, b7r, b7k, b7f⟩ := RoSl.at hb5 slty23 ex8
                          obtain rfl : b7c = Enc.enc x8 := b7k
                          have b7f : AtP ρ2 b7 b7o [(.int .i64 x8)] := b7f
                          refine s_val (wk0 rfl) rfl rfl hE hp (v := (.pointer (some ⟨b7, b7o, none⟩))) (ex_index rfl hE rfl rfl b7r) ?_
                          intro a hE
                          refine s_val (wk0 rfl) rfl rfl hE hp (v := (.int .i64 x8)) (ex_load rfl hE rfl (fun w hw => run_ld1 varty3 (b7f.c 0 rfl w hw))) ?_
                          intro a hE
                          refine s_val (wk0 rfl) rfl rfl hE hp (v := (.int .i64 x8)) (ex_asn rfl hE rfl) ?_
                          intro a hE
                          refine s_nil ?_
                          refine k_seq ?_
                          refine k_seq ?_
                          refine k_region ?_
                          refine s_val (wk0 rfl) rfl rfl hE hp (v := (.map (some b1))) (ex_move rfl hE rfl) ?_
                          intro a hE
                          refine s_val (wk0 rfl) rfl rfl hE hp (v := (.int .i64 x8)) (ex_move rfl hE rfl) ?_
                          intro a hE
                          refine s_val (wk0 rfl) rfl rfl hE hp (v := (.tuple #[(.int .i64 ((mget (lp2_1 : List (Int × Int)) x8).getD 0)), (.bool ((mget (lp2_1 : List (Int × Int)) x8).isSome))])) (ex_mget1 (zd := (0 : Int)) kt3 mapty49 zero3 rfl hE 0 (k := x8) rfl rfl rfl) ?_
                          intro a hE
                          refine s_val (wk0 rfl) rfl rfl hE hp (v := (.tuple #[(.int .i64 ((mget (lp2_1 : List (Int × Int)) x8).getD 0)), (.bool ((mget (lp2_1 : List (Int × Int)) x8).isSome))])) (ex_move rfl hE rfl) ?_
                          intro a hE
                          refine s_val (wk0 rfl) rfl rfl hE hp (v := (.int .i64 ((mget (lp2_1 : List (Int × Int)) x8).getD 0))) (ex_extract rfl hE rfl rfl) ?_
                          intro a hE
                          refine s_val (wk0 rfl) rfl rfl hE hp (v := (.bool ((mget (lp2_1 : List (Int × Int)) x8).isSome))) (ex_extract rfl hE rfl rfl) ?_
                          intro a hE
                          refine s_val (wk0 rfl) rfl rfl hE hp (v := (.int .i64 ((mget (lp2_1 : List (Int × Int)) x8).getD 0))) (ex_asn rfl hE rfl) ?_
                          intro a hE
                          refine s_val (wk0 rfl) rfl rfl hE hp (v := (.bool ((mget (lp2_1 : List (Int × Int)) x8).isSome))) (ex_asn rfl hE rfl) ?_
                          intro a hE
                          refine s_nil ?_
                          refine k_seq ?_
                          refine k_region ?_
                          refine s_val (wk0 rfl) rfl rfl hE hp (v := (.bool ((mget (lp2_1 : List (Int × Int)) x8).isSome))) (ex_move rfl hE rfl) ?_
                          intro a hE
                          refine s_nil ?_
                          refine k_if hE rfl (fun hb12 => ?_) (fun hb12 => ?_)
                          · replace hl2 := (it hb12).symm.trans hl2
                            refine k_seq ?_
                            refine k_region ?_
                            refine s_val (wk0 rfl) rfl rfl hE hp (v := (.bool false)) (ex_asn rfl hE rfl) ?_
                            intro a hE
                            refine s_nil ?_
                            refine k_ret ?_
                            refine ⟨_, (Option.some.inj hl2).symm, fun hb => ?_⟩
                            subst hb
                            refine ⟨_, (Option.some.inj hl1).symm, fun hb => ?_⟩
                            subst hb
                            obtain rfl := Option.some.inj hm
                            exact ret1 hE rfl rfl ⟨_, rfl, rfl, (((hp.drop).less hle2).less hle1)⟩
                          · replace hl2 := (ie hb12).symm.trans hl2
                            refine k_skip ?_
                            refine k_region ?_
                            refine s_val (wk0 rfl) rfl rfl hE hp (v := (.map (some b1))) (ex_move rfl hE rfl) ?_
                            intro a hE
                            refine s_val (wk0 rfl) rfl rfl hE hp (v := (.int .i64 x8)) (ex_move rfl hE rfl) ?_
                            intro a hE
                            refine s_val (wk0 rfl) rfl rfl hE hp (v := (.int .i64 lp1_0)) (ex_move rfl hE rfl) ?_
                            intro a hE
                            refine s_mput kt3 mapty49 (wk0 rfl) rfl hE hp rfl 0 (k := x8) (v := lp1_0) rfl rfl rfl rfl ?_
                            intro w hp
                            have hp : Hp Z ρ2 (MapA b1 (mput lp2_1 x8 lp1_0 : List (Int × Int)) :: L) w := hp
                            refine s_nil ?_
                            refine k_region ?_
                            obtain ⟨x9, ex9, hl2⟩ := bnd hl2
                            refine s_val (wk0 rfl) rfl rfl hE hp (v := (.int .i64 x9)) (ex_add rfl hE rfl rfl (inK_some ex9)) ?_
                            intro a hE
                            refine s_val (wk0 rfl) rfl rfl hE hp (v := (.int .i64 x9)) (ex_move rfl hE rfl) ?_
                            intro a hE
                            refine s_nil ?_
                            have hE := hE.cut (E' := [(1, vp1), (5, vr2), (6, (.int .i64 x2.2)), (7, vr4), (9, (.map (some b1))), (10, (.int .i64 lp1_0)), (58, (.int .i64 (x2.1.length : Int))), (59, (.int .i64 lp1_0)), (75, vb5), (76, (.int .i64 (x7.length : Int))), (77, (.int .i64 x9))]) ⟨rfl, rfl, rfl, rfl, rfl, rfl, rfl, rfl, rfl, rfl, rfl, trivial⟩
                            exact ⟨_, (Option.some.inj hl2).symm, hE.cut ⟨rfl, rfl, rfl, rfl, rfl, rfl, rfl, rfl, rfl, rfl, rfl, trivial⟩, hp⟩
                        · replace hl2 := (ie hb11).symm.trans hl2
                          refine k_exit ?_
                          refine ⟨_, (Option.some.inj hl2).symm, fun hbb => ?_⟩
                          exact ⟨_, hbb.symm, hE.cut ⟨rfl, rfl, rfl, rfl, rfl, rfl, rfl, trivial⟩, hp⟩
                    · rintro a w ⟨b6s, rfl, hE, hp⟩
                      dsimp only at hl1
                      refine k_region ?_
                      obtain ⟨x10, ex10, hl1⟩ := bnd hl1
                      refine s_val (wk0 rfl) rfl rfl hE hp (v := (.int .i64 x10)) (ex_add rfl hE rfl rfl (inK_some ex10)) ?_
                      intro a hE
                      refine s_val (wk0 rfl) rfl rfl hE hp (v := (.int .i64 x10)) (ex_move rfl hE rfl) ?_
                      intro a hE
                      refine s_nil ?_
                      exact ⟨_, (Option.some.inj hl1).symm, hE.cut ⟨rfl, rfl, rfl, rfl, rfl, rfl, rfl, trivial⟩, hp⟩
                · replace hl1 := (ie hb8).symm.trans hl1
                  refine k_exit ?_
                  refine ⟨_, (Option.some.inj hl1).symm, fun hbb => ?_⟩
                  exact ⟨_, hbb.symm, hE.cut ⟨rfl, rfl, rfl, trivial⟩, hp⟩
            · rintro a w ⟨b2s, rfl, hE, hp⟩
              dsimp only at hm
              refine k_seq ?_
              refine k_seq ?_
              refine k_region ?_
              refine s_val (wk0 rfl) rfl rfl hE hp (v := vp1) (ex_move rfl hE rfl) ?_
              intro a hE
              refine s_val (wk0 rfl) rfl rfl hE hp (v := (.int .i64 (p1.length : Int))) (ex_len rfl hE rfl (RoSl.len (RoSl.mono (RoSl.mono hp1 hle1) hle2) slty37)) ?_
              intro a hE
              refine s_val (wk0 rfl) rfl rfl hE hp (v := (.int .i64 0)) (ex_move rfl hE rfl) ?_
              intro a hE
              refine s_nil ?_
              obtain ⟨b8, hb13, hm⟩ := bnd hm
              refine k_block (fun a w => ∃ s : Unit, b8 = .brk s ∧ (Env 134 [] a ∧ Hp Z ρ2 (MapA b1 (b2s : List (Int × Int)) :: L) w)) ?_ ?_
              · refine k_loop hb13 (fun s a w => Env 134 [(6, (.int .i64 x2.2)), (9, (.map (some b1))), (93, vp1), (94, (.int .i64 (p1.length : Int))), (95, (.int .i64 s))] a ∧ Hp Z ρ2 (MapA b1 (b2s : List (Int × Int)) :: L) w) ?_ ?_
                · exact ⟨hE.cut ⟨rfl, rfl, rfl, rfl, rfl, trivial⟩, hp⟩
                · rintro lp3_0 st a w ⟨hE, hp⟩ hl3
                  have hE : Env 134 [(6, (.int .i64 x2.2)), (9, (.map (some b1))), (93, vp1), (94, (.int .i64 (p1.length : Int))), (95, (.int .i64 lp3_0))] a := hE
                  have hp : Hp Z ρ2 (MapA b1 (b2s : List (Int × Int)) :: L) w := hp
                  replace hl3 : m_assessorlaw44_SimilarityClusters_lp3 p1 x2 b2s lp3_0 = some st := hl3
                  unfold m_assessorlaw44_SimilarityClusters_lp3 at hl3
                  refine k_seq ?_
                  refine k_region ?_
                  refine s_val (wk0 rfl) rfl rfl hE hp (v := (.bool (decide (lp3_0 < (p1.length : Int))))) (ex_lss rfl hE rfl rfl) ?_
                  intro a hE
                  refine s_nil ?_
                  refine k_seq ?_
                  refine k_if hE rfl (fun hb14 => ?_) (fun hb14 => ?_)
                  · replace hl3 := (it hb14).symm.trans hl3
                    refine k_skip ?_
                    refine k_seq ?_
                    refine k_plain ?_
                    refine k_seq ?_
                    refine k_region ?_
                    obtain ⟨x11, ex11, hl3⟩ := bnd hl3
                    obtain ⟨b9, b9o, b9c, b9r, b9k, b9f⟩ := RoSl.at (RoSl.mono (RoSl.mono hp1 hle1) hle2) slty37 ex11
                    obtain rfl : b9c = Enc.enc x11 := b9k
                    have b9f : AtP ρ2 b9 b9o [(.int .i64 x11.a), (.int .i64 x11.b), (.int .i64 x11.shared), (.int .i64 x11.total)] := b9f
                    refine s_val (wk0 rfl) rfl rfl hE hp (v := (.pointer (some ⟨b9, b9o, none⟩))) (ex_index rfl hE rfl rfl b9r) ?_
                    intro a hE
                    refine s_val (wk0 rfl) rfl rfl hE hp (v := (.agg #[(.int .i64 x11.a), (.int .i64 x11.b), (.int .i64 x11.shared), (.int .i64 x11.total)])) (ex_load rfl hE rfl (fun w hw => run_ldN (cs := [(.int .i64 x11.a), (.int .i64 x11.b), (.int .i64 x11.shared), (.int .i64 x11.total)]) varty52 (fun j u hj => cell_of hw.le (b9f j u hj)))) ?_
                    intro a hE
                    refine s_new (wk0 rfl) rfl rfl hE hp rfl [(.int .i64 0), (.int .i64 0), (.int .i64 0), (.int .i64 0)] (fun w => by simp [Instr.alloc, go_sem] <;> rfl) ?_
                    intro a w b10 hE hp
                    have hp : Hp Z ρ2 (Pt b10 (.cells #[(.int .i64 0), (.int .i64 0), (.int .i64 0), (.int .i64 0)] 52 (0, 0)) :: _ :: L) w := hp
                    refine s_store (wk0 rfl) rfl hE hp rfl rfl rfl 0 rfl varty52.size_ rfl (allOne_mem ⟨rfl, rfl, rfl, rfl, trivial⟩) [(.int .i64 x11.a), (.int .i64 x11.b), (.int .i64 x11.shared), (.int .i64 x11.total)] rfl ?_
                    intro w hp
                    have hp : Hp Z ρ2 (Pt b10 (.cells #[(.int .i64 x11.a), (.int .i64 x11.b), (.int .i64 x11.shared), (.int .i64 x11.total)] 52 (0, 0)) :: _ :: L) w := hp
                    refine s_nil ?_
                    refine k_seq ?_
                    refine k_region ?_
                    refine s_val (wk0 rfl) rfl rfl hE hp (v := (.int .i64 x2.2)) (ex_move rfl hE rfl) ?_
                    intro a hE
                    refine s_val (wk0 rfl) rfl rfl hE hp (v := (.bool (decide (x2.2 = 0)))) (ex_eql rfl hE rfl rfl) ?_
                    intro a hE
                    refine s_val (wk0 rfl) rfl rfl hE hp (v := (.bool (decide (x2.2 = 0)))) (ex_move rfl hE rfl) ?_
                    intro a hE
                    refine s_cut [_, _, _, _, _, _] (fun a w => Env 134 [(107, (.bool ((decide (x2.2 = 0)) && (!decide (x11.a = x11.b))))), (6, (.int .i64 x2.2)), (9, (.map (some b1))), (16, (.pointer (some ⟨b10, 0, none⟩))), (93, vp1), (94, (.int .i64 (p1.length : Int))), (95, (.int .i64 lp3_0))] a ∧ Hp Z ρ2 (Pt b10 (.cells #[(.int .i64 x11.a), (.int .i64 x11.b), (.int .i64 x11.shared), (.int .i64 x11.total)] 52 (0, 0)) :: MapA b1 (b2s : List (Int × Int)) :: L) w) ?_ ?_
                    · rcases Bool.eq_false_or_eq_true (decide (x2.2 = 0)) with hb15 | hb15
                      ·
                        refine s_val (wk1 hE rfl rfl rfl hb15) rfl rfl hE hp (v := (.pointer (some ⟨b10, 0, none⟩))) (ex_field rfl hE rfl (fldty52_0 _ _)) ?_
                        intro a hE
                        refine s_val (wk1 hE rfl rfl rfl hb15) rfl rfl hE hp (v := (.int .i64 x11.a)) (ex_load rfl hE rfl (fun w hw => run_ld1 varty3 (Hp.c 0 rfl 0 rfl w hw))) ?_
                        intro a hE
                        refine s_val (wk1 hE rfl rfl rfl hb15) rfl rfl hE hp (v := (.pointer (some ⟨b10, 1, none⟩))) (ex_field rfl hE rfl (fldty52_1 _ _)) ?_
                        intro a hE
                        refine s_val (wk1 hE rfl rfl rfl hb15) rfl rfl hE hp (v := (.int .i64 x11.b)) (ex_load rfl hE rfl (fun w hw => run_ld1 varty3 (Hp.c 0 rfl 1 rfl w hw))) ?_
                        intro a hE
                        refine s_val (wk1 hE rfl rfl rfl hb15) rfl rfl hE hp (v := (.bool (!decide (x11.a = x11.b)))) (ex_neq rfl hE rfl rfl) ?_
                        intro a hE
                        refine s_val (wk0 rfl) rfl rfl hE hp (v := (.bool (!decide (x11.a = x11.b)))) (ex_pick1 rfl hE rfl hb15 rfl) ?_
                        intro a hE
                        have hE := hE.eqv (v' := (.bool ((decide (x2.2 = 0)) && (!decide (x11.a = x11.b))))) (by rw [hb15]; rfl)
                        exact s_nil ⟨hE.cut ⟨rfl, rfl, rfl, rfl, rfl, rfl, rfl, trivial⟩, hp⟩
                      ·
                        refine s_skip (wk2 hE rfl rfl rfl hb15) rfl rfl hE ?_
                        intro a hE
                        refine s_skip (wk2 hE rfl rfl rfl hb15) rfl rfl hE ?_
                        intro a hE
                        refine s_skip (wk2 hE rfl rfl rfl hb15) rfl rfl hE ?_
                        intro a hE
                        refine s_skip (wk2 hE rfl rfl rfl hb15) rfl rfl hE ?_
                        intro a hE
                        refine s_skip (wk2 hE rfl rfl rfl hb15) rfl rfl hE ?_
                        intro a hE
                        refine s_val (wk0 rfl) rfl rfl hE hp (v := (.bool false)) (ex_pick0 rfl hE rfl hb15 rfl) ?_
                        intro a hE
                        have hE := hE.eqv (v' := (.bool ((decide (x2.2 = 0)) && (!decide (x11.a = x11.b))))) (by rw [hb15]; rfl)
                        exact s_nil ⟨hE.cut ⟨rfl, rfl, rfl, rfl, rfl, rfl, rfl, trivial⟩, hp⟩
                    · rintro a w ⟨hE, hp⟩
                      refine s_nil ?_
                      refine k_if hE rfl (fun hb16 => ?_) (fun hb16 => ?_)
                      · replace hl3 := (it hb16).symm.trans hl3
                        refine k_seq ?_
                        refine k_region ?_
                        refine s_val (wk0 rfl) rfl rfl hE hp (v := (.map (some b1))) (ex_move rfl hE rfl) ?_
                        intro a hE
                        refine s_val (wk0 rfl) rfl rfl hE hp (v := (.pointer (some ⟨b10, 0, none⟩))) (ex_field rfl hE rfl (fldty52_0 _ _)) ?_
                        intro a hE
                        refine s_val (wk0 rfl) rfl rfl hE hp (v := (.int .i64 x11.a)) (ex_load rfl hE rfl (fun w hw => run_ld1 varty3 (Hp.c 0 rfl 0 rfl w hw))) ?_
                        intro a hE
                        refine s_val (wk0 rfl) rfl rfl hE hp (v := (.tuple #[(.int .i64 ((mget (b2s : List (Int × Int)) x11.a).getD 0)), (.bool ((mget (b2s : List (Int × Int)) x11.a).isSome))])) (ex_mget1 (zd := (0 : Int)) kt3 mapty49 zero3 rfl hE 1 (k := x11.a) rfl rfl rfl) ?_
                        intro a hE
                        refine s_val (wk0 rfl) rfl rfl hE hp (v := (.tuple #[(.int .i64 ((mget (b2s : List (Int × Int)) x11.a).getD 0)), (.bool ((mget (b2s : List (Int × Int)) x11.a).isSome))])) (ex_move rfl hE rfl) ?_
                        intro a hE
                        refine s_val (wk0 rfl) rfl rfl hE hp (v := (.int .i64 ((mget (b2s : List (Int × Int)) x11.a).getD 0))) (ex_extract rfl hE rfl rfl) ?_
                        intro a hE
                        refine s_val (wk0 rfl) rfl rfl hE hp (v := (.bool ((mget (b2s : List (Int × Int)) x11.a).isSome))) (ex_extract rfl hE rfl rfl) ?_
                        intro a hE
                        refine s_val (wk0 rfl) rfl rfl hE hp (v := (.int .i64 ((mget (b2s : List (Int × Int)) x11.a).getD 0))) (ex_asn rfl hE rfl) ?_
                        intro a hE
                        refine s_val (wk0 rfl) rfl rfl hE hp (v := (.bool ((mget (b2s : List (Int × Int)) x11.a).isSome))) (ex_asn rfl hE rfl) ?_
                        intro a hE
                        refine s_nil ?_
                        refine k_seq ?_
                        refine k_region ?_
                        refine s_val (wk0 rfl) rfl rfl hE hp (v := (.map (some b1))) (ex_move rfl hE rfl) ?_
                        intro a hE
                        refine s_val (wk0 rfl) rfl rfl hE hp (v := (.pointer (some ⟨b10, 1, none⟩))) (ex_field rfl hE rfl (fldty52_1 _ _)) ?_
                        intro a hE
                        refine s_val (wk0 rfl) rfl rfl hE hp (v := (.int .i64 x11.b)) (ex_load rfl hE rfl (fun w hw => run_ld1 varty3 (Hp.c 0 rfl 1 rfl w hw))) ?_
                        intro a hE
                        refine s_val (wk0 rfl) rfl rfl hE hp (v := (.tuple #[(.int .i64 ((mget (b2s : List (Int × Int)) x11.b).getD 0)), (.bool ((mget (b2s : List (Int × Int)) x11.b).isSome))])) (ex_mget1 (zd := (0 : Int)) kt3 mapty49 zero3 rfl hE 1 (k := x11.b) rfl rfl rfl) ?_
                        intro a hE
                        refine s_val (wk0 rfl) rfl rfl hE hp (v := (.tuple #[(.int .i64 ((mget (b2s : List (Int × Int)) x11.b).getD 0)), (.bool ((mget (b2s : List (Int × Int)) x11.b).isSome))])) (ex_move rfl hE rfl) ?_
                        intro a hE
                        refine s_val (wk0 rfl) rfl rfl hE hp (v := (.int .i64 ((mget (b2s : List (Int × Int)) x11.b).getD 0))) (ex_extract rfl hE rfl rfl) ?_
                        intro a hE
                        refine s_val (wk0 rfl) rfl rfl hE hp (v := (.bool ((mget (b2s : List (Int × Int)) x11.b).isSome))) (ex_extract rfl hE rfl rfl) ?_
                        intro a hE
                        refine s_val (wk0 rfl) rfl rfl hE hp (v := (.int .i64 ((mget (b2s : List (Int × Int)) x11.b).getD 0))) (ex_asn rfl hE rfl) ?_
                        intro a hE
                        refine s_val (wk0 rfl) rfl rfl hE hp (v := (.bool ((mget (b2s : List (Int × Int)) x11.b).isSome))) (ex_asn rfl hE rfl) ?_
                        intro a hE
                        refine s_nil ?_
                        have hE := hE.cut (E' := [(6, (.int .i64 x2.2)), (9, (.map (some b1))), (17, (.int .i64 ((mget (b2s : List (Int × Int)) x11.a).getD 0))), (18, (.bool ((mget (b2s : List (Int × Int)) x11.a).isSome))), (19, (.int .i64 ((mget (b2s : List (Int × Int)) x11.b).getD 0))), (20, (.bool ((mget (b2s : List (Int × Int)) x11.b).isSome))), (93, vp1), (94, (.int .i64 (p1.length : Int))), (95, (.int .i64 lp3_0))]) ⟨rfl, rfl, rfl, rfl, rfl, rfl, rfl, rfl, rfl, trivial⟩
                        refine k_seq ?_
                        refine k_region ?_
                        refine s_val (wk0 rfl) rfl rfl hE hp (v := (.bool ((mget (b2s : List (Int × Int)) x11.a).isSome))) (ex_move rfl hE rfl) ?_
                        intro a hE
                        refine s_val (wk0 rfl) rfl rfl hE hp (v := (.bool (!((mget (b2s : List (Int × Int)) x11.a).isSome)))) (ex_not rfl hE rfl) ?_
                        intro a hE
                        refine s_val (wk0 rfl) rfl rfl hE hp (v := (.bool (!((mget (b2s : List (Int × Int)) x11.a).isSome)))) (ex_move rfl hE rfl) ?_
                        intro a hE
                        refine s_cut [_, _, _] (fun a w => Env 134 [(127, (.bool ((!((mget (b2s : List (Int × Int)) x11.a).isSome)) || (!((mget (b2s : List (Int × Int)) x11.b).isSome))))), (6, (.int .i64 x2.2)), (9, (.map (some b1))), (17, (.int .i64 ((mget (b2s : List (Int × Int)) x11.a).getD 0))), (19, (.int .i64 ((mget (b2s : List (Int × Int)) x11.b).getD 0))), (93, vp1), (94, (.int .i64 (p1.length : Int))), (95, (.int .i64 lp3_0))] a ∧ Hp Z ρ2 (Pt b10 (.cells #[(.int .i64 x11.a), (.int .i64 x11.b), (.int .i64 x11.shared), (.int .i64 x11.total)] 52 (0, 0)) :: MapA b1 (b2s : List (Int × Int)) :: L) w) ?_ ?_
                        · rcases Bool.eq_false_or_eq_true (!((mget (b2s : List (Int × Int)) x11.a).isSome)) with hb17 | hb17
                          ·
                            refine s_skip (wk2 hE rfl rfl rfl hb17) rfl rfl hE ?_
                            intro a hE
                            refine s_skip (wk2 hE rfl rfl rfl hb17) rfl rfl hE ?_
                            intro a hE
                            refine s_val (wk0 rfl) rfl rfl hE hp (v := (.bool true)) (ex_pick1 rfl hE rfl hb17 rfl) ?_
                            intro a hE
                            have hE := hE.eqv (v' := (.bool ((!((mget (b2s : List (Int × Int)) x11.a).isSome)) || (!((mget (b2s : List (Int × Int)) x11.b).isSome))))) (by rw [hb17]; rfl)
                            exact s_nil ⟨hE.cut ⟨rfl, rfl, rfl, rfl, rfl, rfl, rfl, rfl, trivial⟩, hp⟩
                          ·
                            refine s_val (wk1 hE rfl rfl rfl hb17) rfl rfl hE hp (v := (.bool ((mget (b2s : List (Int × Int)) x11.b).isSome))) (ex_move rfl hE rfl) ?_
                            intro a hE
                            refine s_val (wk1 hE rfl rfl rfl hb17) rfl rfl hE hp (v := (.bool (!((mget (b2s : List (Int × Int)) x11.b).isSome)))) (ex_not rfl hE rfl) ?_
                            intro a hE
                            refine s_val (wk0 rfl) rfl rfl hE hp (v := (.bool (!((mget (b2s : List (Int × Int)) x11.b).isSome)))) (ex_pick0 rfl hE rfl hb17 rfl) ?_
                            intro a hE
                            have hE := hE.eqv (v' := (.bool ((!((mget (b2s : List (Int × Int)) x11.a).isSome)) || (!((mget (b2s : List (Int × Int)) x11.b).isSome))))) (by rw [hb17]; rfl)
                            exact s_nil ⟨hE.cut ⟨rfl, rfl, rfl, rfl, rfl, rfl, rfl, rfl, trivial⟩, hp⟩
                        · rintro a w ⟨hE, hp⟩
                          refine s_val (wk0 rfl) rfl rfl hE hp (v := (.bool ((!((mget (b2s : List (Int × Int)) x11.a).isSome)) || (!((mget (b2s : List (Int × Int)) x11.b).isSome))))) (ex_move rfl hE rfl) ?_
                          intro a hE
                          refine s_cut [_, _, _, _] (fun a w => Env 134 [(132, (.bool (((!((mget (b2s : List (Int × Int)) x11.a).isSome)) || (!((mget (b2s : List (Int × Int)) x11.b).isSome))) || (!decide (((mget (b2s : List (Int × Int)) x11.a).getD 0) = ((mget (b2s : List (Int × Int)) x11.b).getD 0)))))), (6, (.int .i64 x2.2)), (9, (.map (some b1))), (93, vp1), (94, (.int .i64 (p1.length : Int))), (95, (.int .i64 lp3_0))] a ∧ Hp Z ρ2 (Pt b10 (.cells #[(.int .i64 x11.a), (.int .i64 x11.b), (.int .i64 x11.shared), (.int .i64 x11.total)] 52 (0, 0)) :: MapA b1 (b2s : List (Int × Int)) :: L) w) ?_ ?_
                          · rcases Bool.eq_false_or_eq_true ((!((mget (b2s : List (Int × Int)) x11.a).isSome)) || (!((mget (b2s : List (Int × Int)) x11.b).isSome))) with hb18 | hb18
                            ·
                              refine s_skip (wk2 hE rfl rfl rfl hb18) rfl rfl hE ?_
                              intro a hE
                              refine s_skip (wk2 hE rfl rfl rfl hb18) rfl rfl hE ?_
                              intro a hE
                              refine s_skip (wk2 hE rfl rfl rfl hb18) rfl rfl hE ?_
                              intro a hE
                              refine s_val (wk0 rfl) rfl rfl hE hp (v := (.bool true)) (ex_pick1 rfl hE rfl hb18 rfl) ?_
                              intro a hE
                              have hE := hE.eqv (v' := (.bool (((!((mget (b2s : List (Int × Int)) x11.a).isSome)) || (!((mget (b2s : List (Int × Int)) x11.b).isSome))) || (!decide (((mget (b2s : List (Int × Int)) x11.a).getD 0) = ((mget (b2s : List (Int × Int)) x11.b).getD 0)))))) (by rw [hb18]; rfl)
                              exact s_nil ⟨hE.cut ⟨rfl, rfl, rfl, rfl, rfl, rfl, trivial⟩, hp⟩
                            ·
                              refine s_val (wk1 hE rfl rfl rfl hb18) rfl rfl hE hp (v := (.int .i64 ((mget (b2s : List (Int × Int)) x11.a).getD 0))) (ex_move rfl hE rfl) ?_
                              intro a hE
                              refine s_val (wk1 hE rfl rfl rfl hb18) rfl rfl hE hp (v := (.int .i64 ((mget (b2s : List (Int × Int)) x11.b).getD 0))) (ex_move rfl hE rfl) ?_
                              intro a hE
                              refine s_val (wk1 hE rfl rfl rfl hb18) rfl rfl hE hp (v := (.bool (!decide (((mget (b2s : List (Int × Int)) x11.a).getD 0) = ((mget (b2s : List (Int × Int)) x11.b).getD 0))))) (ex_neq rfl hE rfl rfl) ?_
                              intro a hE
                              refine s_val (wk0 rfl) rfl rfl hE hp (v := (.bool (!decide (((mget (b2s : List (Int × Int)) x11.a).getD 0) = ((mget (b2s : List (Int × Int)) x11.b).getD 0))))) (ex_pick0 rfl hE rfl hb18 rfl) ?_
                              intro a hE
                              have hE := hE.eqv (v' := (.bool (((!((mget (b2s : List (Int × Int)) x11.a).isSome)) || (!((mget (b2s : List (Int × Int)) x11.b).isSome))) || (!decide (((mget (b2s : List (Int × Int)) x11.a).getD 0) = ((mget (b2s : List (Int × Int)) x11.b).getD 0)))))) (by rw [hb18]; rfl)
                              exact s_nil ⟨hE.cut ⟨rfl, rfl, rfl, rfl, rfl, rfl, trivial⟩, hp⟩
                          · rintro a w ⟨hE, hp⟩
                            refine s_nil ?_
                            refine k_if hE rfl (fun hb19 => ?_) (fun hb19 => ?_)
                            · replace hl3 := (it hb19).symm.trans hl3
                              refine k_seq ?_
                              refine k_region ?_
                              refine s_val (wk0 rfl) rfl rfl hE hp (v := (.bool false)) (ex_asn rfl hE rfl) ?_
                              intro a hE
                              refine s_nil ?_
                              refine k_ret ?_
                              refine ⟨_, (Option.some.inj hl3).symm, fun hb => ?_⟩
                              subst hb
                              obtain rfl := Option.some.inj hm
                              exact ret1 hE rfl rfl ⟨_, rfl, rfl, (((((hp.get 1 rfl).drop).drop).less hle2).less hle1)⟩
                            · replace hl3 := (ie hb19).symm.trans hl3
                              refine k_skip ?_
                              refine k_region ?_
                              obtain ⟨x12, ex12, hl3⟩ := bnd hl3
                              refine s_val (wk0 rfl) rfl rfl hE hp (v := (.int .i64 x12)) (ex_add rfl hE rfl rfl (inK_some ex12)) ?_
                              intro a hE
                              refine s_val (wk0 rfl) rfl rfl hE hp (v := (.int .i64 x12)) (ex_move rfl hE rfl) ?_
                              intro a hE
                              refine s_nil ?_
                              exact ⟨_, (Option.some.inj hl3).symm, hE.cut ⟨rfl, rfl, rfl, rfl, rfl, trivial⟩, (hp.drop)⟩
                      · replace hl3 := (ie hb16).symm.trans hl3
                        refine k_skip ?_
                        refine k_region ?_
                        obtain ⟨x13, ex13, hl3⟩ := bnd hl3
                        refine s_val (wk0 rfl) rfl rfl hE hp (v := (.int .i64 x13)) (ex_add rfl hE rfl rfl (inK_some ex13)) ?_
                        intro a hE
                        refine s_val (wk0 rfl) rfl rfl hE hp (v := (.int .i64 x13)) (ex_move rfl hE rfl) ?_
                        intro a hE
                        refine s_nil ?_
                        exact ⟨_, (Option.some.inj hl3).symm, hE.cut ⟨rfl, rfl, rfl, rfl, rfl, trivial⟩, (hp.drop)⟩
                  · replace hl3 := (ie hb14).symm.trans hl3
                    refine k_exit ?_
                    refine ⟨_, (Option.some.inj hl3).symm, fun hbb => ?_⟩
                    exact ⟨_, hbb.symm, hE.cut trivial, hp⟩
              · rintro a w ⟨b8s, rfl, hE, hp⟩
                dsimp only at hm
                refine k_seq ?_
                refine k_region ?_
                refine s_val (wk0 rfl) rfl rfl hE hp (v := (.bool true)) (ex_asn rfl hE rfl) ?_
                intro a hE
                refine s_nil ?_
                refine k_ret ?_
                obtain rfl := Option.some.inj hm
                exact ret1 hE rfl rfl ⟨_, rfl, rfl, (((hp.drop).less hle2).less hle1)⟩
end Go.Proofs.Ytmfepkadggigpaa

/-
  The code goes as its model: assessor/assessorlaw44.SimilarityFiner. (Printed by wip/sp/gen.py.)
-/
import Derived.Test.YtmfepkadggigpaaWFM
import Derived.Test.YtmfepkadggigpaaFct
import Derived.Test.YtmfepkadggigpaaWS
set_option linter.unusedVariables false
set_option linter.unusedSimpArgs false
namespace Go.Proofs.Ytmfepkadggigpaa
open Go.RowKit

/- assessor/assessorlaw44.SimilarityFiner -/
set_option maxRecDepth 100000 in
set_option maxHeartbeats 4000000 in
theorem c_assessorlaw44_SimilarityFiner {Z : World} {ρ : PH} {L : List Atom} {w : World} (p0 : Int) (p1 : Int) (p2 : (List (List Mark))) (vp2 : Value) (hp2 : RoSl ρ vp2 p2) (hp : Hp Z ρ (L) w) (r : Bool) (hm : m_assessorlaw44_SimilarityFiner p0 p1 p2 = some r) :
    Calls Try.prog 7 #[(.int .u8 p0), (.int .u8 p1), vp2] w (Ret fun v w' => v = (.bool r) ∧ Hp Z ρ (L) w') := by
  refine enter (N := 125) Try.func7 rfl rfl [(0, (.int .u8 p0)), (1, (.int .u8 p1)), (2, vp2)] rfl (argsIn_mem ⟨rfl, rfl, rfl, trivial⟩) fun a hE => ?_
  unfold m_assessorlaw44_SimilarityFiner at hm
  refine k_seq ?_
  refine k_region ?_
  refine s_val (wk0 rfl) rfl rfl hE hp (v := (.bool false)) (ex_asn rfl hE rfl) ?_
  intro a hE
  refine s_nil ?_
  refine k_seq ?_
  refine k_seq ?_
  refine k_region ?_
  obtain ⟨x1, ex1, hm⟩ := bnd hm
  refine s_call (wk0 rfl) rfl rfl hE rfl [] trivial ent10 (c_assessorlaw44_awake  hp x1 ex1) Ret.ret ?_
  intro v a w hR hE
  obtain ⟨rfl, hp⟩ := Ret.of hR
  have hp : Hp Z ρ (L) w := hp
  refine s_val (wk0 rfl) rfl rfl hE hp (v := (.bool (!x1))) (ex_not rfl hE rfl) ?_
  intro a hE
  refine s_nil ?_
  refine k_if hE rfl (fun hb1 => ?_) (fun hb1 => ?_)
  · replace hm := (it hb1).symm.trans hm
    refine k_seq ?_
    refine k_region ?_
    refine s_val (wk0 rfl) rfl rfl hE hp (v := (.bool false)) (ex_asn rfl hE rfl) ?_
    intro a hE
    refine s_nil ?_
    refine k_ret ?_
    obtain rfl := Option.some.inj hm
    exact ret1 hE rfl rfl ⟨_, rfl, rfl, hp⟩
  · replace hm := (ie hb1).symm.trans hm
    refine k_skip ?_
    refine k_seq ?_
    refine k_seq ?_
    refine k_region ?_
    refine s_val (wk0 rfl) rfl rfl hE hp (v := vp2) (ex_move rfl hE rfl) ?_
    intro a hE
    obtain ⟨x2, ex2, hm⟩ := bnd hm
    refine s_call (wk0 rfl) rfl rfl hE rfl [vp2, (.int .i64 8), (.int .i64 30)] ⟨rfl, rfl, rfl, trivial⟩ ent11 (c_assessorlaw44_few p2 vp2 hp2 8 30 hp x2 ex2) Ret.ret ?_
    intro v a w hR hE
    obtain ⟨rfl, hp⟩ := Ret.of hR
    have hp : Hp Z ρ (L) w := hp
    refine s_val (wk0 rfl) rfl rfl hE hp (v := (.bool (!x2))) (ex_not rfl hE rfl) ?_
    intro a hE
    refine s_nil ?_
    refine k_if hE rfl (fun hb2 => ?_) (fun hb2 => ?_)
    · replace hm := (it hb2).symm.trans hm
      refine k_seq ?_
      refine k_region ?_
      refine s_val (wk0 rfl) rfl rfl hE hp (v := (.bool true)) (ex_asn rfl hE rfl) ?_
      intro a hE
      refine s_nil ?_
      refine k_ret ?_
      obtain rfl := Option.some.inj hm
      exact ret1 hE rfl rfl ⟨_, rfl, rfl, hp⟩
    · replace hm := (ie hb2).symm.trans hm
      refine k_skip ?_
      refine k_seq ?_
      refine k_region ?_
      refine s_val (wk0 rfl) rfl rfl hE hp (v := (.int .u8 p0)) (ex_move rfl hE rfl) ?_
      intro a hE
      obtain ⟨x3, ex3, hm⟩ := bnd hm
      refine s_val (wk0 rfl) rfl rfl hE hp (v := (.int .i64 x3)) (ex_conv rfl hE rfl (fun w _ => by rw [← inK_some ex3]; simp [convert, Conv.intToInt, go_sem])) ?_
      intro a hE
      refine s_val (wk0 rfl) rfl rfl hE hp (v := (.int .u8 p1)) (ex_move rfl hE rfl) ?_
      intro a hE
      obtain ⟨x4, ex4, hm⟩ := bnd hm
      refine s_val (wk0 rfl) rfl rfl hE hp (v := (.int .i64 x4)) (ex_conv rfl hE rfl (fun w _ => by rw [← inK_some ex4]; simp [convert, Conv.intToInt, go_sem])) ?_
      intro a hE
      refine s_val (wk0 rfl) rfl rfl hE hp (v := (.int .i64 (min x3 x4))) (ex_min rfl hE rfl rfl) ?_
      intro a hE
      refine s_val (wk0 rfl) rfl rfl hE hp (v := (.int .u8 p0)) (ex_move rfl hE rfl) ?_
      intro a hE
      obtain ⟨x5, ex5, hm⟩ := bnd hm
      refine s_val (wk0 rfl) rfl rfl hE hp (v := (.int .i64 x5)) (ex_conv rfl hE rfl (fun w _ => by rw [← inK_some ex5]; simp [convert, Conv.intToInt, go_sem])) ?_
      intro a hE
      refine s_val (wk0 rfl) rfl rfl hE hp (v := (.int .u8 p1)) (ex_move rfl hE rfl) ?_
      intro a hE
      obtain ⟨x6, ex6, hm⟩ := bnd hm
      refine s_val (wk0 rfl) rfl rfl hE hp (v := (.int .i64 x6)) (ex_conv rfl hE rfl (fun w _ => by rw [← inK_some ex6]; simp [convert, Conv.intToInt, go_sem])) ?_
      intro a hE
      refine s_val (wk0 rfl) rfl rfl hE hp (v := (.int .i64 (max x5 x6))) (ex_max rfl hE rfl rfl) ?_
      intro a hE
      refine s_val (wk0 rfl) rfl rfl hE hp (v := (.int .i64 (min x3 x4))) (ex_asn rfl hE rfl) ?_
      intro a hE
      refine s_val (wk0 rfl) rfl rfl hE hp (v := (.int .i64 (max x5 x6))) (ex_asn rfl hE rfl) ?_
      intro a hE
      refine s_nil ?_
      refine k_seq ?_
      refine k_region ?_
      refine s_val (wk0 rfl) rfl rfl hE hp (v := (.int .i64 (min x3 x4))) (ex_move rfl hE rfl) ?_
      intro a hE
      refine s_val (wk0 rfl) rfl rfl hE hp (v := vp2) (ex_move rfl hE rfl) ?_
      intro a hE
      obtain ⟨x7, ex7, hm⟩ := bnd hm
      refine s_call (wk0 rfl) rfl rfl hE rfl [(.int .i64 (min x3 x4)), (.int .i64 255), vp2] ⟨rfl, rfl, rfl, trivial⟩ ent22 (c_similarity_Pairs (min x3 x4) 255 p2 vp2 hp2 hp x7 ex7) Ret.ret ?_
      intro v a w hR hE
      obtain ⟨ρ1, vr3, hle1, rfl, hr3, hp⟩ := Ret.of hR
      have hp : Hp Z ρ1 (L) w := hp
      refine s_val (wk0 rfl) rfl rfl hE hp (v := (.tuple #[vr3, (.int .i64 x7.2)])) (ex_move rfl hE rfl) ?_
      intro a hE
      refine s_val (wk0 rfl) rfl rfl hE hp (v := vr3) (ex_extract rfl hE rfl rfl) ?_
      intro a hE
      refine s_val (wk0 rfl) rfl rfl hE hp (v := (.int .i64 x7.2)) (ex_extract rfl hE rfl rfl) ?_
      intro a hE
      refine s_val (wk0 rfl) rfl rfl hE hp (v := vr3) (ex_asn rfl hE rfl) ?_
      intro a hE
      refine s_val (wk0 rfl) rfl rfl hE hp (v := (.int .i64 x7.2)) (ex_asn rfl hE rfl) ?_
      intro a hE
      refine s_nil ?_
      have hE := hE.cut (E' := [(2, vp2), (8, (.int .i64 (max x5 x6))), (9, vr3), (10, (.int .i64 x7.2))]) ⟨rfl, rfl, rfl, rfl, trivial⟩
      refine k_seq ?_
      refine k_region ?_
      refine s_val (wk0 rfl) rfl rfl hE hp (v := (.int .i64 (max x5 x6))) (ex_move rfl hE rfl) ?_
      intro a hE
      refine s_val (wk0 rfl) rfl rfl hE hp (v := vp2) (ex_move rfl hE rfl) ?_
      intro a hE
      obtain ⟨x8, ex8, hm⟩ := bnd hm
      refine s_call (wk0 rfl) rfl rfl hE rfl [(.int .i64 (max x5 x6)), (.int .i64 255), vp2] ⟨rfl, rfl, rfl, trivial⟩ ent22 (c_similarity_Pairs (max x5 x6) 255 p2 vp2 (RoSl.mono hp2 hle1) hp x8 ex8) Ret.ret ?_
      intro v a w hR hE
      obtain ⟨ρ2, vr5, hle2, rfl, hr5, hp⟩ := Ret.of hR
      have hp : Hp Z ρ2 (L) w := hp
      refine s_val (wk0 rfl) rfl rfl hE hp (v := (.tuple #[vr5, (.int .i64 x8.2)])) (ex_move rfl hE rfl) ?_
      intro a hE
      refine s_val (wk0 rfl) rfl rfl hE hp (v := vr5) (ex_extract rfl hE rfl rfl) ?_
      intro a hE
      refine s_val (wk0 rfl) rfl rfl hE hp (v := (.int .i64 x8.2)) (ex_extract rfl hE rfl rfl) ?_
      intro a hE
      refine s_val (wk0 rfl) rfl rfl hE hp (v := vr5) (ex_asn rfl hE rfl) ?_
      intro a hE
      refine s_val (wk0 rfl) rfl rfl hE hp (v := (.int .i64 x8.2)) (ex_asn rfl hE rfl) ?_
      intro a hE
      refine s_nil ?_
      refine k_seq ?_
      refine k_seq ?_
      refine k_region ?_
      refine s_val (wk0 rfl) rfl rfl hE hp (v := (.int .i64 x7.2)) (ex_move rfl hE rfl) ?_
      intro a hE
      refine s_val (wk0 rfl) rfl rfl hE hp (v := (.bool (!decide (x7.2 = 0)))) (ex_neq rfl hE rfl rfl) ?_
      intro a hE
      refine s_val (wk0 rfl) rfl rfl hE hp (v := (.bool (!decide (x7.2 = 0)))) (ex_move rfl hE rfl) ?_
      intro a hE
      refine s_cut [_, _, _] (fun a w => Env 125 [(55, (.bool ((!decide (x7.2 = 0)) || (!decide (x8.2 = 0))))), (2, vp2), (9, vr3), (11, vr5)] a ∧ Hp Z ρ2 (L) w) ?_ ?_
      · rcases Bool.eq_false_or_eq_true (!decide (x7.2 = 0)) with hb3 | hb3
        ·
          refine s_skip (wk2 hE rfl rfl rfl hb3) rfl rfl hE ?_
          intro a hE
          refine s_skip (wk2 hE rfl rfl rfl hb3) rfl rfl hE ?_
          intro a hE
          refine s_val (wk0 rfl) rfl rfl hE hp (v := (.bool true)) (ex_pick1 rfl hE rfl hb3 rfl) ?_
          intro a hE
          have hE := hE.eqv (v' := (.bool ((!decide (x7.2 = 0)) || (!decide (x8.2 = 0))))) (by rw [hb3]; rfl)
          exact s_nil ⟨hE.cut ⟨rfl, rfl, rfl, rfl, trivial⟩, hp⟩
        ·
          refine s_val (wk1 hE rfl rfl rfl hb3) rfl rfl hE hp (v := (.int .i64 x8.2)) (ex_move rfl hE rfl) ?_
          intro a hE
          refine s_val (wk1 hE rfl rfl rfl hb3) rfl rfl hE hp (v := (.bool (!decide (x8.2 = 0)))) (ex_neq rfl hE rfl rfl) ?_
          intro a hE
          refine s_val (wk0 rfl) rfl rfl hE hp (v := (.bool (!decide (x8.2 = 0)))) (ex_pick0 rfl hE rfl hb3 rfl) ?_
          intro a hE
          have hE := hE.eqv (v' := (.bool ((!decide (x7.2 = 0)) || (!decide (x8.2 = 0))))) (by rw [hb3]; rfl)
          exact s_nil ⟨hE.cut ⟨rfl, rfl, rfl, rfl, trivial⟩, hp⟩
      · rintro a w ⟨hE, hp⟩
        refine s_val (wk0 rfl) rfl rfl hE hp (v := (.bool ((!decide (x7.2 = 0)) || (!decide (x8.2 = 0))))) (ex_move rfl hE rfl) ?_
        intro a hE
        refine s_cut [_, _, _, _, _, _] (fun a w => Env 125 [(62, (.bool (((!decide (x7.2 = 0)) || (!decide (x8.2 = 0))) || (decide ((x7.1.length : Int) < (x8.1.length : Int)))))), (2, vp2), (9, vr3), (11, vr5)] a ∧ Hp Z ρ2 (L) w) ?_ ?_
        · rcases Bool.eq_false_or_eq_true ((!decide (x7.2 = 0)) || (!decide (x8.2 = 0))) with hb4 | hb4
          ·
            refine s_skip (wk2 hE rfl rfl rfl hb4) rfl rfl hE ?_
            intro a hE
            refine s_skip (wk2 hE rfl rfl rfl hb4) rfl rfl hE ?_
            intro a hE
            refine s_skip (wk2 hE rfl rfl rfl hb4) rfl rfl hE ?_
            intro a hE
            refine s_skip (wk2 hE rfl rfl rfl hb4) rfl rfl hE ?_
            intro a hE
            refine s_skip (wk2 hE rfl rfl rfl hb4) rfl rfl hE ?_
            intro a hE
            refine s_val (wk0 rfl) rfl rfl hE hp (v := (.bool true)) (ex_pick1 rfl hE rfl hb4 rfl) ?_
            intro a hE
            have hE := hE.eqv (v' := (.bool (((!decide (x7.2 = 0)) || (!decide (x8.2 = 0))) || (decide ((x7.1.length : Int) < (x8.1.length : Int)))))) (by rw [hb4]; rfl)
            exact s_nil ⟨hE.cut ⟨rfl, rfl, rfl, rfl, trivial⟩, hp⟩
          ·
            refine s_val (wk1 hE rfl rfl rfl hb4) rfl rfl hE hp (v := vr5) (ex_move rfl hE rfl) ?_
            intro a hE
            refine s_val (wk1 hE rfl rfl rfl hb4) rfl rfl hE hp (v := (.int .i64 (x8.1.length : Int))) (ex_len rfl hE rfl (RoSl.len hr5 slty37)) ?_
            intro a hE
            refine s_val (wk1 hE rfl rfl rfl hb4) rfl rfl hE hp (v := vr3) (ex_move rfl hE rfl) ?_
            intro a hE
            refine s_val (wk1 hE rfl rfl rfl hb4) rfl rfl hE hp (v := (.int .i64 (x7.1.length : Int))) (ex_len rfl hE rfl (RoSl.len (RoSl.mono hr3 hle2) slty37)) ?_
            intro a hE
            refine s_val (wk1 hE rfl rfl rfl hb4) rfl rfl hE hp (v := (.bool (decide ((x7.1.length : Int) < (x8.1.length : Int))))) (ex_gtr rfl hE rfl rfl) ?_
            intro a hE
            refine s_val (wk0 rfl) rfl rfl hE hp (v := (.bool (decide ((x7.1.length : Int) < (x8.1.length : Int))))) (ex_pick0 rfl hE rfl hb4 rfl) ?_
            intro a hE
            have hE := hE.eqv (v' := (.bool (((!decide (x7.2 = 0)) || (!decide (x8.2 = 0))) || (decide ((x7.1.length : Int) < (x8.1.length : Int)))))) (by rw [hb4]; rfl)
            exact s_nil ⟨hE.cut ⟨rfl, rfl, rfl, rfl, trivial⟩, hp⟩
        · rintro a w ⟨hE, hp⟩
          refine s_val (wk0 rfl) rfl rfl hE hp (v := (.bool (((!decide (x7.2 = 0)) || (!decide (x8.2 = 0))) || (decide ((x7.1.length : Int) < (x8.1.length : Int)))))) (ex_move rfl hE rfl) ?_
          intro a hE
          obtain ⟨m1, hg1, hm⟩ := bnd hm
          refine s_cut [_, _, _, _, _, _, _, _] (fun a w => Env 125 [(71, (.bool m1)), (2, vp2), (9, vr3), (11, vr5)] a ∧ Hp Z ρ2 (L) w) ?_ ?_
          · rcases Bool.eq_false_or_eq_true (((!decide (x7.2 = 0)) || (!decide (x8.2 = 0))) || (decide ((x7.1.length : Int) < (x8.1.length : Int)))) with hb5 | hb5
            ·
              replace hg1 := (it hb5).symm.trans hg1
              refine s_skip (wk2 hE rfl rfl rfl hb5) rfl rfl hE ?_
              intro a hE
              refine s_skip (wk2 hE rfl rfl rfl hb5) rfl rfl hE ?_
              intro a hE
              refine s_skip (wk2 hE rfl rfl rfl hb5) rfl rfl hE ?_
              intro a hE
              refine s_skip (wk2 hE rfl rfl rfl hb5) rfl rfl hE ?_
              intro a hE
              refine s_skip (wk2 hE rfl rfl rfl hb5) rfl rfl hE ?_
              intro a hE
              refine s_skip (wk2 hE rfl rfl rfl hb5) rfl rfl hE ?_
              intro a hE
              refine s_skip (wk2 hE rfl rfl rfl hb5) rfl rfl hE ?_
              intro a hE
              refine s_val (wk0 rfl) rfl rfl hE hp (v := (.bool true)) (ex_pick1 rfl hE rfl hb5 rfl) ?_
              intro a hE
              obtain rfl := Option.some.inj hg1
              exact s_nil ⟨hE.cut ⟨rfl, rfl, rfl, rfl, trivial⟩, hp⟩
            ·
              replace hg1 := (ie hb5).symm.trans hg1
              refine s_val (wk1 hE rfl rfl rfl hb5) rfl rfl hE hp (v := vr3) (ex_move rfl hE rfl) ?_
              intro a hE
              refine s_val (wk1 hE rfl rfl rfl hb5) rfl rfl hE hp (v := vr5) (ex_move rfl hE rfl) ?_
              intro a hE
              refine s_val (wk1 hE rfl rfl rfl hb5) rfl rfl hE hp (v := (.int .i64 (x8.1.length : Int))) (ex_len rfl hE rfl (RoSl.len hr5 slty37)) ?_
              intro a hE
              obtain ⟨x9, ex9, hg1⟩ := bnd hg1
              obtain ⟨v1, v1r, f1⟩ := RoSl.part (RoSl.mono hr3 hle2) slty37 none (some (.i64, (x8.1.length : Int))) rfl rfl ex9
              refine s_val (wk1 hE rfl rfl rfl hb5) rfl rfl hE hp (v := v1) (ex_sl rfl hE rfl none (some (.i64, (x8.1.length : Int))) (by exact trivial) (by exact rfl) v1r) ?_
              intro a hE
              refine s_val (wk1 hE rfl rfl rfl hb5) rfl rfl hE hp (v := vr5) (ex_move rfl hE rfl) ?_
              intro a hE
              obtain ⟨x10, ex10, hg1⟩ := bnd hg1
              refine s_call (wk1 hE rfl rfl rfl hb5) rfl rfl hE rfl [v1, vr5] ⟨rfl, rfl, trivial⟩ ent24 (c_assessorlaw44_pairs x9 v1 f1 x8.1 vr5 hr5 hp x10 ex10) Ret.ret ?_
              intro v a w hR hE
              obtain ⟨rfl, hp⟩ := Ret.of hR
              have hp : Hp Z ρ2 (L) w := hp
              refine s_val (wk1 hE rfl rfl rfl hb5) rfl rfl hE hp (v := (.bool (!x10))) (ex_not rfl hE rfl) ?_
              intro a hE
              refine s_val (wk0 rfl) rfl rfl hE hp (v := (.bool (!x10))) (ex_pick0 rfl hE rfl hb5 rfl) ?_
              intro a hE
              obtain rfl := Option.some.inj hg1
              exact s_nil ⟨hE.cut ⟨rfl, rfl, rfl, rfl, trivial⟩, hp⟩
          · rintro a w ⟨hE, hp⟩
            refine s_nil ?_
            refine k_if hE rfl (fun hb6 => ?_) (fun hb6 => ?_)
            · replace hm := (it hb6).symm.trans hm
              refine k_seq ?_
              refine k_region ?_
              refine s_val (wk0 rfl) rfl rfl hE hp (v := (.bool false)) (ex_asn rfl hE rfl) ?_
              intro a hE
              refine s_nil ?_
              refine k_ret ?_
              obtain rfl := Option.some.inj hm
              exact ret1 hE rfl rfl ⟨_, rfl, rfl, ((hp.less hle2).less hle1)⟩
            · replace hm := (ie hb6).symm.trans hm
              refine k_skip ?_
              refine k_seq ?_
              refine k_region ?_
              refine s_val (wk0 rfl) rfl rfl hE hp (v := vp2) (ex_move rfl hE rfl) ?_
              intro a hE
              refine s_val (wk0 rfl) rfl rfl hE hp (v := (.int .i64 (p2.length : Int))) (ex_len rfl hE rfl (RoSl.len (RoSl.mono (RoSl.mono hp2 hle1) hle2) slty22)) ?_
              intro a hE
              refine s_val (wk0 rfl) rfl rfl hE hp (v := vr3) (ex_move rfl hE rfl) ?_
              intro a hE
              obtain ⟨x11, ex11, hm⟩ := bnd hm
              refine s_call (wk0 rfl) rfl rfl hE rfl [(.int .i64 (p2.length : Int)), vr3] ⟨rfl, rfl, trivial⟩ ent26 (c_similarity_Clusters (p2.length : Int) x7.1 vr3 (RoSl.mono hr3 hle2) hp x11 ex11) Ret.ret ?_
              intro v a w hR hE
              obtain ⟨ρ3, vr8, hle3, rfl, hr8, hp⟩ := Ret.of hR
              have hp : Hp Z ρ3 (L) w := hp
              refine s_val (wk0 rfl) rfl rfl hE hp (v := (.tuple #[vr8, (.int .i64 x11.2)])) (ex_move rfl hE rfl) ?_
              intro a hE
              refine s_val (wk0 rfl) rfl rfl hE hp (v := vr8) (ex_extract rfl hE rfl rfl) ?_
              intro a hE
              refine s_val (wk0 rfl) rfl rfl hE hp (v := (.int .i64 x11.2)) (ex_extract rfl hE rfl rfl) ?_
              intro a hE
              refine s_val (wk0 rfl) rfl rfl hE hp (v := vr8) (ex_asn rfl hE rfl) ?_
              intro a hE
              refine s_val (wk0 rfl) rfl rfl hE hp (v := (.int .i64 x11.2)) (ex_asn rfl hE rfl) ?_
              intro a hE
              refine s_nil ?_
              refine k_seq ?_
              refine k_region ?_
              refine s_val (wk0 rfl) rfl rfl hE hp (v := vp2) (ex_move rfl hE rfl) ?_
              intro a hE
              refine s_val (wk0 rfl) rfl rfl hE hp (v := (.int .i64 (p2.length : Int))) (ex_len rfl hE rfl (RoSl.len (RoSl.mono (RoSl.mono (RoSl.mono hp2 hle1) hle2) hle3) slty22)) ?_
              intro a hE
              refine s_val (wk0 rfl) rfl rfl hE hp (v := vr5) (ex_move rfl hE rfl) ?_
              intro a hE
              obtain ⟨x12, ex12, hm⟩ := bnd hm
              refine s_call (wk0 rfl) rfl rfl hE rfl [(.int .i64 (p2.length : Int)), vr5] ⟨rfl, rfl, trivial⟩ ent26 (c_similarity_Clusters (p2.length : Int) x8.1 vr5 (RoSl.mono hr5 hle3) hp x12 ex12) Ret.ret ?_
              intro v a w hR hE
              obtain ⟨ρ4, vr10, hle4, rfl, hr10, hp⟩ := Ret.of hR
              have hp : Hp Z ρ4 (L) w := hp
              refine s_val (wk0 rfl) rfl rfl hE hp (v := (.tuple #[vr10, (.int .i64 x12.2)])) (ex_move rfl hE rfl) ?_
              intro a hE
              refine s_val (wk0 rfl) rfl rfl hE hp (v := vr10) (ex_extract rfl hE rfl rfl) ?_
              intro a hE
              refine s_val (wk0 rfl) rfl rfl hE hp (v := (.int .i64 x12.2)) (ex_extract rfl hE rfl rfl) ?_
              intro a hE
              refine s_val (wk0 rfl) rfl rfl hE hp (v := vr10) (ex_asn rfl hE rfl) ?_
              intro a hE
              refine s_val (wk0 rfl) rfl rfl hE hp (v := (.int .i64 x12.2)) (ex_asn rfl hE rfl) ?_
              intro a hE
              refine s_nil ?_
              refine k_seq ?_
              refine k_seq ?_
              refine k_region ?_
              refine s_val (wk0 rfl) rfl rfl hE hp (v := (.int .i64 x11.2)) (ex_move rfl hE rfl) ?_
              intro a hE
              refine s_val (wk0 rfl) rfl rfl hE hp (v := (.bool (!decide (x11.2 = 0)))) (ex_neq rfl hE rfl rfl) ?_
              intro a hE
              refine s_val (wk0 rfl) rfl rfl hE hp (v := (.bool (!decide (x11.2 = 0)))) (ex_move rfl hE rfl) ?_
              intro a hE
              refine s_cut [_, _, _] (fun a w => Env 125 [(91, (.bool ((!decide (x11.2 = 0)) || (!decide (x12.2 = 0))))), (13, vr8), (14, vr10)] a ∧ Hp Z ρ4 (L) w) ?_ ?_
              · rcases Bool.eq_false_or_eq_true (!decide (x11.2 = 0)) with hb7 | hb7
                ·
                  refine s_skip (wk2 hE rfl rfl rfl hb7) rfl rfl hE ?_
                  intro a hE
                  refine s_skip (wk2 hE rfl rfl rfl hb7) rfl rfl hE ?_
                  intro a hE
                  refine s_val (wk0 rfl) rfl rfl hE hp (v := (.bool true)) (ex_pick1 rfl hE rfl hb7 rfl) ?_
                  intro a hE
                  have hE := hE.eqv (v' := (.bool ((!decide (x11.2 = 0)) || (!decide (x12.2 = 0))))) (by rw [hb7]; rfl)
                  exact s_nil ⟨hE.cut ⟨rfl, rfl, rfl, trivial⟩, hp⟩
                ·
                  refine s_val (wk1 hE rfl rfl rfl hb7) rfl rfl hE hp (v := (.int .i64 x12.2)) (ex_move rfl hE rfl) ?_
                  intro a hE
                  refine s_val (wk1 hE rfl rfl rfl hb7) rfl rfl hE hp (v := (.bool (!decide (x12.2 = 0)))) (ex_neq rfl hE rfl rfl) ?_
                  intro a hE
                  refine s_val (wk0 rfl) rfl rfl hE hp (v := (.bool (!decide (x12.2 = 0)))) (ex_pick0 rfl hE rfl hb7 rfl) ?_
                  intro a hE
                  have hE := hE.eqv (v' := (.bool ((!decide (x11.2 = 0)) || (!decide (x12.2 = 0))))) (by rw [hb7]; rfl)
                  exact s_nil ⟨hE.cut ⟨rfl, rfl, rfl, trivial⟩, hp⟩
              · rintro a w ⟨hE, hp⟩
                refine s_nil ?_
                refine k_if hE rfl (fun hb8 => ?_) (fun hb8 => ?_)
                · replace hm := (it hb8).symm.trans hm
                  refine k_seq ?_
                  refine k_region ?_
                  refine s_val (wk0 rfl) rfl rfl hE hp (v := (.bool false)) (ex_asn rfl hE rfl) ?_
                  intro a hE
                  refine s_nil ?_
                  refine k_ret ?_
                  obtain rfl := Option.some.inj hm
                  exact ret1 hE rfl rfl ⟨_, rfl, rfl, ((((hp.less hle4).less hle3).less hle2).less hle1)⟩
                · replace hm := (ie hb8).symm.trans hm
                  refine k_skip ?_
                  refine k_seq ?_
                  refine k_seq ?_
                  refine k_region ?_
                  refine s_val (wk0 rfl) rfl rfl hE hp (v := vr10) (ex_move rfl hE rfl) ?_
                  intro a hE
                  refine s_val (wk0 rfl) rfl rfl hE hp (v := (.int .i64 (x12.1.length : Int))) (ex_len rfl hE rfl (RoSl.len hr10 slty45)) ?_
                  intro a hE
                  refine s_val (wk0 rfl) rfl rfl hE hp (v := (.int .i64 0)) (ex_move rfl hE rfl) ?_
                  intro a hE
                  refine s_nil ?_
                  obtain ⟨b1, hb9, hm⟩ := bnd hm
                  refine k_block (fun a w => ∃ s : Unit, b1 = .brk s ∧ (Env 125 [] a ∧ Hp Z ρ4 (L) w)) ?_ ?_
                  · refine k_loop hb9 (fun s a w => Env 125 [(13, vr8), (92, vr10), (93, (.int .i64 (x12.1.length : Int))), (94, (.int .i64 s))] a ∧ Hp Z ρ4 (L) w) ?_ ?_
                    · exact ⟨hE.cut ⟨rfl, rfl, rfl, rfl, trivial⟩, hp⟩
                    · rintro lp1_0 st a w ⟨hE, hp⟩ hl1
                      have hE : Env 125 [(13, vr8), (92, vr10), (93, (.int .i64 (x12.1.length : Int))), (94, (.int .i64 lp1_0))] a := hE
                      have hp : Hp Z ρ4 (L) w := hp
                      replace hl1 : m_assessorlaw44_SimilarityFiner_lp1 x11 x12 lp1_0 = some st := hl1
                      unfold m_assessorlaw44_SimilarityFiner_lp1 at hl1
                      refine k_seq ?_
                      refine k_region ?_
                      refine s_val (wk0 rfl) rfl rfl hE hp (v := (.bool (decide (lp1_0 < (x12.1.length : Int))))) (ex_lss rfl hE rfl rfl) ?_
                      intro a hE
                      refine s_nil ?_
                      refine k_seq ?_
                      refine k_if hE rfl (fun hb10 => ?_) (fun hb10 => ?_)
                      · replace hl1 := (it hb10).symm.trans hl1
                        refine k_skip ?_
                        refine k_seq ?_
                        refine k_plain ?_
                        refine k_seq ?_
                        refine k_region ?_
                        obtain ⟨x13, ex13, hl1⟩ := bnd hl1
                        obtain ⟨b2, b2o, b2c, b2r, b2k, b2f⟩ := RoSl.at hr10 slty45 ex13
                        obtain ⟨vb2, rfl, hb2⟩ := b2k
                        have b2f : AtP ρ4 b2 b2o [vb2] := b2f
                        refine s_val (wk0 rfl) rfl rfl hE hp (v := (.pointer (some ⟨b2, b2o, none⟩))) (ex_index rfl hE rfl rfl b2r) ?_
                        intro a hE
                        refine s_val (wk0 rfl) rfl rfl hE hp (v := vb2) (ex_load rfl hE rfl (fun w hw => run_ld1 varty23 (b2f.c 0 rfl w hw))) ?_
                        intro a hE
                        refine s_val (wk0 rfl) rfl rfl hE hp (v := vb2) (ex_asn rfl hE rfl) ?_
                        intro a hE
                        refine s_nil ?_
                        refine k_seq ?_
                        refine k_region ?_
                        refine s_val (wk0 rfl) rfl rfl hE hp (v := (.bool false)) (ex_asn rfl hE rfl) ?_
                        intro a hE
                        refine s_nil ?_
                        refine k_seq ?_
                        refine k_seq ?_
                        refine k_region ?_
                        refine s_val (wk0 rfl) rfl rfl hE hp (v := vr8) (ex_move rfl hE rfl) ?_
                        intro a hE
                        refine s_val (wk0 rfl) rfl rfl hE hp (v := (.int .i64 (x11.1.length : Int))) (ex_len rfl hE rfl (RoSl.len (RoSl.mono hr8 hle4) slty45)) ?_
                        intro a hE
                        refine s_val (wk0 rfl) rfl rfl hE hp (v := (.int .i64 0)) (ex_move rfl hE rfl) ?_
                        intro a hE
                        refine s_nil ?_
                        have hE := hE.cut (E' := [(13, vr8), (16, vb2), (17, (.bool false)), (92, vr10), (93, (.int .i64 (x12.1.length : Int))), (94, (.int .i64 lp1_0)), (98, vr8), (99, (.int .i64 (x11.1.length : Int))), (100, (.int .i64 0))]) ⟨rfl, rfl, rfl, rfl, rfl, rfl, rfl, rfl, rfl, trivial⟩
                        obtain ⟨b3, hb11, hl1⟩ := bnd hl1
                        refine k_block (fun a w => Env 125 [(13, vr8), (17, (.bool b3)), (92, vr10), (93, (.int .i64 (x12.1.length : Int))), (94, (.int .i64 lp1_0))] a ∧ Hp Z ρ4 (L) w) ?_ ?_
                        · refine k_loop hb11 (fun s a w => Env 125 [(13, vr8), (16, vb2), (17, (.bool s.1)), (92, vr10), (93, (.int .i64 (x12.1.length : Int))), (94, (.int .i64 lp1_0)), (98, vr8), (99, (.int .i64 (x11.1.length : Int))), (100, (.int .i64 s.2))] a ∧ Hp Z ρ4 (L) w) ?_ ?_
                          · exact ⟨hE.cut ⟨rfl, rfl, rfl, rfl, rfl, rfl, rfl, rfl, rfl, trivial⟩, hp⟩
                          · rintro ⟨lp2_0, lp2_1⟩ st a w ⟨hE, hp⟩ hl2
                            have hE : Env 125 [(13, vr8), (16, vb2), (17, (.bool lp2_0)), (92, vr10), (93, (.int .i64 (x12.1.length : Int))), (94, (.int .i64 lp1_0)), (98, vr8), (99, (.int .i64 (x11.1.length : Int))), (100, (.int .i64 lp2_1))] a := hE
                            have hp : Hp Z ρ4 (L) w := hp
                            replace hl2 : m_assessorlaw44_SimilarityFiner_lp2 x11 x13 lp2_0 lp2_1 = some st := hl2
                            unfold m_assessorlaw44_SimilarityFiner_lp2 at hl2
                            refine k_seq ?_
                            refine k_region ?_
                            refine s_val (wk0 rfl) rfl rfl hE hp (v := (.bool (decide (lp2_1 < (x11.1.length : Int))))) (ex_lss rfl hE rfl rfl) ?_
                            intro a hE
                            refine s_nil ?_
                            refine k_seq ?_
                            refine k_if hE rfl (fun hb12 => ?_) (fun hb12 => ?_)
                            · replace hl2 := (it hb12).symm.trans hl2
                              refine k_skip ?_
                              refine k_seq ?_
                              refine k_plain ?_
                              refine k_seq ?_
                              refine k_region ?_
                              obtain ⟨x14, ex14, hl2⟩ := bnd hl2
                              obtain ⟨b4, b4o, b4c, b4r, b4k, b4f⟩ := RoSl.at (RoSl.mono hr8 hle4) slty45 ex14
                              obtain ⟨vb4, rfl, hb4⟩ := b4k
                              have b4f : AtP ρ4 b4 b4o [vb4] := b4f
                              refine s_val (wk0 rfl) rfl rfl hE hp (v := (.pointer (some ⟨b4, b4o, none⟩))) (ex_index rfl hE rfl rfl b4r) ?_
                              intro a hE
                              refine s_val (wk0 rfl) rfl rfl hE hp (v := vb4) (ex_load rfl hE rfl (fun w hw => run_ld1 varty23 (b4f.c 0 rfl w hw))) ?_
                              intro a hE
                              refine s_val (wk0 rfl) rfl rfl hE hp (v := vb4) (ex_asn rfl hE rfl) ?_
                              intro a hE
                              refine s_nil ?_
                              refine k_seq ?_
                              refine k_region ?_
                              refine s_val (wk0 rfl) rfl rfl hE hp (v := (.bool true)) (ex_asn rfl hE rfl) ?_
                              intro a hE
                              refine s_nil ?_
                              refine k_seq ?_
                              refine k_seq ?_
                              refine k_region ?_
                              refine s_val (wk0 rfl) rfl rfl hE hp (v := vb2) (ex_move rfl hE rfl) ?_
                              intro a hE
                              refine s_val (wk0 rfl) rfl rfl hE hp (v := (.int .i64 (x13.length : Int))) (ex_len rfl hE rfl (RoSl.len hb2 slty23)) ?_
                              intro a hE
                              refine s_val (wk0 rfl) rfl rfl hE hp (v := (.int .i64 0)) (ex_move rfl hE rfl) ?_
                              intro a hE
                              refine s_nil ?_
                              obtain ⟨b5, hb13, hl2⟩ := bnd hl2
                              refine k_block (fun a w => Env 125 [(13, vr8), (16, vb2), (17, (.bool lp2_0)), (20, (.bool b5)), (92, vr10), (93, (.int .i64 (x12.1.length : Int))), (94, (.int .i64 lp1_0)), (98, vr8), (99, (.int .i64 (x11.1.length : Int))), (100, (.int .i64 lp2_1))] a ∧ Hp Z ρ4 (L) w) ?_ ?_
                              · refine k_loop hb13 (fun s a w => Env 125 [(13, vr8), (16, vb2), (17, (.bool lp2_0)), (19, vb4), (20, (.bool s.1)), (92, vr10), (93, (.int .i64 (x12.1.length : Int))), (94, (.int .i64 lp1_0)), (98, vr8), (99, (.int .i64 (x11.1.length : Int))), (100, (.int .i64 lp2_1)), (104, vb2), (105, (.int .i64 (x13.length : Int))), (106, (.int .i64 s.2))] a ∧ Hp Z ρ4 (L) w) ?_ ?_
                                · exact ⟨hE.cut ⟨rfl, rfl, rfl, rfl, rfl, rfl, rfl, rfl, rfl, rfl, rfl, rfl, rfl, rfl, trivial⟩, hp⟩
                                · rintro ⟨lp3_0, lp3_1⟩ st a w ⟨hE, hp⟩ hl3
                                  have hE : Env 125 [(13, vr8), (16, vb2), (17, (.bool lp2_0)), (19, vb4), (20, (.bool lp3_0)), (92, vr10), (93, (.int .i64 (x12.1.length : Int))), (94, (.int .i64 lp1_0)), (98, vr8), (99, (.int .i64 (x11.1.length : Int))), (100, (.int .i64 lp2_1)), (104, vb2), (105, (.int .i64 (x13.length : Int))), (106, (.int .i64 lp3_1))] a := hE
                                  have hp : Hp Z ρ4 (L) w := hp
                                  replace hl3 : m_assessorlaw44_SimilarityFiner_lp3 x13 x14 lp3_0 lp3_1 = some st := hl3
                                  unfold m_assessorlaw44_SimilarityFiner_lp3 at hl3
                                  refine k_seq ?_
                                  refine k_region ?_
                                  refine s_val (wk0 rfl) rfl rfl hE hp (v := (.bool (decide (lp3_1 < (x13.length : Int))))) (ex_lss rfl hE rfl rfl) ?_
                                  intro a hE
                                  refine s_nil ?_
                                  refine k_seq ?_
                                  refine k_if hE rfl (fun hb14 => ?_) (fun hb14 => ?_)
                                  · replace hl3 := (it hb14).symm.trans hl3
                                    refine k_skip ?_
                                    refine k_seq ?_
                                    refine k_plain ?_
                                    refine k_seq ?_
                                    refine k_region ?_
                                    obtain ⟨x15, ex15, hl3⟩ := bnd hl3
                                    obtain ⟨b6, b6o, b6c, b6r, b6k, b6f⟩ := RoSl.at hb2 slty23 ex15
                                    obtain rfl : b6c = Enc.enc x15 := b6k
                                    have b6f : AtP ρ4 b6 b6o [(.int .i64 x15)] := b6f
                                    refine s_val (wk0 rfl) rfl rfl hE hp (v := (.pointer (some ⟨b6, b6o, none⟩))) (ex_index rfl hE rfl rfl b6r) ?_
                                    intro a hE
                                    refine s_val (wk0 rfl) rfl rfl hE hp (v := (.int .i64 x15)) (ex_load rfl hE rfl (fun w hw => run_ld1 varty3 (b6f.c 0 rfl w hw))) ?_
                                    intro a hE
                                    refine s_val (wk0 rfl) rfl rfl hE hp (v := (.int .i64 x15)) (ex_asn rfl hE rfl) ?_
                                    intro a hE
                                    refine s_nil ?_
                                    refine k_region ?_
                                    refine s_val (wk0 rfl) rfl rfl hE hp (v := (.bool lp3_0)) (ex_move rfl hE rfl) ?_
                                    intro a hE
                                    refine s_val (wk0 rfl) rfl rfl hE hp (v := (.bool lp3_0)) (ex_move rfl hE rfl) ?_
                                    intro a hE
                                    obtain ⟨m2, hg2, hl3⟩ := bnd hl3
                                    refine s_cut [_, _, _, _] (fun a w => Env 125 [(115, (.bool m2)), (13, vr8), (16, vb2), (17, (.bool lp2_0)), (19, vb4), (92, vr10), (93, (.int .i64 (x12.1.length : Int))), (94, (.int .i64 lp1_0)), (98, vr8), (99, (.int .i64 (x11.1.length : Int))), (100, (.int .i64 lp2_1)), (104, vb2), (105, (.int .i64 (x13.length : Int))), (106, (.int .i64 lp3_1))] a ∧ Hp Z ρ4 (L) w) ?_ ?_
                                    · rcases Bool.eq_false_or_eq_true lp3_0 with hb15 | hb15
                                      ·
                                        replace hg2 := (it hb15).symm.trans hg2
                                        refine s_val (wk1 hE rfl rfl rfl hb15) rfl rfl hE hp (v := vb4) (ex_move rfl hE rfl) ?_
                                        intro a hE
                                        refine s_val (wk1 hE rfl rfl rfl hb15) rfl rfl hE hp (v := (.int .i64 x15)) (ex_move rfl hE rfl) ?_
                                        intro a hE
                                        obtain ⟨x16, ex16, hg2⟩ := bnd hg2
                                        refine s_call (wk1 hE rfl rfl rfl hb15) rfl rfl hE rfl [vb4, (.int .i64 x15)] ⟨rfl, rfl, trivial⟩ ent28 (c_assessorref44_Has x14 vb4 hb4 x15 hp x16 ex16) Ret.ret ?_
                                        intro v a w hR hE
                                        obtain ⟨rfl, hp⟩ := Ret.of hR
                                        have hp : Hp Z ρ4 (L) w := hp
                                        refine s_val (wk0 rfl) rfl rfl hE hp (v := (.bool x16)) (ex_pick1 rfl hE rfl hb15 rfl) ?_
                                        intro a hE
                                        obtain rfl := Option.some.inj hg2
                                        exact s_nil ⟨hE.cut ⟨rfl, rfl, rfl, rfl, rfl, rfl, rfl, rfl, rfl, rfl, rfl, rfl, rfl, rfl, trivial⟩, hp⟩
                                      ·
                                        replace hg2 := (ie hb15).symm.trans hg2
                                        refine s_skip (wk2 hE rfl rfl rfl hb15) rfl rfl hE ?_
                                        intro a hE
                                        refine s_skip (wk2 hE rfl rfl rfl hb15) rfl rfl hE ?_
                                        intro a hE
                                        refine s_skip (wk2 hE rfl rfl rfl hb15) rfl rfl hE ?_
                                        intro a hE
                                        refine s_val (wk0 rfl) rfl rfl hE hp (v := (.bool false)) (ex_pick0 rfl hE rfl hb15 rfl) ?_
                                        intro a hE
                                        obtain rfl := Option.some.inj hg2
                                        exact s_nil ⟨hE.cut ⟨rfl, rfl, rfl, rfl, rfl, rfl, rfl, rfl, rfl, rfl, rfl, rfl, rfl, rfl, trivial⟩, hp⟩
                                    · rintro a w ⟨hE, hp⟩
                                      refine s_val (wk0 rfl) rfl rfl hE hp (v := (.bool m2)) (ex_asn rfl hE rfl) ?_
                                      intro a hE
                                      refine s_nil ?_
                                      refine k_region ?_
                                      obtain ⟨x17, ex17, hl3⟩ := bnd hl3
                                      refine s_val (wk0 rfl) rfl rfl hE hp (v := (.int .i64 x17)) (ex_add rfl hE rfl rfl (inK_some ex17)) ?_
                                      intro a hE
                                      refine s_val (wk0 rfl) rfl rfl hE hp (v := (.int .i64 x17)) (ex_move rfl hE rfl) ?_
                                      intro a hE
                                      refine s_nil ?_
                                      exact ⟨_, (Option.some.inj hl3).symm, hE.cut ⟨rfl, rfl, rfl, rfl, rfl, rfl, rfl, rfl, rfl, rfl, rfl, rfl, rfl, rfl, trivial⟩, hp⟩
                                  · replace hl3 := (ie hb14).symm.trans hl3
                                    refine k_exit ?_
                                    refine ⟨_, (Option.some.inj hl3).symm, fun hbb => ?_⟩
                                    subst hbb
                                    exact ⟨hE.cut ⟨rfl, rfl, rfl, rfl, rfl, rfl, rfl, rfl, rfl, rfl, trivial⟩, hp⟩
                              · rintro a w ⟨hE, hp⟩
                                refine k_region ?_
                                refine s_val (wk0 rfl) rfl rfl hE hp (v := (.bool lp2_0)) (ex_move rfl hE rfl) ?_
                                intro a hE
                                refine s_val (wk0 rfl) rfl rfl hE hp (v := (.bool lp2_0)) (ex_move rfl hE rfl) ?_
                                intro a hE
                                refine s_cut [_, _] (fun a w => Env 125 [(120, (.bool (lp2_0 || b5))), (13, vr8), (16, vb2), (92, vr10), (93, (.int .i64 (x12.1.length : Int))), (94, (.int .i64 lp1_0)), (98, vr8), (99, (.int .i64 (x11.1.length : Int))), (100, (.int .i64 lp2_1))] a ∧ Hp Z ρ4 (L) w) ?_ ?_
                                · rcases Bool.eq_false_or_eq_true lp2_0 with hb16 | hb16
                                  ·
                                    refine s_skip (wk2 hE rfl rfl rfl hb16) rfl rfl hE ?_
                                    intro a hE
                                    refine s_val (wk0 rfl) rfl rfl hE hp (v := (.bool true)) (ex_pick1 rfl hE rfl hb16 rfl) ?_
                                    intro a hE
                                    have hE := hE.eqv (v' := (.bool (lp2_0 || b5))) (by rw [hb16]; rfl)
                                    exact s_nil ⟨hE.cut ⟨rfl, rfl, rfl, rfl, rfl, rfl, rfl, rfl, rfl, trivial⟩, hp⟩
                                  ·
                                    refine s_val (wk1 hE rfl rfl rfl hb16) rfl rfl hE hp (v := (.bool b5)) (ex_move rfl hE rfl) ?_
                                    intro a hE
                                    refine s_val (wk0 rfl) rfl rfl hE hp (v := (.bool b5)) (ex_pick0 rfl hE rfl hb16 rfl) ?_
                                    intro a hE
                                    have hE := hE.eqv (v' := (.bool (lp2_0 || b5))) (by rw [hb16]; rfl)
                                    exact s_nil ⟨hE.cut ⟨rfl, rfl, rfl, rfl, rfl, rfl, rfl, rfl, rfl, trivial⟩, hp⟩
                                · rintro a w ⟨hE, hp⟩
                                  refine s_val (wk0 rfl) rfl rfl hE hp (v := (.bool (lp2_0 || b5))) (ex_asn rfl hE rfl) ?_
                                  intro a hE
                                  refine s_nil ?_
                                  refine k_region ?_
                                  obtain ⟨x18, ex18, hl2⟩ := bnd hl2
                                  refine s_val (wk0 rfl) rfl rfl hE hp (v := (.int .i64 x18)) (ex_add rfl hE rfl rfl (inK_some ex18)) ?_
                                  intro a hE
                                  refine s_val (wk0 rfl) rfl rfl hE hp (v := (.int .i64 x18)) (ex_move rfl hE rfl) ?_
                                  intro a hE
                                  refine s_nil ?_
                                  exact ⟨_, (Option.some.inj hl2).symm, hE.cut ⟨rfl, rfl, rfl, rfl, rfl, rfl, rfl, rfl, rfl, trivial⟩, hp⟩
                            · replace hl2 := (ie hb12).symm.trans hl2
                              refine k_exit ?_
                              refine ⟨_, (Option.some.inj hl2).symm, fun hbb => ?_⟩
                              subst hbb
                              exact ⟨hE.cut ⟨rfl, rfl, rfl, rfl, rfl, trivial⟩, hp⟩
                        · rintro a w ⟨hE, hp⟩
                          refine k_seq ?_
                          refine k_region ?_
                          refine s_val (wk0 rfl) rfl rfl hE hp (v := (.bool b3)) (ex_move rfl hE rfl) ?_
                          intro a hE
                          refine s_val (wk0 rfl) rfl rfl hE hp (v := (.bool (!b3))) (ex_not rfl hE rfl) ?_
                          intro a hE
                          refine s_nil ?_
                          refine k_if hE rfl (fun hb17 => ?_) (fun hb17 => ?_)
                          · replace hl1 := (it hb17).symm.trans hl1
                            refine k_seq ?_
                            refine k_region ?_
                            refine s_val (wk0 rfl) rfl rfl hE hp (v := (.bool false)) (ex_asn rfl hE rfl) ?_
                            intro a hE
                            refine s_nil ?_
                            refine k_ret ?_
                            refine ⟨_, (Option.some.inj hl1).symm, fun hb => ?_⟩
                            subst hb
                            obtain rfl := Option.some.inj hm
                            exact ret1 hE rfl rfl ⟨_, rfl, rfl, ((((hp.less hle4).less hle3).less hle2).less hle1)⟩
                          · replace hl1 := (ie hb17).symm.trans hl1
                            refine k_skip ?_
                            refine k_region ?_
                            obtain ⟨x19, ex19, hl1⟩ := bnd hl1
                            refine s_val (wk0 rfl) rfl rfl hE hp (v := (.int .i64 x19)) (ex_add rfl hE rfl rfl (inK_some ex19)) ?_
                            intro a hE
                            refine s_val (wk0 rfl) rfl rfl hE hp (v := (.int .i64 x19)) (ex_move rfl hE rfl) ?_
                            intro a hE
                            refine s_nil ?_
                            exact ⟨_, (Option.some.inj hl1).symm, hE.cut ⟨rfl, rfl, rfl, rfl, trivial⟩, hp⟩
                      · replace hl1 := (ie hb10).symm.trans hl1
                        refine k_exit ?_
                        refine ⟨_, (Option.some.inj hl1).symm, fun hbb => ?_⟩
                        exact ⟨_, hbb.symm, hE.cut trivial, hp⟩
                  · rintro a w ⟨b1s, rfl, hE, hp⟩
                    dsimp only at hm
                    refine k_seq ?_
                    refine k_region ?_
                    refine s_val (wk0 rfl) rfl rfl hE hp (v := (.bool true)) (ex_asn rfl hE rfl) ?_
                    intro a hE
                    refine s_nil ?_
                    refine k_ret ?_
                    obtain rfl := Option.some.inj hm
                    exact ret1 hE rfl rfl ⟨_, rfl, rfl, ((((hp.less hle4).less hle3).less hle2).less hle1)⟩
end Go.Proofs.Ytmfepkadggigpaa

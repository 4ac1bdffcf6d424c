/-
  The code goes as its model: assessor/assessorlaw43.FingerprintWinnows. (Printed by wip/sp/gen.py.)
-/
import Derived.Test.YtlnhijgieblmgaaDoorWWM
import Derived.Test.YtlnhijgieblmgaaDoorFct
import Derived.Test.YtlnhijgieblmgaaDoorWS
set_option linter.unusedVariables false
set_option linter.unusedSimpArgs false
namespace Go.Proofs.YtlnhijgieblmgaaDoor
open Go.RowKit

/- assessor/assessorlaw43.FingerprintWinnows -/
set_option maxRecDepth 100000 in
set_option maxHeartbeats 4000000 in
theorem c_assessorlaw43_FingerprintWinnows {Z : World} {ρ : PH} {L : List Atom} {w : World} (hT : Tabs ρ) (p0 : (List Int)) (vp0 : Value) (hp0 : RoSl ρ vp0 p0) (p1 : Int) (p2 : (List Mark)) (vp2 : Value) (hp2 : RoSl ρ vp2 p2) (p3 : (List Mark)) (vp3 : Value) (hp3 : RoSl ρ vp3 p3) (hp : Hp Z ρ (L) w) (r : Bool) (hm : m_assessorlaw43_FingerprintWinnows p0 p1 p2 p3 = some r) :
    Calls Tryd.prog 6 #[vp0, (.int .i64 p1), vp2, vp3] w (Ret fun v w' => v = (.bool r) ∧ Hp Z ρ (L) w') := by
  refine enter (N := 62) Tryd.func6 rfl rfl [(0, vp0), (1, (.int .i64 p1)), (2, vp2), (3, vp3)] rfl (argsIn_mem ⟨rfl, rfl, rfl, rfl, trivial⟩) fun a hE => ?_
  unfold m_assessorlaw43_FingerprintWinnows at hm
  refine k_seq ?_
  refine k_region ?_
  refine s_val (wk0 rfl) rfl rfl hE hp (v := (.bool false)) (ex_asn rfl hE rfl) ?_
  intro a hE
  refine s_nil ?_
  refine k_seq ?_
  refine k_seq ?_
  refine k_region ?_
  obtain ⟨x1, ex1, hm⟩ := bnd hm
  refine s_call (wk0 rfl) rfl rfl hE rfl [] trivial ent10 (c_assessorlaw43_awake hT hp x1 ex1) Ret.ret ?_
  intro v a w hR hE
  obtain ⟨rfl, hp⟩ := Ret.of hR
  have hp : Hp Z ρ (L) w := hp
  refine s_val (wk0 rfl) rfl rfl hE hp (v := (.bool (!x1))) (ex_not rfl hE rfl) ?_
  intro a hE
  refine s_nil ?_
  refine k_if hE rfl (fun hb1 => ?_) (fun hb1 => ?_)
  · replace hm := (it hb1).symm.trans hm
    refine k_seq ?_
    refine k_region ?_
    refine s_val (wk0 rfl) rfl rfl hE hp (v := (.bool false)) (ex_asn rfl hE rfl) ?_
    intro a hE
    refine s_nil ?_
    refine k_ret ?_
    obtain rfl := Option.some.inj hm
    exact ret1 hE rfl rfl ⟨_, rfl, rfl, hp⟩
  · replace hm := (ie hb1).symm.trans hm
    refine k_skip ?_
    refine k_seq ?_
    refine k_seq ?_
    refine k_region ?_
    refine s_val (wk0 rfl) rfl rfl hE hp (v := vp0) (ex_move rfl hE rfl) ?_
    intro a hE
    refine s_val (wk0 rfl) rfl rfl hE hp (v := (.int .i64 (p0.length : Int))) (ex_len rfl hE rfl (RoSl.len hp0 slty25)) ?_
    intro a hE
    refine s_val (wk0 rfl) rfl rfl hE hp (v := (.bool (decide (150 < (p0.length : Int))))) (ex_gtr rfl hE rfl rfl) ?_
    intro a hE
    refine s_val (wk0 rfl) rfl rfl hE hp (v := (.bool (decide (150 < (p0.length : Int))))) (ex_move rfl hE rfl) ?_
    intro a hE
    refine s_cut [_, _, _, _] (fun a w => Env 62 [(22, (.bool ((decide (150 < (p0.length : Int))) && (decide ((p0.length : Int) ≤ 2048))))), (0, vp0), (1, (.int .i64 p1)), (2, vp2), (3, vp3)] a ∧ Hp Z ρ (L) w) ?_ ?_
    · rcases Bool.eq_false_or_eq_true (decide (150 < (p0.length : Int))) with hb2 | hb2
      ·
        refine s_val (wk1 hE rfl rfl rfl hb2) rfl rfl hE hp (v := vp0) (ex_move rfl hE rfl) ?_
        intro a hE
        refine s_val (wk1 hE rfl rfl rfl hb2) rfl rfl hE hp (v := (.int .i64 (p0.length : Int))) (ex_len rfl hE rfl (RoSl.len hp0 slty25)) ?_
        intro a hE
        refine s_val (wk1 hE rfl rfl rfl hb2) rfl rfl hE hp (v := (.bool (decide ((p0.length : Int) ≤ 2048)))) (ex_leq rfl hE rfl rfl) ?_
        intro a hE
        refine s_val (wk0 rfl) rfl rfl hE hp (v := (.bool (decide ((p0.length : Int) ≤ 2048)))) (ex_pick1 rfl hE rfl hb2 rfl) ?_
        intro a hE
        have hE := hE.eqv (v' := (.bool ((decide (150 < (p0.length : Int))) && (decide ((p0.length : Int) ≤ 2048))))) (by rw [hb2]; rfl)
        exact s_nil ⟨hE.cut ⟨rfl, rfl, rfl, rfl, rfl, trivial⟩, hp⟩
      ·
        refine s_skip (wk2 hE rfl rfl rfl hb2) rfl rfl hE ?_
        intro a hE
        refine s_skip (wk2 hE rfl rfl rfl hb2) rfl rfl hE ?_
        intro a hE
        refine s_skip (wk2 hE rfl rfl rfl hb2) rfl rfl hE ?_
        intro a hE
        refine s_val (wk0 rfl) rfl rfl hE hp (v := (.bool false)) (ex_pick0 rfl hE rfl hb2 rfl) ?_
        intro a hE
        have hE := hE.eqv (v' := (.bool ((decide (150 < (p0.length : Int))) && (decide ((p0.length : Int) ≤ 2048))))) (by rw [hb2]; rfl)
        exact s_nil ⟨hE.cut ⟨rfl, rfl, rfl, rfl, rfl, trivial⟩, hp⟩
    · rintro a w ⟨hE, hp⟩
      refine s_val (wk0 rfl) rfl rfl hE hp (v := (.bool ((decide (150 < (p0.length : Int))) && (decide ((p0.length : Int) ≤ 2048))))) (ex_move rfl hE rfl) ?_
      intro a hE
      refine s_cut [_, _, _, _] (fun a w => Env 62 [(27, (.bool (((decide (150 < (p0.length : Int))) && (decide ((p0.length : Int) ≤ 2048))) || (decide (60 < (p2.length : Int)))))), (0, vp0), (1, (.int .i64 p1)), (2, vp2), (3, vp3)] a ∧ Hp Z ρ (L) w) ?_ ?_
      · rcases Bool.eq_false_or_eq_true ((decide (150 < (p0.length : Int))) && (decide ((p0.length : Int) ≤ 2048))) with hb3 | hb3
        ·
          refine s_skip (wk2 hE rfl rfl rfl hb3) rfl rfl hE ?_
          intro a hE
          refine s_skip (wk2 hE rfl rfl rfl hb3) rfl rfl hE ?_
          intro a hE
          refine s_skip (wk2 hE rfl rfl rfl hb3) rfl rfl hE ?_
          intro a hE
          refine s_val (wk0 rfl) rfl rfl hE hp (v := (.bool true)) (ex_pick1 rfl hE rfl hb3 rfl) ?_
          intro a hE
          have hE := hE.eqv (v' := (.bool (((decide (150 < (p0.length : Int))) && (decide ((p0.length : Int) ≤ 2048))) || (decide (60 < (p2.length : Int)))))) (by rw [hb3]; rfl)
          exact s_nil ⟨hE.cut ⟨rfl, rfl, rfl, rfl, rfl, trivial⟩, hp⟩
        ·
          refine s_val (wk1 hE rfl rfl rfl hb3) rfl rfl hE hp (v := vp2) (ex_move rfl hE rfl) ?_
          intro a hE
          refine s_val (wk1 hE rfl rfl rfl hb3) rfl rfl hE hp (v := (.int .i64 (p2.length : Int))) (ex_len rfl hE rfl (RoSl.len hp2 slty28)) ?_
          intro a hE
          refine s_val (wk1 hE rfl rfl rfl hb3) rfl rfl hE hp (v := (.bool (decide (60 < (p2.length : Int))))) (ex_gtr rfl hE rfl rfl) ?_
          intro a hE
          refine s_val (wk0 rfl) rfl rfl hE hp (v := (.bool (decide (60 < (p2.length : Int))))) (ex_pick0 rfl hE rfl hb3 rfl) ?_
          intro a hE
          have hE := hE.eqv (v' := (.bool (((decide (150 < (p0.length : Int))) && (decide ((p0.length : Int) ≤ 2048))) || (decide (60 < (p2.length : Int)))))) (by rw [hb3]; rfl)
          exact s_nil ⟨hE.cut ⟨rfl, rfl, rfl, rfl, rfl, trivial⟩, hp⟩
      · rintro a w ⟨hE, hp⟩
        refine s_val (wk0 rfl) rfl rfl hE hp (v := (.bool (((decide (150 < (p0.length : Int))) && (decide ((p0.length : Int) ≤ 2048))) || (decide (60 < (p2.length : Int)))))) (ex_move rfl hE rfl) ?_
        intro a hE
        refine s_cut [_, _, _, _] (fun a w => Env 62 [(32, (.bool ((((decide (150 < (p0.length : Int))) && (decide ((p0.length : Int) ≤ 2048))) || (decide (60 < (p2.length : Int)))) || (decide (60 < (p3.length : Int)))))), (0, vp0), (1, (.int .i64 p1)), (2, vp2), (3, vp3)] a ∧ Hp Z ρ (L) w) ?_ ?_
        · rcases Bool.eq_false_or_eq_true (((decide (150 < (p0.length : Int))) && (decide ((p0.length : Int) ≤ 2048))) || (decide (60 < (p2.length : Int)))) with hb4 | hb4
          ·
            refine s_skip (wk2 hE rfl rfl rfl hb4) rfl rfl hE ?_
            intro a hE
            refine s_skip (wk2 hE rfl rfl rfl hb4) rfl rfl hE ?_
            intro a hE
            refine s_skip (wk2 hE rfl rfl rfl hb4) rfl rfl hE ?_
            intro a hE
            refine s_val (wk0 rfl) rfl rfl hE hp (v := (.bool true)) (ex_pick1 rfl hE rfl hb4 rfl) ?_
            intro a hE
            have hE := hE.eqv (v' := (.bool ((((decide (150 < (p0.length : Int))) && (decide ((p0.length : Int) ≤ 2048))) || (decide (60 < (p2.length : Int)))) || (decide (60 < (p3.length : Int)))))) (by rw [hb4]; rfl)
            exact s_nil ⟨hE.cut ⟨rfl, rfl, rfl, rfl, rfl, trivial⟩, hp⟩
          ·
            refine s_val (wk1 hE rfl rfl rfl hb4) rfl rfl hE hp (v := vp3) (ex_move rfl hE rfl) ?_
            intro a hE
            refine s_val (wk1 hE rfl rfl rfl hb4) rfl rfl hE hp (v := (.int .i64 (p3.length : Int))) (ex_len rfl hE rfl (RoSl.len hp3 slty28)) ?_
            intro a hE
            refine s_val (wk1 hE rfl rfl rfl hb4) rfl rfl hE hp (v := (.bool (decide (60 < (p3.length : Int))))) (ex_gtr rfl hE rfl rfl) ?_
            intro a hE
            refine s_val (wk0 rfl) rfl rfl hE hp (v := (.bool (decide (60 < (p3.length : Int))))) (ex_pick0 rfl hE rfl hb4 rfl) ?_
            intro a hE
            have hE := hE.eqv (v' := (.bool ((((decide (150 < (p0.length : Int))) && (decide ((p0.length : Int) ≤ 2048))) || (decide (60 < (p2.length : Int)))) || (decide (60 < (p3.length : Int)))))) (by rw [hb4]; rfl)
            exact s_nil ⟨hE.cut ⟨rfl, rfl, rfl, rfl, rfl, trivial⟩, hp⟩
        · rintro a w ⟨hE, hp⟩
          refine s_nil ?_
          refine k_if hE rfl (fun hb5 => ?_) (fun hb5 => ?_)
          · replace hm := (it hb5).symm.trans hm
            refine k_seq ?_
            refine k_region ?_
            refine s_val (wk0 rfl) rfl rfl hE hp (v := (.bool true)) (ex_asn rfl hE rfl) ?_
            intro a hE
            refine s_nil ?_
            refine k_ret ?_
            obtain rfl := Option.some.inj hm
            exact ret1 hE rfl rfl ⟨_, rfl, rfl, hp⟩
          · replace hm := (ie hb5).symm.trans hm
            refine k_skip ?_
            refine k_seq ?_
            refine k_region ?_
            refine s_val (wk0 rfl) rfl rfl hE hp (v := vp0) (ex_move rfl hE rfl) ?_
            intro a hE
            refine s_val (wk0 rfl) rfl rfl hE hp (v := (.int .i64 p1)) (ex_move rfl hE rfl) ?_
            intro a hE
            obtain ⟨x2, ex2, hm⟩ := bnd hm
            refine s_call (wk0 rfl) rfl rfl hE rfl [vp0, (.int .i64 p1)] ⟨rfl, rfl, trivial⟩ ent24 (c_fingerprint_Winnow hT p0 vp0 hp0 p1 hp x2 ex2) Ret.ret ?_
            intro v a w hR hE
            obtain ⟨v1, rfl, hp⟩ := Ret.of hR
            have hp : Hp Z ρ (OwnSl 48 v1 x2.1 :: L) w := hp
            refine s_val (wk0 rfl) rfl rfl hE hp (v := (.tuple #[v1, (.int .i64 x2.2)])) (ex_move rfl hE rfl) ?_
            intro a hE
            refine s_val (wk0 rfl) rfl rfl hE hp (v := v1) (ex_extract rfl hE rfl rfl) ?_
            intro a hE
            refine s_val (wk0 rfl) rfl rfl hE hp (v := (.int .i64 x2.2)) (ex_extract rfl hE rfl rfl) ?_
            intro a hE
            refine s_val (wk0 rfl) rfl rfl hE hp (v := v1) (ex_asn rfl hE rfl) ?_
            intro a hE
            refine s_val (wk0 rfl) rfl rfl hE hp (v := (.int .i64 x2.2)) (ex_asn rfl hE rfl) ?_
            intro a hE
            refine s_nil ?_
            refine k_seq ?_
            refine k_region ?_
            refine s_val (wk0 rfl) rfl rfl hE hp (v := vp0) (ex_move rfl hE rfl) ?_
            intro a hE
            refine s_val (wk0 rfl) rfl rfl hE hp (v := (.int .i64 p1)) (ex_move rfl hE rfl) ?_
            intro a hE
            obtain ⟨x3, ex3, hm⟩ := bnd hm
            refine s_call (wk0 rfl) rfl rfl hE rfl [vp0, (.int .i64 p1)] ⟨rfl, rfl, trivial⟩ ent25 (c_assessorref43_Winnow hT p0 vp0 hp0 p1 hp x3 ex3) Ret.ret ?_
            intro v a w hR hE
            obtain ⟨v2, rfl, hp⟩ := Ret.of hR
            have hp : Hp Z ρ (OwnSl 48 v2 x3.1 :: OwnSl 48 v1 x2.1 :: L) w := hp
            refine s_val (wk0 rfl) rfl rfl hE hp (v := (.tuple #[v2, (.int .i64 x3.2)])) (ex_move rfl hE rfl) ?_
            intro a hE
            refine s_val (wk0 rfl) rfl rfl hE hp (v := v2) (ex_extract rfl hE rfl rfl) ?_
            intro a hE
            refine s_val (wk0 rfl) rfl rfl hE hp (v := (.int .i64 x3.2)) (ex_extract rfl hE rfl rfl) ?_
            intro a hE
            refine s_val (wk0 rfl) rfl rfl hE hp (v := v2) (ex_asn rfl hE rfl) ?_
            intro a hE
            refine s_val (wk0 rfl) rfl rfl hE hp (v := (.int .i64 x3.2)) (ex_asn rfl hE rfl) ?_
            intro a hE
            refine s_nil ?_
            refine k_seq ?_
            refine k_region ?_
            refine s_val (wk0 rfl) rfl rfl hE hp (v := (.int .i64 x2.2)) (ex_move rfl hE rfl) ?_
            intro a hE
            refine s_val (wk0 rfl) rfl rfl hE hp (v := (.int .i64 x3.2)) (ex_move rfl hE rfl) ?_
            intro a hE
            refine s_val (wk0 rfl) rfl rfl hE hp (v := (.bool (decide (x2.2 = x3.2)))) (ex_eql rfl hE rfl rfl) ?_
            intro a hE
            refine s_val (wk0 rfl) rfl rfl hE hp (v := (.bool (decide (x2.2 = x3.2)))) (ex_move rfl hE rfl) ?_
            intro a hE
            obtain ⟨m1, hg1, hm⟩ := bnd hm
            refine s_cut [_, _, _, _] (fun a w => Env 62 [(52, (.bool m1)), (2, vp2), (3, vp3)] a ∧ Hp Z ρ (OwnSl 48 v2 x3.1 :: OwnSl 48 v1 x2.1 :: L) w) ?_ ?_
            · rcases Bool.eq_false_or_eq_true (decide (x2.2 = x3.2)) with hb6 | hb6
              ·
                replace hg1 := (it hb6).symm.trans hg1
                refine s_val (wk1 hE rfl rfl rfl hb6) rfl rfl hE hp (v := v1) (ex_move rfl hE rfl) ?_
                intro a hE
                refine s_val (wk1 hE rfl rfl rfl hb6) rfl rfl hE hp (v := v2) (ex_move rfl hE rfl) ?_
                intro a hE
                obtain ⟨k1, k1a, k1d, k1h⟩ := (hp.get 1 rfl).lend
                obtain ⟨k2, k2a, k2d, k2h⟩ := (k1h.get 0 rfl).lend
                obtain ⟨x4, ex4, hg1⟩ := bnd hg1
                refine s_call (wk1 hE rfl rfl rfl hb6) rfl rfl hE rfl [v1, v2] ⟨rfl, rfl, trivial⟩ ent19 (c_assessorref43_Same (Tabs.mono (Tabs.mono hT (PH.le_un _ _)) (PH.le_un _ _)) x2.1 v1 (RoSl.mono (OwnSl.ro k1d k1a) (PH.le_un _ _)) x3.1 v2 (OwnSl.ro k2d k2a) k2h x4 ex4) Ret.ret ?_
                intro v a w hR hE
                obtain ⟨rfl, hp⟩ := Ret.of hR
                have hp := Hp.back k2a k2d hp
                have hp := Hp.back k1a k1d hp
                have hp : Hp Z ρ (OwnSl 48 v1 x2.1 :: OwnSl 48 v2 x3.1 :: L) w := hp
                have hp : Hp Z ρ (OwnSl 48 v1 x2.1 :: OwnSl 48 v2 x3.1 :: L) w := hp
                refine s_val (wk0 rfl) rfl rfl hE hp (v := (.bool x4)) (ex_pick1 rfl hE rfl hb6 rfl) ?_
                intro a hE
                obtain rfl := Option.some.inj hg1
                exact s_nil ⟨hE.cut ⟨rfl, rfl, rfl, trivial⟩, ((hp.get 0 rfl).get 1 rfl)⟩
              ·
                replace hg1 := (ie hb6).symm.trans hg1
                refine s_skip (wk2 hE rfl rfl rfl hb6) rfl rfl hE ?_
                intro a hE
                refine s_skip (wk2 hE rfl rfl rfl hb6) rfl rfl hE ?_
                intro a hE
                refine s_skip (wk2 hE rfl rfl rfl hb6) rfl rfl hE ?_
                intro a hE
                refine s_val (wk0 rfl) rfl rfl hE hp (v := (.bool false)) (ex_pick0 rfl hE rfl hb6 rfl) ?_
                intro a hE
                obtain rfl := Option.some.inj hg1
                exact s_nil ⟨hE.cut ⟨rfl, rfl, rfl, trivial⟩, hp⟩
            · rintro a w ⟨hE, hp⟩
              refine s_val (wk0 rfl) rfl rfl hE hp (v := (.bool m1)) (ex_move rfl hE rfl) ?_
              intro a hE
              obtain ⟨m2, hg2, hm⟩ := bnd hm
              refine s_cut [_, _, _, _, _, _, _, _] (fun a w => Env 62 [(61, (.bool m2))] a ∧ Hp Z ρ (OwnSl 48 v2 x3.1 :: OwnSl 48 v1 x2.1 :: L) w) ?_ ?_
              · rcases Bool.eq_false_or_eq_true m1 with hb7 | hb7
                ·
                  replace hg2 := (it hb7).symm.trans hg2
                  refine s_val (wk1 hE rfl rfl rfl hb7) rfl rfl hE hp (v := vp2) (ex_move rfl hE rfl) ?_
                  intro a hE
                  refine s_val (wk1 hE rfl rfl rfl hb7) rfl rfl hE hp (v := vp3) (ex_move rfl hE rfl) ?_
                  intro a hE
                  obtain ⟨x5, ex5, hg2⟩ := bnd hg2
                  refine s_call (wk1 hE rfl rfl rfl hb7) rfl rfl hE rfl [vp2, vp3] ⟨rfl, rfl, trivial⟩ ent26 (c_fingerprint_Shared hT p2 vp2 hp2 p3 vp3 hp3 hp x5 ex5) Ret.ret ?_
                  intro v3 a w hR hE
                  obtain ⟨u, hu, hp⟩ := Ret.of hR
                  rw [← hu] at hp
                  have hp : Hp Z ρ (OwnSl 3 v3 x5 :: OwnSl 48 v2 x3.1 :: OwnSl 48 v1 x2.1 :: L) w := hp
                  refine s_val (wk1 hE rfl rfl rfl hb7) rfl rfl hE hp (v := vp2) (ex_move rfl hE rfl) ?_
                  intro a hE
                  refine s_val (wk1 hE rfl rfl rfl hb7) rfl rfl hE hp (v := vp3) (ex_move rfl hE rfl) ?_
                  intro a hE
                  obtain ⟨x6, ex6, hg2⟩ := bnd hg2
                  refine s_call (wk1 hE rfl rfl rfl hb7) rfl rfl hE rfl [vp2, vp3] ⟨rfl, rfl, trivial⟩ ent27 (c_assessorref43_Shared hT p2 vp2 hp2 p3 vp3 hp3 hp x6 ex6) Ret.ret ?_
                  intro v4 a w hR hE
                  obtain ⟨u, hu, hp⟩ := Ret.of hR
                  rw [← hu] at hp
                  have hp : Hp Z ρ (OwnSl 3 v4 x6 :: OwnSl 3 v3 x5 :: OwnSl 48 v2 x3.1 :: OwnSl 48 v1 x2.1 :: L) w := hp
                  obtain ⟨k3, k3a, k3d, k3h⟩ := (hp.get 1 rfl).lend
                  obtain ⟨k4, k4a, k4d, k4h⟩ := (k3h.get 0 rfl).lend
                  obtain ⟨x7, ex7, hg2⟩ := bnd hg2
                  refine s_call (wk1 hE rfl rfl rfl hb7) rfl rfl hE rfl [v3, v4] ⟨rfl, rfl, trivial⟩ ent14 (c_assessorref35_Same (Tabs.mono (Tabs.mono hT (PH.le_un _ _)) (PH.le_un _ _)) x5 v3 (RoSl.mono (OwnSl.ro k3d k3a) (PH.le_un _ _)) x6 v4 (OwnSl.ro k4d k4a) k4h x7 ex7) Ret.ret ?_
                  intro v a w hR hE
                  obtain ⟨rfl, hp⟩ := Ret.of hR
                  have hp := Hp.back k4a k4d hp
                  have hp := Hp.back k3a k3d hp
                  have hp : Hp Z ρ (OwnSl 3 v3 x5 :: OwnSl 3 v4 x6 :: OwnSl 48 v2 x3.1 :: OwnSl 48 v1 x2.1 :: L) w := hp
                  have hp : Hp Z ρ (OwnSl 3 v3 x5 :: OwnSl 3 v4 x6 :: OwnSl 48 v2 x3.1 :: OwnSl 48 v1 x2.1 :: L) w := hp
                  refine s_val (wk0 rfl) rfl rfl hE hp (v := (.bool x7)) (ex_pick1 rfl hE rfl hb7 rfl) ?_
                  intro a hE
                  obtain rfl := Option.some.inj hg2
                  exact s_nil ⟨hE.cut ⟨rfl, trivial⟩, (((hp.get 1 rfl).drop).drop)⟩
                ·
                  replace hg2 := (ie hb7).symm.trans hg2
                  refine s_skip (wk2 hE rfl rfl rfl hb7) rfl rfl hE ?_
                  intro a hE
                  refine s_skip (wk2 hE rfl rfl rfl hb7) rfl rfl hE ?_
                  intro a hE
                  refine s_skip (wk2 hE rfl rfl rfl hb7) rfl rfl hE ?_
                  intro a hE
                  refine s_skip (wk2 hE rfl rfl rfl hb7) rfl rfl hE ?_
                  intro a hE
                  refine s_skip (wk2 hE rfl rfl rfl hb7) rfl rfl hE ?_
                  intro a hE
                  refine s_skip (wk2 hE rfl rfl rfl hb7) rfl rfl hE ?_
                  intro a hE
                  refine s_skip (wk2 hE rfl rfl rfl hb7) rfl rfl hE ?_
                  intro a hE
                  refine s_val (wk0 rfl) rfl rfl hE hp (v := (.bool false)) (ex_pick0 rfl hE rfl hb7 rfl) ?_
                  intro a hE
                  obtain rfl := Option.some.inj hg2
                  exact s_nil ⟨hE.cut ⟨rfl, trivial⟩, hp⟩
              · rintro a w ⟨hE, hp⟩
                refine s_val (wk0 rfl) rfl rfl hE hp (v := (.bool m2)) (ex_asn rfl hE rfl) ?_
                intro a hE
                refine s_nil ?_
                refine k_ret ?_
                obtain rfl := Option.some.inj hm
                exact ret1 hE rfl rfl ⟨_, rfl, rfl, (((hp.get 1 rfl).drop).drop)⟩
end Go.Proofs.YtlnhijgieblmgaaDoor

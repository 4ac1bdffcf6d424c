/-
  The code goes as its model: assessor/assessorlaw43.FingerprintHashes. (Printed by wip/sp/gen.py.)
-/
import Derived.Test.YtlnhijgieblmgaaDoorWHM
import Derived.Test.YtlnhijgieblmgaaDoorFct
import Derived.Test.YtlnhijgieblmgaaDoorWS
set_option linter.unusedVariables false
set_option linter.unusedSimpArgs false
namespace Go.Proofs.YtlnhijgieblmgaaDoor
open Go.RowKit

/- assessor/assessorlaw43.FingerprintHashes -/
set_option maxRecDepth 100000 in
set_option maxHeartbeats 4000000 in
theorem c_assessorlaw43_FingerprintHashes {Z : World} {ρ : PH} {L : List Atom} {w : World} (hT : Tabs ρ) (p0 : (List Int)) (vp0 : Value) (hp0 : RoSl ρ vp0 p0) (p1 : Int) (p2 : Int) (p3 : Int) (p4 : Int) (hp : Hp Z ρ (L) w) (r : Bool) (hm : m_assessorlaw43_FingerprintHashes p0 p1 p2 p3 p4 = some r) :
    Calls Tryd.prog 4 #[vp0, (.int .i64 p1), (.int .i64 p2), (.int .i64 p3), (.int .i64 p4)] w (Ret fun v w' => v = (.bool r) ∧ Hp Z ρ (L) w') := by
  refine enter (N := 75) Tryd.func4 rfl rfl [(0, vp0), (1, (.int .i64 p1)), (2, (.int .i64 p2)), (3, (.int .i64 p3)), (4, (.int .i64 p4))] rfl (argsIn_mem ⟨rfl, rfl, rfl, rfl, rfl, trivial⟩) fun a hE => ?_
  unfold m_assessorlaw43_FingerprintHashes at hm
  refine k_seq ?_
  refine k_region ?_
  refine s_val (wk0 rfl) rfl rfl hE hp (v := (.bool false)) (ex_asn rfl hE rfl) ?_
  intro a hE
  refine s_nil ?_
  refine k_seq ?_
  refine k_seq ?_
  refine k_region ?_
  obtain ⟨x1, ex1, hm⟩ := bnd hm
  refine s_call (wk0 rfl) rfl rfl hE rfl [] trivial ent10 (c_assessorlaw43_awake hT hp x1 ex1) Ret.ret ?_
  intro v a w hR hE
  obtain ⟨rfl, hp⟩ := Ret.of hR
  have hp : Hp Z ρ (L) w := hp
  refine s_val (wk0 rfl) rfl rfl hE hp (v := (.bool (!x1))) (ex_not rfl hE rfl) ?_
  intro a hE
  refine s_nil ?_
  refine k_if hE rfl (fun hb1 => ?_) (fun hb1 => ?_)
  · replace hm := (it hb1).symm.trans hm
    refine k_seq ?_
    refine k_region ?_
    refine s_val (wk0 rfl) rfl rfl hE hp (v := (.bool false)) (ex_asn rfl hE rfl) ?_
    intro a hE
    refine s_nil ?_
    refine k_ret ?_
    obtain rfl := Option.some.inj hm
    exact ret1 hE rfl rfl ⟨_, rfl, rfl, hp⟩
  · replace hm := (ie hb1).symm.trans hm
    refine k_skip ?_
    refine k_seq ?_
    refine k_seq ?_
    refine k_region ?_
    refine s_val (wk0 rfl) rfl rfl hE hp (v := vp0) (ex_move rfl hE rfl) ?_
    intro a hE
    refine s_val (wk0 rfl) rfl rfl hE hp (v := (.int .i64 (p0.length : Int))) (ex_len rfl hE rfl (RoSl.len hp0 slty25)) ?_
    intro a hE
    refine s_val (wk0 rfl) rfl rfl hE hp (v := (.bool (decide (100 < (p0.length : Int))))) (ex_gtr rfl hE rfl rfl) ?_
    intro a hE
    refine s_val (wk0 rfl) rfl rfl hE hp (v := (.bool (decide (100 < (p0.length : Int))))) (ex_move rfl hE rfl) ?_
    intro a hE
    refine s_cut [_, _, _, _] (fun a w => Env 75 [(28, (.bool ((decide (100 < (p0.length : Int))) && (decide ((p0.length : Int) ≤ 2048))))), (0, vp0), (1, (.int .i64 p1)), (2, (.int .i64 p2)), (3, (.int .i64 p3)), (4, (.int .i64 p4))] a ∧ Hp Z ρ (L) w) ?_ ?_
    · rcases Bool.eq_false_or_eq_true (decide (100 < (p0.length : Int))) with hb2 | hb2
      ·
        refine s_val (wk1 hE rfl rfl rfl hb2) rfl rfl hE hp (v := vp0) (ex_move rfl hE rfl) ?_
        intro a hE
        refine s_val (wk1 hE rfl rfl rfl hb2) rfl rfl hE hp (v := (.int .i64 (p0.length : Int))) (ex_len rfl hE rfl (RoSl.len hp0 slty25)) ?_
        intro a hE
        refine s_val (wk1 hE rfl rfl rfl hb2) rfl rfl hE hp (v := (.bool (decide ((p0.length : Int) ≤ 2048)))) (ex_leq rfl hE rfl rfl) ?_
        intro a hE
        refine s_val (wk0 rfl) rfl rfl hE hp (v := (.bool (decide ((p0.length : Int) ≤ 2048)))) (ex_pick1 rfl hE rfl hb2 rfl) ?_
        intro a hE
        have hE := hE.eqv (v' := (.bool ((decide (100 < (p0.length : Int))) && (decide ((p0.length : Int) ≤ 2048))))) (by rw [hb2]; rfl)
        exact s_nil ⟨hE.cut ⟨rfl, rfl, rfl, rfl, rfl, rfl, trivial⟩, hp⟩
      ·
        refine s_skip (wk2 hE rfl rfl rfl hb2) rfl rfl hE ?_
        intro a hE
        refine s_skip (wk2 hE rfl rfl rfl hb2) rfl rfl hE ?_
        intro a hE
        refine s_skip (wk2 hE rfl rfl rfl hb2) rfl rfl hE ?_
        intro a hE
        refine s_val (wk0 rfl) rfl rfl hE hp (v := (.bool false)) (ex_pick0 rfl hE rfl hb2 rfl) ?_
        intro a hE
        have hE := hE.eqv (v' := (.bool ((decide (100 < (p0.length : Int))) && (decide ((p0.length : Int) ≤ 2048))))) (by rw [hb2]; rfl)
        exact s_nil ⟨hE.cut ⟨rfl, rfl, rfl, rfl, rfl, rfl, trivial⟩, hp⟩
    · rintro a w ⟨hE, hp⟩
      refine s_nil ?_
      refine k_if hE rfl (fun hb3 => ?_) (fun hb3 => ?_)
      · replace hm := (it hb3).symm.trans hm
        refine k_seq ?_
        refine k_region ?_
        refine s_val (wk0 rfl) rfl rfl hE hp (v := (.bool true)) (ex_asn rfl hE rfl) ?_
        intro a hE
        refine s_nil ?_
        refine k_ret ?_
        obtain rfl := Option.some.inj hm
        exact ret1 hE rfl rfl ⟨_, rfl, rfl, hp⟩
      · replace hm := (ie hb3).symm.trans hm
        refine k_skip ?_
        refine k_seq ?_
        refine k_region ?_
        refine s_val (wk0 rfl) rfl rfl hE hp (v := vp0) (ex_move rfl hE rfl) ?_
        intro a hE
        refine s_val (wk0 rfl) rfl rfl hE hp (v := (.int .i64 p4)) (ex_move rfl hE rfl) ?_
        intro a hE
        obtain ⟨x2, ex2, hm⟩ := bnd hm
        refine s_call (wk0 rfl) rfl rfl hE rfl [vp0, (.int .i64 p4)] ⟨rfl, rfl, trivial⟩ ent20 (c_fingerprint_Hashes hT p0 vp0 hp0 p4 hp x2 ex2) Ret.ret ?_
        intro v a w hR hE
        obtain ⟨v1, rfl, hp⟩ := Ret.of hR
        have hp : Hp Z ρ (OwnSl 3 v1 x2.1 :: L) w := hp
        refine s_val (wk0 rfl) rfl rfl hE hp (v := (.tuple #[v1, (.int .i64 x2.2)])) (ex_move rfl hE rfl) ?_
        intro a hE
        refine s_val (wk0 rfl) rfl rfl hE hp (v := v1) (ex_extract rfl hE rfl rfl) ?_
        intro a hE
        refine s_val (wk0 rfl) rfl rfl hE hp (v := (.int .i64 x2.2)) (ex_extract rfl hE rfl rfl) ?_
        intro a hE
        refine s_val (wk0 rfl) rfl rfl hE hp (v := v1) (ex_asn rfl hE rfl) ?_
        intro a hE
        refine s_val (wk0 rfl) rfl rfl hE hp (v := (.int .i64 x2.2)) (ex_asn rfl hE rfl) ?_
        intro a hE
        refine s_nil ?_
        refine k_seq ?_
        refine k_region ?_
        refine s_val (wk0 rfl) rfl rfl hE hp (v := vp0) (ex_move rfl hE rfl) ?_
        intro a hE
        refine s_val (wk0 rfl) rfl rfl hE hp (v := (.int .i64 p4)) (ex_move rfl hE rfl) ?_
        intro a hE
        obtain ⟨x3, ex3, hm⟩ := bnd hm
        refine s_call (wk0 rfl) rfl rfl hE rfl [vp0, (.int .i64 p4)] ⟨rfl, rfl, trivial⟩ ent21 (c_assessorref43_Hashes hT p0 vp0 hp0 p4 hp x3 ex3) Ret.ret ?_
        intro v a w hR hE
        obtain ⟨v2, rfl, hp⟩ := Ret.of hR
        have hp : Hp Z ρ (OwnSl 3 v2 x3.1 :: OwnSl 3 v1 x2.1 :: L) w := hp
        refine s_val (wk0 rfl) rfl rfl hE hp (v := (.tuple #[v2, (.int .i64 x3.2)])) (ex_move rfl hE rfl) ?_
        intro a hE
        refine s_val (wk0 rfl) rfl rfl hE hp (v := v2) (ex_extract rfl hE rfl rfl) ?_
        intro a hE
        refine s_val (wk0 rfl) rfl rfl hE hp (v := (.int .i64 x3.2)) (ex_extract rfl hE rfl rfl) ?_
        intro a hE
        refine s_val (wk0 rfl) rfl rfl hE hp (v := v2) (ex_asn rfl hE rfl) ?_
        intro a hE
        refine s_val (wk0 rfl) rfl rfl hE hp (v := (.int .i64 x3.2)) (ex_asn rfl hE rfl) ?_
        intro a hE
        refine s_nil ?_
        refine k_seq ?_
        refine k_region ?_
        refine s_val (wk0 rfl) rfl rfl hE hp (v := (.int .i64 p1)) (ex_move rfl hE rfl) ?_
        intro a hE
        refine s_val (wk0 rfl) rfl rfl hE hp (v := (.int .i64 p2)) (ex_move rfl hE rfl) ?_
        intro a hE
        refine s_val (wk0 rfl) rfl rfl hE hp (v := (.int .i64 p3)) (ex_move rfl hE rfl) ?_
        intro a hE
        refine s_val (wk0 rfl) rfl rfl hE hp (v := (.int .i64 p4)) (ex_move rfl hE rfl) ?_
        intro a hE
        obtain ⟨x4, ex4, hm⟩ := bnd hm
        refine s_call (wk0 rfl) rfl rfl hE rfl [(.int .i64 p1), (.int .i64 p2), (.int .i64 p3), (.int .i64 p4)] ⟨rfl, rfl, rfl, rfl, trivial⟩ ent22 (c_fingerprint_Roll hT p1 p2 p3 p4 hp x4 ex4) Ret.ret ?_
        intro v a w hR hE
        obtain ⟨rfl, hp⟩ := Ret.of hR
        have hp : Hp Z ρ (OwnSl 3 v2 x3.1 :: OwnSl 3 v1 x2.1 :: L) w := hp
        refine s_val (wk0 rfl) rfl rfl hE hp (v := (.tuple #[(.int .i64 x4.1), (.int .i64 x4.2)])) (ex_move rfl hE rfl) ?_
        intro a hE
        refine s_val (wk0 rfl) rfl rfl hE hp (v := (.int .i64 x4.1)) (ex_extract rfl hE rfl rfl) ?_
        intro a hE
        refine s_val (wk0 rfl) rfl rfl hE hp (v := (.int .i64 x4.2)) (ex_extract rfl hE rfl rfl) ?_
        intro a hE
        refine s_val (wk0 rfl) rfl rfl hE hp (v := (.int .i64 x4.1)) (ex_asn rfl hE rfl) ?_
        intro a hE
        refine s_val (wk0 rfl) rfl rfl hE hp (v := (.int .i64 x4.2)) (ex_asn rfl hE rfl) ?_
        intro a hE
        refine s_nil ?_
        have hE := hE.cut (E' := [(1, (.int .i64 p1)), (2, (.int .i64 p2)), (3, (.int .i64 p3)), (4, (.int .i64 p4)), (11, v1), (12, (.int .i64 x2.2)), (13, v2), (14, (.int .i64 x3.2)), (15, (.int .i64 x4.1)), (16, (.int .i64 x4.2))]) ⟨rfl, rfl, rfl, rfl, rfl, rfl, rfl, rfl, rfl, rfl, trivial⟩
        refine k_seq ?_
        refine k_region ?_
        refine s_val (wk0 rfl) rfl rfl hE hp (v := (.int .i64 p1)) (ex_move rfl hE rfl) ?_
        intro a hE
        refine s_val (wk0 rfl) rfl rfl hE hp (v := (.int .i64 p2)) (ex_move rfl hE rfl) ?_
        intro a hE
        refine s_val (wk0 rfl) rfl rfl hE hp (v := (.int .i64 p3)) (ex_move rfl hE rfl) ?_
        intro a hE
        refine s_val (wk0 rfl) rfl rfl hE hp (v := (.int .i64 p4)) (ex_move rfl hE rfl) ?_
        intro a hE
        obtain ⟨x5, ex5, hm⟩ := bnd hm
        refine s_call (wk0 rfl) rfl rfl hE rfl [(.int .i64 p1), (.int .i64 p2), (.int .i64 p3), (.int .i64 p4)] ⟨rfl, rfl, rfl, rfl, trivial⟩ ent23 (c_assessorref43_Roll hT p1 p2 p3 p4 hp x5 ex5) Ret.ret ?_
        intro v a w hR hE
        obtain ⟨rfl, hp⟩ := Ret.of hR
        have hp : Hp Z ρ (OwnSl 3 v2 x3.1 :: OwnSl 3 v1 x2.1 :: L) w := hp
        refine s_val (wk0 rfl) rfl rfl hE hp (v := (.tuple #[(.int .i64 x5.1), (.int .i64 x5.2)])) (ex_move rfl hE rfl) ?_
        intro a hE
        refine s_val (wk0 rfl) rfl rfl hE hp (v := (.int .i64 x5.1)) (ex_extract rfl hE rfl rfl) ?_
        intro a hE
        refine s_val (wk0 rfl) rfl rfl hE hp (v := (.int .i64 x5.2)) (ex_extract rfl hE rfl rfl) ?_
        intro a hE
        refine s_val (wk0 rfl) rfl rfl hE hp (v := (.int .i64 x5.1)) (ex_asn rfl hE rfl) ?_
        intro a hE
        refine s_val (wk0 rfl) rfl rfl hE hp (v := (.int .i64 x5.2)) (ex_asn rfl hE rfl) ?_
        intro a hE
        refine s_nil ?_
        refine k_seq ?_
        refine k_region ?_
        refine s_val (wk0 rfl) rfl rfl hE hp (v := (.int .i64 x2.2)) (ex_move rfl hE rfl) ?_
        intro a hE
        refine s_val (wk0 rfl) rfl rfl hE hp (v := (.int .i64 x3.2)) (ex_move rfl hE rfl) ?_
        intro a hE
        refine s_val (wk0 rfl) rfl rfl hE hp (v := (.bool (decide (x2.2 = x3.2)))) (ex_eql rfl hE rfl rfl) ?_
        intro a hE
        refine s_val (wk0 rfl) rfl rfl hE hp (v := (.bool (decide (x2.2 = x3.2)))) (ex_move rfl hE rfl) ?_
        intro a hE
        obtain ⟨m1, hg1, hm⟩ := bnd hm
        refine s_cut [_, _, _, _] (fun a w => Env 75 [(64, (.bool m1)), (15, (.int .i64 x4.1)), (16, (.int .i64 x4.2)), (17, (.int .i64 x5.1)), (18, (.int .i64 x5.2))] a ∧ Hp Z ρ (OwnSl 3 v2 x3.1 :: OwnSl 3 v1 x2.1 :: L) w) ?_ ?_
        · rcases Bool.eq_false_or_eq_true (decide (x2.2 = x3.2)) with hb4 | hb4
          ·
            replace hg1 := (it hb4).symm.trans hg1
            refine s_val (wk1 hE rfl rfl rfl hb4) rfl rfl hE hp (v := v1) (ex_move rfl hE rfl) ?_
            intro a hE
            refine s_val (wk1 hE rfl rfl rfl hb4) rfl rfl hE hp (v := v2) (ex_move rfl hE rfl) ?_
            intro a hE
            obtain ⟨k1, k1a, k1d, k1h⟩ := (hp.get 1 rfl).lend
            obtain ⟨k2, k2a, k2d, k2h⟩ := (k1h.get 0 rfl).lend
            obtain ⟨x6, ex6, hg1⟩ := bnd hg1
            refine s_call (wk1 hE rfl rfl rfl hb4) rfl rfl hE rfl [v1, v2] ⟨rfl, rfl, trivial⟩ ent14 (c_assessorref35_Same (Tabs.mono (Tabs.mono hT (PH.le_un _ _)) (PH.le_un _ _)) x2.1 v1 (RoSl.mono (OwnSl.ro k1d k1a) (PH.le_un _ _)) x3.1 v2 (OwnSl.ro k2d k2a) k2h x6 ex6) Ret.ret ?_
            intro v a w hR hE
            obtain ⟨rfl, hp⟩ := Ret.of hR
            have hp := Hp.back k2a k2d hp
            have hp := Hp.back k1a k1d hp
            have hp : Hp Z ρ (OwnSl 3 v1 x2.1 :: OwnSl 3 v2 x3.1 :: L) w := hp
            have hp : Hp Z ρ (OwnSl 3 v1 x2.1 :: OwnSl 3 v2 x3.1 :: L) w := hp
            refine s_val (wk0 rfl) rfl rfl hE hp (v := (.bool x6)) (ex_pick1 rfl hE rfl hb4 rfl) ?_
            intro a hE
            obtain rfl := Option.some.inj hg1
            exact s_nil ⟨hE.cut ⟨rfl, rfl, rfl, rfl, rfl, trivial⟩, ((hp.get 0 rfl).get 1 rfl)⟩
          ·
            replace hg1 := (ie hb4).symm.trans hg1
            refine s_skip (wk2 hE rfl rfl rfl hb4) rfl rfl hE ?_
            intro a hE
            refine s_skip (wk2 hE rfl rfl rfl hb4) rfl rfl hE ?_
            intro a hE
            refine s_skip (wk2 hE rfl rfl rfl hb4) rfl rfl hE ?_
            intro a hE
            refine s_val (wk0 rfl) rfl rfl hE hp (v := (.bool false)) (ex_pick0 rfl hE rfl hb4 rfl) ?_
            intro a hE
            obtain rfl := Option.some.inj hg1
            exact s_nil ⟨hE.cut ⟨rfl, rfl, rfl, rfl, rfl, trivial⟩, hp⟩
        · rintro a w ⟨hE, hp⟩
          refine s_val (wk0 rfl) rfl rfl hE hp (v := (.bool m1)) (ex_move rfl hE rfl) ?_
          intro a hE
          refine s_cut [_, _, _, _] (fun a w => Env 75 [(69, (.bool (m1 && (decide (x4.1 = x5.1))))), (16, (.int .i64 x4.2)), (18, (.int .i64 x5.2))] a ∧ Hp Z ρ (OwnSl 3 v2 x3.1 :: OwnSl 3 v1 x2.1 :: L) w) ?_ ?_
          · rcases Bool.eq_false_or_eq_true m1 with hb5 | hb5
            ·
              refine s_val (wk1 hE rfl rfl rfl hb5) rfl rfl hE hp (v := (.int .i64 x4.1)) (ex_move rfl hE rfl) ?_
              intro a hE
              refine s_val (wk1 hE rfl rfl rfl hb5) rfl rfl hE hp (v := (.int .i64 x5.1)) (ex_move rfl hE rfl) ?_
              intro a hE
              refine s_val (wk1 hE rfl rfl rfl hb5) rfl rfl hE hp (v := (.bool (decide (x4.1 = x5.1)))) (ex_eql rfl hE rfl rfl) ?_
              intro a hE
              refine s_val (wk0 rfl) rfl rfl hE hp (v := (.bool (decide (x4.1 = x5.1)))) (ex_pick1 rfl hE rfl hb5 rfl) ?_
              intro a hE
              have hE := hE.eqv (v' := (.bool (m1 && (decide (x4.1 = x5.1))))) (by rw [hb5]; rfl)
              exact s_nil ⟨hE.cut ⟨rfl, rfl, rfl, trivial⟩, hp⟩
            ·
              refine s_skip (wk2 hE rfl rfl rfl hb5) rfl rfl hE ?_
              intro a hE
              refine s_skip (wk2 hE rfl rfl rfl hb5) rfl rfl hE ?_
              intro a hE
              refine s_skip (wk2 hE rfl rfl rfl hb5) rfl rfl hE ?_
              intro a hE
              refine s_val (wk0 rfl) rfl rfl hE hp (v := (.bool false)) (ex_pick0 rfl hE rfl hb5 rfl) ?_
              intro a hE
              have hE := hE.eqv (v' := (.bool (m1 && (decide (x4.1 = x5.1))))) (by rw [hb5]; rfl)
              exact s_nil ⟨hE.cut ⟨rfl, rfl, rfl, trivial⟩, hp⟩
          · rintro a w ⟨hE, hp⟩
            refine s_val (wk0 rfl) rfl rfl hE hp (v := (.bool (m1 && (decide (x4.1 = x5.1))))) (ex_move rfl hE rfl) ?_
            intro a hE
            refine s_cut [_, _, _, _] (fun a w => Env 75 [(74, (.bool ((m1 && (decide (x4.1 = x5.1))) && (decide (x4.2 = x5.2)))))] a ∧ Hp Z ρ (OwnSl 3 v2 x3.1 :: OwnSl 3 v1 x2.1 :: L) w) ?_ ?_
            · rcases Bool.eq_false_or_eq_true (m1 && (decide (x4.1 = x5.1))) with hb6 | hb6
              ·
                refine s_val (wk1 hE rfl rfl rfl hb6) rfl rfl hE hp (v := (.int .i64 x4.2)) (ex_move rfl hE rfl) ?_
                intro a hE
                refine s_val (wk1 hE rfl rfl rfl hb6) rfl rfl hE hp (v := (.int .i64 x5.2)) (ex_move rfl hE rfl) ?_
                intro a hE
                refine s_val (wk1 hE rfl rfl rfl hb6) rfl rfl hE hp (v := (.bool (decide (x4.2 = x5.2)))) (ex_eql rfl hE rfl rfl) ?_
                intro a hE
                refine s_val (wk0 rfl) rfl rfl hE hp (v := (.bool (decide (x4.2 = x5.2)))) (ex_pick1 rfl hE rfl hb6 rfl) ?_
                intro a hE
                have hE := hE.eqv (v' := (.bool ((m1 && (decide (x4.1 = x5.1))) && (decide (x4.2 = x5.2))))) (by rw [hb6]; rfl)
                exact s_nil ⟨hE.cut ⟨rfl, trivial⟩, hp⟩
              ·
                refine s_skip (wk2 hE rfl rfl rfl hb6) rfl rfl hE ?_
                intro a hE
                refine s_skip (wk2 hE rfl rfl rfl hb6) rfl rfl hE ?_
                intro a hE
                refine s_skip (wk2 hE rfl rfl rfl hb6) rfl rfl hE ?_
                intro a hE
                refine s_val (wk0 rfl) rfl rfl hE hp (v := (.bool false)) (ex_pick0 rfl hE rfl hb6 rfl) ?_
                intro a hE
                have hE := hE.eqv (v' := (.bool ((m1 && (decide (x4.1 = x5.1))) && (decide (x4.2 = x5.2))))) (by rw [hb6]; rfl)
                exact s_nil ⟨hE.cut ⟨rfl, trivial⟩, hp⟩
            · rintro a w ⟨hE, hp⟩
              refine s_val (wk0 rfl) rfl rfl hE hp (v := (.bool ((m1 && (decide (x4.1 = x5.1))) && (decide (x4.2 = x5.2))))) (ex_asn rfl hE rfl) ?_
              intro a hE
              refine s_nil ?_
              refine k_ret ?_
              obtain rfl := Option.some.inj hm
              exact ret1 hE rfl rfl ⟨_, rfl, rfl, (((hp.get 1 rfl).drop).drop)⟩
end Go.Proofs.YtlnhijgieblmgaaDoor

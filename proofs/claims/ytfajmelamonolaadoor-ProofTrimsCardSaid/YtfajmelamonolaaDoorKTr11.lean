/- The code goes as its model: assessor/assessorlaw27.ProofTrims. (Printed by wip/sp/gen.py.) -/
import Derived.Test.YtfajmelamonolaaDoorKTr4
import Derived.Test.YtfajmelamonolaaDoorKTr10
import Derived.Test.YtfajmelamonolaaDoorKTr2
import Derived.Test.YtfajmelamonolaaDoorKTr3
set_option linter.unusedVariables false
set_option linter.unusedSimpArgs false
namespace Go.Proofs.YtfajmelamonolaaDoor
open Go.RowKit
set_option maxRecDepth 100000 in
set_option maxHeartbeats 4000000 in
theorem c_assessorlaw27_ProofTrims {Z : World} {ρ : PH} {L : List Atom} {w : World} (hT : Tabs ρ) (p0 : Formula) (vp0_clauses : Value) (hp0_clauses : RoSl ρ vp0_clauses p0.clauses) (p1 : (List (List Int))) (vp1 : Value) (hp1 : RoSl ρ vp1 p1) (hp : Hp Z ρ (L) w) (r : Bool) (hm : m_assessorlaw27_ProofTrims p0 p1 = some r) :
    Calls Tryd.prog 5 #[(.agg #[(.int .i64 p0.vars), vp0_clauses]), vp1] w (Ret fun v w' => v = (.bool r) ∧ Hp Z ρ (L) w') := by
  refine enter (N := 65) Tryd.func5 rfl rfl [(0, (.agg #[(.int .i64 p0.vars), vp0_clauses])), (1, vp1)] rfl (argsIn_mem ⟨rfl, rfl, trivial⟩) fun a hE => ?_
  unfold m_assessorlaw27_ProofTrims at hm
  refine k_seq ?_
  refine k_region ?_
  refine s_box (wk0 rfl) rfl rfl hE hp rfl (v := (.agg #[(.int .i64 p0.vars), vp0_clauses])) rfl ?_
  intro a w b1 hE hp
  have hp : Hp Z ρ (Pt b1 (.cells #[(.int .i64 p0.vars), vp0_clauses] 24 (0, 0)) :: L) w := hp
  refine s_val (wk0 rfl) rfl rfl hE hp (v := (.bool false)) (ex_asn rfl hE rfl) ?_
  intro a hE
  refine s_nil ?_
  refine k_seq ?_
  refine k_seq ?_
  refine k_region ?_
  obtain ⟨x1, ex1, hm⟩ := bnd hm
  refine s_call (wk0 rfl) rfl rfl hE rfl [] trivial ent8 (c_assessorlaw27_awake hT hp x1 ex1) Ret.ret ?_
  intro v a w hR hE
  obtain ⟨rfl, hp⟩ := Ret.of hR
  have hp : Hp Z ρ (_ :: L) w := hp
  refine s_val (wk0 rfl) rfl rfl hE hp (v := (.bool (!x1))) (ex_not rfl hE rfl) ?_
  intro a hE
  refine s_nil ?_
  refine k_if hE rfl (fun hc1 => ?_) (fun hc1 => ?_)
  · replace hm := (it hc1).symm.trans hm
    refine k_seq ?_
    refine k_region ?_
    refine s_val (wk0 rfl) rfl rfl hE hp (v := (.bool false)) (ex_asn rfl hE rfl) ?_
    intro a hE
    refine s_nil ?_
    refine k_ret ?_
    obtain rfl := Option.some.inj hm
    exact ret1 hE rfl rfl ⟨_, rfl, rfl, (hp.drop)⟩
  · replace hm := (ie hc1).symm.trans hm
    refine k_skip ?_
    refine k_seq ?_
    refine k_seq ?_
    refine k_region ?_
    refine s_val (wk0 rfl) rfl rfl hE hp (v := (.agg #[(.int .i64 p0.vars), vp0_clauses])) (ex_load rfl hE rfl (fun w hw => run_ldN (cs := [(.int .i64 p0.vars), vp0_clauses]) varty24 (Hp.cN 0 rfl 0 _ (sub_all rfl) w hw))) ?_
    intro a hE
    obtain ⟨x2, ex2, hm⟩ := bnd hm
    refine s_call (wk0 rfl) rfl rfl hE rfl [(.agg #[(.int .i64 p0.vars), vp0_clauses]), (.int .i64 20), (.int .i64 20)] ⟨rfl, rfl, rfl, trivial⟩ ent9 (c_assessorref26_Small hT p0 vp0_clauses hp0_clauses 20 20 hp x2 ex2) Ret.ret ?_
    intro v a w hR hE
    obtain ⟨rfl, hp⟩ := Ret.of hR
    have hp : Hp Z ρ (_ :: L) w := hp
    refine s_val (wk0 rfl) rfl rfl hE hp (v := (.bool (!x2))) (ex_not rfl hE rfl) ?_
    intro a hE
    refine s_val (wk0 rfl) rfl rfl hE hp (v := (.bool (!x2))) (ex_move rfl hE rfl) ?_
    intro a hE
    obtain ⟨m1, hg1, hm⟩ := bnd hm
    refine s_cut [_, _, _, _] (fun a w => Env 65 [(22, (.bool m1)), (1, vp1), (2, (.pointer (some ⟨b1, 0, none⟩)))] a ∧ Hp Z ρ (Pt b1 (.cells #[(.int .i64 p0.vars), vp0_clauses] 24 (0, 0)) :: L) w) ?_ ?_
    · rcases Bool.eq_false_or_eq_true (!x2) with hc2 | hc2
      ·
        replace hg1 := (it hc2).symm.trans hg1
        refine s_skip (wk2 hE rfl rfl rfl hc2) rfl rfl hE ?_
        intro a hE
        refine s_skip (wk2 hE rfl rfl rfl hc2) rfl rfl hE ?_
        intro a hE
        refine s_skip (wk2 hE rfl rfl rfl hc2) rfl rfl hE ?_
        intro a hE
        refine s_val (wk0 rfl) rfl rfl hE hp (v := (.bool true)) (ex_pick1 rfl hE rfl hc2 rfl) ?_
        intro a hE
        obtain rfl := Option.some.inj hg1
        exact s_nil ⟨hE.cut ⟨rfl, rfl, rfl, trivial⟩, hp⟩
      ·
        replace hg1 := (ie hc2).symm.trans hg1
        refine s_val (wk1 hE rfl rfl rfl hc2) rfl rfl hE hp (v := vp1) (ex_move rfl hE rfl) ?_
        intro a hE
        obtain ⟨x3, ex3, hg1⟩ := bnd hg1
        refine s_call (wk1 hE rfl rfl rfl hc2) rfl rfl hE rfl [vp1, (.int .i64 20)] ⟨rfl, rfl, trivial⟩ ent14 (c_assessorlaw27_small hT p1 vp1 hp1 20 hp x3 ex3) Ret.ret ?_
        intro v a w hR hE
        obtain ⟨rfl, hp⟩ := Ret.of hR
        have hp : Hp Z ρ (_ :: L) w := hp
        refine s_val (wk1 hE rfl rfl rfl hc2) rfl rfl hE hp (v := (.bool (!x3))) (ex_not rfl hE rfl) ?_
        intro a hE
        refine s_val (wk0 rfl) rfl rfl hE hp (v := (.bool (!x3))) (ex_pick0 rfl hE rfl hc2 rfl) ?_
        intro a hE
        obtain rfl := Option.some.inj hg1
        exact s_nil ⟨hE.cut ⟨rfl, rfl, rfl, trivial⟩, hp⟩
    · rintro a w ⟨hE, hp⟩
      refine s_nil ?_
      refine k_if hE rfl (fun hc3 => ?_) (fun hc3 => ?_)
      · replace hm := (it hc3).symm.trans hm
        refine k_seq ?_
        refine k_region ?_
        refine s_val (wk0 rfl) rfl rfl hE hp (v := (.bool true)) (ex_asn rfl hE rfl) ?_
        intro a hE
        refine s_nil ?_
        refine k_ret ?_
        obtain rfl := Option.some.inj hm
        exact ret1 hE rfl rfl ⟨_, rfl, rfl, (hp.drop)⟩
      · replace hm := (ie hc3).symm.trans hm
        refine k_skip ?_
        refine k_seq ?_
        refine k_region ?_
        refine s_val (wk0 rfl) rfl rfl hE hp (v := (.agg #[(.int .i64 p0.vars), vp0_clauses])) (ex_load rfl hE rfl (fun w hw => run_ldN (cs := [(.int .i64 p0.vars), vp0_clauses]) varty24 (Hp.cN 0 rfl 0 _ (sub_all rfl) w hw))) ?_
        intro a hE
        refine s_val (wk0 rfl) rfl rfl hE hp (v := vp1) (ex_move rfl hE rfl) ?_
        intro a hE
        obtain ⟨x4, ex4, hm⟩ := bnd hm
        refine s_call (wk0 rfl) rfl rfl hE rfl [(.agg #[(.int .i64 p0.vars), vp0_clauses]), vp1] ⟨rfl, rfl, trivial⟩ ent17 (c_proof_Trim hT p0 vp0_clauses hp0_clauses p1 vp1 hp1 hp x4 ex4) Ret.ret ?_
        intro v a w hR hE
        obtain ⟨vr4, usr4, rfl, hp⟩ := Ret.of hR
        have hp : Hp Z ρ (TblA 25 3 vr4 usr4 (x4.1 : (List (List Int))) :: _ :: L) w := hp
        refine s_val (wk0 rfl) rfl rfl hE hp (v := (.tuple #[vr4, (.int .i64 x4.2)])) (ex_move rfl hE rfl) ?_
        intro a hE
        refine s_val (wk0 rfl) rfl rfl hE hp (v := vr4) (ex_extract rfl hE rfl rfl) ?_
        intro a hE
        refine s_val (wk0 rfl) rfl rfl hE hp (v := (.int .i64 x4.2)) (ex_extract rfl hE rfl rfl) ?_
        intro a hE
        refine s_val (wk0 rfl) rfl rfl hE hp (v := vr4) (ex_asn rfl hE rfl) ?_
        intro a hE
        refine s_val (wk0 rfl) rfl rfl hE hp (v := (.int .i64 x4.2)) (ex_asn rfl hE rfl) ?_
        intro a hE
        refine s_nil ?_
        refine k_seq ?_
        refine k_region ?_
        refine s_val (wk0 rfl) rfl rfl hE hp (v := (.agg #[(.int .i64 p0.vars), vp0_clauses])) (ex_load rfl hE rfl (fun w hw => run_ldN (cs := [(.int .i64 p0.vars), vp0_clauses]) varty24 (Hp.cN 1 rfl 0 _ (sub_all rfl) w hw))) ?_
        intro a hE
        refine s_val (wk0 rfl) rfl rfl hE hp (v := vp1) (ex_move rfl hE rfl) ?_
        intro a hE
        obtain ⟨x5, ex5, hm⟩ := bnd hm
        refine s_call (wk0 rfl) rfl rfl hE rfl [(.agg #[(.int .i64 p0.vars), vp0_clauses]), vp1] ⟨rfl, rfl, trivial⟩ ent18 (c_assessorref27_Trim hT p0 vp0_clauses hp0_clauses p1 vp1 hp1 hp x5 ex5) Ret.ret ?_
        intro v a w hR hE
        obtain ⟨ρ1, vr6, hle1, rfl, hr6, hp⟩ := Ret.of hR
        have hp : Hp Z ρ1 (_ :: _ :: L) w := hp
        refine s_val (wk0 rfl) rfl rfl hE hp (v := (.tuple #[vr6, (.int .i64 x5.2)])) (ex_move rfl hE rfl) ?_
        intro a hE
        refine s_val (wk0 rfl) rfl rfl hE hp (v := vr6) (ex_extract rfl hE rfl rfl) ?_
        intro a hE
        refine s_val (wk0 rfl) rfl rfl hE hp (v := (.int .i64 x5.2)) (ex_extract rfl hE rfl rfl) ?_
        intro a hE
        refine s_val (wk0 rfl) rfl rfl hE hp (v := vr6) (ex_asn rfl hE rfl) ?_
        intro a hE
        refine s_val (wk0 rfl) rfl rfl hE hp (v := (.int .i64 x5.2)) (ex_asn rfl hE rfl) ?_
        intro a hE
        refine s_nil ?_
        refine k_seq ?_
        refine k_region ?_
        refine s_val (wk0 rfl) rfl rfl hE hp (v := (.agg #[(.int .i64 p0.vars), vp0_clauses])) (ex_load rfl hE rfl (fun w hw => run_ldN (cs := [(.int .i64 p0.vars), vp0_clauses]) varty24 (Hp.cN 1 rfl 0 _ (sub_all rfl) w hw))) ?_
        intro a hE
        refine s_val (wk0 rfl) rfl rfl hE hp (v := vp1) (ex_move rfl hE rfl) ?_
        intro a hE
        obtain ⟨x6, ex6, hm⟩ := bnd hm
        refine s_call (wk0 rfl) rfl rfl hE rfl [(.agg #[(.int .i64 p0.vars), vp0_clauses]), vp1] ⟨rfl, rfl, trivial⟩ ent19 (c_proof_Core (Tabs.mono hT hle1) p0 vp0_clauses (RoSl.mono hp0_clauses hle1) p1 vp1 (RoSl.mono hp1 hle1) hp x6 ex6) Ret.ret ?_
        intro v a w hR hE
        obtain ⟨vr8, rfl, hp⟩ := Ret.of hR
        have hp : Hp Z ρ1 (OwnSl 3 vr8 x6.1 :: _ :: _ :: L) w := hp
        refine s_val (wk0 rfl) rfl rfl hE hp (v := (.tuple #[vr8, (.int .i64 x6.2)])) (ex_move rfl hE rfl) ?_
        intro a hE
        refine s_val (wk0 rfl) rfl rfl hE hp (v := vr8) (ex_extract rfl hE rfl rfl) ?_
        intro a hE
        refine s_val (wk0 rfl) rfl rfl hE hp (v := (.int .i64 x6.2)) (ex_extract rfl hE rfl rfl) ?_
        intro a hE
        refine s_val (wk0 rfl) rfl rfl hE hp (v := vr8) (ex_asn rfl hE rfl) ?_
        intro a hE
        refine s_val (wk0 rfl) rfl rfl hE hp (v := (.int .i64 x6.2)) (ex_asn rfl hE rfl) ?_
        intro a hE
        refine s_nil ?_
        have hE := hE.cut (E' := [(1, vp1), (2, (.pointer (some ⟨b1, 0, none⟩))), (5, vr4), (6, (.int .i64 x4.2)), (7, vr6), (8, (.int .i64 x5.2)), (9, vr8), (10, (.int .i64 x6.2))]) ⟨rfl, rfl, rfl, rfl, rfl, rfl, rfl, rfl, trivial⟩
        refine k_seq ?_
        refine k_region ?_
        refine s_val (wk0 rfl) rfl rfl hE hp (v := (.agg #[(.int .i64 p0.vars), vp0_clauses])) (ex_load rfl hE rfl (fun w hw => run_ldN (cs := [(.int .i64 p0.vars), vp0_clauses]) varty24 (Hp.cN 2 rfl 0 _ (sub_all rfl) w hw))) ?_
        intro a hE
        refine s_val (wk0 rfl) rfl rfl hE hp (v := vp1) (ex_move rfl hE rfl) ?_
        intro a hE
        obtain ⟨x7, ex7, hm⟩ := bnd hm
        refine s_call (wk0 rfl) rfl rfl hE rfl [(.agg #[(.int .i64 p0.vars), vp0_clauses]), vp1] ⟨rfl, rfl, trivial⟩ ent20 (c_assessorref27_Core (Tabs.mono hT hle1) p0 vp0_clauses (RoSl.mono hp0_clauses hle1) p1 vp1 (RoSl.mono hp1 hle1) hp x7 ex7) Ret.ret ?_
        intro v a w hR hE
        obtain ⟨vr10, rfl, hp⟩ := Ret.of hR
        have hp : Hp Z ρ1 (OwnSl 3 vr10 x7.1 :: _ :: _ :: _ :: L) w := hp
        refine s_val (wk0 rfl) rfl rfl hE hp (v := (.tuple #[vr10, (.int .i64 x7.2)])) (ex_move rfl hE rfl) ?_
        intro a hE
        refine s_val (wk0 rfl) rfl rfl hE hp (v := vr10) (ex_extract rfl hE rfl rfl) ?_
        intro a hE
        refine s_val (wk0 rfl) rfl rfl hE hp (v := (.int .i64 x7.2)) (ex_extract rfl hE rfl rfl) ?_
        intro a hE
        refine s_val (wk0 rfl) rfl rfl hE hp (v := vr10) (ex_asn rfl hE rfl) ?_
        intro a hE
        refine s_val (wk0 rfl) rfl rfl hE hp (v := (.int .i64 x7.2)) (ex_asn rfl hE rfl) ?_
        intro a hE
        refine s_nil ?_
        refine k_seq ?_
        refine k_region ?_
        refine s_val (wk0 rfl) rfl rfl hE hp (v := vr4) (ex_move rfl hE rfl) ?_
        intro a hE
        refine s_val (wk0 rfl) rfl rfl hE hp (v := vr6) (ex_move rfl hE rfl) ?_
        intro a hE
        obtain ⟨k1, k1a, k1d, k1h⟩ := (hp.get 2 rfl).lend
        obtain ⟨x8, ex8, hm⟩ := bnd hm
        refine s_call (wk0 rfl) rfl rfl hE rfl [vr4, vr6] ⟨rfl, rfl, trivial⟩ ent21 (c_assessorref26_Clauses (Tabs.mono (Tabs.mono hT hle1) (PH.le_un _ k1)) x4.1 vr4 (TblA.ro k1d k1a) x5.1 vr6 (RoSl.mono hr6 (PH.le_un _ _)) k1h x8 ex8) Ret.ret ?_
        intro v a w hR hE
        obtain ⟨rfl, hp⟩ := Ret.of hR
        have hp := Hp.back k1a k1d hp
        have hp : Hp Z ρ1 (_ :: _ :: _ :: _ :: L) w := hp
        refine s_val (wk0 rfl) rfl rfl hE hp (v := (.bool x8)) (ex_move rfl hE rfl) ?_
        intro a hE
        refine s_cut [_, _, _, _] (fun a w => Env 65 [(54, (.bool (x8 && (decide (x4.2 = x5.2))))), (9, vr8), (10, (.int .i64 x6.2)), (11, vr10), (12, (.int .i64 x7.2))] a ∧ Hp Z ρ1 (TblA 25 3 vr4 usr4 (x4.1 : (List (List Int))) :: OwnSl 3 vr10 x7.1 :: OwnSl 3 vr8 x6.1 :: Pt b1 (.cells #[(.int .i64 p0.vars), vp0_clauses] 24 (0, 0)) :: L) w) ?_ ?_
        · rcases Bool.eq_false_or_eq_true x8 with hc4 | hc4
          ·
            refine s_val (wk1 hE rfl rfl rfl hc4) rfl rfl hE hp (v := (.int .i64 x4.2)) (ex_move rfl hE rfl) ?_
            intro a hE
            refine s_val (wk1 hE rfl rfl rfl hc4) rfl rfl hE hp (v := (.int .i64 x5.2)) (ex_move rfl hE rfl) ?_
            intro a hE
            refine s_val (wk1 hE rfl rfl rfl hc4) rfl rfl hE hp (v := (.bool (decide (x4.2 = x5.2)))) (ex_eql rfl hE rfl rfl) ?_
            intro a hE
            refine s_val (wk0 rfl) rfl rfl hE hp (v := (.bool (decide (x4.2 = x5.2)))) (ex_pick1 rfl hE rfl hc4 rfl) ?_
            intro a hE
            have hE := hE.eqv (v' := (.bool (x8 && (decide (x4.2 = x5.2))))) (by rw [hc4]; rfl)
            exact s_nil ⟨hE.cut ⟨rfl, rfl, rfl, rfl, rfl, trivial⟩, hp⟩
          ·
            refine s_skip (wk2 hE rfl rfl rfl hc4) rfl rfl hE ?_
            intro a hE
            refine s_skip (wk2 hE rfl rfl rfl hc4) rfl rfl hE ?_
            intro a hE
            refine s_skip (wk2 hE rfl rfl rfl hc4) rfl rfl hE ?_
            intro a hE
            refine s_val (wk0 rfl) rfl rfl hE hp (v := (.bool false)) (ex_pick0 rfl hE rfl hc4 rfl) ?_
            intro a hE
            have hE := hE.eqv (v' := (.bool (x8 && (decide (x4.2 = x5.2))))) (by rw [hc4]; rfl)
            exact s_nil ⟨hE.cut ⟨rfl, rfl, rfl, rfl, rfl, trivial⟩, hp⟩
        · rintro a w ⟨hE, hp⟩
          refine s_val (wk0 rfl) rfl rfl hE hp (v := (.bool (x8 && (decide (x4.2 = x5.2))))) (ex_move rfl hE rfl) ?_
          intro a hE
          obtain ⟨m2, hg2, hm⟩ := bnd hm
          refine s_cut [_, _, _, _] (fun a w => Env 65 [(59, (.bool m2)), (10, (.int .i64 x6.2)), (12, (.int .i64 x7.2))] a ∧ Hp Z ρ1 (TblA 25 3 vr4 usr4 (x4.1 : (List (List Int))) :: OwnSl 3 vr10 x7.1 :: OwnSl 3 vr8 x6.1 :: Pt b1 (.cells #[(.int .i64 p0.vars), vp0_clauses] 24 (0, 0)) :: L) w) ?_ ?_
          · rcases Bool.eq_false_or_eq_true (x8 && (decide (x4.2 = x5.2))) with hc5 | hc5
            ·
              replace hg2 := (it hc5).symm.trans hg2
              refine s_val (wk1 hE rfl rfl rfl hc5) rfl rfl hE hp (v := vr8) (ex_move rfl hE rfl) ?_
              intro a hE
              refine s_val (wk1 hE rfl rfl rfl hc5) rfl rfl hE hp (v := vr10) (ex_move rfl hE rfl) ?_
              intro a hE
              obtain ⟨k2, k2a, k2d, k2h⟩ := (hp.get 2 rfl).lend
              obtain ⟨k3, k3a, k3d, k3h⟩ := (k2h.get 1 rfl).lend
              obtain ⟨x9, ex9, hg2⟩ := bnd hg2
              refine s_call (wk1 hE rfl rfl rfl hc5) rfl rfl hE rfl [vr8, vr10] ⟨rfl, rfl, trivial⟩ ent22 (c_slices_Equal_int_int_ (Tabs.mono (Tabs.mono (Tabs.mono hT hle1) (PH.le_un _ k2)) (PH.le_un _ k3)) x6.1 vr8 (RoSl.mono (OwnSl.ro k2d k2a) (PH.le_un _ _)) x7.1 vr10 (OwnSl.ro k3d k3a) k3h x9 ex9) Ret.ret ?_
              intro v a w hR hE
              obtain ⟨rfl, hp⟩ := Ret.of hR
              have hp := Hp.back k3a k3d hp
              have hp := Hp.back k2a k2d hp
              have hp : Hp Z ρ1 (_ :: _ :: _ :: _ :: L) w := hp
              refine s_val (wk0 rfl) rfl rfl hE hp (v := (.bool x9)) (ex_pick1 rfl hE rfl hc5 rfl) ?_
              intro a hE
              obtain rfl := Option.some.inj hg2
              exact s_nil ⟨hE.cut ⟨rfl, rfl, rfl, trivial⟩, ((((hp.get 3 rfl).get 1 rfl).get 2 rfl).get 3 rfl)⟩
            ·
              replace hg2 := (ie hc5).symm.trans hg2
              refine s_skip (wk2 hE rfl rfl rfl hc5) rfl rfl hE ?_
              intro a hE
              refine s_skip (wk2 hE rfl rfl rfl hc5) rfl rfl hE ?_
              intro a hE
              refine s_skip (wk2 hE rfl rfl rfl hc5) rfl rfl hE ?_
              intro a hE
              refine s_val (wk0 rfl) rfl rfl hE hp (v := (.bool false)) (ex_pick0 rfl hE rfl hc5 rfl) ?_
              intro a hE
              obtain rfl := Option.some.inj hg2
              exact s_nil ⟨hE.cut ⟨rfl, rfl, rfl, trivial⟩, hp⟩
          · rintro a w ⟨hE, hp⟩
            refine s_val (wk0 rfl) rfl rfl hE hp (v := (.bool m2)) (ex_move rfl hE rfl) ?_
            intro a hE
            refine s_cut [_, _, _, _] (fun a w => Env 65 [(64, (.bool (m2 && (decide (x6.2 = x7.2)))))] a ∧ Hp Z ρ1 (TblA 25 3 vr4 usr4 (x4.1 : (List (List Int))) :: OwnSl 3 vr10 x7.1 :: OwnSl 3 vr8 x6.1 :: Pt b1 (.cells #[(.int .i64 p0.vars), vp0_clauses] 24 (0, 0)) :: L) w) ?_ ?_
            · rcases Bool.eq_false_or_eq_true m2 with hc6 | hc6
              ·
                refine s_val (wk1 hE rfl rfl rfl hc6) rfl rfl hE hp (v := (.int .i64 x6.2)) (ex_move rfl hE rfl) ?_
                intro a hE
                refine s_val (wk1 hE rfl rfl rfl hc6) rfl rfl hE hp (v := (.int .i64 x7.2)) (ex_move rfl hE rfl) ?_
                intro a hE
                refine s_val (wk1 hE rfl rfl rfl hc6) rfl rfl hE hp (v := (.bool (decide (x6.2 = x7.2)))) (ex_eql rfl hE rfl rfl) ?_
                intro a hE
                refine s_val (wk0 rfl) rfl rfl hE hp (v := (.bool (decide (x6.2 = x7.2)))) (ex_pick1 rfl hE rfl hc6 rfl) ?_
                intro a hE
                have hE := hE.eqv (v' := (.bool (m2 && (decide (x6.2 = x7.2))))) (by rw [hc6]; rfl)
                exact s_nil ⟨hE.cut ⟨rfl, trivial⟩, hp⟩
              ·
                refine s_skip (wk2 hE rfl rfl rfl hc6) rfl rfl hE ?_
                intro a hE
                refine s_skip (wk2 hE rfl rfl rfl hc6) rfl rfl hE ?_
                intro a hE
                refine s_skip (wk2 hE rfl rfl rfl hc6) rfl rfl hE ?_
                intro a hE
                refine s_val (wk0 rfl) rfl rfl hE hp (v := (.bool false)) (ex_pick0 rfl hE rfl hc6 rfl) ?_
                intro a hE
                have hE := hE.eqv (v' := (.bool (m2 && (decide (x6.2 = x7.2))))) (by rw [hc6]; rfl)
                exact s_nil ⟨hE.cut ⟨rfl, trivial⟩, hp⟩
            · rintro a w ⟨hE, hp⟩
              refine s_val (wk0 rfl) rfl rfl hE hp (v := (.bool (m2 && (decide (x6.2 = x7.2))))) (ex_asn rfl hE rfl) ?_
              intro a hE
              refine s_nil ?_
              refine k_ret ?_
              obtain rfl := Option.some.inj hm
              exact ret1 hE rfl rfl ⟨_, rfl, rfl, ((((((((hp.get 3 rfl).drop).get 2 rfl).drop).get 1 rfl).drop).drop).less hle1)⟩
end Go.Proofs.YtfajmelamonolaaDoor

/- Maps from integers whose entries are told in the order of the keys, wherever they lie. Plain theorems over any program. -/
set_option linter.unusedVariables false
set_option linter.unusedSimpArgs false
namespace Go.Proofs.YtfajmelamonolaaDoor
open Vl (vl)
open Go.RowKit
section
variable {β : Type}
end
def MapU {β : Type} [Vl β] (b : Nat) (l : List (Int × β)) : Atom := fun h => ∃ l', MapA b l' h ∧ l'.Perm l
section
variable {Rn : Option Nat} {P : Program} {ops : Array Oper} {Q : Exit → Act → World → Prop} {rest : List Oper} {o : Oper} {a : Act} {w : World} {Df : List Deferred} {N : Nat} {E : Ent} {d : Nat} {Z : World} {ρ : PH} {L : List Atom}
variable {β : Type} [Vl β] {b : Nat} {l : List (Int × β)}
theorem MapU.of (h : Hp Z ρ (MapA b l :: L) w) : Hp Z ρ (MapU b l :: L) w := h.imp fun _ k => ⟨l, k, List.Perm.refl _⟩
theorem MapU.shut {l' : List (Int × β)} (h : Hp Z ρ (MapA b l' :: L) w) (hp : l'.Perm l) : Hp Z ρ (MapU b l :: L) w := h.imp fun _ k => ⟨l', k, hp⟩
end
end Go.Proofs.YtfajmelamonolaaDoor

/- Words for plain laws: loops that count, part steps that do not fail, sorted lists. No program is named. -/
set_option linter.unusedVariables false
set_option linter.unusedSimpArgs false
namespace Go.Proofs.YtfajmelamonolaaDoor
open Go.RowKit
theorem loop_at {σ β : Type} {body : σ → Option (Step σ β)} {b : β} (S : Nat → σ) : ∀ (n : Nat), (∀ k, k < n → body (S k) = some (.next (S (k + 1)))) → body (S n) = some (.done b) → loopM body (S 0) = some b
  | 0, _, h => loopM_done h
  | n + 1, h1, h2 => by
    rw [loopM_next (h1 0 (by omega))]
    exact loop_at (fun k => S (k + 1)) n (fun k hk => h1 (k + 1) (by omega)) h2
theorem loop_from {σ β : Type} {body : σ → Option (Step σ β)} {b : β} {s : σ} (S : Nat → σ) (n : Nat) (h0 : s = S 0) (h1 : ∀ k, k < n → body (S k) = some (.next (S (k + 1)))) (h2 : body (S n) = some (.done b)) : loopM body s = some b := by
  rw [h0]; exact loop_at S n h1 h2
theorem inK_eq {n : Int} (h : -9223372036854775808 ≤ n ∧ n ≤ 9223372036854775807) : inK .i64 n = some n := inK_ok n h.1 h.2
theorem idx_nat {α : Type} {l : List α} {k : Nat} {a : α} (h : l[k]? = some a) : idx l (k : Int) = some a := by
  unfold idx; rw [if_pos (by omega)]; simpa using h
theorem idx_of {α : Type} {l : List α} {i : Int} {a : α} (h0 : 0 ≤ i) (h : l[i.toNat]? = some a) : idx l i = some a := by
  unfold idx; rw [if_pos h0, h]
theorem get_of_lt {α : Type} {l : List α} {k : Nat} (h : k < l.length) : ∃ a, l[k]? = some a := ⟨_, List.getElem?_eq_getElem h⟩
theorem app_ok {α : Type} {l m : List α} (h : l.length + m.length ≤ 4294967296) : app l m = some (l ++ m) := by unfold app; rw [if_pos h]
theorem sub_ok {α : Type} {l : List α} {i j : Int} (h0 : 0 ≤ i) (h1 : i ≤ j) (h2 : j ≤ l.length) : sub l i j = some ((l.take j.toNat).drop i.toNat) := by unfold sub; rw [if_pos ⟨h0, h1, h2⟩]
theorem mkc_ok {α : Type} {n c : Int} {z : α} (h : 0 ≤ n ∧ n ≤ c ∧ c ≤ 4294967296) : mkc n c z = some (List.replicate n.toNat z) := by unfold mkc; rw [if_pos h]
theorem catK_ok {a b : ByteArray} (h : a.size + b.size ≤ 4294967296) : catK a b = some (a ++ b) := by unfold catK; rw [if_pos h]
theorem I64.r {n : Int} (h : (Lit.int .i64 n).wf = true) : -9223372036854775808 ≤ n ∧ n ≤ 9223372036854775807 := by
  simp [Lit.wf, IntKind.min, IntKind.max, IntKind.signed, IntKind.bits] at h
  exact ⟨by omega, by omega⟩
theorem U8.r {n : Int} (h : (Lit.int .u8 n).wf = true) : 0 ≤ n ∧ n ≤ 255 := by
  simp [Lit.wf, IntKind.min, IntKind.max, IntKind.signed, IntKind.bits] at h
  omega
theorem first_or {α : Type} (p : α → Bool) : ∀ (l : List α), (∃ k a, l[k]? = some a ∧ p a = true ∧ (∀ j b, j < k → l[j]? = some b → p b = false) ∧ l.any p = true ∧ l.findIdx p = k) ∨ ((∀ a ∈ l, p a = false) ∧ l.any p = false ∧ l.findIdx p = l.length)
  | [] => Or.inr ⟨by simp, rfl, rfl⟩
  | x :: l => by
    cases hx : p x with
    | true => exact Or.inl ⟨0, x, rfl, hx, fun j b hj => by omega, by simp [hx], by simp [List.findIdx_cons, hx]⟩
    | false =>
      rcases first_or p l with ⟨k, a, h1, h2, h3, h4, h5⟩ | ⟨h1, h2, h3⟩
      · refine Or.inl ⟨k + 1, a, by simpa using h1, h2, fun j b hj hb => ?_, by simp [hx, h4], by simp [List.findIdx_cons, hx, h5]⟩
        cases j with
        | zero => simp at hb; subst hb; exact hx
        | succ j => exact h3 j b (by omega) (by simpa using hb)
      · refine Or.inr ⟨fun a ha => ?_, by simp [hx, h2], by simp [List.findIdx_cons, hx, h3]⟩
        rcases List.mem_cons.1 ha with rfl | ha
        · exact hx
        · exact h1 a ha
theorem scan_loop {α β : Type} {body : Int → Option (Step Int β)} (l : List α) (p : α → Bool) (hit : Nat → α → β) (miss : β)
    (h1 : ∀ (k : Nat) a, l[k]? = some a → body k = some (if p a = true then .done (hit k a) else .next ((k + 1 : Nat) : Int))) (h2 : body (l.length : Int) = some (.done miss)) :
    (∃ k a, l[k]? = some a ∧ p a = true ∧ (∀ j b, j < k → l[j]? = some b → p b = false) ∧ l.any p = true ∧ l.findIdx p = k ∧ loopM body 0 = some (hit k a)) ∨ ((∀ a ∈ l, p a = false) ∧ l.any p = false ∧ l.findIdx p = l.length ∧ loopM body 0 = some miss) := by
  rcases first_or p l with ⟨k, a, a1, a2, a3, a4, a5⟩ | ⟨a1, a2, a3⟩
  · refine Or.inl ⟨k, a, a1, a2, a3, a4, a5, loop_from (fun j => (j : Int)) k rfl (fun j hj => ?_) ?_⟩
    · obtain ⟨b, hb⟩ := get_of_lt (show j < l.length by have := (List.getElem?_eq_some_iff.1 a1).1; omega)
      rw [h1 j b hb, a3 j b hj hb]; rfl
    · rw [h1 k a a1, a2]; rfl
  · refine Or.inr ⟨a1, a2, a3, loop_from (fun j => (j : Int)) l.length rfl (fun j hj => ?_) h2⟩
    obtain ⟨b, hb⟩ := get_of_lt hj
    rw [h1 j b hb, a1 b (List.mem_of_getElem? hb)]; rfl
theorem any_loop {α β : Type} {body : Int → Option (Step Int β)} (l : List α) (p : α → Bool) (hit miss : β)
    (h1 : ∀ (k : Nat) a, l[k]? = some a → body k = some (if p a = true then .done hit else .next ((k + 1 : Nat) : Int))) (h2 : body (l.length : Int) = some (.done miss)) : loopM body 0 = some (if l.any p = true then hit else miss) := by
  rcases scan_loop l p (fun _ _ => hit) miss h1 h2 with ⟨k, a, _, _, _, h, _, e⟩ | ⟨_, h, _, e⟩
  · rw [e, h]; rfl
  · rw [e, h]; rfl
theorem same_loop {α β : Type} [DecidableEq α] {body : Int → Option (Step Int β)} {a b : List α} (hl : a.length = b.length) (hit miss : β)
    (h1 : ∀ (k : Nat) x y, a[k]? = some x → b[k]? = some y → body k = some (if x = y then .next ((k + 1 : Nat) : Int) else .done hit)) (h2 : body (a.length : Int) = some (.done miss)) : loopM body 0 = some (if a = b then miss else hit) := by
  have hzl : (a.zip b).length = a.length := by rw [List.length_zip]; omega
  have hz : (a.zip b).any (fun p => decide (p.1 ≠ p.2)) = decide (a ≠ b) := by
    clear h1 h2 hzl
    induction a generalizing b with
    | nil => cases b with
      | nil => simp
      | cons y b => simp at hl
    | cons x a ih => cases b with
      | nil => simp at hl
      | cons y b =>
        simp only [List.length_cons, Nat.add_right_cancel_iff] at hl
        simp only [List.zip_cons_cons, List.any_cons, ih hl, ne_eq, List.cons.injEq]
        by_cases hx : x = y <;> by_cases hb : a = b <;> simp [hx, hb]
  have := any_loop (body := body) (a.zip b) (fun p => decide (p.1 ≠ p.2)) hit miss (fun k p hp => by
    obtain ⟨x, y⟩ := p
    have hk := (List.getElem?_eq_some_iff.1 hp).1
    rw [hzl] at hk
    obtain ⟨x', hx⟩ := get_of_lt hk
    obtain ⟨y', hy⟩ := get_of_lt (show k < b.length by omega)
    rw [List.getElem?_zip_eq_some] at hp
    rw [h1 k x y hp.1 hp.2]
    by_cases h : x = y <;> simp [h]) (by rw [hzl]; exact h2)
  rw [this, hz]
  by_cases h : a = b <;> simp [h]
theorem bind_any {α β γ : Type} {body : Int → Option (Step Int β)} {f : β → Option γ} {r : Option γ} (l : List α) (p : α → Bool) (hit miss : β)
    (h1 : ∀ (k : Nat) a, l[k]? = some a → body k = some (if p a = true then .done hit else .next ((k + 1 : Nat) : Int))) (h2 : body (l.length : Int) = some (.done miss)) (hf : f (if l.any p = true then hit else miss) = r) : (loopM body 0).bind f = r := by
  rw [any_loop l p hit miss h1 h2]; exact hf
theorem bind_same {α β γ : Type} [DecidableEq α] {body : Int → Option (Step Int β)} {f : β → Option γ} {r : Option γ} {a b : List α} (hl : a.length = b.length) (hit miss : β)
    (h1 : ∀ (k : Nat) x y, a[k]? = some x → b[k]? = some y → body k = some (if x = y then .next ((k + 1 : Nat) : Int) else .done hit)) (h2 : body (a.length : Int) = some (.done miss)) (hf : f (if a = b then miss else hit) = r) : (loopM body 0).bind f = r := by
  rw [same_loop hl hit miss h1 h2]; exact hf
theorem drop_cons_of {α : Type} {l : List α} {k : Nat} {a : α} (h : l[k]? = some a) : l.drop k = a :: l.drop (k + 1) := by
  obtain ⟨h1, h2⟩ := List.getElem?_eq_some_iff.1 h
  rw [← h2]; exact List.drop_eq_getElem_cons h1
theorem take_snoc_of {α : Type} {l : List α} {k : Nat} {a : α} (h : l[k]? = some a) : l.take (k + 1) = l.take k ++ [a] := by
  obtain ⟨h1, h2⟩ := List.getElem?_eq_some_iff.1 h
  rw [← h2]; exact List.take_succ_eq_append_getElem h1
theorem rising_ext {α : Type} {r : α → α → Prop} (irr : ∀ a, ¬ r a a) (tr : ∀ a b c, r a b → r b c → r a c) : ∀ {l m : List α}, l.Pairwise r → m.Pairwise r → (∀ x, x ∈ l ↔ x ∈ m) → l = m
  | [], [], _, _, _ => rfl
  | [], b :: m, _, _, h => by have := (h b).2 (List.mem_cons_self ..); simp at this
  | a :: l, [], _, _, h => by have := (h a).1 (List.mem_cons_self ..); simp at this
  | a :: l, b :: m, hl, hm, h => by
    obtain ⟨l1, l2⟩ := List.pairwise_cons.1 hl
    obtain ⟨m1, m2⟩ := List.pairwise_cons.1 hm
    have e : a = b := by
      rcases List.mem_cons.1 ((h a).1 (List.mem_cons_self ..)) with e | h1
      · exact e
      · rcases List.mem_cons.1 ((h b).2 (List.mem_cons_self ..)) with e | h2
        · exact e.symm
        · exact absurd (tr _ _ _ (m1 a h1) (l1 b h2)) (irr b)
    subst e
    congr 1
    refine rising_ext irr tr l2 m2 fun x => ?_
    constructor
    · intro hx
      rcases List.mem_cons.1 ((h x).1 (List.mem_cons_of_mem _ hx)) with e | h1
      · subst e; exact absurd (l1 x hx) (irr x)
      · exact h1
    · intro hx
      rcases List.mem_cons.1 ((h x).2 (List.mem_cons_of_mem _ hx)) with e | h1
      · subst e; exact absurd (m1 x hx) (irr x)
      · exact h1
end Go.Proofs.YtfajmelamonolaaDoor

/- Loops over lists with a state, and small words for plain laws. No program is named. -/
set_option linter.unusedVariables false
set_option linter.unusedSimpArgs false
namespace Go.Proofs.YtfajmelamonolaaDoor
open Go.RowKit
def runL {α τ β : Type} (f : α → τ → Step τ β) (g : τ → β) : List α → τ → β
  | [], t => g t
  | a :: l, t => match f a t with
    | .next t' => runL f g l t'
    | .done b => b
theorem loopL {α τ S β : Type} {body : S → Option (Step S β)} {s0 : S} (l : List α) (E : Nat → τ → S) (f : α → τ → Step τ β) (g : τ → β) (I : Nat → τ → Prop) {t0 : τ} (hs0 : s0 = E 0 t0) (h0 : I 0 t0)
    (hs : ∀ k a t, l[k]? = some a → I k t → body (E k t) = some (match f a t with | .next t' => .next (E (k + 1) t') | .done b => .done b) ∧ (∀ t', f a t = .next t' → I (k + 1) t'))
    (he : ∀ t, I l.length t → body (E l.length t) = some (.done (g t))) : loopM body s0 = some (runL f g l t0) := by
  have key : ∀ (m k : Nat) (t : τ), k + m = l.length → I k t → loopM body (E k t) = some (runL f g (l.drop k) t) := by
    intro m
    induction m with
    | zero =>
      intro k t hk hi
      have hk : k = l.length := by omega
      subst hk
      rw [loopM_done (he t hi), List.drop_length]; rfl
    | succ m ih =>
      intro k t hk hi
      obtain ⟨a, ha⟩ := get_of_lt (show k < l.length by omega)
      obtain ⟨h1, h2⟩ := hs k a t ha hi
      rw [drop_cons_of ha]
      unfold runL
      cases hf : f a t with
      | next t' =>
        rw [hf] at h1
        rw [loopM_next h1]
        exact ih (k + 1) t' (by omega) (h2 t' hf)
      | done b =>
        rw [hf] at h1
        exact loopM_done h1
  rw [hs0]
  simpa using key l.length 0 t0 (by omega) h0
theorem loopN {τ S β : Type} {body : S → Option (Step S β)} {s0 : S} (n : Nat) (E : Nat → τ → S) (I : Nat → τ → Prop) (Post : β → Prop) {t0 : τ} (hs0 : s0 = E 0 t0) (h0 : I 0 t0)
    (hs : ∀ k t, k < n → I k t → (∃ t', body (E k t) = some (.next (E (k + 1) t')) ∧ I (k + 1) t') ∨ (∃ b, body (E k t) = some (.done b) ∧ Post b))
    (he : ∀ t, I n t → ∃ b, body (E n t) = some (.done b) ∧ Post b) : ∃ b, loopM body s0 = some b ∧ Post b := by
  have key : ∀ (m k : Nat) (t : τ), k + m = n → I k t → ∃ b, loopM body (E k t) = some b ∧ Post b := by
    intro m
    induction m with
    | zero =>
      intro k t hk hi
      obtain rfl : k = n := by omega
      obtain ⟨b, h1, h2⟩ := he t hi
      exact ⟨b, loopM_done h1, h2⟩
    | succ m ih =>
      intro k t hk hi
      rcases hs k t (by omega) hi with ⟨t', h1, h2⟩ | ⟨b, h1, h2⟩
      · obtain ⟨b, h3, h4⟩ := ih (k + 1) t' (by omega) h2
        exact ⟨b, by rw [loopM_next h1]; exact h3, h4⟩
      · exact ⟨b, loopM_done h1, h2⟩
  rw [hs0]
  exact key n 0 t0 (by omega) h0
theorem bsm {α β : Type} (a : α) (f : α → Option β) : (some a).bind f = f a := Eq.trans (congrArg (fun x => Option.bind x f) (Eq.refl (some a))) rfl
theorem len_lt {α : Type} {l : List α} {k : Nat} {a : α} (h : l[k]? = some a) : k < l.length := (List.getElem?_eq_some_iff.1 h).1
theorem mem_get {α : Type} {l : List α} {k : Nat} {a : α} (h : l[k]? = some a) : a ∈ l := List.mem_of_getElem? h
theorem inK_up {k : Nat} {n : Nat} (h : k < n) (hn : n ≤ 9223372036854775807) : inK .i64 ((k : Int) + 1) = some ((k + 1 : Nat) : Int) := by
  rw [inK_eq ⟨by omega, by omega⟩]; rfl
theorem inK_at {n m : Int} (e : n = m) (h : -9223372036854775808 ≤ m ∧ m ≤ 9223372036854775807) : inK .i64 n = some m := by rw [e]; exact inK_eq h
theorem ltB {k n : Nat} (h : k < n) : (decide ((k : Int) < (n : Int))) = true := by simpa using h
theorem ltB' {n : Nat} : ¬ (decide ((n : Int) < (n : Int))) = true := by simp
theorem vr_nn (l : Int) : 0 ≤ vr l := by unfold vr; omega
theorem vr_neg (l : Int) : vr (-l) = vr l := by unfold vr; omega
theorem vr_zero {l : Int} : vr l = 0 ↔ l = 0 := by unfold vr; omega
theorem vr_eq {l m : Int} : vr l = vr m ↔ l = m ∨ l = -m := by unfold vr; omega
theorem vr_le {l v : Int} : vr l ≤ v ↔ -v ≤ l ∧ l ≤ v := by unfold vr; omega
def clF (v : Int) : Int → List Int → Bool
  | _, [] => true
  | last, l :: r => decide (-v ≤ l) && decide (l ≤ v) && decide (last < vr l) && clF v (vr l) r
end Go.Proofs.YtfajmelamonolaaDoor

/- What the functions on clauses and formulas compute: Valid, Literal, Holds, comparisons. -/
set_option linter.unusedVariables false
set_option linter.unusedSimpArgs false
namespace Go.Proofs.YtfajmelamonolaaDoor
open Go.RowKit
theorem var_ok {l : Int} (h : -9223372036854775807 ≤ l ∧ l ≤ 9223372036854775807) : m_cnf_variable l = some (vr l) := by
  unfold m_cnf_variable; rw [inK_eq (by omega)]; rfl
theorem rvar_ok {l : Int} (h : -9223372036854775807 ≤ l ∧ l ≤ 9223372036854775807) : m_assessorref26_Variable l = some (vr l) := by
  unfold m_assessorref26_Variable
  by_cases h0 : l < 0
  · rw [if_pos (by simpa using h0), inK_eq (by omega)]
    simp only [bsm]; congr 1; unfold vr; omega
  · rw [if_neg (by simpa using h0)]; congr 1; unfold vr; omega
def stCl (v l last : Int) : Step Int (Out Unit Bool) := if ((decide (l < -v)) || (decide (v < l)) || (decide (vr l ≤ last))) = true then Step.done (Out.ret false) else Step.next (vr l)
theorem cnf_normal {c : List Int} {v : Int} (hv : 0 ≤ v ∧ v ≤ 1099511627776) (hc : c.length ≤ 9223372036854775807) : m_cnf_normal c v = some (clF v 0 c) := by
  unfold m_cnf_normal
  have h := loopL (body := fun s : Int × Int => m_cnf_normal_lp1 c v s.1 s.2) (s0 := ((0 : Int), (0 : Int))) c (fun k t => (t, (k : Int)))
    (stCl v) (fun _ => Out.brk ()) (fun _ _ => True) (t0 := (0 : Int)) rfl trivial ?_ ?_
  · rw [h]
    simp only [bsm]
    generalize (0 : Int) = t
    clear h
    induction c generalizing t with
    | nil => simp [runL, clF]
    | cons l r ih =>
      have ih := ih (by simp only [List.length_cons] at hc; omega)
      unfold runL stCl clF
      by_cases hb : ((decide (l < -v)) || (decide (v < l)) || (decide (vr l ≤ t))) = true
      · rw [if_pos hb]
        simp only [Bool.or_eq_true, decide_eq_true_eq] at hb
        have : (decide (-v ≤ l) && decide (l ≤ v) && decide (t < vr l)) = false := by
          simp only [Bool.and_eq_false_iff, decide_eq_false_iff_not]; omega
        simp [this]
      · rw [if_neg hb]
        simp only [Bool.or_eq_true, decide_eq_true_eq, not_or] at hb
        have : (decide (-v ≤ l) && decide (l ≤ v) && decide (t < vr l)) = true := by
          simp only [Bool.and_eq_true, decide_eq_true_eq]; omega
        rw [this, Bool.true_and]
        exact ih (vr l)
  · intro k a t hk _
    refine ⟨?_, fun _ _ => trivial⟩
    simp only [m_cnf_normal_lp1, stCl]
    rw [if_pos (ltB (len_lt hk)), idx_nat hk]
    simp only [bsm]
    rw [inK_eq (by omega)]
    simp only [bsm, Int.zero_sub]
    by_cases h1 : (decide (a < -v) || decide (v < a)) = true
    · simp [h1]
    · rw [if_neg h1]
      simp only [Bool.or_eq_true, decide_eq_true_eq, not_or] at h1
      rw [var_ok (by omega)]
      have h1' : (decide (a < -v) || decide (v < a)) = false := by simp; omega
      simp only [bsm, h1', Bool.false_or]
      by_cases h2 : vr a ≤ t
      · simp [h2]
      · simp [h2, inK_up (len_lt hk) hc]
  · intro t _
    simp only [m_cnf_normal_lp1]
    rw [if_neg ltB']
theorem in1 : inK .i64 1 = some 1 := inK_eq ⟨by decide, by decide⟩
theorem runL_clF {c : List Int} {v t : Int} (ht : 0 ≤ t) : (match runL (stCl v) (fun _ => (Out.brk () : Out Unit Bool)) c t with | .brk _ => true | .ret r => r) = clF v t c := by
  induction c generalizing t with
  | nil => simp [runL, clF]
  | cons l r ih =>
    unfold runL stCl clF
    by_cases hb : ((decide (l < -v)) || (decide (v < l)) || (decide (vr l ≤ t))) = true
    · rw [if_pos hb]
      simp only [Bool.or_eq_true, decide_eq_true_eq] at hb
      have : (decide (-v ≤ l) && decide (l ≤ v) && decide (t < vr l)) = false := by
        simp only [Bool.and_eq_false_iff, decide_eq_false_iff_not]; omega
      simp [this]
    · rw [if_neg hb]
      simp only [Bool.or_eq_true, decide_eq_true_eq, not_or] at hb
      have : (decide (-v ≤ l) && decide (l ≤ v) && decide (t < vr l)) = true := by
        simp only [Bool.and_eq_true, decide_eq_true_eq]; omega
      rw [this, Bool.true_and]
      exact ih (vr_nn l)
theorem ref_isClause {c : List Int} {v : Int} (hv : 0 ≤ v ∧ v ≤ 1099511627776) (hc : c.length ≤ 9223372036854775807) : m_assessorref26_IsClause c v = some (clF v 0 c) := by
  unfold m_assessorref26_IsClause
  have h := loopL (body := fun s : Int => m_assessorref26_IsClause_lp1 c v s) (s0 := (0 : Int)) c (fun k t => (k : Int))
    (stCl v) (fun _ => Out.brk ())
    (fun k t => (k = 0 ∧ t = 0) ∨ (0 < k ∧ ∃ b, c[k - 1]? = some b ∧ t = vr b ∧ -v ≤ b ∧ b ≤ v)) (t0 := (0 : Int)) rfl (Or.inl ⟨rfl, rfl⟩) ?_ ?_
  · rw [h]
    simp only [bsm]
    rw [← runL_clF (c := c) (v := v) (t := 0) (Int.le_refl 0)]
    generalize runL (stCl v) (fun _ => Out.brk ()) c 0 = o
    cases o <;> rfl
  · intro k a t hk hI
    refine ⟨?_, fun t' ht' => ?_⟩
    · simp only [m_assessorref26_IsClause_lp1, stCl]
      rw [if_pos (ltB (len_lt hk)), idx_nat hk]
      simp only [bsm]
      rw [inK_eq (show -9223372036854775808 ≤ 0 - v ∧ 0 - v ≤ 9223372036854775807 by omega)]
      have ht : 0 ≤ t := by
        rcases hI with ⟨_, rfl⟩ | ⟨_, b, _, rfl, _⟩
        · omega
        · exact vr_nn b
      by_cases h0 : a = 0
      · have : vr a ≤ t := by rw [vr_zero.2 h0]; exact ht
        simp [h0]
        rw [h0] at this; simp [this]
      · by_cases h1 : a < -v
        · simp [h0, h1]
        · by_cases h2 : v < a
          · simp [h0, h1, h2]
          · have h3 : (decide (a < -v) || decide (v < a)) = false := by simp; omega
            rcases hI with ⟨rfl, rfl⟩ | ⟨hk0, b, hb, rfl, hb1, hb2⟩
            · have : ¬ vr a ≤ 0 := fun h => h0 (vr_zero.1 (by have := vr_nn a; omega))
              simp [h0, h1, h2, this, in1]
            · have e1 : inK .i64 ((k : Int) - 1) = some ((k - 1 : Nat) : Int) := by
                rw [inK_eq ⟨by omega, by have := len_lt hk; omega⟩]; congr 1; omega
              rw [rvar_ok (by omega)]
              simp only [bsm]
              simp [h0, h1, h2, show 0 < k from hk0, e1, idx_nat hb, rvar_ok (show -9223372036854775807 ≤ b ∧ b ≤ 9223372036854775807 by omega), inK_up (len_lt hk) hc]
              by_cases h4 : vr a ≤ vr b
              · simp [h4]
              · simp [h4]
    · refine Or.inr ⟨by omega, a, by simpa using hk, ?_⟩
      unfold stCl at ht'
      by_cases hb : ((decide (a < -v)) || (decide (v < a)) || (decide (vr a ≤ t))) = true
      · rw [if_pos hb] at ht'; cases ht'
      · rw [if_neg hb] at ht'
        simp only [Bool.or_eq_true, decide_eq_true_eq, not_or] at hb
        exact ⟨(Step.next.inj ht').symm, by omega, by omega⟩
  · intro t _
    simp only [m_assessorref26_IsClause_lp1]
    rw [if_neg ltB']
def validB (f : Formula) : Bool := decide (0 ≤ f.vars) && decide (f.vars ≤ 65536) && decide (f.clauses.length ≤ 262144) && f.clauses.all (clF f.vars 0)
def FLen (cs : List (List Int)) : Prop := cs.length ≤ 9223372036854775807 ∧ ∀ c ∈ cs, c.length ≤ 9223372036854775807
theorem any_not_all {α : Type} (p : α → Bool) (l : List α) : (if l.any (fun a => !p a) = true then (Out.ret false : Out Unit Bool) else Out.brk ()) = (if l.all p = true then Out.brk () else Out.ret false) := by
  have : l.any (fun a => !p a) = !l.all p := by simp [List.all_eq_not_any_not]
  rw [this]; cases l.all p <;> rfl
theorem validB_pre (f : Formula) (hp : ¬ (((decide (f.vars < 0)) || (decide (65536 < f.vars))) || (decide (262144 < (f.clauses.length : Int)))) = true) : validB f = f.clauses.all (clF f.vars 0) := by
  simp only [Bool.or_eq_true, decide_eq_true_eq, not_or] at hp
  unfold validB
  have : (decide (0 ≤ f.vars) && decide (f.vars ≤ 65536) && decide (f.clauses.length ≤ 262144)) = true := by simp only [Bool.and_eq_true, decide_eq_true_eq]; omega
  rw [this, Bool.true_and]
theorem validB_no (f : Formula) (hp : (((decide (f.vars < 0)) || (decide (65536 < f.vars))) || (decide (262144 < (f.clauses.length : Int)))) = true) : validB f = false := by
  simp only [Bool.or_eq_true, decide_eq_true_eq] at hp
  unfold validB
  have : (decide (0 ≤ f.vars) && decide (f.vars ≤ 65536) && decide (f.clauses.length ≤ 262144)) = false := by
    simp only [Bool.and_eq_false_iff, decide_eq_false_iff_not]; omega
  rw [this, Bool.false_and]
theorem cnf_valid {f : Formula} (hl : FLen f.clauses) : m_cnf_Valid f = some (validB f) := by
  unfold m_cnf_Valid
  by_cases hp : (((decide (f.vars < 0)) || (decide (65536 < f.vars))) || (decide (262144 < (f.clauses.length : Int)))) = true
  · rw [if_pos hp, validB_no f hp]
  · rw [if_neg hp, validB_pre f hp]
    have hp' := hp
    simp only [Bool.or_eq_true, decide_eq_true_eq, not_or] at hp'
    refine bind_any f.clauses (fun c => !clF f.vars 0 c) (Out.ret false) (Out.brk ()) ?_ ?_ ?_
    · intro k a hk
      simp only [m_cnf_Valid_lp1]
      rw [if_pos (ltB (len_lt hk)), idx_nat hk]
      simp only [bsm]
      rw [cnf_normal ⟨by omega, by omega⟩ (hl.2 a (mem_get hk)), inK_up (len_lt hk) hl.1]
      cases clF f.vars 0 a <;> rfl
    · simp only [m_cnf_Valid_lp1]
      rw [if_neg ltB']
    · rw [any_not_all]
      cases f.clauses.all (clF f.vars 0) <;> rfl
theorem ref_valid {f : Formula} (hl : FLen f.clauses) : m_assessorref26_Valid f = some (validB f) := by
  unfold m_assessorref26_Valid
  by_cases hp : (((decide (f.vars < 0)) || (decide (65536 < f.vars))) || (decide (262144 < (f.clauses.length : Int)))) = true
  · rw [if_pos hp, validB_no f hp]
  · rw [if_neg hp, validB_pre f hp]
    have hp' := hp
    simp only [Bool.or_eq_true, decide_eq_true_eq, not_or] at hp'
    refine bind_any f.clauses (fun c => !clF f.vars 0 c) (Out.ret false) (Out.brk ()) ?_ ?_ ?_
    · intro k a hk
      simp only [m_assessorref26_Valid_lp1]
      rw [if_pos (ltB (len_lt hk)), idx_nat hk]
      simp only [bsm]
      rw [ref_isClause ⟨by omega, by omega⟩ (hl.2 a (mem_get hk)), inK_up (len_lt hk) hl.1]
      cases clF f.vars 0 a <;> rfl
    · simp only [m_assessorref26_Valid_lp1]
      rw [if_neg ltB']
    · rw [any_not_all]
      cases f.clauses.all (clF f.vars 0) <;> rfl
theorem lists_equal (a b : List Int) (ha : a.length ≤ 9223372036854775807) : m_slices_Equal_int_int_ a b = some (decide (a = b)) := by
  unfold m_slices_Equal_int_int_
  by_cases hl : a.length = b.length
  · rw [if_neg (by simp [hl])]
    refine bind_same hl (Out.ret false) (Out.brk ()) ?_ ?_ ?_
    · intro k x y hx hy
      simp only [m_slices_Equal_int_int__lp1]
      rw [if_pos (ltB (len_lt hx)), idx_nat hx, idx_nat hy]
      simp only [bsm]
      rw [inK_up (len_lt hx) ha]
      by_cases h : x = y <;> simp [h]
    · simp only [m_slices_Equal_int_int__lp1]
      rw [if_neg ltB']
    · by_cases h : a = b <;> simp [h]
  · rw [if_pos (by simp; omega)]
    have : a ≠ b := fun e => hl (by rw [e])
    simp [this]
theorem clauses_equal (a b : List (List Int)) (ha : FLen a) : m_assessorref26_Clauses a b = some (decide (a = b)) := by
  unfold m_assessorref26_Clauses
  by_cases hl : a.length = b.length
  · rw [if_neg (by simp [hl])]
    refine bind_same hl (Out.ret false) (Out.brk ()) ?_ ?_ ?_
    · intro k x y hx hy
      simp only [m_assessorref26_Clauses_lp1]
      rw [if_pos (ltB (len_lt hx)), idx_nat hx, idx_nat hy]
      simp only [bsm]
      by_cases hxy : x.length = y.length
      · rw [if_neg (by simp [hxy])]
        have hxl := ha.2 x (mem_get hx)
        refine bind_same hxy (Out.ret false) (Out.brk ()) ?_ ?_ ?_
        · intro j u v hu hv
          simp only [m_assessorref26_Clauses_lp2]
          rw [idx_nat hx]
          simp only [bsm]
          rw [if_pos (ltB (len_lt hu)), idx_nat hu, idx_nat hy]
          simp only [bsm]
          rw [idx_nat hv]
          simp only [bsm]
          rw [inK_up (len_lt hu) hxl]
          by_cases h : u = v <;> simp [h]
        · simp only [m_assessorref26_Clauses_lp2]
          rw [idx_nat hx]
          simp only [bsm]
          rw [if_neg ltB']
        · by_cases h : x = y
          · simp [h, inK_up (len_lt hx) ha.1]
          · simp [h]
      · rw [if_pos (by simp; omega)]
        have : x ≠ y := fun e => hxy (by rw [e])
        simp [this]
    · simp only [m_assessorref26_Clauses_lp1]
      rw [if_neg ltB']
    · by_cases h : a = b <;> simp [h]
  · rw [if_pos (by simp; omega)]
    have : a ≠ b := fun e => hl (by rw [e])
    simp [this]
theorem Formula.ext_ {f g : Formula} (h1 : f.vars = g.vars) (h2 : f.clauses = g.clauses) : f = g := by
  obtain ⟨a, b⟩ := f; obtain ⟨c, d⟩ := g; simp at h1 h2; rw [h1, h2]
instance : DecidableEq Formula := fun f g => if h : f.vars = g.vars ∧ f.clauses = g.clauses then isTrue (Formula.ext_ h.1 h.2) else isFalse (fun e => h (by rw [e]; exact ⟨rfl, rfl⟩))
def smallB (f : Formula) (v n : Int) : Bool := f.clauses.all (fun c => decide (c.length ≤ 30)) && decide (f.vars ≤ v) && decide ((f.clauses.length : Int) ≤ n)
theorem small_eq (f : Formula) (v n : Int) (hl : f.clauses.length ≤ 9223372036854775807) : m_assessorref26_Small f v n = some (smallB f v n) := by
  unfold m_assessorref26_Small smallB
  refine bind_any f.clauses (fun c => !decide (c.length ≤ 30)) (Out.ret false) (Out.brk ()) ?_ ?_ ?_
  · intro k a hk
    simp only [m_assessorref26_Small_lp1]
    rw [if_pos (ltB (len_lt hk)), idx_nat hk]
    simp only [bsm]
    rw [inK_up (len_lt hk) hl]
    by_cases h : a.length ≤ 30
    · rw [if_neg (by simp; omega)]; simp [h]
    · rw [if_pos (by simp; omega)]; simp [h]
  · simp only [m_assessorref26_Small_lp1]
    rw [if_neg ltB']
  · rw [any_not_all]
    cases f.clauses.all (fun c => decide (c.length ≤ 30)) <;> rfl
theorem clF_mem {v : Int} : ∀ {t : Int} {c : List Int}, 0 ≤ t → clF v t c = true → ∀ l ∈ c, -v ≤ l ∧ l ≤ v ∧ t < vr l
  | _, [], _, _, l, h => by simp at h
  | t, x :: c, ht, h, l, hl => by
    unfold clF at h
    simp only [Bool.and_eq_true, decide_eq_true_eq] at h
    rcases List.mem_cons.1 hl with rfl | hl
    · exact ⟨h.1.1.1, h.1.1.2, h.1.2⟩
    · have := clF_mem (vr_nn x) h.2 l hl
      exact ⟨this.1, this.2.1, by omega⟩
theorem valid_bnd {f : Formula} (h : validB f = true) : 0 ≤ f.vars ∧ f.vars ≤ 65536 ∧ f.clauses.length ≤ 262144 ∧ ∀ c ∈ f.clauses, clF f.vars 0 c = true := by
  unfold validB at h
  simp only [Bool.and_eq_true, decide_eq_true_eq, List.all_eq_true] at h
  exact ⟨h.1.1.1, h.1.1.2, h.1.2, h.2⟩
theorem valid_lit {f : Formula} (h : validB f = true) {c : List Int} (hc : c ∈ f.clauses) {l : Int} (hl : l ∈ c) : -f.vars ≤ l ∧ l ≤ f.vars ∧ 0 < vr l ∧ vr l ≤ f.vars := by
  have := clF_mem (Int.le_refl 0) ((valid_bnd h).2.2.2 c hc) l hl
  exact ⟨this.1, this.2.1, this.2.2, vr_le.2 ⟨this.1, this.2.1⟩⟩
end Go.Proofs.YtfajmelamonolaaDoor

/- Unit propagation: what follows, and what the reference's Closure and Propagate compute. -/
set_option linter.unusedVariables false
set_option linter.unusedSimpArgs false
namespace Go.Proofs.YtfajmelamonolaaDoor
open Go.RowKit
inductive UP (F : List (List Int)) (S : List Int) : Int → Prop
  | start {l : Int} : l ∈ S → UP F S l
  | unit {c : List Int} {x : Int} : c ∈ F → x ∈ c → (∀ y ∈ c, y ≠ x → UP F S (-y)) → UP F S x
def Fails (F : List (List Int)) (S : List Int) : Prop := (∃ l, UP F S l ∧ UP F S (-l)) ∨ ∃ c ∈ F, ∀ y ∈ c, UP F S (-y)
structure Lits (n : Int) (F : List (List Int)) (S : List Int) : Prop where
  nn : 0 ≤ n ∧ n ≤ 65536
  cl : ∀ c ∈ F, ∀ y ∈ c, y ≠ 0 ∧ vr y ≤ n
  st : ∀ y ∈ S, y ≠ 0 ∧ vr y ≤ n
  nd : ∀ c ∈ F, c.Nodup
theorem UP.lit {n : Int} {F : List (List Int)} {S : List Int} (h : Lits n F S) {l : Int} (hl : UP F S l) : l ≠ 0 ∧ vr l ≤ n := by
  cases hl with
  | start hs => exact h.st _ hs
  | unit hc hx _ => exact h.cl _ hc _ hx
def gv (val : List Int) (l : Int) : Option Int := val[(vr l).toNat]?
theorem gv_neg (val : List Int) (l : Int) : gv val (-l) = gv val l := by unfold gv; rw [vr_neg]
structure ValOk (n : Int) (F : List (List Int)) (S : List Int) (val : List Int) : Prop where
  len : (val.length : Int) = n + 1
  own : ∀ (v : Nat) x, val[v]? = some x → x = 0 ∨ (x ≠ 0 ∧ vr x = v)
  sound : ∀ (v : Nat) x, val[v]? = some x → x ≠ 0 → UP F S x
theorem ValOk.get {n : Int} {F : List (List Int)} {S : List Int} {val : List Int} (h : ValOk n F S val) {l : Int} (hl : vr l ≤ n) : ∃ x, gv val l = some x ∧ idx val (vr l) = some x ∧ (x = 0 ∨ x = l ∨ x = -l) := by
  have h0 := vr_nn l
  obtain ⟨x, hx⟩ := get_of_lt (show (vr l).toNat < val.length by have := h.len; omega)
  refine ⟨x, hx, idx_of h0 hx, ?_⟩
  rcases h.own _ x hx with h1 | ⟨_, h1⟩
  · exact Or.inl h1
  · exact Or.inr (vr_eq.1 (by omega))
theorem ValOk.up {n : Int} {F : List (List Int)} {S : List Int} {val : List Int} (h : ValOk n F S val) {l : Int} (h0 : l ≠ 0) (hl : gv val l = some l) : UP F S l := h.sound _ l hl h0
theorem ValOk.set {n : Int} {F : List (List Int)} {S : List Int} {val : List Int} (h : ValOk n F S val) {l : Int} (h0 : l ≠ 0) (hl : vr l ≤ n) (hu : UP F S l) : ValOk n F S (val.set (vr l).toNat l) := by
  have hv := vr_nn l
  refine ⟨by rw [List.length_set]; exact h.len, fun v x hx => ?_, fun v x hx hx0 => ?_⟩
  · rw [List.getElem?_set] at hx
    split at hx
    · rename_i e
      split at hx
      · obtain rfl := Option.some.inj hx
        exact Or.inr ⟨h0, by omega⟩
      · cases hx
    · exact h.own v x hx
  · rw [List.getElem?_set] at hx
    split at hx
    · split at hx
      · obtain rfl := Option.some.inj hx; exact hu
      · cases hx
    · exact h.sound v x hx hx0
theorem gv_set {n : Int} {val : List Int} {l m : Int} (hlen : (val.length : Int) = n + 1) (hl : vr l ≤ n) : gv (val.set (vr l).toNat l) m = if vr m = vr l then some l else gv val m := by
  unfold gv
  have h1 := vr_nn l
  have h2 := vr_nn m
  rw [List.getElem?_set]
  by_cases e : vr m = vr l
  · rw [if_pos (by omega), if_pos (by omega), if_pos e]
  · rw [if_neg (by omega), if_neg e]
def Good (val c : List Int) : Prop := (∃ y ∈ c, gv val y = some y) ∨ ∃ y ∈ c, ∃ z ∈ c, y ≠ z ∧ gv val y = some 0 ∧ gv val z = some 0
theorem closed_up {n : Int} {F : List (List Int)} {S : List Int} {val : List Int} (hL : Lits n F S) (h : ValOk n F S val) (hs : ∀ l ∈ S, gv val l = some l) (hg : ∀ c ∈ F, Good val c) : ∀ {l}, UP F S l → gv val l = some l := by
  intro l hl
  induction hl with
  | start hm => exact hs _ hm
  | @unit c x hc hx hy ih =>
    rcases hg c hc with ⟨y, hyc, h1⟩ | ⟨y, hyc, z, hzc, hyz, h1, h2⟩
    · by_cases e : y = x
      · rw [← e]; exact h1
      · have := ih y hyc e
        rw [gv_neg, h1] at this
        have := Option.some.inj this
        exact absurd (show y = 0 by omega) (hL.cl c hc y hyc).1
    · by_cases e : y = x
      · have := ih z hzc (by rw [← e]; exact fun e' => hyz e'.symm)
        rw [gv_neg, h2] at this
        have := Option.some.inj this
        exact absurd (show z = 0 by omega) (hL.cl c hc z hzc).1
      · have := ih y hyc e
        rw [gv_neg, h1] at this
        have := Option.some.inj this
        exact absurd (show y = 0 by omega) (hL.cl c hc y hyc).1
theorem closed_ok {n : Int} {F : List (List Int)} {S : List Int} {val : List Int} (hL : Lits n F S) (h : ValOk n F S val) (hs : ∀ l ∈ S, gv val l = some l) (hg : ∀ c ∈ F, Good val c) : ¬ Fails F S := by
  rintro (⟨l, h1, h2⟩ | ⟨c, hc, hy⟩)
  · have e1 := closed_up hL h hs hg h1
    have e2 := closed_up hL h hs hg h2
    rw [gv_neg, e1] at e2
    have := Option.some.inj e2
    exact (h1.lit hL).1 (by omega)
  · rcases hg c hc with ⟨y, hyc, h1⟩ | ⟨y, hyc, z, hzc, hyz, h1, h2⟩
    · have := closed_up hL h hs hg (hy y hyc)
      rw [gv_neg, h1] at this
      have := Option.some.inj this
      exact (hL.cl c hc y hyc).1 (by omega)
    · have := closed_up hL h hs hg (hy y hyc)
      rw [gv_neg, h1] at this
      have := Option.some.inj this
      exact (hL.cl c hc y hyc).1 (by omega)
def sOk (v x : Int) : Bool := decide (x ≠ 0) && decide (-v ≤ x) && decide (x ≤ v)
def PropOk (f : Formula) (S : List Int) (r : List Int × Bool × Int) : Prop :=
  if validB f = true ∧ ∀ x ∈ S, sOk f.vars x = true then
    r.2.2 = 0 ∧ ((r.2.1 = true ∧ ¬ Fails f.clauses S ∧ (r.1.Pairwise fun x y => vr x < vr y) ∧ ∀ x, x ∈ r.1 ↔ UP f.clauses S x) ∨ (r.2.1 = false ∧ r.1 = [] ∧ Fails f.clauses S))
  else r = ([], false, 1)
theorem PropOk.eq {f : Formula} {S : List Int} {r q : List Int × Bool × Int} (h1 : PropOk f S r) (h2 : PropOk f S q) : r = q := by
  unfold PropOk at *
  split at h1
  · rename_i hv
    rw [if_pos hv] at h2
    obtain ⟨r1, r2, r3⟩ := r
    obtain ⟨q1, q2, q3⟩ := q
    obtain ⟨e1, h1⟩ := h1
    obtain ⟨e2, h2⟩ := h2
    simp only at e1 e2 h1 h2
    subst e1 e2
    rcases h1 with ⟨rfl, a1, a2, a3⟩ | ⟨rfl, rfl, a1⟩ <;> rcases h2 with ⟨rfl, b1, b2, b3⟩ | ⟨rfl, rfl, b1⟩
    · rw [rising_ext (r := fun x y => vr x < vr y) (fun a => by omega) (fun a b c h1 h2 => by omega) a2 b2 (fun x => by rw [a3, b3])]
    · exact absurd b1 a1
    · exact absurd a1 b1
    · rfl
  · rename_i hv
    rw [if_neg hv] at h2
    rw [h1, h2]
def stScan (val : List Int) (y : Int) (t : Int × Int × Bool) : Step (Int × Int × Bool) (Int × Int × Bool) :=
  match gv val y with
  | some x => if x = 0 then .next (t.1 + 1, y, t.2.2) else if x = y then .next (t.1, t.2.1, true) else .next t
  | none => .next t
def scanR (val c : List Int) (t : Int × Int × Bool) : Int × Int × Bool := runL (stScan val) (fun t => t) c t
theorem scanR_cons (val : List Int) (y : Int) (c : List Int) (t : Int × Int × Bool) : scanR val (y :: c) t = (match gv val y with
  | some x => if x = 0 then scanR val c (t.1 + 1, y, t.2.2) else if x = y then scanR val c (t.1, t.2.1, true) else scanR val c t
  | none => scanR val c t) := by
  cases hg : gv val y with
  | none => simp only [scanR, runL, stScan, hg]
  | some x =>
    by_cases h0 : x = 0
    · simp only [scanR, runL, stScan, hg, h0, if_true]
    · by_cases h1 : x = y
      · simp only [scanR, runL, stScan, hg, h0, if_false, h1, if_true]
        rw [← h1]; simp only [h0, if_false]
      · simp only [scanR, runL, stScan, hg, h0, if_false, h1]
theorem scan_facts (val : List Int) : ∀ (c : List Int) (t : Int × Int × Bool), c.Nodup → (∀ y ∈ c, y ≠ 0) →
    t.1 ≤ (scanR val c t).1 ∧ ((scanR val c t).2.2 = true ↔ t.2.2 = true ∨ ∃ y ∈ c, gv val y = some y) ∧
    ((scanR val c t).1 = t.1 → (∀ y ∈ c, gv val y ≠ some 0) ∧ (scanR val c t).2.1 = t.2.1) ∧
    ((scanR val c t).1 = t.1 + 1 → ∃ y ∈ c, gv val y = some 0 ∧ (scanR val c t).2.1 = y ∧ ∀ z ∈ c, gv val z = some 0 → z = y) ∧
    (t.1 + 2 ≤ (scanR val c t).1 → ∃ y ∈ c, ∃ z ∈ c, y ≠ z ∧ gv val y = some 0 ∧ gv val z = some 0)
  | [], t, _, _ => by
    show t.1 ≤ t.1 ∧ (t.2.2 = true ↔ _) ∧ (t.1 = t.1 → _) ∧ (t.1 = t.1 + 1 → _) ∧ (t.1 + 2 ≤ t.1 → _)
    refine ⟨Int.le_refl _, by simp, fun _ => ⟨by simp, rfl⟩, fun h => ?_, fun h => ?_⟩ <;> omega
  | y :: c, t, hn, h0 => by
    have hn' := List.nodup_cons.1 hn
    have h0' : ∀ z ∈ c, z ≠ 0 := fun z hz => h0 z (List.mem_cons_of_mem _ hz)
    have hy0 := h0 y (List.mem_cons_self ..)
    rw [scanR_cons]
    have skip : gv val y ≠ some 0 → gv val y ≠ some y → _ := fun e1 e2 => (scan_facts val c t hn'.2 h0')
    cases hg : gv val y with
    | none =>
      simp only
      obtain ⟨a1, a2, a3, a4, a5⟩ := scan_facts val c t hn'.2 h0'
      refine ⟨a1, ?_, fun h => ?_, fun h => ?_, fun h => ?_⟩
      · rw [a2]; simp [hg]
      · obtain ⟨b1, b2⟩ := a3 h
        exact ⟨fun z hz => by rcases List.mem_cons.1 hz with rfl | hz; rw [hg]; simp; exact b1 z hz, b2⟩
      · obtain ⟨z, hz, b1, b2, b3⟩ := a4 h
        exact ⟨z, List.mem_cons_of_mem _ hz, b1, b2, fun w hw hw0 => by rcases List.mem_cons.1 hw with rfl | hw; rw [hg] at hw0; cases hw0; exact b3 w hw hw0⟩
      · obtain ⟨z, hz, w, hw, b⟩ := a5 h
        exact ⟨z, List.mem_cons_of_mem _ hz, w, List.mem_cons_of_mem _ hw, b⟩
    | some x =>
      simp only
      by_cases hx0 : x = 0
      · rw [if_pos hx0]
        subst hx0
        obtain ⟨a1, a2, a3, a4, a5⟩ := scan_facts val c (t.1 + 1, y, t.2.2) hn'.2 h0'
        simp only at a1 a2 a3 a4 a5
        refine ⟨by omega, ?_, fun h => by omega, fun h => ?_, fun h => ?_⟩
        · rw [a2]
          constructor
          · rintro (h | ⟨z, hz, h⟩)
            · exact Or.inl h
            · exact Or.inr ⟨z, List.mem_cons_of_mem _ hz, h⟩
          · rintro (h | ⟨z, hz, h⟩)
            · exact Or.inl h
            · rcases List.mem_cons.1 hz with rfl | hz
              · rw [hg] at h; exact absurd (Option.some.inj h).symm hy0
              · exact Or.inr ⟨z, hz, h⟩
        · obtain ⟨b1, b2⟩ := a3 (by omega)
          exact ⟨y, List.mem_cons_self .., hg, b2, fun z hz hz0 => by
            rcases List.mem_cons.1 hz with e | hz
            · exact e
            · exact absurd hz0 (b1 z hz)⟩
        · by_cases hh : (scanR val c (t.1 + 1, y, t.2.2)).1 = t.1 + 1 + 1
          · obtain ⟨z, hz, b1, _⟩ := a4 hh
            exact ⟨y, List.mem_cons_self .., z, List.mem_cons_of_mem _ hz, fun e => hn'.1 (e ▸ hz), hg, b1⟩
          · obtain ⟨z, hz, w, hw, b⟩ := a5 (by omega)
            exact ⟨z, List.mem_cons_of_mem _ hz, w, List.mem_cons_of_mem _ hw, b⟩
      · rw [if_neg hx0]
        have hne : gv val y ≠ some 0 := by rw [hg]; intro e; exact hx0 (Option.some.inj e)
        by_cases hxy : x = y
        · rw [if_pos hxy]
          subst hxy
          obtain ⟨a1, a2, a3, a4, a5⟩ := scan_facts val c (t.1, t.2.1, true) hn'.2 h0'
          simp only at a1 a2 a3 a4 a5
          refine ⟨a1, ?_, fun h => ?_, fun h => ?_, fun h => ?_⟩
          · rw [a2]; simp [hg]
          · obtain ⟨b1, b2⟩ := a3 h
            exact ⟨fun z hz => by rcases List.mem_cons.1 hz with rfl | hz; exact hne; exact b1 z hz, b2⟩
          · obtain ⟨z, hz, b1, b2, b3⟩ := a4 h
            exact ⟨z, List.mem_cons_of_mem _ hz, b1, b2, fun w hw hw0 => by rcases List.mem_cons.1 hw with rfl | hw; exact absurd hw0 hne; exact b3 w hw hw0⟩
          · obtain ⟨z, hz, w, hw, b⟩ := a5 h
            exact ⟨z, List.mem_cons_of_mem _ hz, w, List.mem_cons_of_mem _ hw, b⟩
        · rw [if_neg hxy]
          obtain ⟨a1, a2, a3, a4, a5⟩ := scan_facts val c t hn'.2 h0'
          refine ⟨a1, ?_, fun h => ?_, fun h => ?_, fun h => ?_⟩
          · rw [a2]; simp [hg, hxy]
          · obtain ⟨b1, b2⟩ := a3 h
            exact ⟨fun z hz => by rcases List.mem_cons.1 hz with rfl | hz; exact hne; exact b1 z hz, b2⟩
          · obtain ⟨z, hz, b1, b2, b3⟩ := a4 h
            exact ⟨z, List.mem_cons_of_mem _ hz, b1, b2, fun w hw hw0 => by rcases List.mem_cons.1 hw with rfl | hw; exact absurd hw0 hne; exact b3 w hw hw0⟩
          · obtain ⟨z, hz, w, hw, b⟩ := a5 h
            exact ⟨z, List.mem_cons_of_mem _ hz, w, List.mem_cons_of_mem _ hw, b⟩
theorem closure_scan {n : Int} {F : List (List Int)} {S : List Int} {val c : List Int} (hL : Lits n F S) (h : ValOk n F S val) (hc : c ∈ F) (hl : c.length ≤ 4294967296) :
    loopM (fun s : Int × Int × Bool × Int => m_assessorref26_Closure_lp4 val c s.1 s.2.1 s.2.2.1 s.2.2.2) (0, 0, false, 0) = some (scanR val c (0, 0, false)) := by
  refine loopL (body := fun s : Int × Int × Bool × Int => m_assessorref26_Closure_lp4 val c s.1 s.2.1 s.2.2.1 s.2.2.2) c (fun k t => (t.1, t.2.1, t.2.2, (k : Int))) (stScan val) (fun t => t) (fun k t => 0 ≤ t.1 ∧ t.1 ≤ k) (t0 := (0, 0, false)) rfl (by simp) ?_ ?_
  · rintro k y ⟨o, la, t1⟩ hk ⟨ho1, ho2⟩
    simp only at ho1 ho2
    have hkl := len_lt hk
    obtain ⟨hy0, hyn⟩ := hL.cl c hc y (mem_get hk)
    have hn := hL.nn
    obtain ⟨x, hx1, hx2, hx3⟩ := h.get hyn
    have hy := vr_le.1 hyn
    have e1 : inK .i64 (o + 1) = some (o + 1) := inK_eq ⟨by omega, by omega⟩
    constructor
    · simp only [m_assessorref26_Closure_lp4, ltB hkl, if_true, idx_nat hk, bsm, rvar_ok (show -9223372036854775807 ≤ y ∧ y ≤ 9223372036854775807 by omega), hx2, e1, inK_up hkl (show c.length ≤ 9223372036854775807 by omega), stScan, hx1]
      by_cases h0 : x = 0
      · simp [h0]
      · by_cases h1 : x = y <;> simp [h0, h1, hy0]
    · intro t' ht'
      unfold stScan at ht'
      rw [hx1] at ht'
      simp only at ht'
      split at ht'
      · obtain rfl := Step.next.inj ht'; simp only; omega
      · split at ht' <;> (obtain rfl := Step.next.inj ht'; simp only; omega)
  · rintro ⟨o, la, t1⟩ _
    simp only [m_assessorref26_Closure_lp4, ltB', if_false, Bool.false_eq_true]
def zeros (val : List Int) : Nat := (val.filter fun x => decide (x = 0)).length
theorem zeros_set {x : Int} (hx : x ≠ 0) : ∀ {val : List Int} {i : Nat}, val[i]? = some 0 → zeros (val.set i x) + 1 = zeros val
  | [], i, h => by simp at h
  | y :: val, 0, h => by
    simp at h; subst h
    simp [zeros, hx]
  | y :: val, i + 1, h => by
    rw [List.getElem?_cons_succ] at h
    have := zeros_set hx h
    unfold zeros at *
    rw [List.set_cons_succ, List.filter_cons, List.filter_cons]
    split
    · simp only [List.length_cons]; omega
    · exact this
theorem ValOk.excl {n : Int} {F : List (List Int)} {S : List Int} {val : List Int} (h : ValOk n F S val) {y : Int} (hy : vr y ≤ n) (h0 : gv val y ≠ some 0) (h1 : gv val y ≠ some y) : UP F S (-y) := by
  obtain ⟨x, e, _, hx⟩ := h.get hy
  have hx0 : x ≠ 0 := fun e0 => h0 (e0 ▸ e)
  rcases hx with hx | hx | hx
  · exact absurd hx hx0
  · exact absurd (hx ▸ e) h1
  · exact hx ▸ h.sound _ x e hx0
theorem gv_mono {n : Int} {val : List Int} {y l : Int} (hlen : (val.length : Int) = n + 1) (hy : vr y ≤ n) (h0 : gv val y = some 0) (hl0 : l ≠ 0) (hl : gv val l = some l) : gv (val.set (vr y).toNat y) l = some l := by
  rw [gv_set hlen hy]
  by_cases e : vr l = vr y
  · unfold gv at h0 hl
    rw [e, h0] at hl
    exact absurd (Option.some.inj hl).symm hl0
  · rw [if_neg e]; exact hl
theorem closure_round {f : Formula} {S : List Int} {val : List Int} (hL : Lits f.vars f.clauses S) (hv : ValOk f.vars f.clauses S val) (hlen : f.clauses.length ≤ 4294967296) (hl : ∀ c ∈ f.clauses, c.length ≤ 4294967296) :
    ∃ b, loopM (fun s : Bool × Int × List Int => m_assessorref26_Closure_lp3 f s.1 s.2.1 s.2.2) (false, 0, val) = some b ∧ (match b with
      | .ret r => r.2 = false ∧ Fails f.clauses S
      | .brk t => ValOk f.vars f.clauses S t.2 ∧ (∀ l, l ≠ 0 → gv val l = some l → gv t.2 l = some l) ∧ (t.1 = false → t.2 = val ∧ ∀ c ∈ f.clauses, Good val c) ∧ (t.1 = true → zeros t.2 < zeros val)) := by
  refine loopN (body := fun s : Bool × Int × List Int => m_assessorref26_Closure_lp3 f s.1 s.2.1 s.2.2) f.clauses.length (fun k t => (t.1, (k : Int), t.2))
    (fun k t => ValOk f.vars f.clauses S t.2 ∧ (∀ l, l ≠ 0 → gv val l = some l → gv t.2 l = some l) ∧ (t.1 = false → t.2 = val ∧ ∀ j c, j < k → f.clauses[j]? = some c → Good val c) ∧ (t.1 = true → zeros t.2 < zeros val))
    _ (t0 := (false, val)) rfl ⟨hv, fun _ _ h => h, fun _ => ⟨rfl, fun j c hj => by omega⟩, fun h => by cases h⟩ ?_ ?_
  · rintro k ⟨more, v⟩ hk ⟨i1, i2, i3, i4⟩
    simp only at i1 i2 i3 i4
    obtain ⟨c, hc⟩ := get_of_lt hk
    have hcm := mem_get hc
    have hcl := hl c hcm
    have hn := hL.nn
    have hz : zeros v ≤ zeros val := by
      cases more with
      | false => rw [(i3 rfl).1]; exact Nat.le_refl _
      | true => exact Nat.le_of_lt (i4 rfl)
    obtain ⟨a1, a2, a3, a4, a5⟩ := scan_facts v c (0, 0, false) (hL.nd c hcm) (fun y hy => (hL.cl c hcm y hy).1)
    simp only at a1 a2 a3 a4 a5
    have step : ∀ q, q = scanR v c (0, 0, false) → m_assessorref26_Closure_lp3 f more (k : Int) v = (((if (q.2.2 || (decide (1 < q.1))) = true then some (.brk (more, v)) else if (decide (q.1 = 0)) = true then some (.ret (v, false)) else
        (m_assessorref26_Variable q.2.1).bind fun x23 => (idx v x23).bind fun x24 => some (.brk (true, v.set x23.toNat q.2.1))) : Option (Out (Bool × List Int) (List Int × Bool))).bind fun j1 => match j1 with
        | .brk j1s => some (.next (j1s.1, ((k + 1 : Nat) : Int), j1s.2))
        | .ret r => some (.done (.ret r))) := by
      intro q hq
      simp only [m_assessorref26_Closure_lp3, ltB hk, if_true, idx_nat hc, bsm, closure_scan hL i1 hcm hcl, ← hq, inK_up hk (show f.clauses.length ≤ 9223372036854775807 by omega)]
      congr 1
    obtain ⟨q, hq⟩ : ∃ q, q = scanR v c (0, 0, false) := ⟨_, rfl⟩
    rw [← hq] at a1 a2 a3 a4 a5
    have step := step q hq
    by_cases h1 : (q.2.2 || (decide (1 < q.1))) = true
    · rw [if_pos h1, bsm] at step
      refine Or.inl ⟨(more, v), step, i1, i2, fun hm => ⟨(i3 hm).1, fun j d hj hd => ?_⟩, i4⟩
      by_cases e : j = k
      · subst e
        rw [hc] at hd
        obtain rfl := Option.some.inj hd
        have hvv := (i3 hm).1
        subst hvv
        simp only [Bool.or_eq_true, decide_eq_true_eq] at h1
        rcases h1 with h1 | h1
        · rcases a2.1 h1 with h | ⟨y, hy, h⟩
          · cases h
          · exact Or.inl ⟨y, hy, h⟩
        · exact Or.inr (a5 (by omega))
      · exact (i3 hm).2 j d (by omega) hd
    · rw [if_neg h1] at step
      simp only [Bool.or_eq_true, decide_eq_true_eq, not_or] at h1
      have hno : ∀ y ∈ c, gv v y ≠ some y := fun y hy e => h1.1 (a2.2 (Or.inr ⟨y, hy, e⟩))
      by_cases h2 : q.1 = 0
      · rw [if_pos (by simpa using h2), bsm] at step
        refine Or.inr ⟨_, step, rfl, Or.inr ⟨c, hcm, fun y hy => ?_⟩⟩
        exact i1.excl (hL.cl c hcm y hy).2 ((a3 h2).1 y hy) (hno y hy)
      · rw [if_neg (by simpa using h2)] at step
        obtain ⟨y, hy, hy0, hy1, hy2⟩ := a4 (by omega)
        obtain ⟨hyn0, hyn⟩ := hL.cl c hcm y hy
        have hyb := vr_le.1 hyn
        obtain ⟨x, hx1, hx2, _⟩ := i1.get hyn
        rw [hy1, rvar_ok (show -9223372036854775807 ≤ y ∧ y ≤ 9223372036854775807 by omega), bsm, hx2, bsm, bsm] at step
        have hu : UP f.clauses S y := UP.unit hcm hy fun z hz hzy => i1.excl (hL.cl c hcm z hz).2 (fun e => hzy (hy2 z hz e)) (hno z hz)
        refine Or.inl ⟨(true, v.set (vr y).toNat y), step, i1.set hyn0 hyn hu, fun l hl0 hl => ?_, fun h => (by cases h), fun _ => ?_⟩
        · exact gv_mono i1.len hyn hy0 hl0 (i2 l hl0 hl)
        · have := zeros_set hyn0 (val := v) (i := (vr y).toNat) hy0
          show zeros (v.set (vr y).toNat y) < _
          omega
  · rintro ⟨more, v⟩ ⟨i1, i2, i3, i4⟩
    refine ⟨.brk (more, v), ?_, i1, i2, fun h => ⟨(i3 h).1, fun c hc => ?_⟩, i4⟩
    · simp only [m_assessorref26_Closure_lp3, ltB', if_false, Bool.false_eq_true]
    · obtain ⟨j, hj⟩ := List.getElem?_of_mem hc
      exact (i3 h).2 j c (len_lt hj) hj
theorem closure_while {f : Formula} {S : List Int} {val : List Int} (hL : Lits f.vars f.clauses S) (hv : ValOk f.vars f.clauses S val) (hs : ∀ l ∈ S, gv val l = some l) (hlen : f.clauses.length ≤ 4294967296) (hl : ∀ c ∈ f.clauses, c.length ≤ 4294967296) :
    ∃ b, loopM (fun s : Bool × List Int => m_assessorref26_Closure_lp2 f s.1 s.2) (true, val) = some b ∧ (match b with
      | .ret r => r.2 = false ∧ Fails f.clauses S
      | .brk v => ValOk f.vars f.clauses S v ∧ (∀ l ∈ S, gv v l = some l) ∧ ∀ c ∈ f.clauses, Good v c) := by
  refine loopM_inv (body := fun s : Bool × List Int => m_assessorref26_Closure_lp2 f s.1 s.2) (fun t => ValOk f.vars f.clauses S t.2 ∧ (∀ l ∈ S, gv t.2 l = some l) ∧ (t.1 = false → ∀ c ∈ f.clauses, Good t.2 c)) (fun t => 2 * zeros t.2 + (if t.1 = true then 1 else 0)) _ ?_ (true, val) ⟨hv, hs, fun h => by cases h⟩
  rintro ⟨more, v⟩ ⟨i1, i2, i3⟩
  simp only at i1 i2 i3
  cases more with
  | false =>
    exact Or.inr ⟨.brk v, by simp only [m_assessorref26_Closure_lp2, if_false, Bool.false_eq_true], i1, i2, i3 rfl⟩
  | true =>
    obtain ⟨b, hb, hp⟩ := closure_round hL i1 hlen hl
    cases b with
    | ret r => exact Or.inr ⟨.ret r, by simp only [m_assessorref26_Closure_lp2, if_true, hb, bsm], hp⟩
    | brk t =>
      obtain ⟨p1, p2, p3, p4⟩ := hp
      refine Or.inl ⟨(t.1, t.2), by simp only [m_assessorref26_Closure_lp2, if_true, hb, bsm], ⟨p1, fun l hl => p2 l (hL.st l hl).1 (i2 l hl), fun h => ?_⟩, ?_⟩
      · have := p3 h
        intro c hc
        show Good t.2 c
        rw [this.1]; exact this.2 c hc
      · cases h : t.1 with
        | true => have := p4 h; simp only [if_true]; omega
        | false => have := (p3 h).1; simp only [this, if_true, Bool.false_eq_true, if_false]; omega
theorem closure_start {f : Formula} {S : List Int} (hL : Lits f.vars f.clauses S) {val : List Int} (hv : ValOk f.vars f.clauses S val) (hS : S.length ≤ 4294967296) :
    ∃ b, loopM (fun s : Int × List Int => m_assessorref26_Closure_lp1 S s.1 s.2) (0, val) = some b ∧ (match b with
      | .ret r => r.2 = false ∧ Fails f.clauses S
      | .brk v => ValOk f.vars f.clauses S v ∧ ∀ l ∈ S, gv v l = some l) := by
  refine loopN (body := fun s : Int × List Int => m_assessorref26_Closure_lp1 S s.1 s.2) S.length (fun k t => ((k : Int), t)) (fun k v => ValOk f.vars f.clauses S v ∧ ∀ j l, j < k → S[j]? = some l → gv v l = some l) _ (t0 := val) rfl ⟨hv, fun j l hj => by omega⟩ ?_ ?_
  · rintro k v hk ⟨i1, i2⟩
    obtain ⟨x, hx⟩ := get_of_lt hk
    obtain ⟨hx0, hxn⟩ := hL.st x (mem_get hx)
    have hn := hL.nn
    have hxb := vr_le.1 hxn
    obtain ⟨y, hy1, hy2, hy3⟩ := i1.get hxn
    have e1 : inK .i64 (0 - x) = some (-x) := by rw [inK_eq ⟨by omega, by omega⟩]; congr 1; omega
    have step : m_assessorref26_Closure_lp1 S (k : Int) v = if y = -x then some (.done (.ret (v, false))) else some (.next (((k + 1 : Nat) : Int), v.set (vr x).toNat x)) := by
      simp only [m_assessorref26_Closure_lp1, ltB hk, if_true, idx_nat hx, bsm, rvar_ok (show -9223372036854775807 ≤ x ∧ x ≤ 9223372036854775807 by omega), hy2, e1, inK_up hk (show S.length ≤ 9223372036854775807 by omega)]
      by_cases h : y = -x <;> simp [h]
    by_cases h : y = -x
    · rw [if_pos h] at step
      refine Or.inr ⟨_, step, rfl, Or.inl ⟨x, UP.start (mem_get hx), ?_⟩⟩
      exact h ▸ i1.sound _ y hy1 (by omega)
    · rw [if_neg h] at step
      refine Or.inl ⟨v.set (vr x).toNat x, step, i1.set hx0 hxn (UP.start (mem_get hx)), fun j l hj hl => ?_⟩
      rw [gv_set i1.len hxn]
      by_cases e : vr l = vr x
      · rw [if_pos e]
        by_cases ej : j = k
        · subst ej; rw [hx] at hl; exact hl
        · have h1 := i2 j l (by omega) hl
          unfold gv at h1 hy1
          rw [e, hy1] at h1
          have h2 := Option.some.inj h1
          have h3 := (hL.st l (mem_get hl)).1
          rcases vr_eq.1 e with h4 | h4
          · rw [h4]
          · omega
      · rw [if_neg e]
        by_cases ej : j = k
        · subst ej; rw [hx] at hl; obtain rfl := Option.some.inj hl; exact absurd rfl e
        · exact i2 j l (by omega) hl
  · rintro v ⟨i1, i2⟩
    refine ⟨.brk v, ?_, i1, fun l hl => ?_⟩
    · simp only [m_assessorref26_Closure_lp1, ltB', if_false, Bool.false_eq_true]
    · obtain ⟨j, hj⟩ := List.getElem?_of_mem hl
      exact i2 j l (len_lt hj) hj
theorem valOk_init {f : Formula} {S : List Int} (hL : Lits f.vars f.clauses S) : ValOk f.vars f.clauses S (List.replicate (f.vars + 1).toNat 0) := by
  have hn := hL.nn
  refine ⟨by rw [List.length_replicate]; omega, fun v x hx => ?_, fun v x hx h0 => ?_⟩
  · have := List.mem_of_getElem? hx
    exact Or.inl (List.eq_of_mem_replicate this)
  · have := List.mem_of_getElem? hx
    exact absurd (List.eq_of_mem_replicate this) h0
theorem ref_closure {f : Formula} {S : List Int} (hL : Lits f.vars f.clauses S) (hS : S.length ≤ 4294967296) (hlen : f.clauses.length ≤ 4294967296) (hl : ∀ c ∈ f.clauses, c.length ≤ 4294967296) :
    ∃ r, m_assessorref26_Closure f S = some r ∧ ((r.2 = true ∧ ValOk f.vars f.clauses S r.1 ∧ (∀ l ∈ S, gv r.1 l = some l) ∧ ∀ c ∈ f.clauses, Good r.1 c) ∨ (r.2 = false ∧ Fails f.clauses S)) := by
  have hn := hL.nn
  unfold m_assessorref26_Closure
  rw [inK_eq ⟨by omega, by omega⟩, bsm, mkc_ok ⟨by omega, by omega, by omega⟩, bsm]
  obtain ⟨b, hb, hp⟩ := closure_start hL (valOk_init hL) hS
  rw [hb, bsm]
  cases b with
  | ret r => exact ⟨r, rfl, Or.inr hp⟩
  | brk v =>
    obtain ⟨b, hb2, hp2⟩ := closure_while hL hp.1 hp.2 hlen hl
    simp only
    rw [hb2, bsm]
    cases b with
    | ret r => exact ⟨r, rfl, Or.inr hp2⟩
    | brk w => exact ⟨(w, true), rfl, Or.inl ⟨rfl, hp2⟩⟩
end Go.Proofs.YtfajmelamonolaaDoor

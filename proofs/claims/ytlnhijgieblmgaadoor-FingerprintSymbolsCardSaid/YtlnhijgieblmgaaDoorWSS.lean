/-
  The code goes as its model: assessor/assessorlaw43.FingerprintSymbols. (Printed by wip/sp/gen.py.)
-/
import Derived.Test.YtlnhijgieblmgaaDoorWSM
import Derived.Test.YtlnhijgieblmgaaDoorFct
import Derived.Test.YtlnhijgieblmgaaDoorWS
set_option linter.unusedVariables false
set_option linter.unusedSimpArgs false
namespace Go.Proofs.YtlnhijgieblmgaaDoor
open Go.RowKit

/- assessor/assessorlaw43.FingerprintSymbols -/
set_option maxRecDepth 100000 in
set_option maxHeartbeats 4000000 in
theorem c_assessorlaw43_FingerprintSymbols {Z : World} {ρ : PH} {L : List Atom} {w : World} (hT : Tabs ρ) (p0 : Node) (vp0_kids : Value) (hp0_kids : RoSl ρ vp0_kids p0.kids) (p1 : (List Int)) (vp1 : Value) (hp1 : RoSl ρ vp1 p1) (p2 : Int) (p3 : Int) (hp : Hp Z ρ (L) w) (r : Bool) (hm : m_assessorlaw43_FingerprintSymbols p0 p1 p2 p3 = some r) :
    Calls Tryd.prog 3 #[(.agg #[(.int .i64 p0.kind), (.string p0.text), (.int .i64 p0.at_), (.int .i64 p0.fin), vp0_kids]), vp1, (.int .i64 p2), (.int .i64 p3)] w (Ret fun v w' => v = (.bool r) ∧ Hp Z ρ (L) w') := by
  refine enter (N := 59) Tryd.func3 rfl rfl [(0, (.agg #[(.int .i64 p0.kind), (.string p0.text), (.int .i64 p0.at_), (.int .i64 p0.fin), vp0_kids])), (1, vp1), (2, (.int .i64 p2)), (3, (.int .i64 p3))] rfl (argsIn_mem ⟨rfl, rfl, rfl, rfl, trivial⟩) fun a hE => ?_
  unfold m_assessorlaw43_FingerprintSymbols at hm
  refine k_seq ?_
  refine k_region ?_
  refine s_box (wk0 rfl) rfl rfl hE hp rfl (v := (.agg #[(.int .i64 p0.kind), (.string p0.text), (.int .i64 p0.at_), (.int .i64 p0.fin), vp0_kids])) rfl ?_
  intro a w b1 hE hp
  have hp : Hp Z ρ (Pt b1 (.cells #[(.int .i64 p0.kind), (.string p0.text), (.int .i64 p0.at_), (.int .i64 p0.fin), vp0_kids] 24 (0, 0)) :: L) w := hp
  refine s_val (wk0 rfl) rfl rfl hE hp (v := (.bool false)) (ex_asn rfl hE rfl) ?_
  intro a hE
  refine s_nil ?_
  refine k_seq ?_
  refine k_seq ?_
  refine k_region ?_
  obtain ⟨x1, ex1, hm⟩ := bnd hm
  refine s_call (wk0 rfl) rfl rfl hE rfl [] trivial ent10 (c_assessorlaw43_awake hT hp x1 ex1) Ret.ret ?_
  intro v a w hR hE
  obtain ⟨rfl, hp⟩ := Ret.of hR
  have hp : Hp Z ρ (Pt b1 (.cells #[(.int .i64 p0.kind), (.string p0.text), (.int .i64 p0.at_), (.int .i64 p0.fin), vp0_kids] 24 (0, 0)) :: L) w := hp
  refine s_val (wk0 rfl) rfl rfl hE hp (v := (.bool (!x1))) (ex_not rfl hE rfl) ?_
  intro a hE
  refine s_nil ?_
  refine k_if hE rfl (fun hb1 => ?_) (fun hb1 => ?_)
  · replace hm := (it hb1).symm.trans hm
    refine k_seq ?_
    refine k_region ?_
    refine s_val (wk0 rfl) rfl rfl hE hp (v := (.bool false)) (ex_asn rfl hE rfl) ?_
    intro a hE
    refine s_nil ?_
    refine k_ret ?_
    obtain rfl := Option.some.inj hm
    exact ret1 hE rfl rfl ⟨_, rfl, rfl, (hp.drop)⟩
  · replace hm := (ie hb1).symm.trans hm
    refine k_skip ?_
    refine k_seq ?_
    refine k_seq ?_
    refine k_region ?_
    refine s_val (wk0 rfl) rfl rfl hE hp (v := (.agg #[(.int .i64 p0.kind), (.string p0.text), (.int .i64 p0.at_), (.int .i64 p0.fin), vp0_kids])) (ex_load rfl hE rfl (fun w hw => run_ldN (cs := [(.int .i64 p0.kind), (.string p0.text), (.int .i64 p0.at_), (.int .i64 p0.fin), vp0_kids]) varty24 (Hp.cN 0 rfl 0 _ (sub_all rfl) w hw))) ?_
    intro a hE
    obtain ⟨x2, ex2, hm⟩ := bnd hm
    refine s_call (wk0 rfl) rfl rfl hE rfl [(.agg #[(.int .i64 p0.kind), (.string p0.text), (.int .i64 p0.at_), (.int .i64 p0.fin), vp0_kids]), (.int .i64 60)] ⟨rfl, rfl, trivial⟩ ent11 (c_assessorref37_Few hT p0 vp0_kids hp0_kids 60 hp x2 ex2) Ret.ret ?_
    intro v a w hR hE
    obtain ⟨rfl, hp⟩ := Ret.of hR
    have hp : Hp Z ρ (Pt b1 (.cells #[(.int .i64 p0.kind), (.string p0.text), (.int .i64 p0.at_), (.int .i64 p0.fin), vp0_kids] 24 (0, 0)) :: L) w := hp
    refine s_val (wk0 rfl) rfl rfl hE hp (v := (.bool (!x2))) (ex_not rfl hE rfl) ?_
    intro a hE
    refine s_val (wk0 rfl) rfl rfl hE hp (v := (.bool (!x2))) (ex_move rfl hE rfl) ?_
    intro a hE
    refine s_cut [_, _, _, _] (fun a w => Env 59 [(22, (.bool ((!x2) || (decide (70 < (p1.length : Int)))))), (1, vp1), (2, (.int .i64 p2)), (3, (.int .i64 p3)), (4, (.pointer (some ⟨b1, 0, none⟩)))] a ∧ Hp Z ρ (Pt b1 (.cells #[(.int .i64 p0.kind), (.string p0.text), (.int .i64 p0.at_), (.int .i64 p0.fin), vp0_kids] 24 (0, 0)) :: L) w) ?_ ?_
    · rcases Bool.eq_false_or_eq_true (!x2) with hb2 | hb2
      ·
        refine s_skip (wk2 hE rfl rfl rfl hb2) rfl rfl hE ?_
        intro a hE
        refine s_skip (wk2 hE rfl rfl rfl hb2) rfl rfl hE ?_
        intro a hE
        refine s_skip (wk2 hE rfl rfl rfl hb2) rfl rfl hE ?_
        intro a hE
        refine s_val (wk0 rfl) rfl rfl hE hp (v := (.bool true)) (ex_pick1 rfl hE rfl hb2 rfl) ?_
        intro a hE
        have hE := hE.eqv (v' := (.bool ((!x2) || (decide (70 < (p1.length : Int)))))) (by rw [hb2]; rfl)
        exact s_nil ⟨hE.cut ⟨rfl, rfl, rfl, rfl, rfl, trivial⟩, hp⟩
      ·
        refine s_val (wk1 hE rfl rfl rfl hb2) rfl rfl hE hp (v := vp1) (ex_move rfl hE rfl) ?_
        intro a hE
        refine s_val (wk1 hE rfl rfl rfl hb2) rfl rfl hE hp (v := (.int .i64 (p1.length : Int))) (ex_len rfl hE rfl (RoSl.len hp1 slty25)) ?_
        intro a hE
        refine s_val (wk1 hE rfl rfl rfl hb2) rfl rfl hE hp (v := (.bool (decide (70 < (p1.length : Int))))) (ex_gtr rfl hE rfl rfl) ?_
        intro a hE
        refine s_val (wk0 rfl) rfl rfl hE hp (v := (.bool (decide (70 < (p1.length : Int))))) (ex_pick0 rfl hE rfl hb2 rfl) ?_
        intro a hE
        have hE := hE.eqv (v' := (.bool ((!x2) || (decide (70 < (p1.length : Int)))))) (by rw [hb2]; rfl)
        exact s_nil ⟨hE.cut ⟨rfl, rfl, rfl, rfl, rfl, trivial⟩, hp⟩
    · rintro a w ⟨hE, hp⟩
      refine s_nil ?_
      refine k_if hE rfl (fun hb3 => ?_) (fun hb3 => ?_)
      · replace hm := (it hb3).symm.trans hm
        refine k_seq ?_
        refine k_region ?_
        refine s_val (wk0 rfl) rfl rfl hE hp (v := (.bool true)) (ex_asn rfl hE rfl) ?_
        intro a hE
        refine s_nil ?_
        refine k_ret ?_
        obtain rfl := Option.some.inj hm
        exact ret1 hE rfl rfl ⟨_, rfl, rfl, (hp.drop)⟩
      · replace hm := (ie hb3).symm.trans hm
        refine k_skip ?_
        refine k_seq ?_
        refine k_region ?_
        refine s_val (wk0 rfl) rfl rfl hE hp (v := (.agg #[(.int .i64 p0.kind), (.string p0.text), (.int .i64 p0.at_), (.int .i64 p0.fin), vp0_kids])) (ex_load rfl hE rfl (fun w hw => run_ldN (cs := [(.int .i64 p0.kind), (.string p0.text), (.int .i64 p0.at_), (.int .i64 p0.fin), vp0_kids]) varty24 (Hp.cN 0 rfl 0 _ (sub_all rfl) w hw))) ?_
        intro a hE
        refine s_val (wk0 rfl) rfl rfl hE hp (v := (.int .i64 p2)) (ex_move rfl hE rfl) ?_
        intro a hE
        refine s_val (wk0 rfl) rfl rfl hE hp (v := (.int .i64 p3)) (ex_move rfl hE rfl) ?_
        intro a hE
        obtain ⟨x3, ex3, hm⟩ := bnd hm
        refine s_call (wk0 rfl) rfl rfl hE rfl [(.agg #[(.int .i64 p0.kind), (.string p0.text), (.int .i64 p0.at_), (.int .i64 p0.fin), vp0_kids]), (.int .i64 p2), (.int .i64 p3)] ⟨rfl, rfl, rfl, trivial⟩ ent12 (c_fingerprint_Marks hT p0 vp0_kids hp0_kids p2 p3 hp x3 ex3) Ret.ret ?_
        intro v a w hR hE
        obtain ⟨v1, rfl, hp⟩ := Ret.of hR
        have hp : Hp Z ρ (OwnSl 48 v1 x3.1 :: Pt b1 (.cells #[(.int .i64 p0.kind), (.string p0.text), (.int .i64 p0.at_), (.int .i64 p0.fin), vp0_kids] 24 (0, 0)) :: L) w := hp
        refine s_val (wk0 rfl) rfl rfl hE hp (v := (.tuple #[v1, (.int .i64 x3.2)])) (ex_move rfl hE rfl) ?_
        intro a hE
        refine s_val (wk0 rfl) rfl rfl hE hp (v := v1) (ex_extract rfl hE rfl rfl) ?_
        intro a hE
        refine s_val (wk0 rfl) rfl rfl hE hp (v := (.int .i64 x3.2)) (ex_extract rfl hE rfl rfl) ?_
        intro a hE
        refine s_val (wk0 rfl) rfl rfl hE hp (v := v1) (ex_asn rfl hE rfl) ?_
        intro a hE
        refine s_val (wk0 rfl) rfl rfl hE hp (v := (.int .i64 x3.2)) (ex_asn rfl hE rfl) ?_
        intro a hE
        refine s_nil ?_
        refine k_seq ?_
        refine k_region ?_
        refine s_val (wk0 rfl) rfl rfl hE hp (v := (.agg #[(.int .i64 p0.kind), (.string p0.text), (.int .i64 p0.at_), (.int .i64 p0.fin), vp0_kids])) (ex_load rfl hE rfl (fun w hw => run_ldN (cs := [(.int .i64 p0.kind), (.string p0.text), (.int .i64 p0.at_), (.int .i64 p0.fin), vp0_kids]) varty24 (Hp.cN 1 rfl 0 _ (sub_all rfl) w hw))) ?_
        intro a hE
        refine s_val (wk0 rfl) rfl rfl hE hp (v := (.int .i64 p2)) (ex_move rfl hE rfl) ?_
        intro a hE
        refine s_val (wk0 rfl) rfl rfl hE hp (v := (.int .i64 p3)) (ex_move rfl hE rfl) ?_
        intro a hE
        obtain ⟨x4, ex4, hm⟩ := bnd hm
        refine s_call (wk0 rfl) rfl rfl hE rfl [(.agg #[(.int .i64 p0.kind), (.string p0.text), (.int .i64 p0.at_), (.int .i64 p0.fin), vp0_kids]), (.int .i64 p2), (.int .i64 p3)] ⟨rfl, rfl, rfl, trivial⟩ ent13 (c_assessorref43_Marks hT p0 vp0_kids hp0_kids p2 p3 hp x4 ex4) Ret.ret ?_
        intro v a w hR hE
        obtain ⟨v2, rfl, hp⟩ := Ret.of hR
        have hp : Hp Z ρ (OwnSl 48 v2 x4.1 :: OwnSl 48 v1 x3.1 :: Pt b1 (.cells #[(.int .i64 p0.kind), (.string p0.text), (.int .i64 p0.at_), (.int .i64 p0.fin), vp0_kids] 24 (0, 0)) :: L) w := hp
        refine s_val (wk0 rfl) rfl rfl hE hp (v := (.tuple #[v2, (.int .i64 x4.2)])) (ex_move rfl hE rfl) ?_
        intro a hE
        refine s_val (wk0 rfl) rfl rfl hE hp (v := v2) (ex_extract rfl hE rfl rfl) ?_
        intro a hE
        refine s_val (wk0 rfl) rfl rfl hE hp (v := (.int .i64 x4.2)) (ex_extract rfl hE rfl rfl) ?_
        intro a hE
        refine s_val (wk0 rfl) rfl rfl hE hp (v := v2) (ex_asn rfl hE rfl) ?_
        intro a hE
        refine s_val (wk0 rfl) rfl rfl hE hp (v := (.int .i64 x4.2)) (ex_asn rfl hE rfl) ?_
        intro a hE
        refine s_nil ?_
        refine k_seq ?_
        obtain ⟨x5, ex5, hm⟩ := bnd hm
        obtain ⟨x6, ex6, hm⟩ := bnd hm
        obtain ⟨x7, ex7, hm⟩ := bnd hm
        obtain ⟨m1, hg1, hm⟩ := bnd hm
        obtain ⟨m2, hg2, hm⟩ := bnd hm
        refine k_held (Z := Z) (ρ := ρ) (OwnSl 48 v2 x4.1 :: OwnSl 48 v1 x3.1 :: Pt b1 (.cells #[(.int .i64 p0.kind), (.string p0.text), (.int .i64 p0.at_), (.int .i64 p0.fin), vp0_kids] 24 (0, 0)) :: L) (fun a w => ∃ y4 : Value, ∃ y5 : Value, Env 59 [(8, (.bool m2))] a ∧ Hp Z ρ (OwnSl 3 y4 x5 :: OwnSl 3 y5 x6 :: OwnSl 48 v2 x4.1 :: OwnSl 48 v1 x3.1 :: Pt b1 (.cells #[(.int .i64 p0.kind), (.string p0.text), (.int .i64 p0.at_), (.int .i64 p0.fin), vp0_kids] 24 (0, 0)) :: L) w) (by kernel_rfl) ?_ ?_
        ·
          have hp := hp.drew
          have hS : Hp Z ρ (OwnSl 48 v2 x4.1 :: OwnSl 48 v1 x3.1 :: Pt b1 (.cells #[(.int .i64 p0.kind), (.string p0.text), (.int .i64 p0.at_), (.int .i64 p0.fin), vp0_kids] 24 (0, 0)) :: L) w.drew := hp
          refine h_take 0 (wk0 rfl) rfl rfl rfl hE (by kernel_rfl) (by kernel_rfl) (by kernel_rfl) hS (v := (.agg #[(.int .i64 p0.kind), (.string p0.text), (.int .i64 p0.at_), (.int .i64 p0.fin), vp0_kids])) (ex_load rfl hE rfl (fun w hw => run_ldN (cs := [(.int .i64 p0.kind), (.string p0.text), (.int .i64 p0.at_), (.int .i64 p0.fin), vp0_kids]) varty24 (Hp.cN 2 rfl 0 _ (sub_all rfl) w hw))) ?_
          intro a hE
          refine h_take 2 (wk0 rfl) rfl rfl rfl hE (by kernel_rfl) (by kernel_rfl) (by kernel_rfl) hS (v := (.agg #[(.int .i64 p0.kind), (.string p0.text), (.int .i64 p0.at_), (.int .i64 p0.fin), vp0_kids])) (ex_load rfl hE rfl (fun w hw => run_ldN (cs := [(.int .i64 p0.kind), (.string p0.text), (.int .i64 p0.at_), (.int .i64 p0.fin), vp0_kids]) varty24 (Hp.cN 2 rfl 0 _ (sub_all rfl) w hw))) ?_
          intro a hE
          refine h_all [1] (by kernel_rfl) rfl ?_
          refine List.forall_mem_cons.2 ⟨?_, fun _ h => absurd h (by simp)⟩
          ·
            refine h_op rfl ?_
            refine s_call (wk0 rfl) rfl rfl hE rfl [(.agg #[(.int .i64 p0.kind), (.string p0.text), (.int .i64 p0.at_), (.int .i64 p0.fin), vp0_kids])] ⟨rfl, trivial⟩ ent15 (c_fingerprint_Symbols hT p0 vp0_kids hp0_kids hp x5 ex5) Ret.ret ?_
            intro v5 a w hR hE
            obtain ⟨u, hu, hp⟩ := Ret.of hR
            rw [← hu] at hp
            have hp : Hp Z ρ (OwnSl 3 v5 x5 :: OwnSl 48 v2 x4.1 :: OwnSl 48 v1 x3.1 :: Pt b1 (.cells #[(.int .i64 p0.kind), (.string p0.text), (.int .i64 p0.at_), (.int .i64 p0.fin), vp0_kids] 24 (0, 0)) :: L) w := hp
            refine s_nil ⟨(hp.drop), ?_⟩
            have hS := (hp.drop)
            refine h_all [3] (by kernel_rfl) rfl ?_
            refine List.forall_mem_cons.2 ⟨?_, fun _ h => absurd h (by simp)⟩
            ·
              refine h_op rfl ?_
              refine s_call (wk0 rfl) rfl rfl hE rfl [(.agg #[(.int .i64 p0.kind), (.string p0.text), (.int .i64 p0.at_), (.int .i64 p0.fin), vp0_kids])] ⟨rfl, trivial⟩ ent16 (c_assessorref43_Symbols hT p0 vp0_kids hp0_kids hp x6 ex6) Ret.ret ?_
              intro v6 a w hR hE
              obtain ⟨u, hu, hp⟩ := Ret.of hR
              rw [← hu] at hp
              have hp : Hp Z ρ (OwnSl 3 v6 x6 :: OwnSl 3 v5 x5 :: OwnSl 48 v2 x4.1 :: OwnSl 48 v1 x3.1 :: Pt b1 (.cells #[(.int .i64 p0.kind), (.string p0.text), (.int .i64 p0.at_), (.int .i64 p0.fin), vp0_kids] 24 (0, 0)) :: L) w := hp
              refine s_nil ⟨(((hp.get 1 rfl).drop).drop), ?_⟩
              have hS := (((hp.get 1 rfl).drop).drop)
              refine h_all [4] (by kernel_rfl) rfl ?_
              refine List.forall_mem_cons.2 ⟨?_, fun _ h => absurd h (by simp)⟩
              ·
                refine h_op rfl ?_
                obtain ⟨k5, k5a, k5d, k5h⟩ := (hp.get 1 rfl).lend
                obtain ⟨k6, k6a, k6d, k6h⟩ := (k5h.get 0 rfl).lend
                refine s_call (wk0 rfl) rfl rfl hE rfl [v5, v6] ⟨rfl, rfl, trivial⟩ ent14 (c_assessorref35_Same (Tabs.mono (Tabs.mono hT (PH.le_un _ _)) (PH.le_un _ _)) x5 v5 (RoSl.mono (OwnSl.ro k5d k5a) (PH.le_un _ _)) x6 v6 (OwnSl.ro k6d k6a) k6h x7 ex7) Ret.ret ?_
                intro v a w hR hE
                obtain ⟨rfl, hp⟩ := Ret.of hR
                have hp := Hp.back k6a k6d hp
                have hp := Hp.back k5a k5d hp
                have hp : Hp Z ρ (OwnSl 3 v5 x5 :: OwnSl 3 v6 x6 :: OwnSl 48 v2 x4.1 :: OwnSl 48 v1 x3.1 :: Pt b1 (.cells #[(.int .i64 p0.kind), (.string p0.text), (.int .i64 p0.at_), (.int .i64 p0.fin), vp0_kids] 24 (0, 0)) :: L) w := hp
                have hp : Hp Z ρ (OwnSl 3 v5 x5 :: OwnSl 3 v6 x6 :: OwnSl 48 v2 x4.1 :: OwnSl 48 v1 x3.1 :: Pt b1 (.cells #[(.int .i64 p0.kind), (.string p0.text), (.int .i64 p0.at_), (.int .i64 p0.fin), vp0_kids] 24 (0, 0)) :: L) w := hp
                refine s_nil ⟨(((hp.get 1 rfl).drop).drop), ?_⟩
                have hS := (((hp.get 1 rfl).drop).drop)
                refine h_take 5 (wk0 rfl) rfl rfl rfl hE (by kernel_rfl) (by kernel_rfl) (by kernel_rfl) hS (v := (.bool x7)) (ex_move rfl hE rfl) ?_
                intro a hE
                rcases Bool.eq_false_or_eq_true x7 with hb7 | hb7
                ·
                  have hg1 := (it hb7).symm.trans hg1
                  obtain ⟨x8, ex8, hg1⟩ := bnd hg1
                  obtain ⟨x9, ex9, hg1⟩ := bnd hg1
                  refine h_take 6 (wk1 hE rfl rfl rfl hb7) rfl rfl rfl hE (by kernel_rfl) (by kernel_rfl) (by kernel_rfl) hS (v := vp1) (ex_move rfl hE rfl) ?_
                  intro a hE
                  refine h_take 8 (wk1 hE rfl rfl rfl hb7) rfl rfl rfl hE (by kernel_rfl) (by kernel_rfl) (by kernel_rfl) hS (v := vp1) (ex_move rfl hE rfl) ?_
                  intro a hE
                  refine h_all [7] (by kernel_rfl) rfl ?_
                  refine List.forall_mem_cons.2 ⟨?_, fun _ h => absurd h (by simp)⟩
                  ·
                    refine h_op rfl ?_
                    refine s_call (wk1 hE rfl rfl rfl hb7) rfl rfl hE rfl [vp1] ⟨rfl, trivial⟩ ent17 (c_fingerprint_Hash hT p1 vp1 hp1 hp x8 ex8) Ret.ret ?_
                    intro v a w hR hE
                    obtain ⟨rfl, hp⟩ := Ret.of hR
                    have hp : Hp Z ρ (OwnSl 3 v5 x5 :: OwnSl 3 v6 x6 :: OwnSl 48 v2 x4.1 :: OwnSl 48 v1 x3.1 :: Pt b1 (.cells #[(.int .i64 p0.kind), (.string p0.text), (.int .i64 p0.at_), (.int .i64 p0.fin), vp0_kids] 24 (0, 0)) :: L) w := hp
                    refine s_nil ⟨(((hp.get 1 rfl).drop).drop), ?_⟩
                    have hS := (((hp.get 1 rfl).drop).drop)
                    refine h_all [9] (by kernel_rfl) rfl ?_
                    refine List.forall_mem_cons.2 ⟨?_, fun _ h => absurd h (by simp)⟩
                    ·
                      refine h_op rfl ?_
                      refine s_call (wk1 hE rfl rfl rfl hb7) rfl rfl hE rfl [vp1] ⟨rfl, trivial⟩ ent18 (c_assessorref43_Hash hT p1 vp1 hp1 hp x9 ex9) Ret.ret ?_
                      intro v a w hR hE
                      obtain ⟨rfl, hp⟩ := Ret.of hR
                      have hp : Hp Z ρ (OwnSl 3 v5 x5 :: OwnSl 3 v6 x6 :: OwnSl 48 v2 x4.1 :: OwnSl 48 v1 x3.1 :: Pt b1 (.cells #[(.int .i64 p0.kind), (.string p0.text), (.int .i64 p0.at_), (.int .i64 p0.fin), vp0_kids] 24 (0, 0)) :: L) w := hp
                      refine s_nil ⟨(((hp.get 1 rfl).drop).drop), ?_⟩
                      have hS := (((hp.get 1 rfl).drop).drop)
                      refine h_take 10 (wk1 hE rfl rfl rfl hb7) rfl rfl rfl hE (by kernel_rfl) (by kernel_rfl) (by kernel_rfl) hS (v := (.bool (decide (x8 = x9)))) (ex_eql rfl hE rfl rfl) ?_
                      intro a hE
                      refine h_take 11 (wk0 rfl) rfl rfl rfl hE (by kernel_rfl) (by kernel_rfl) (by kernel_rfl) hS (v := (.bool (decide (x8 = x9)))) (ex_pick1 rfl hE rfl hb7 rfl) ?_
                      intro a hE
                      have hE := hE.eqv (v' := (.bool m1)) (congrArg Value.bool (Option.some.inj hg1))
                      refine h_take 12 (wk0 rfl) rfl rfl rfl hE (by kernel_rfl) (by kernel_rfl) (by kernel_rfl) hS (v := (.bool m1)) (ex_move rfl hE rfl) ?_
                      intro a hE
                      rcases Bool.eq_false_or_eq_true m1 with hb8 | hb8
                      ·
                        refine h_take 13 (wk1 hE rfl rfl rfl hb8) rfl rfl rfl hE (by kernel_rfl) (by kernel_rfl) (by kernel_rfl) hS (v := (.int .i64 x3.2)) (ex_move rfl hE rfl) ?_
                        intro a hE
                        refine h_take 14 (wk1 hE rfl rfl rfl hb8) rfl rfl rfl hE (by kernel_rfl) (by kernel_rfl) (by kernel_rfl) hS (v := (.int .i64 x4.2)) (ex_move rfl hE rfl) ?_
                        intro a hE
                        refine h_take 15 (wk1 hE rfl rfl rfl hb8) rfl rfl rfl hE (by kernel_rfl) (by kernel_rfl) (by kernel_rfl) hS (v := (.bool (decide (x3.2 = x4.2)))) (ex_eql rfl hE rfl rfl) ?_
                        intro a hE
                        refine h_take 16 (wk0 rfl) rfl rfl rfl hE (by kernel_rfl) (by kernel_rfl) (by kernel_rfl) hS (v := (.bool (decide (x3.2 = x4.2)))) (ex_pick1 rfl hE rfl hb8 rfl) ?_
                        intro a hE
                        have hE := hE.eqv (v' := (.bool (m1 && (decide (x3.2 = x4.2))))) (by rw [hb8]; rfl)
                        refine h_take 17 (wk0 rfl) rfl rfl rfl hE (by kernel_rfl) (by kernel_rfl) (by kernel_rfl) hS (v := (.bool (m1 && (decide (x3.2 = x4.2))))) (ex_move rfl hE rfl) ?_
                        intro a hE
                        rcases Bool.eq_false_or_eq_true (m1 && (decide (x3.2 = x4.2))) with hb9 | hb9
                        ·
                          have hg2 := (it hb9).symm.trans hg2
                          obtain ⟨x10, ex10, hg2⟩ := bnd hg2
                          refine h_take 18 (wk1 hE rfl rfl rfl hb9) rfl rfl rfl hE (by kernel_rfl) (by kernel_rfl) (by kernel_rfl) hS (v := v1) (ex_move rfl hE rfl) ?_
                          intro a hE
                          refine h_take 19 (wk1 hE rfl rfl rfl hb9) rfl rfl rfl hE (by kernel_rfl) (by kernel_rfl) (by kernel_rfl) hS (v := v2) (ex_move rfl hE rfl) ?_
                          intro a hE
                          refine h_all [20] (by kernel_rfl) rfl ?_
                          refine List.forall_mem_cons.2 ⟨?_, fun _ h => absurd h (by simp)⟩
                          ·
                            refine h_op rfl ?_
                            obtain ⟨k7, k7a, k7d, k7h⟩ := (hp.get 3 rfl).lend
                            obtain ⟨k8, k8a, k8d, k8h⟩ := (k7h.get 2 rfl).lend
                            refine s_call (wk1 hE rfl rfl rfl hb9) rfl rfl hE rfl [v1, v2] ⟨rfl, rfl, trivial⟩ ent19 (c_assessorref43_Same (Tabs.mono (Tabs.mono hT (PH.le_un _ _)) (PH.le_un _ _)) x3.1 v1 (RoSl.mono (OwnSl.ro k7d k7a) (PH.le_un _ _)) x4.1 v2 (OwnSl.ro k8d k8a) k8h x10 ex10) Ret.ret ?_
                            intro v a w hR hE
                            obtain ⟨rfl, hp⟩ := Ret.of hR
                            have hp := Hp.back k8a k8d hp
                            have hp := Hp.back k7a k7d hp
                            have hp : Hp Z ρ (OwnSl 48 v1 x3.1 :: OwnSl 48 v2 x4.1 :: OwnSl 3 v5 x5 :: OwnSl 3 v6 x6 :: Pt b1 (.cells #[(.int .i64 p0.kind), (.string p0.text), (.int .i64 p0.at_), (.int .i64 p0.fin), vp0_kids] 24 (0, 0)) :: L) w := hp
                            have hp : Hp Z ρ (OwnSl 48 v1 x3.1 :: OwnSl 48 v2 x4.1 :: OwnSl 3 v5 x5 :: OwnSl 3 v6 x6 :: Pt b1 (.cells #[(.int .i64 p0.kind), (.string p0.text), (.int .i64 p0.at_), (.int .i64 p0.fin), vp0_kids] 24 (0, 0)) :: L) w := hp
                            refine s_nil ⟨(((((((hp.get 4 rfl).get 1 rfl).get 2 rfl).get 4 rfl).drop).get 3 rfl).drop), ?_⟩
                            have hS := (((((((hp.get 4 rfl).get 1 rfl).get 2 rfl).get 4 rfl).drop).get 3 rfl).drop)
                            refine h_take 21 (wk0 rfl) rfl rfl rfl hE (by kernel_rfl) (by kernel_rfl) (by kernel_rfl) hS (v := (.bool x10)) (ex_pick1 rfl hE rfl hb9 rfl) ?_
                            intro a hE
                            have hE := hE.eqv (v' := (.bool m2)) (congrArg Value.bool (Option.some.inj hg2))
                            refine h_take 22 (wk0 rfl) rfl rfl rfl hE (by kernel_rfl) (by kernel_rfl) (by kernel_rfl) hS (v := (.bool m2)) (ex_asn rfl hE rfl) ?_
                            intro a hE
                            exact h_done (by kernel_rfl) ⟨_, _, hE.cut ⟨rfl, trivial⟩, (((((hp.get 4 rfl).get 1 rfl).get 2 rfl).get 4 rfl).get 4 rfl)⟩
                        ·
                          have hg2 := (ie hb9).symm.trans hg2
                          refine h_skip 18 (wk2 hE rfl rfl rfl hb9) rfl rfl rfl hE (by kernel_rfl) (by kernel_rfl) (by kernel_rfl) hS ?_
                          intro a hE
                          refine h_skip 19 (wk2 hE rfl rfl rfl hb9) rfl rfl rfl hE (by kernel_rfl) (by kernel_rfl) (by kernel_rfl) hS ?_
                          intro a hE
                          refine h_skip 20 (wk2 hE rfl rfl rfl hb9) rfl rfl rfl hE (by kernel_rfl) (by kernel_rfl) (by kernel_rfl) hS ?_
                          intro a hE
                          refine h_take 21 (wk0 rfl) rfl rfl rfl hE (by kernel_rfl) (by kernel_rfl) (by kernel_rfl) hS (v := (.bool false)) (ex_pick0 rfl hE rfl hb9 rfl) ?_
                          intro a hE
                          have hE := hE.eqv (v' := (.bool m2)) (congrArg Value.bool (Option.some.inj hg2))
                          refine h_take 22 (wk0 rfl) rfl rfl rfl hE (by kernel_rfl) (by kernel_rfl) (by kernel_rfl) hS (v := (.bool m2)) (ex_asn rfl hE rfl) ?_
                          intro a hE
                          exact h_done (by kernel_rfl) ⟨_, _, hE.cut ⟨rfl, trivial⟩, hp⟩
                      ·
                        refine h_skip 13 (wk2 hE rfl rfl rfl hb8) rfl rfl rfl hE (by kernel_rfl) (by kernel_rfl) (by kernel_rfl) hS ?_
                        intro a hE
                        refine h_skip 14 (wk2 hE rfl rfl rfl hb8) rfl rfl rfl hE (by kernel_rfl) (by kernel_rfl) (by kernel_rfl) hS ?_
                        intro a hE
                        refine h_skip 15 (wk2 hE rfl rfl rfl hb8) rfl rfl rfl hE (by kernel_rfl) (by kernel_rfl) (by kernel_rfl) hS ?_
                        intro a hE
                        refine h_take 16 (wk0 rfl) rfl rfl rfl hE (by kernel_rfl) (by kernel_rfl) (by kernel_rfl) hS (v := (.bool false)) (ex_pick0 rfl hE rfl hb8 rfl) ?_
                        intro a hE
                        have hE := hE.eqv (v' := (.bool (m1 && (decide (x3.2 = x4.2))))) (by rw [hb8]; rfl)
                        refine h_take 17 (wk0 rfl) rfl rfl rfl hE (by kernel_rfl) (by kernel_rfl) (by kernel_rfl) hS (v := (.bool (m1 && (decide (x3.2 = x4.2))))) (ex_move rfl hE rfl) ?_
                        intro a hE
                        have hg2 := (ie (by rw [hb8]; rfl)).symm.trans hg2
                        refine h_skip 18 (wk2 hE rfl rfl rfl (by rw [hb8]; rfl)) rfl rfl rfl hE (by kernel_rfl) (by kernel_rfl) (by kernel_rfl) hS ?_
                        intro a hE
                        refine h_skip 19 (wk2 hE rfl rfl rfl (by rw [hb8]; rfl)) rfl rfl rfl hE (by kernel_rfl) (by kernel_rfl) (by kernel_rfl) hS ?_
                        intro a hE
                        refine h_skip 20 (wk2 hE rfl rfl rfl (by rw [hb8]; rfl)) rfl rfl rfl hE (by kernel_rfl) (by kernel_rfl) (by kernel_rfl) hS ?_
                        intro a hE
                        refine h_take 21 (wk0 rfl) rfl rfl rfl hE (by kernel_rfl) (by kernel_rfl) (by kernel_rfl) hS (v := (.bool false)) (ex_pick0 rfl hE rfl (by rw [hb8]; rfl) rfl) ?_
                        intro a hE
                        have hE := hE.eqv (v' := (.bool m2)) (congrArg Value.bool (Option.some.inj hg2))
                        refine h_take 22 (wk0 rfl) rfl rfl rfl hE (by kernel_rfl) (by kernel_rfl) (by kernel_rfl) hS (v := (.bool m2)) (ex_asn rfl hE rfl) ?_
                        intro a hE
                        exact h_done (by kernel_rfl) ⟨_, _, hE.cut ⟨rfl, trivial⟩, hp⟩
                ·
                  have hg1 := (ie hb7).symm.trans hg1
                  refine h_skip 6 (wk2 hE rfl rfl rfl hb7) rfl rfl rfl hE (by kernel_rfl) (by kernel_rfl) (by kernel_rfl) hS ?_
                  intro a hE
                  refine h_skip 7 (wk2 hE rfl rfl rfl hb7) rfl rfl rfl hE (by kernel_rfl) (by kernel_rfl) (by kernel_rfl) hS ?_
                  intro a hE
                  refine h_skip 8 (wk2 hE rfl rfl rfl hb7) rfl rfl rfl hE (by kernel_rfl) (by kernel_rfl) (by kernel_rfl) hS ?_
                  intro a hE
                  refine h_skip 9 (wk2 hE rfl rfl rfl hb7) rfl rfl rfl hE (by kernel_rfl) (by kernel_rfl) (by kernel_rfl) hS ?_
                  intro a hE
                  refine h_skip 10 (wk2 hE rfl rfl rfl hb7) rfl rfl rfl hE (by kernel_rfl) (by kernel_rfl) (by kernel_rfl) hS ?_
                  intro a hE
                  refine h_take 11 (wk0 rfl) rfl rfl rfl hE (by kernel_rfl) (by kernel_rfl) (by kernel_rfl) hS (v := (.bool false)) (ex_pick0 rfl hE rfl hb7 rfl) ?_
                  intro a hE
                  have hE := hE.eqv (v' := (.bool m1)) (congrArg Value.bool (Option.some.inj hg1))
                  refine h_take 12 (wk0 rfl) rfl rfl rfl hE (by kernel_rfl) (by kernel_rfl) (by kernel_rfl) hS (v := (.bool m1)) (ex_move rfl hE rfl) ?_
                  intro a hE
                  refine h_skip 13 (wk2 hE rfl rfl rfl (Option.some.inj hg1).symm) rfl rfl rfl hE (by kernel_rfl) (by kernel_rfl) (by kernel_rfl) hS ?_
                  intro a hE
                  refine h_skip 14 (wk2 hE rfl rfl rfl (Option.some.inj hg1).symm) rfl rfl rfl hE (by kernel_rfl) (by kernel_rfl) (by kernel_rfl) hS ?_
                  intro a hE
                  refine h_skip 15 (wk2 hE rfl rfl rfl (Option.some.inj hg1).symm) rfl rfl rfl hE (by kernel_rfl) (by kernel_rfl) (by kernel_rfl) hS ?_
                  intro a hE
                  refine h_take 16 (wk0 rfl) rfl rfl rfl hE (by kernel_rfl) (by kernel_rfl) (by kernel_rfl) hS (v := (.bool false)) (ex_pick0 rfl hE rfl (Option.some.inj hg1).symm rfl) ?_
                  intro a hE
                  have hE := hE.eqv (v' := (.bool (m1 && (decide (x3.2 = x4.2))))) (by rw [(Option.some.inj hg1).symm]; rfl)
                  refine h_take 17 (wk0 rfl) rfl rfl rfl hE (by kernel_rfl) (by kernel_rfl) (by kernel_rfl) hS (v := (.bool (m1 && (decide (x3.2 = x4.2))))) (ex_move rfl hE rfl) ?_
                  intro a hE
                  have hg2 := (ie (by rw [(Option.some.inj hg1).symm]; rfl)).symm.trans hg2
                  refine h_skip 18 (wk2 hE rfl rfl rfl (by rw [(Option.some.inj hg1).symm]; rfl)) rfl rfl rfl hE (by kernel_rfl) (by kernel_rfl) (by kernel_rfl) hS ?_
                  intro a hE
                  refine h_skip 19 (wk2 hE rfl rfl rfl (by rw [(Option.some.inj hg1).symm]; rfl)) rfl rfl rfl hE (by kernel_rfl) (by kernel_rfl) (by kernel_rfl) hS ?_
                  intro a hE
                  refine h_skip 20 (wk2 hE rfl rfl rfl (by rw [(Option.some.inj hg1).symm]; rfl)) rfl rfl rfl hE (by kernel_rfl) (by kernel_rfl) (by kernel_rfl) hS ?_
                  intro a hE
                  refine h_take 21 (wk0 rfl) rfl rfl rfl hE (by kernel_rfl) (by kernel_rfl) (by kernel_rfl) hS (v := (.bool false)) (ex_pick0 rfl hE rfl (by rw [(Option.some.inj hg1).symm]; rfl) rfl) ?_
                  intro a hE
                  have hE := hE.eqv (v' := (.bool m2)) (congrArg Value.bool (Option.some.inj hg2))
                  refine h_take 22 (wk0 rfl) rfl rfl rfl hE (by kernel_rfl) (by kernel_rfl) (by kernel_rfl) hS (v := (.bool m2)) (ex_asn rfl hE rfl) ?_
                  intro a hE
                  exact h_done (by kernel_rfl) ⟨_, _, hE.cut ⟨rfl, trivial⟩, hp⟩
        · rintro a w ⟨y4, y5, hE, hp⟩
          refine k_ret ?_
          obtain rfl := Option.some.inj hm
          exact ret1 hE rfl rfl ⟨_, rfl, rfl, (((((((((hp.get 4 rfl).drop).get 3 rfl).drop).get 2 rfl).drop).get 1 rfl).drop).drop)⟩
end Go.Proofs.YtlnhijgieblmgaaDoor

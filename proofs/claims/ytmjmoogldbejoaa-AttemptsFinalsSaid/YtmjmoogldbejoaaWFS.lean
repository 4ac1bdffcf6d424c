/-
  The code goes as its model: assessor/assessorlaw52.AttemptsFinals. (Printed by wip/sp/gen.py.)
-/
import Derived.Test.YtmjmoogldbejoaaWFM
import Derived.Test.YtmjmoogldbejoaaFct
import Derived.Test.YtmjmoogldbejoaaWS
set_option linter.unusedVariables false
set_option linter.unusedSimpArgs false
namespace Go.Proofs.Ytmjmoogldbejoaa
open Go.RowKit

/- assessor/assessorlaw52.AttemptsFinals -/
set_option maxRecDepth 100000 in
set_option maxHeartbeats 4000000 in
theorem c_assessorlaw52_AttemptsFinals {Z : World} {ρ : PH} {L : List Atom} {w : World} (p0 : Rule) (p1 : (List Att)) (vp1 : Value) (hp1 : RoSl ρ vp1 p1) (p2 : Int) (hp : Hp Z ρ (L) w) (r : Bool) (hm : m_assessorlaw52_AttemptsFinals p0 p1 p2 = some r) :
    Calls Try.prog 3 #[(.agg #[(.int .i64 p0.kind), (.int .i64 p0.most), (.int .i64 p0.pause), (.int .i64 p0.keep)]), vp1, (.int .i64 p2)] w (Ret fun v w' => v = (.bool r) ∧ Hp Z ρ (L) w') := by
  refine enter (N := 73) Try.func3 rfl rfl [(0, (.agg #[(.int .i64 p0.kind), (.int .i64 p0.most), (.int .i64 p0.pause), (.int .i64 p0.keep)])), (1, vp1), (2, (.int .i64 p2))] rfl (argsIn_mem ⟨rfl, rfl, rfl, trivial⟩) fun a hE => ?_
  unfold m_assessorlaw52_AttemptsFinals at hm
  refine k_seq ?_
  refine k_region ?_
  refine s_box (wk0 rfl) rfl rfl hE hp rfl (v := (.agg #[(.int .i64 p0.kind), (.int .i64 p0.most), (.int .i64 p0.pause), (.int .i64 p0.keep)])) rfl ?_
  intro a w b1 hE hp
  have hp : Hp Z ρ (Pt b1 (.cells #[(.int .i64 p0.kind), (.int .i64 p0.most), (.int .i64 p0.pause), (.int .i64 p0.keep)] 23 (0, 0)) :: L) w := hp
  refine s_val (wk0 rfl) rfl rfl hE hp (v := (.bool false)) (ex_asn rfl hE rfl) ?_
  intro a hE
  refine s_nil ?_
  refine k_seq ?_
  refine k_seq ?_
  refine k_region ?_
  obtain ⟨x1, ex1, hm⟩ := bnd hm
  refine s_call (wk0 rfl) rfl rfl hE rfl [] trivial ent10 (c_assessorlaw52_awake  hp x1 ex1) Ret.ret ?_
  intro v a w hR hE
  obtain ⟨rfl, hp⟩ := Ret.of hR
  have hp : Hp Z ρ (Pt b1 (.cells #[(.int .i64 p0.kind), (.int .i64 p0.most), (.int .i64 p0.pause), (.int .i64 p0.keep)] 23 (0, 0)) :: L) w := hp
  refine s_val (wk0 rfl) rfl rfl hE hp (v := (.bool (!x1))) (ex_not rfl hE rfl) ?_
  intro a hE
  refine s_nil ?_
  refine k_if hE rfl (fun hb1 => ?_) (fun hb1 => ?_)
  · replace hm := (it hb1).symm.trans hm
    refine k_seq ?_
    refine k_region ?_
    refine s_val (wk0 rfl) rfl rfl hE hp (v := (.bool false)) (ex_asn rfl hE rfl) ?_
    intro a hE
    refine s_nil ?_
    refine k_ret ?_
    obtain rfl := Option.some.inj hm
    exact ret1 hE rfl rfl ⟨_, rfl, rfl, (hp.drop)⟩
  · replace hm := (ie hb1).symm.trans hm
    refine k_skip ?_
    refine k_seq ?_
    refine k_seq ?_
    refine k_region ?_
    refine s_val (wk0 rfl) rfl rfl hE hp (v := vp1) (ex_move rfl hE rfl) ?_
    intro a hE
    refine s_val (wk0 rfl) rfl rfl hE hp (v := (.int .i64 (p1.length : Int))) (ex_len rfl hE rfl (RoSl.len hp1 slty24)) ?_
    intro a hE
    refine s_val (wk0 rfl) rfl rfl hE hp (v := (.bool (decide (20 < (p1.length : Int))))) (ex_gtr rfl hE rfl rfl) ?_
    intro a hE
    refine s_nil ?_
    refine k_if hE rfl (fun hb2 => ?_) (fun hb2 => ?_)
    · replace hm := (it hb2).symm.trans hm
      refine k_seq ?_
      refine k_region ?_
      refine s_val (wk0 rfl) rfl rfl hE hp (v := (.bool true)) (ex_asn rfl hE rfl) ?_
      intro a hE
      refine s_nil ?_
      refine k_ret ?_
      obtain rfl := Option.some.inj hm
      exact ret1 hE rfl rfl ⟨_, rfl, rfl, (hp.drop)⟩
    · replace hm := (ie hb2).symm.trans hm
      refine k_skip ?_
      refine k_seq ?_
      refine k_region ?_
      refine s_val (wk0 rfl) rfl rfl hE hp (v := (.agg #[(.int .i64 p0.kind), (.int .i64 p0.most), (.int .i64 p0.pause), (.int .i64 p0.keep)])) (ex_load rfl hE rfl (fun w hw => run_ldN (cs := [(.int .i64 p0.kind), (.int .i64 p0.most), (.int .i64 p0.pause), (.int .i64 p0.keep)]) varty23 (Hp.cN 0 rfl 0 _ (sub_all rfl) w hw))) ?_
      intro a hE
      refine s_val (wk0 rfl) rfl rfl hE hp (v := vp1) (ex_move rfl hE rfl) ?_
      intro a hE
      obtain ⟨x2, ex2, hm⟩ := bnd hm
      refine s_call (wk0 rfl) rfl rfl hE rfl [(.agg #[(.int .i64 p0.kind), (.int .i64 p0.most), (.int .i64 p0.pause), (.int .i64 p0.keep)]), vp1] ⟨rfl, rfl, trivial⟩ ent11 (c_attempts_Final p0 p1 vp1 hp1 hp x2 ex2) Ret.ret ?_
      intro v a w hR hE
      obtain ⟨rfl, hp⟩ := Ret.of hR
      have hp : Hp Z ρ (Pt b1 (.cells #[(.int .i64 p0.kind), (.int .i64 p0.most), (.int .i64 p0.pause), (.int .i64 p0.keep)] 23 (0, 0)) :: L) w := hp
      refine s_val (wk0 rfl) rfl rfl hE hp (v := (.tuple #[(.int .i64 x2.1), (.int .i64 x2.2)])) (ex_move rfl hE rfl) ?_
      intro a hE
      refine s_val (wk0 rfl) rfl rfl hE hp (v := (.int .i64 x2.1)) (ex_extract rfl hE rfl rfl) ?_
      intro a hE
      refine s_val (wk0 rfl) rfl rfl hE hp (v := (.int .i64 x2.2)) (ex_extract rfl hE rfl rfl) ?_
      intro a hE
      refine s_val (wk0 rfl) rfl rfl hE hp (v := (.int .i64 x2.1)) (ex_asn rfl hE rfl) ?_
      intro a hE
      refine s_val (wk0 rfl) rfl rfl hE hp (v := (.int .i64 x2.2)) (ex_asn rfl hE rfl) ?_
      intro a hE
      refine s_nil ?_
      refine k_seq ?_
      refine k_region ?_
      refine s_val (wk0 rfl) rfl rfl hE hp (v := (.agg #[(.int .i64 p0.kind), (.int .i64 p0.most), (.int .i64 p0.pause), (.int .i64 p0.keep)])) (ex_load rfl hE rfl (fun w hw => run_ldN (cs := [(.int .i64 p0.kind), (.int .i64 p0.most), (.int .i64 p0.pause), (.int .i64 p0.keep)]) varty23 (Hp.cN 0 rfl 0 _ (sub_all rfl) w hw))) ?_
      intro a hE
      refine s_val (wk0 rfl) rfl rfl hE hp (v := vp1) (ex_move rfl hE rfl) ?_
      intro a hE
      obtain ⟨x3, ex3, hm⟩ := bnd hm
      refine s_call (wk0 rfl) rfl rfl hE rfl [(.agg #[(.int .i64 p0.kind), (.int .i64 p0.most), (.int .i64 p0.pause), (.int .i64 p0.keep)]), vp1] ⟨rfl, rfl, trivial⟩ ent12 (c_assessorref52_Final p0 p1 vp1 hp1 hp x3 ex3) Ret.ret ?_
      intro v a w hR hE
      obtain ⟨rfl, hp⟩ := Ret.of hR
      have hp : Hp Z ρ (Pt b1 (.cells #[(.int .i64 p0.kind), (.int .i64 p0.most), (.int .i64 p0.pause), (.int .i64 p0.keep)] 23 (0, 0)) :: L) w := hp
      refine s_val (wk0 rfl) rfl rfl hE hp (v := (.tuple #[(.int .i64 x3.1), (.int .i64 x3.2)])) (ex_move rfl hE rfl) ?_
      intro a hE
      refine s_val (wk0 rfl) rfl rfl hE hp (v := (.int .i64 x3.1)) (ex_extract rfl hE rfl rfl) ?_
      intro a hE
      refine s_val (wk0 rfl) rfl rfl hE hp (v := (.int .i64 x3.2)) (ex_extract rfl hE rfl rfl) ?_
      intro a hE
      refine s_val (wk0 rfl) rfl rfl hE hp (v := (.int .i64 x3.1)) (ex_asn rfl hE rfl) ?_
      intro a hE
      refine s_val (wk0 rfl) rfl rfl hE hp (v := (.int .i64 x3.2)) (ex_asn rfl hE rfl) ?_
      intro a hE
      refine s_nil ?_
      have hE := hE.cut (E' := [(1, vp1), (2, (.int .i64 p2)), (3, (.pointer (some ⟨b1, 0, none⟩))), (7, (.int .i64 x2.1)), (8, (.int .i64 x2.2)), (9, (.int .i64 x3.1)), (10, (.int .i64 x3.2))]) ⟨rfl, rfl, rfl, rfl, rfl, rfl, rfl, trivial⟩
      refine k_seq ?_
      refine k_region ?_
      refine s_val (wk0 rfl) rfl rfl hE hp (v := (.agg #[(.int .i64 p0.kind), (.int .i64 p0.most), (.int .i64 p0.pause), (.int .i64 p0.keep)])) (ex_load rfl hE rfl (fun w hw => run_ldN (cs := [(.int .i64 p0.kind), (.int .i64 p0.most), (.int .i64 p0.pause), (.int .i64 p0.keep)]) varty23 (Hp.cN 0 rfl 0 _ (sub_all rfl) w hw))) ?_
      intro a hE
      refine s_val (wk0 rfl) rfl rfl hE hp (v := vp1) (ex_move rfl hE rfl) ?_
      intro a hE
      refine s_val (wk0 rfl) rfl rfl hE hp (v := (.int .i64 p2)) (ex_move rfl hE rfl) ?_
      intro a hE
      obtain ⟨x4, ex4, hm⟩ := bnd hm
      refine s_call (wk0 rfl) rfl rfl hE rfl [(.agg #[(.int .i64 p0.kind), (.int .i64 p0.most), (.int .i64 p0.pause), (.int .i64 p0.keep)]), vp1, (.int .i64 p2)] ⟨rfl, rfl, rfl, trivial⟩ ent13 (c_attempts_Needed p0 p1 vp1 hp1 p2 hp x4 ex4) Ret.ret ?_
      intro v a w hR hE
      obtain ⟨rfl, hp⟩ := Ret.of hR
      have hp : Hp Z ρ (Pt b1 (.cells #[(.int .i64 p0.kind), (.int .i64 p0.most), (.int .i64 p0.pause), (.int .i64 p0.keep)] 23 (0, 0)) :: L) w := hp
      refine s_val (wk0 rfl) rfl rfl hE hp (v := (.tuple #[(.int .i64 x4.1), (.bool x4.2)])) (ex_move rfl hE rfl) ?_
      intro a hE
      refine s_val (wk0 rfl) rfl rfl hE hp (v := (.int .i64 x4.1)) (ex_extract rfl hE rfl rfl) ?_
      intro a hE
      refine s_val (wk0 rfl) rfl rfl hE hp (v := (.bool x4.2)) (ex_extract rfl hE rfl rfl) ?_
      intro a hE
      refine s_val (wk0 rfl) rfl rfl hE hp (v := (.int .i64 x4.1)) (ex_asn rfl hE rfl) ?_
      intro a hE
      refine s_val (wk0 rfl) rfl rfl hE hp (v := (.bool x4.2)) (ex_asn rfl hE rfl) ?_
      intro a hE
      refine s_nil ?_
      refine k_seq ?_
      refine k_region ?_
      refine s_val (wk0 rfl) rfl rfl hE hp (v := (.agg #[(.int .i64 p0.kind), (.int .i64 p0.most), (.int .i64 p0.pause), (.int .i64 p0.keep)])) (ex_load rfl hE rfl (fun w hw => run_ldN (cs := [(.int .i64 p0.kind), (.int .i64 p0.most), (.int .i64 p0.pause), (.int .i64 p0.keep)]) varty23 (Hp.cN 0 rfl 0 _ (sub_all rfl) w hw))) ?_
      intro a hE
      refine s_val (wk0 rfl) rfl rfl hE hp (v := vp1) (ex_move rfl hE rfl) ?_
      intro a hE
      refine s_val (wk0 rfl) rfl rfl hE hp (v := (.int .i64 p2)) (ex_move rfl hE rfl) ?_
      intro a hE
      obtain ⟨x5, ex5, hm⟩ := bnd hm
      refine s_call (wk0 rfl) rfl rfl hE rfl [(.agg #[(.int .i64 p0.kind), (.int .i64 p0.most), (.int .i64 p0.pause), (.int .i64 p0.keep)]), vp1, (.int .i64 p2)] ⟨rfl, rfl, rfl, trivial⟩ ent14 (c_assessorref52_Needed p0 p1 vp1 hp1 p2 hp x5 ex5) Ret.ret ?_
      intro v a w hR hE
      obtain ⟨rfl, hp⟩ := Ret.of hR
      have hp : Hp Z ρ (Pt b1 (.cells #[(.int .i64 p0.kind), (.int .i64 p0.most), (.int .i64 p0.pause), (.int .i64 p0.keep)] 23 (0, 0)) :: L) w := hp
      refine s_val (wk0 rfl) rfl rfl hE hp (v := (.tuple #[(.int .i64 x5.1), (.bool x5.2)])) (ex_move rfl hE rfl) ?_
      intro a hE
      refine s_val (wk0 rfl) rfl rfl hE hp (v := (.int .i64 x5.1)) (ex_extract rfl hE rfl rfl) ?_
      intro a hE
      refine s_val (wk0 rfl) rfl rfl hE hp (v := (.bool x5.2)) (ex_extract rfl hE rfl rfl) ?_
      intro a hE
      refine s_val (wk0 rfl) rfl rfl hE hp (v := (.int .i64 x5.1)) (ex_asn rfl hE rfl) ?_
      intro a hE
      refine s_val (wk0 rfl) rfl rfl hE hp (v := (.bool x5.2)) (ex_asn rfl hE rfl) ?_
      intro a hE
      refine s_nil ?_
      have hE := hE.cut (E' := [(1, vp1), (3, (.pointer (some ⟨b1, 0, none⟩))), (7, (.int .i64 x2.1)), (8, (.int .i64 x2.2)), (9, (.int .i64 x3.1)), (10, (.int .i64 x3.2)), (11, (.int .i64 x4.1)), (12, (.bool x4.2)), (13, (.int .i64 x5.1)), (14, (.bool x5.2))]) ⟨rfl, rfl, rfl, rfl, rfl, rfl, rfl, rfl, rfl, rfl, trivial⟩
      refine k_seq ?_
      obtain ⟨x6, ex6, hm⟩ := bnd hm
      obtain ⟨x7, ex7, hm⟩ := bnd hm
      obtain ⟨x8, ex8, hm⟩ := bnd hm
      refine k_held (Z := Z) (ρ := ρ) (Pt b1 (.cells #[(.int .i64 p0.kind), (.int .i64 p0.most), (.int .i64 p0.pause), (.int .i64 p0.keep)] 23 (0, 0)) :: L) (fun a w => ∃ y2 : Value, ∃ y3 : Value, Env 73 [(6, (.bool ((((x8 && (decide (x2.1 = x3.1))) && (decide (x2.2 = x3.2))) && (decide (x4.1 = x5.1))) && (x4.2 == x5.2))))] a ∧ Hp Z ρ (OwnSl 3 y2 x6 :: OwnSl 3 y3 x7 :: Pt b1 (.cells #[(.int .i64 p0.kind), (.int .i64 p0.most), (.int .i64 p0.pause), (.int .i64 p0.keep)] 23 (0, 0)) :: L) w) (by kernel_rfl) ?_ ?_
      ·
        have hp := hp.drew
        have hS : Hp Z ρ (Pt b1 (.cells #[(.int .i64 p0.kind), (.int .i64 p0.most), (.int .i64 p0.pause), (.int .i64 p0.keep)] 23 (0, 0)) :: L) w.drew := hp
        refine h_take 0 (wk0 rfl) rfl rfl rfl hE (by kernel_rfl) (by kernel_rfl) (by kernel_rfl) hS (v := (.agg #[(.int .i64 p0.kind), (.int .i64 p0.most), (.int .i64 p0.pause), (.int .i64 p0.keep)])) (ex_load rfl hE rfl (fun w hw => run_ldN (cs := [(.int .i64 p0.kind), (.int .i64 p0.most), (.int .i64 p0.pause), (.int .i64 p0.keep)]) varty23 (Hp.cN 0 rfl 0 _ (sub_all rfl) w hw))) ?_
        intro a hE
        refine h_take 1 (wk0 rfl) rfl rfl rfl hE (by kernel_rfl) (by kernel_rfl) (by kernel_rfl) hS (v := vp1) (ex_move rfl hE rfl) ?_
        intro a hE
        refine h_take 3 (wk0 rfl) rfl rfl rfl hE (by kernel_rfl) (by kernel_rfl) (by kernel_rfl) hS (v := (.agg #[(.int .i64 p0.kind), (.int .i64 p0.most), (.int .i64 p0.pause), (.int .i64 p0.keep)])) (ex_load rfl hE rfl (fun w hw => run_ldN (cs := [(.int .i64 p0.kind), (.int .i64 p0.most), (.int .i64 p0.pause), (.int .i64 p0.keep)]) varty23 (Hp.cN 0 rfl 0 _ (sub_all rfl) w hw))) ?_
        intro a hE
        refine h_take 4 (wk0 rfl) rfl rfl rfl hE (by kernel_rfl) (by kernel_rfl) (by kernel_rfl) hS (v := vp1) (ex_move rfl hE rfl) ?_
        intro a hE
        refine h_all [2] (by kernel_rfl) rfl ?_
        refine List.forall_mem_cons.2 ⟨?_, fun _ h => absurd h (by simp)⟩
        ·
          refine h_op rfl ?_
          refine s_call (wk0 rfl) rfl rfl hE rfl [(.agg #[(.int .i64 p0.kind), (.int .i64 p0.most), (.int .i64 p0.pause), (.int .i64 p0.keep)]), vp1] ⟨rfl, rfl, trivial⟩ ent16 (c_attempts_Counting p0 p1 vp1 hp1 hp x6 ex6) Ret.ret ?_
          intro v3 a w hR hE
          obtain ⟨u, hu, hp⟩ := Ret.of hR
          rw [← hu] at hp
          have hp : Hp Z ρ (OwnSl 3 v3 x6 :: Pt b1 (.cells #[(.int .i64 p0.kind), (.int .i64 p0.most), (.int .i64 p0.pause), (.int .i64 p0.keep)] 23 (0, 0)) :: L) w := hp
          refine s_nil ⟨(hp.drop), ?_⟩
          have hS := (hp.drop)
          refine h_all [5] (by kernel_rfl) rfl ?_
          refine List.forall_mem_cons.2 ⟨?_, fun _ h => absurd h (by simp)⟩
          ·
            refine h_op rfl ?_
            refine s_call (wk0 rfl) rfl rfl hE rfl [(.agg #[(.int .i64 p0.kind), (.int .i64 p0.most), (.int .i64 p0.pause), (.int .i64 p0.keep)]), vp1] ⟨rfl, rfl, trivial⟩ ent17 (c_assessorref52_Counting p0 p1 vp1 hp1 hp x7 ex7) Ret.ret ?_
            intro v4 a w hR hE
            obtain ⟨u, hu, hp⟩ := Ret.of hR
            rw [← hu] at hp
            have hp : Hp Z ρ (OwnSl 3 v4 x7 :: OwnSl 3 v3 x6 :: Pt b1 (.cells #[(.int .i64 p0.kind), (.int .i64 p0.most), (.int .i64 p0.pause), (.int .i64 p0.keep)] 23 (0, 0)) :: L) w := hp
            refine s_nil ⟨(((hp.get 1 rfl).drop).drop), ?_⟩
            have hS := (((hp.get 1 rfl).drop).drop)
            refine h_all [6] (by kernel_rfl) rfl ?_
            refine List.forall_mem_cons.2 ⟨?_, fun _ h => absurd h (by simp)⟩
            ·
              refine h_op rfl ?_
              obtain ⟨k3, k3a, k3d, k3h⟩ := (hp.get 1 rfl).lend
              obtain ⟨k4, k4a, k4d, k4h⟩ := (k3h.get 0 rfl).lend
              refine s_call (wk0 rfl) rfl rfl hE rfl [v3, v4] ⟨rfl, rfl, trivial⟩ ent15 (c_assessorref49_Ints x6 v3 (RoSl.mono (OwnSl.ro k3d k3a) (PH.le_un _ _)) x7 v4 (OwnSl.ro k4d k4a) k4h x8 ex8) Ret.ret ?_
              intro v a w hR hE
              obtain ⟨rfl, hp⟩ := Ret.of hR
              have hp := Hp.back k4a k4d hp
              have hp := Hp.back k3a k3d hp
              have hp : Hp Z ρ (OwnSl 3 v3 x6 :: OwnSl 3 v4 x7 :: Pt b1 (.cells #[(.int .i64 p0.kind), (.int .i64 p0.most), (.int .i64 p0.pause), (.int .i64 p0.keep)] 23 (0, 0)) :: L) w := hp
              have hp : Hp Z ρ (OwnSl 3 v3 x6 :: OwnSl 3 v4 x7 :: Pt b1 (.cells #[(.int .i64 p0.kind), (.int .i64 p0.most), (.int .i64 p0.pause), (.int .i64 p0.keep)] 23 (0, 0)) :: L) w := hp
              refine s_nil ⟨(((hp.get 1 rfl).drop).drop), ?_⟩
              have hS := (((hp.get 1 rfl).drop).drop)
              refine h_take 7 (wk0 rfl) rfl rfl rfl hE (by kernel_rfl) (by kernel_rfl) (by kernel_rfl) hS (v := (.bool x8)) (ex_move rfl hE rfl) ?_
              intro a hE
              rcases Bool.eq_false_or_eq_true x8 with hb7 | hb7
              ·
                refine h_take 8 (wk1 hE rfl rfl rfl hb7) rfl rfl rfl hE (by kernel_rfl) (by kernel_rfl) (by kernel_rfl) hS (v := (.int .i64 x2.1)) (ex_move rfl hE rfl) ?_
                intro a hE
                refine h_take 9 (wk1 hE rfl rfl rfl hb7) rfl rfl rfl hE (by kernel_rfl) (by kernel_rfl) (by kernel_rfl) hS (v := (.int .i64 x3.1)) (ex_move rfl hE rfl) ?_
                intro a hE
                refine h_take 10 (wk1 hE rfl rfl rfl hb7) rfl rfl rfl hE (by kernel_rfl) (by kernel_rfl) (by kernel_rfl) hS (v := (.bool (decide (x2.1 = x3.1)))) (ex_eql rfl hE rfl rfl) ?_
                intro a hE
                refine h_take 11 (wk0 rfl) rfl rfl rfl hE (by kernel_rfl) (by kernel_rfl) (by kernel_rfl) hS (v := (.bool (decide (x2.1 = x3.1)))) (ex_pick1 rfl hE rfl hb7 rfl) ?_
                intro a hE
                have hE := hE.eqv (v' := (.bool (x8 && (decide (x2.1 = x3.1))))) (by rw [hb7]; rfl)
                refine h_take 12 (wk0 rfl) rfl rfl rfl hE (by kernel_rfl) (by kernel_rfl) (by kernel_rfl) hS (v := (.bool (x8 && (decide (x2.1 = x3.1))))) (ex_move rfl hE rfl) ?_
                intro a hE
                rcases Bool.eq_false_or_eq_true (x8 && (decide (x2.1 = x3.1))) with hb8 | hb8
                ·
                  refine h_take 13 (wk1 hE rfl rfl rfl hb8) rfl rfl rfl hE (by kernel_rfl) (by kernel_rfl) (by kernel_rfl) hS (v := (.int .i64 x2.2)) (ex_move rfl hE rfl) ?_
                  intro a hE
                  refine h_take 14 (wk1 hE rfl rfl rfl hb8) rfl rfl rfl hE (by kernel_rfl) (by kernel_rfl) (by kernel_rfl) hS (v := (.int .i64 x3.2)) (ex_move rfl hE rfl) ?_
                  intro a hE
                  refine h_take 15 (wk1 hE rfl rfl rfl hb8) rfl rfl rfl hE (by kernel_rfl) (by kernel_rfl) (by kernel_rfl) hS (v := (.bool (decide (x2.2 = x3.2)))) (ex_eql rfl hE rfl rfl) ?_
                  intro a hE
                  refine h_take 16 (wk0 rfl) rfl rfl rfl hE (by kernel_rfl) (by kernel_rfl) (by kernel_rfl) hS (v := (.bool (decide (x2.2 = x3.2)))) (ex_pick1 rfl hE rfl hb8 rfl) ?_
                  intro a hE
                  have hE := hE.eqv (v' := (.bool ((x8 && (decide (x2.1 = x3.1))) && (decide (x2.2 = x3.2))))) (by rw [hb8]; rfl)
                  refine h_take 17 (wk0 rfl) rfl rfl rfl hE (by kernel_rfl) (by kernel_rfl) (by kernel_rfl) hS (v := (.bool ((x8 && (decide (x2.1 = x3.1))) && (decide (x2.2 = x3.2))))) (ex_move rfl hE rfl) ?_
                  intro a hE
                  rcases Bool.eq_false_or_eq_true ((x8 && (decide (x2.1 = x3.1))) && (decide (x2.2 = x3.2))) with hb9 | hb9
                  ·
                    refine h_take 18 (wk1 hE rfl rfl rfl hb9) rfl rfl rfl hE (by kernel_rfl) (by kernel_rfl) (by kernel_rfl) hS (v := (.int .i64 x4.1)) (ex_move rfl hE rfl) ?_
                    intro a hE
                    refine h_take 19 (wk1 hE rfl rfl rfl hb9) rfl rfl rfl hE (by kernel_rfl) (by kernel_rfl) (by kernel_rfl) hS (v := (.int .i64 x5.1)) (ex_move rfl hE rfl) ?_
                    intro a hE
                    refine h_take 20 (wk1 hE rfl rfl rfl hb9) rfl rfl rfl hE (by kernel_rfl) (by kernel_rfl) (by kernel_rfl) hS (v := (.bool (decide (x4.1 = x5.1)))) (ex_eql rfl hE rfl rfl) ?_
                    intro a hE
                    refine h_take 21 (wk0 rfl) rfl rfl rfl hE (by kernel_rfl) (by kernel_rfl) (by kernel_rfl) hS (v := (.bool (decide (x4.1 = x5.1)))) (ex_pick1 rfl hE rfl hb9 rfl) ?_
                    intro a hE
                    have hE := hE.eqv (v' := (.bool (((x8 && (decide (x2.1 = x3.1))) && (decide (x2.2 = x3.2))) && (decide (x4.1 = x5.1))))) (by rw [hb9]; rfl)
                    refine h_take 22 (wk0 rfl) rfl rfl rfl hE (by kernel_rfl) (by kernel_rfl) (by kernel_rfl) hS (v := (.bool (((x8 && (decide (x2.1 = x3.1))) && (decide (x2.2 = x3.2))) && (decide (x4.1 = x5.1))))) (ex_move rfl hE rfl) ?_
                    intro a hE
                    rcases Bool.eq_false_or_eq_true (((x8 && (decide (x2.1 = x3.1))) && (decide (x2.2 = x3.2))) && (decide (x4.1 = x5.1))) with hb10 | hb10
                    ·
                      refine h_take 23 (wk1 hE rfl rfl rfl hb10) rfl rfl rfl hE (by kernel_rfl) (by kernel_rfl) (by kernel_rfl) hS (v := (.bool x4.2)) (ex_move rfl hE rfl) ?_
                      intro a hE
                      refine h_take 24 (wk1 hE rfl rfl rfl hb10) rfl rfl rfl hE (by kernel_rfl) (by kernel_rfl) (by kernel_rfl) hS (v := (.bool x5.2)) (ex_move rfl hE rfl) ?_
                      intro a hE
                      refine h_take 25 (wk1 hE rfl rfl rfl hb10) rfl rfl rfl hE (by kernel_rfl) (by kernel_rfl) (by kernel_rfl) hS (v := (.bool (x4.2 == x5.2))) (ex_beql bty4 rfl hE rfl rfl) ?_
                      intro a hE
                      refine h_take 26 (wk0 rfl) rfl rfl rfl hE (by kernel_rfl) (by kernel_rfl) (by kernel_rfl) hS (v := (.bool (x4.2 == x5.2))) (ex_pick1 rfl hE rfl hb10 rfl) ?_
                      intro a hE
                      have hE := hE.eqv (v' := (.bool ((((x8 && (decide (x2.1 = x3.1))) && (decide (x2.2 = x3.2))) && (decide (x4.1 = x5.1))) && (x4.2 == x5.2)))) (by rw [hb10]; rfl)
                      refine h_take 27 (wk0 rfl) rfl rfl rfl hE (by kernel_rfl) (by kernel_rfl) (by kernel_rfl) hS (v := (.bool ((((x8 && (decide (x2.1 = x3.1))) && (decide (x2.2 = x3.2))) && (decide (x4.1 = x5.1))) && (x4.2 == x5.2)))) (ex_asn rfl hE rfl) ?_
                      intro a hE
                      exact h_done (by kernel_rfl) ⟨_, _, hE.cut ⟨rfl, trivial⟩, hp⟩
                    ·
                      refine h_skip 23 (wk2 hE rfl rfl rfl hb10) rfl rfl rfl hE (by kernel_rfl) (by kernel_rfl) (by kernel_rfl) hS ?_
                      intro a hE
                      refine h_skip 24 (wk2 hE rfl rfl rfl hb10) rfl rfl rfl hE (by kernel_rfl) (by kernel_rfl) (by kernel_rfl) hS ?_
                      intro a hE
                      refine h_skip 25 (wk2 hE rfl rfl rfl hb10) rfl rfl rfl hE (by kernel_rfl) (by kernel_rfl) (by kernel_rfl) hS ?_
                      intro a hE
                      refine h_take 26 (wk0 rfl) rfl rfl rfl hE (by kernel_rfl) (by kernel_rfl) (by kernel_rfl) hS (v := (.bool false)) (ex_pick0 rfl hE rfl hb10 rfl) ?_
                      intro a hE
                      have hE := hE.eqv (v' := (.bool ((((x8 && (decide (x2.1 = x3.1))) && (decide (x2.2 = x3.2))) && (decide (x4.1 = x5.1))) && (x4.2 == x5.2)))) (by rw [hb10]; rfl)
                      refine h_take 27 (wk0 rfl) rfl rfl rfl hE (by kernel_rfl) (by kernel_rfl) (by kernel_rfl) hS (v := (.bool ((((x8 && (decide (x2.1 = x3.1))) && (decide (x2.2 = x3.2))) && (decide (x4.1 = x5.1))) && (x4.2 == x5.2)))) (ex_asn rfl hE rfl) ?_
                      intro a hE
                      exact h_done (by kernel_rfl) ⟨_, _, hE.cut ⟨rfl, trivial⟩, hp⟩
                  ·
                    refine h_skip 18 (wk2 hE rfl rfl rfl hb9) rfl rfl rfl hE (by kernel_rfl) (by kernel_rfl) (by kernel_rfl) hS ?_
                    intro a hE
                    refine h_skip 19 (wk2 hE rfl rfl rfl hb9) rfl rfl rfl hE (by kernel_rfl) (by kernel_rfl) (by kernel_rfl) hS ?_
                    intro a hE
                    refine h_skip 20 (wk2 hE rfl rfl rfl hb9) rfl rfl rfl hE (by kernel_rfl) (by kernel_rfl) (by kernel_rfl) hS ?_
                    intro a hE
                    refine h_take 21 (wk0 rfl) rfl rfl rfl hE (by kernel_rfl) (by kernel_rfl) (by kernel_rfl) hS (v := (.bool false)) (ex_pick0 rfl hE rfl hb9 rfl) ?_
                    intro a hE
                    have hE := hE.eqv (v' := (.bool (((x8 && (decide (x2.1 = x3.1))) && (decide (x2.2 = x3.2))) && (decide (x4.1 = x5.1))))) (by rw [hb9]; rfl)
                    refine h_take 22 (wk0 rfl) rfl rfl rfl hE (by kernel_rfl) (by kernel_rfl) (by kernel_rfl) hS (v := (.bool (((x8 && (decide (x2.1 = x3.1))) && (decide (x2.2 = x3.2))) && (decide (x4.1 = x5.1))))) (ex_move rfl hE rfl) ?_
                    intro a hE
                    rcases Bool.eq_false_or_eq_true (((x8 && (decide (x2.1 = x3.1))) && (decide (x2.2 = x3.2))) && (decide (x4.1 = x5.1))) with hb11 | hb11
                    ·
                      refine h_take 23 (wk1 hE rfl rfl rfl hb11) rfl rfl rfl hE (by kernel_rfl) (by kernel_rfl) (by kernel_rfl) hS (v := (.bool x4.2)) (ex_move rfl hE rfl) ?_
                      intro a hE
                      refine h_take 24 (wk1 hE rfl rfl rfl hb11) rfl rfl rfl hE (by kernel_rfl) (by kernel_rfl) (by kernel_rfl) hS (v := (.bool x5.2)) (ex_move rfl hE rfl) ?_
                      intro a hE
                      refine h_take 25 (wk1 hE rfl rfl rfl hb11) rfl rfl rfl hE (by kernel_rfl) (by kernel_rfl) (by kernel_rfl) hS (v := (.bool (x4.2 == x5.2))) (ex_beql bty4 rfl hE rfl rfl) ?_
                      intro a hE
                      refine h_take 26 (wk0 rfl) rfl rfl rfl hE (by kernel_rfl) (by kernel_rfl) (by kernel_rfl) hS (v := (.bool (x4.2 == x5.2))) (ex_pick1 rfl hE rfl hb11 rfl) ?_
                      intro a hE
                      have hE := hE.eqv (v' := (.bool ((((x8 && (decide (x2.1 = x3.1))) && (decide (x2.2 = x3.2))) && (decide (x4.1 = x5.1))) && (x4.2 == x5.2)))) (by rw [hb11]; rfl)
                      refine h_take 27 (wk0 rfl) rfl rfl rfl hE (by kernel_rfl) (by kernel_rfl) (by kernel_rfl) hS (v := (.bool ((((x8 && (decide (x2.1 = x3.1))) && (decide (x2.2 = x3.2))) && (decide (x4.1 = x5.1))) && (x4.2 == x5.2)))) (ex_asn rfl hE rfl) ?_
                      intro a hE
                      exact h_done (by kernel_rfl) ⟨_, _, hE.cut ⟨rfl, trivial⟩, hp⟩
                    ·
                      refine h_skip 23 (wk2 hE rfl rfl rfl hb11) rfl rfl rfl hE (by kernel_rfl) (by kernel_rfl) (by kernel_rfl) hS ?_
                      intro a hE
                      refine h_skip 24 (wk2 hE rfl rfl rfl hb11) rfl rfl rfl hE (by kernel_rfl) (by kernel_rfl) (by kernel_rfl) hS ?_
                      intro a hE
                      refine h_skip 25 (wk2 hE rfl rfl rfl hb11) rfl rfl rfl hE (by kernel_rfl) (by kernel_rfl) (by kernel_rfl) hS ?_
                      intro a hE
                      refine h_take 26 (wk0 rfl) rfl rfl rfl hE (by kernel_rfl) (by kernel_rfl) (by kernel_rfl) hS (v := (.bool false)) (ex_pick0 rfl hE rfl hb11 rfl) ?_
                      intro a hE
                      have hE := hE.eqv (v' := (.bool ((((x8 && (decide (x2.1 = x3.1))) && (decide (x2.2 = x3.2))) && (decide (x4.1 = x5.1))) && (x4.2 == x5.2)))) (by rw [hb11]; rfl)
                      refine h_take 27 (wk0 rfl) rfl rfl rfl hE (by kernel_rfl) (by kernel_rfl) (by kernel_rfl) hS (v := (.bool ((((x8 && (decide (x2.1 = x3.1))) && (decide (x2.2 = x3.2))) && (decide (x4.1 = x5.1))) && (x4.2 == x5.2)))) (ex_asn rfl hE rfl) ?_
                      intro a hE
                      exact h_done (by kernel_rfl) ⟨_, _, hE.cut ⟨rfl, trivial⟩, hp⟩
                ·
                  refine h_skip 13 (wk2 hE rfl rfl rfl hb8) rfl rfl rfl hE (by kernel_rfl) (by kernel_rfl) (by kernel_rfl) hS ?_
                  intro a hE
                  refine h_skip 14 (wk2 hE rfl rfl rfl hb8) rfl rfl rfl hE (by kernel_rfl) (by kernel_rfl) (by kernel_rfl) hS ?_
                  intro a hE
                  refine h_skip 15 (wk2 hE rfl rfl rfl hb8) rfl rfl rfl hE (by kernel_rfl) (by kernel_rfl) (by kernel_rfl) hS ?_
                  intro a hE
                  refine h_take 16 (wk0 rfl) rfl rfl rfl hE (by kernel_rfl) (by kernel_rfl) (by kernel_rfl) hS (v := (.bool false)) (ex_pick0 rfl hE rfl hb8 rfl) ?_
                  intro a hE
                  have hE := hE.eqv (v' := (.bool ((x8 && (decide (x2.1 = x3.1))) && (decide (x2.2 = x3.2))))) (by rw [hb8]; rfl)
                  refine h_take 17 (wk0 rfl) rfl rfl rfl hE (by kernel_rfl) (by kernel_rfl) (by kernel_rfl) hS (v := (.bool ((x8 && (decide (x2.1 = x3.1))) && (decide (x2.2 = x3.2))))) (ex_move rfl hE rfl) ?_
                  intro a hE
                  rcases Bool.eq_false_or_eq_true ((x8 && (decide (x2.1 = x3.1))) && (decide (x2.2 = x3.2))) with hb12 | hb12
                  ·
                    refine h_take 18 (wk1 hE rfl rfl rfl hb12) rfl rfl rfl hE (by kernel_rfl) (by kernel_rfl) (by kernel_rfl) hS (v := (.int .i64 x4.1)) (ex_move rfl hE rfl) ?_
                    intro a hE
                    refine h_take 19 (wk1 hE rfl rfl rfl hb12) rfl rfl rfl hE (by kernel_rfl) (by kernel_rfl) (by kernel_rfl) hS (v := (.int .i64 x5.1)) (ex_move rfl hE rfl) ?_
                    intro a hE
                    refine h_take 20 (wk1 hE rfl rfl rfl hb12) rfl rfl rfl hE (by kernel_rfl) (by kernel_rfl) (by kernel_rfl) hS (v := (.bool (decide (x4.1 = x5.1)))) (ex_eql rfl hE rfl rfl) ?_
                    intro a hE
                    refine h_take 21 (wk0 rfl) rfl rfl rfl hE (by kernel_rfl) (by kernel_rfl) (by kernel_rfl) hS (v := (.bool (decide (x4.1 = x5.1)))) (ex_pick1 rfl hE rfl hb12 rfl) ?_
                    intro a hE
                    have hE := hE.eqv (v' := (.bool (((x8 && (decide (x2.1 = x3.1))) && (decide (x2.2 = x3.2))) && (decide (x4.1 = x5.1))))) (by rw [hb12]; rfl)
                    refine h_take 22 (wk0 rfl) rfl rfl rfl hE (by kernel_rfl) (by kernel_rfl) (by kernel_rfl) hS (v := (.bool (((x8 && (decide (x2.1 = x3.1))) && (decide (x2.2 = x3.2))) && (decide (x4.1 = x5.1))))) (ex_move rfl hE rfl) ?_
                    intro a hE
                    rcases Bool.eq_false_or_eq_true (((x8 && (decide (x2.1 = x3.1))) && (decide (x2.2 = x3.2))) && (decide (x4.1 = x5.1))) with hb13 | hb13
                    ·
                      refine h_take 23 (wk1 hE rfl rfl rfl hb13) rfl rfl rfl hE (by kernel_rfl) (by kernel_rfl) (by kernel_rfl) hS (v := (.bool x4.2)) (ex_move rfl hE rfl) ?_
                      intro a hE
                      refine h_take 24 (wk1 hE rfl rfl rfl hb13) rfl rfl rfl hE (by kernel_rfl) (by kernel_rfl) (by kernel_rfl) hS (v := (.bool x5.2)) (ex_move rfl hE rfl) ?_
                      intro a hE
                      refine h_take 25 (wk1 hE rfl rfl rfl hb13) rfl rfl rfl hE (by kernel_rfl) (by kernel_rfl) (by kernel_rfl) hS (v := (.bool (x4.2 == x5.2))) (ex_beql bty4 rfl hE rfl rfl) ?_
                      intro a hE
                      refine h_take 26 (wk0 rfl) rfl rfl rfl hE (by kernel_rfl) (by kernel_rfl) (by kernel_rfl) hS (v := (.bool (x4.2 == x5.2))) (ex_pick1 rfl hE rfl hb13 rfl) ?_
                      intro a hE
                      have hE := hE.eqv (v' := (.bool ((((x8 && (decide (x2.1 = x3.1))) && (decide (x2.2 = x3.2))) && (decide (x4.1 = x5.1))) && (x4.2 == x5.2)))) (by rw [hb13]; rfl)
                      refine h_take 27 (wk0 rfl) rfl rfl rfl hE (by kernel_rfl) (by kernel_rfl) (by kernel_rfl) hS (v := (.bool ((((x8 && (decide (x2.1 = x3.1))) && (decide (x2.2 = x3.2))) && (decide (x4.1 = x5.1))) && (x4.2 == x5.2)))) (ex_asn rfl hE rfl) ?_
                      intro a hE
                      exact h_done (by kernel_rfl) ⟨_, _, hE.cut ⟨rfl, trivial⟩, hp⟩
                    ·
                      refine h_skip 23 (wk2 hE rfl rfl rfl hb13) rfl rfl rfl hE (by kernel_rfl) (by kernel_rfl) (by kernel_rfl) hS ?_
                      intro a hE
                      refine h_skip 24 (wk2 hE rfl rfl rfl hb13) rfl rfl rfl hE (by kernel_rfl) (by kernel_rfl) (by kernel_rfl) hS ?_
                      intro a hE
                      refine h_skip 25 (wk2 hE rfl rfl rfl hb13) rfl rfl rfl hE (by kernel_rfl) (by kernel_rfl) (by kernel_rfl) hS ?_
                      intro a hE
                      refine h_take 26 (wk0 rfl) rfl rfl rfl hE (by kernel_rfl) (by kernel_rfl) (by kernel_rfl) hS (v := (.bool false)) (ex_pick0 rfl hE rfl hb13 rfl) ?_
                      intro a hE
                      have hE := hE.eqv (v' := (.bool ((((x8 && (decide (x2.1 = x3.1))) && (decide (x2.2 = x3.2))) && (decide (x4.1 = x5.1))) && (x4.2 == x5.2)))) (by rw [hb13]; rfl)
                      refine h_take 27 (wk0 rfl) rfl rfl rfl hE (by kernel_rfl) (by kernel_rfl) (by kernel_rfl) hS (v := (.bool ((((x8 && (decide (x2.1 = x3.1))) && (decide (x2.2 = x3.2))) && (decide (x4.1 = x5.1))) && (x4.2 == x5.2)))) (ex_asn rfl hE rfl) ?_
                      intro a hE
                      exact h_done (by kernel_rfl) ⟨_, _, hE.cut ⟨rfl, trivial⟩, hp⟩
                  ·
                    refine h_skip 18 (wk2 hE rfl rfl rfl hb12) rfl rfl rfl hE (by kernel_rfl) (by kernel_rfl) (by kernel_rfl) hS ?_
                    intro a hE
                    refine h_skip 19 (wk2 hE rfl rfl rfl hb12) rfl rfl rfl hE (by kernel_rfl) (by kernel_rfl) (by kernel_rfl) hS ?_
                    intro a hE
                    refine h_skip 20 (wk2 hE rfl rfl rfl hb12) rfl rfl rfl hE (by kernel_rfl) (by kernel_rfl) (by kernel_rfl) hS ?_
                    intro a hE
                    refine h_take 21 (wk0 rfl) rfl rfl rfl hE (by kernel_rfl) (by kernel_rfl) (by kernel_rfl) hS (v := (.bool false)) (ex_pick0 rfl hE rfl hb12 rfl) ?_
                    intro a hE
                    have hE := hE.eqv (v' := (.bool (((x8 && (decide (x2.1 = x3.1))) && (decide (x2.2 = x3.2))) && (decide (x4.1 = x5.1))))) (by rw [hb12]; rfl)
                    refine h_take 22 (wk0 rfl) rfl rfl rfl hE (by kernel_rfl) (by kernel_rfl) (by kernel_rfl) hS (v := (.bool (((x8 && (decide (x2.1 = x3.1))) && (decide (x2.2 = x3.2))) && (decide (x4.1 = x5.1))))) (ex_move rfl hE rfl) ?_
                    intro a hE
                    rcases Bool.eq_false_or_eq_true (((x8 && (decide (x2.1 = x3.1))) && (decide (x2.2 = x3.2))) && (decide (x4.1 = x5.1))) with hb14 | hb14
                    ·
                      refine h_take 23 (wk1 hE rfl rfl rfl hb14) rfl rfl rfl hE (by kernel_rfl) (by kernel_rfl) (by kernel_rfl) hS (v := (.bool x4.2)) (ex_move rfl hE rfl) ?_
                      intro a hE
                      refine h_take 24 (wk1 hE rfl rfl rfl hb14) rfl rfl rfl hE (by kernel_rfl) (by kernel_rfl) (by kernel_rfl) hS (v := (.bool x5.2)) (ex_move rfl hE rfl) ?_
                      intro a hE
                      refine h_take 25 (wk1 hE rfl rfl rfl hb14) rfl rfl rfl hE (by kernel_rfl) (by kernel_rfl) (by kernel_rfl) hS (v := (.bool (x4.2 == x5.2))) (ex_beql bty4 rfl hE rfl rfl) ?_
                      intro a hE
                      refine h_take 26 (wk0 rfl) rfl rfl rfl hE (by kernel_rfl) (by kernel_rfl) (by kernel_rfl) hS (v := (.bool (x4.2 == x5.2))) (ex_pick1 rfl hE rfl hb14 rfl) ?_
                      intro a hE
                      have hE := hE.eqv (v' := (.bool ((((x8 && (decide (x2.1 = x3.1))) && (decide (x2.2 = x3.2))) && (decide (x4.1 = x5.1))) && (x4.2 == x5.2)))) (by rw [hb14]; rfl)
                      refine h_take 27 (wk0 rfl) rfl rfl rfl hE (by kernel_rfl) (by kernel_rfl) (by kernel_rfl) hS (v := (.bool ((((x8 && (decide (x2.1 = x3.1))) && (decide (x2.2 = x3.2))) && (decide (x4.1 = x5.1))) && (x4.2 == x5.2)))) (ex_asn rfl hE rfl) ?_
                      intro a hE
                      exact h_done (by kernel_rfl) ⟨_, _, hE.cut ⟨rfl, trivial⟩, hp⟩
                    ·
                      refine h_skip 23 (wk2 hE rfl rfl rfl hb14) rfl rfl rfl hE (by kernel_rfl) (by kernel_rfl) (by kernel_rfl) hS ?_
                      intro a hE
                      refine h_skip 24 (wk2 hE rfl rfl rfl hb14) rfl rfl rfl hE (by kernel_rfl) (by kernel_rfl) (by kernel_rfl) hS ?_
                      intro a hE
                      refine h_skip 25 (wk2 hE rfl rfl rfl hb14) rfl rfl rfl hE (by kernel_rfl) (by kernel_rfl) (by kernel_rfl) hS ?_
                      intro a hE
                      refine h_take 26 (wk0 rfl) rfl rfl rfl hE (by kernel_rfl) (by kernel_rfl) (by kernel_rfl) hS (v := (.bool false)) (ex_pick0 rfl hE rfl hb14 rfl) ?_
                      intro a hE
                      have hE := hE.eqv (v' := (.bool ((((x8 && (decide (x2.1 = x3.1))) && (decide (x2.2 = x3.2))) && (decide (x4.1 = x5.1))) && (x4.2 == x5.2)))) (by rw [hb14]; rfl)
                      refine h_take 27 (wk0 rfl) rfl rfl rfl hE (by kernel_rfl) (by kernel_rfl) (by kernel_rfl) hS (v := (.bool ((((x8 && (decide (x2.1 = x3.1))) && (decide (x2.2 = x3.2))) && (decide (x4.1 = x5.1))) && (x4.2 == x5.2)))) (ex_asn rfl hE rfl) ?_
                      intro a hE
                      exact h_done (by kernel_rfl) ⟨_, _, hE.cut ⟨rfl, trivial⟩, hp⟩
              ·
                refine h_skip 8 (wk2 hE rfl rfl rfl hb7) rfl rfl rfl hE (by kernel_rfl) (by kernel_rfl) (by kernel_rfl) hS ?_
                intro a hE
                refine h_skip 9 (wk2 hE rfl rfl rfl hb7) rfl rfl rfl hE (by kernel_rfl) (by kernel_rfl) (by kernel_rfl) hS ?_
                intro a hE
                refine h_skip 10 (wk2 hE rfl rfl rfl hb7) rfl rfl rfl hE (by kernel_rfl) (by kernel_rfl) (by kernel_rfl) hS ?_
                intro a hE
                refine h_take 11 (wk0 rfl) rfl rfl rfl hE (by kernel_rfl) (by kernel_rfl) (by kernel_rfl) hS (v := (.bool false)) (ex_pick0 rfl hE rfl hb7 rfl) ?_
                intro a hE
                have hE := hE.eqv (v' := (.bool (x8 && (decide (x2.1 = x3.1))))) (by rw [hb7]; rfl)
                refine h_take 12 (wk0 rfl) rfl rfl rfl hE (by kernel_rfl) (by kernel_rfl) (by kernel_rfl) hS (v := (.bool (x8 && (decide (x2.1 = x3.1))))) (ex_move rfl hE rfl) ?_
                intro a hE
                rcases Bool.eq_false_or_eq_true (x8 && (decide (x2.1 = x3.1))) with hb15 | hb15
                ·
                  refine h_take 13 (wk1 hE rfl rfl rfl hb15) rfl rfl rfl hE (by kernel_rfl) (by kernel_rfl) (by kernel_rfl) hS (v := (.int .i64 x2.2)) (ex_move rfl hE rfl) ?_
                  intro a hE
                  refine h_take 14 (wk1 hE rfl rfl rfl hb15) rfl rfl rfl hE (by kernel_rfl) (by kernel_rfl) (by kernel_rfl) hS (v := (.int .i64 x3.2)) (ex_move rfl hE rfl) ?_
                  intro a hE
                  refine h_take 15 (wk1 hE rfl rfl rfl hb15) rfl rfl rfl hE (by kernel_rfl) (by kernel_rfl) (by kernel_rfl) hS (v := (.bool (decide (x2.2 = x3.2)))) (ex_eql rfl hE rfl rfl) ?_
                  intro a hE
                  refine h_take 16 (wk0 rfl) rfl rfl rfl hE (by kernel_rfl) (by kernel_rfl) (by kernel_rfl) hS (v := (.bool (decide (x2.2 = x3.2)))) (ex_pick1 rfl hE rfl hb15 rfl) ?_
                  intro a hE
                  have hE := hE.eqv (v' := (.bool ((x8 && (decide (x2.1 = x3.1))) && (decide (x2.2 = x3.2))))) (by rw [hb15]; rfl)
                  refine h_take 17 (wk0 rfl) rfl rfl rfl hE (by kernel_rfl) (by kernel_rfl) (by kernel_rfl) hS (v := (.bool ((x8 && (decide (x2.1 = x3.1))) && (decide (x2.2 = x3.2))))) (ex_move rfl hE rfl) ?_
                  intro a hE
                  rcases Bool.eq_false_or_eq_true ((x8 && (decide (x2.1 = x3.1))) && (decide (x2.2 = x3.2))) with hb16 | hb16
                  ·
                    refine h_take 18 (wk1 hE rfl rfl rfl hb16) rfl rfl rfl hE (by kernel_rfl) (by kernel_rfl) (by kernel_rfl) hS (v := (.int .i64 x4.1)) (ex_move rfl hE rfl) ?_
                    intro a hE
                    refine h_take 19 (wk1 hE rfl rfl rfl hb16) rfl rfl rfl hE (by kernel_rfl) (by kernel_rfl) (by kernel_rfl) hS (v := (.int .i64 x5.1)) (ex_move rfl hE rfl) ?_
                    intro a hE
                    refine h_take 20 (wk1 hE rfl rfl rfl hb16) rfl rfl rfl hE (by kernel_rfl) (by kernel_rfl) (by kernel_rfl) hS (v := (.bool (decide (x4.1 = x5.1)))) (ex_eql rfl hE rfl rfl) ?_
                    intro a hE
                    refine h_take 21 (wk0 rfl) rfl rfl rfl hE (by kernel_rfl) (by kernel_rfl) (by kernel_rfl) hS (v := (.bool (decide (x4.1 = x5.1)))) (ex_pick1 rfl hE rfl hb16 rfl) ?_
                    intro a hE
                    have hE := hE.eqv (v' := (.bool (((x8 && (decide (x2.1 = x3.1))) && (decide (x2.2 = x3.2))) && (decide (x4.1 = x5.1))))) (by rw [hb16]; rfl)
                    refine h_take 22 (wk0 rfl) rfl rfl rfl hE (by kernel_rfl) (by kernel_rfl) (by kernel_rfl) hS (v := (.bool (((x8 && (decide (x2.1 = x3.1))) && (decide (x2.2 = x3.2))) && (decide (x4.1 = x5.1))))) (ex_move rfl hE rfl) ?_
                    intro a hE
                    rcases Bool.eq_false_or_eq_true (((x8 && (decide (x2.1 = x3.1))) && (decide (x2.2 = x3.2))) && (decide (x4.1 = x5.1))) with hb17 | hb17
                    ·
                      refine h_take 23 (wk1 hE rfl rfl rfl hb17) rfl rfl rfl hE (by kernel_rfl) (by kernel_rfl) (by kernel_rfl) hS (v := (.bool x4.2)) (ex_move rfl hE rfl) ?_
                      intro a hE
                      refine h_take 24 (wk1 hE rfl rfl rfl hb17) rfl rfl rfl hE (by kernel_rfl) (by kernel_rfl) (by kernel_rfl) hS (v := (.bool x5.2)) (ex_move rfl hE rfl) ?_
                      intro a hE
                      refine h_take 25 (wk1 hE rfl rfl rfl hb17) rfl rfl rfl hE (by kernel_rfl) (by kernel_rfl) (by kernel_rfl) hS (v := (.bool (x4.2 == x5.2))) (ex_beql bty4 rfl hE rfl rfl) ?_
                      intro a hE
                      refine h_take 26 (wk0 rfl) rfl rfl rfl hE (by kernel_rfl) (by kernel_rfl) (by kernel_rfl) hS (v := (.bool (x4.2 == x5.2))) (ex_pick1 rfl hE rfl hb17 rfl) ?_
                      intro a hE
                      have hE := hE.eqv (v' := (.bool ((((x8 && (decide (x2.1 = x3.1))) && (decide (x2.2 = x3.2))) && (decide (x4.1 = x5.1))) && (x4.2 == x5.2)))) (by rw [hb17]; rfl)
                      refine h_take 27 (wk0 rfl) rfl rfl rfl hE (by kernel_rfl) (by kernel_rfl) (by kernel_rfl) hS (v := (.bool ((((x8 && (decide (x2.1 = x3.1))) && (decide (x2.2 = x3.2))) && (decide (x4.1 = x5.1))) && (x4.2 == x5.2)))) (ex_asn rfl hE rfl) ?_
                      intro a hE
                      exact h_done (by kernel_rfl) ⟨_, _, hE.cut ⟨rfl, trivial⟩, hp⟩
                    ·
                      refine h_skip 23 (wk2 hE rfl rfl rfl hb17) rfl rfl rfl hE (by kernel_rfl) (by kernel_rfl) (by kernel_rfl) hS ?_
                      intro a hE
                      refine h_skip 24 (wk2 hE rfl rfl rfl hb17) rfl rfl rfl hE (by kernel_rfl) (by kernel_rfl) (by kernel_rfl) hS ?_
                      intro a hE
                      refine h_skip 25 (wk2 hE rfl rfl rfl hb17) rfl rfl rfl hE (by kernel_rfl) (by kernel_rfl) (by kernel_rfl) hS ?_
                      intro a hE
                      refine h_take 26 (wk0 rfl) rfl rfl rfl hE (by kernel_rfl) (by kernel_rfl) (by kernel_rfl) hS (v := (.bool false)) (ex_pick0 rfl hE rfl hb17 rfl) ?_
                      intro a hE
                      have hE := hE.eqv (v' := (.bool ((((x8 && (decide (x2.1 = x3.1))) && (decide (x2.2 = x3.2))) && (decide (x4.1 = x5.1))) && (x4.2 == x5.2)))) (by rw [hb17]; rfl)
                      refine h_take 27 (wk0 rfl) rfl rfl rfl hE (by kernel_rfl) (by kernel_rfl) (by kernel_rfl) hS (v := (.bool ((((x8 && (decide (x2.1 = x3.1))) && (decide (x2.2 = x3.2))) && (decide (x4.1 = x5.1))) && (x4.2 == x5.2)))) (ex_asn rfl hE rfl) ?_
                      intro a hE
                      exact h_done (by kernel_rfl) ⟨_, _, hE.cut ⟨rfl, trivial⟩, hp⟩
                  ·
                    refine h_skip 18 (wk2 hE rfl rfl rfl hb16) rfl rfl rfl hE (by kernel_rfl) (by kernel_rfl) (by kernel_rfl) hS ?_
                    intro a hE
                    refine h_skip 19 (wk2 hE rfl rfl rfl hb16) rfl rfl rfl hE (by kernel_rfl) (by kernel_rfl) (by kernel_rfl) hS ?_
                    intro a hE
                    refine h_skip 20 (wk2 hE rfl rfl rfl hb16) rfl rfl rfl hE (by kernel_rfl) (by kernel_rfl) (by kernel_rfl) hS ?_
                    intro a hE
                    refine h_take 21 (wk0 rfl) rfl rfl rfl hE (by kernel_rfl) (by kernel_rfl) (by kernel_rfl) hS (v := (.bool false)) (ex_pick0 rfl hE rfl hb16 rfl) ?_
                    intro a hE
                    have hE := hE.eqv (v' := (.bool (((x8 && (decide (x2.1 = x3.1))) && (decide (x2.2 = x3.2))) && (decide (x4.1 = x5.1))))) (by rw [hb16]; rfl)
                    refine h_take 22 (wk0 rfl) rfl rfl rfl hE (by kernel_rfl) (by kernel_rfl) (by kernel_rfl) hS (v := (.bool (((x8 && (decide (x2.1 = x3.1))) && (decide (x2.2 = x3.2))) && (decide (x4.1 = x5.1))))) (ex_move rfl hE rfl) ?_
                    intro a hE
                    rcases Bool.eq_false_or_eq_true (((x8 && (decide (x2.1 = x3.1))) && (decide (x2.2 = x3.2))) && (decide (x4.1 = x5.1))) with hb18 | hb18
                    ·
                      refine h_take 23 (wk1 hE rfl rfl rfl hb18) rfl rfl rfl hE (by kernel_rfl) (by kernel_rfl) (by kernel_rfl) hS (v := (.bool x4.2)) (ex_move rfl hE rfl) ?_
                      intro a hE
                      refine h_take 24 (wk1 hE rfl rfl rfl hb18) rfl rfl rfl hE (by kernel_rfl) (by kernel_rfl) (by kernel_rfl) hS (v := (.bool x5.2)) (ex_move rfl hE rfl) ?_
                      intro a hE
                      refine h_take 25 (wk1 hE rfl rfl rfl hb18) rfl rfl rfl hE (by kernel_rfl) (by kernel_rfl) (by kernel_rfl) hS (v := (.bool (x4.2 == x5.2))) (ex_beql bty4 rfl hE rfl rfl) ?_
                      intro a hE
                      refine h_take 26 (wk0 rfl) rfl rfl rfl hE (by kernel_rfl) (by kernel_rfl) (by kernel_rfl) hS (v := (.bool (x4.2 == x5.2))) (ex_pick1 rfl hE rfl hb18 rfl) ?_
                      intro a hE
                      have hE := hE.eqv (v' := (.bool ((((x8 && (decide (x2.1 = x3.1))) && (decide (x2.2 = x3.2))) && (decide (x4.1 = x5.1))) && (x4.2 == x5.2)))) (by rw [hb18]; rfl)
                      refine h_take 27 (wk0 rfl) rfl rfl rfl hE (by kernel_rfl) (by kernel_rfl) (by kernel_rfl) hS (v := (.bool ((((x8 && (decide (x2.1 = x3.1))) && (decide (x2.2 = x3.2))) && (decide (x4.1 = x5.1))) && (x4.2 == x5.2)))) (ex_asn rfl hE rfl) ?_
                      intro a hE
                      exact h_done (by kernel_rfl) ⟨_, _, hE.cut ⟨rfl, trivial⟩, hp⟩
                    ·
                      refine h_skip 23 (wk2 hE rfl rfl rfl hb18) rfl rfl rfl hE (by kernel_rfl) (by kernel_rfl) (by kernel_rfl) hS ?_
                      intro a hE
                      refine h_skip 24 (wk2 hE rfl rfl rfl hb18) rfl rfl rfl hE (by kernel_rfl) (by kernel_rfl) (by kernel_rfl) hS ?_
                      intro a hE
                      refine h_skip 25 (wk2 hE rfl rfl rfl hb18) rfl rfl rfl hE (by kernel_rfl) (by kernel_rfl) (by kernel_rfl) hS ?_
                      intro a hE
                      refine h_take 26 (wk0 rfl) rfl rfl rfl hE (by kernel_rfl) (by kernel_rfl) (by kernel_rfl) hS (v := (.bool false)) (ex_pick0 rfl hE rfl hb18 rfl) ?_
                      intro a hE
                      have hE := hE.eqv (v' := (.bool ((((x8 && (decide (x2.1 = x3.1))) && (decide (x2.2 = x3.2))) && (decide (x4.1 = x5.1))) && (x4.2 == x5.2)))) (by rw [hb18]; rfl)
                      refine h_take 27 (wk0 rfl) rfl rfl rfl hE (by kernel_rfl) (by kernel_rfl) (by kernel_rfl) hS (v := (.bool ((((x8 && (decide (x2.1 = x3.1))) && (decide (x2.2 = x3.2))) && (decide (x4.1 = x5.1))) && (x4.2 == x5.2)))) (ex_asn rfl hE rfl) ?_
                      intro a hE
                      exact h_done (by kernel_rfl) ⟨_, _, hE.cut ⟨rfl, trivial⟩, hp⟩
                ·
                  refine h_skip 13 (wk2 hE rfl rfl rfl hb15) rfl rfl rfl hE (by kernel_rfl) (by kernel_rfl) (by kernel_rfl) hS ?_
                  intro a hE
                  refine h_skip 14 (wk2 hE rfl rfl rfl hb15) rfl rfl rfl hE (by kernel_rfl) (by kernel_rfl) (by kernel_rfl) hS ?_
                  intro a hE
                  refine h_skip 15 (wk2 hE rfl rfl rfl hb15) rfl rfl rfl hE (by kernel_rfl) (by kernel_rfl) (by kernel_rfl) hS ?_
                  intro a hE
                  refine h_take 16 (wk0 rfl) rfl rfl rfl hE (by kernel_rfl) (by kernel_rfl) (by kernel_rfl) hS (v := (.bool false)) (ex_pick0 rfl hE rfl hb15 rfl) ?_
                  intro a hE
                  have hE := hE.eqv (v' := (.bool ((x8 && (decide (x2.1 = x3.1))) && (decide (x2.2 = x3.2))))) (by rw [hb15]; rfl)
                  refine h_take 17 (wk0 rfl) rfl rfl rfl hE (by kernel_rfl) (by kernel_rfl) (by kernel_rfl) hS (v := (.bool ((x8 && (decide (x2.1 = x3.1))) && (decide (x2.2 = x3.2))))) (ex_move rfl hE rfl) ?_
                  intro a hE
                  rcases Bool.eq_false_or_eq_true ((x8 && (decide (x2.1 = x3.1))) && (decide (x2.2 = x3.2))) with hb19 | hb19
                  ·
                    refine h_take 18 (wk1 hE rfl rfl rfl hb19) rfl rfl rfl hE (by kernel_rfl) (by kernel_rfl) (by kernel_rfl) hS (v := (.int .i64 x4.1)) (ex_move rfl hE rfl) ?_
                    intro a hE
                    refine h_take 19 (wk1 hE rfl rfl rfl hb19) rfl rfl rfl hE (by kernel_rfl) (by kernel_rfl) (by kernel_rfl) hS (v := (.int .i64 x5.1)) (ex_move rfl hE rfl) ?_
                    intro a hE
                    refine h_take 20 (wk1 hE rfl rfl rfl hb19) rfl rfl rfl hE (by kernel_rfl) (by kernel_rfl) (by kernel_rfl) hS (v := (.bool (decide (x4.1 = x5.1)))) (ex_eql rfl hE rfl rfl) ?_
                    intro a hE
                    refine h_take 21 (wk0 rfl) rfl rfl rfl hE (by kernel_rfl) (by kernel_rfl) (by kernel_rfl) hS (v := (.bool (decide (x4.1 = x5.1)))) (ex_pick1 rfl hE rfl hb19 rfl) ?_
                    intro a hE
                    have hE := hE.eqv (v' := (.bool (((x8 && (decide (x2.1 = x3.1))) && (decide (x2.2 = x3.2))) && (decide (x4.1 = x5.1))))) (by rw [hb19]; rfl)
                    refine h_take 22 (wk0 rfl) rfl rfl rfl hE (by kernel_rfl) (by kernel_rfl) (by kernel_rfl) hS (v := (.bool (((x8 && (decide (x2.1 = x3.1))) && (decide (x2.2 = x3.2))) && (decide (x4.1 = x5.1))))) (ex_move rfl hE rfl) ?_
                    intro a hE
                    rcases Bool.eq_false_or_eq_true (((x8 && (decide (x2.1 = x3.1))) && (decide (x2.2 = x3.2))) && (decide (x4.1 = x5.1))) with hb20 | hb20
                    ·
                      refine h_take 23 (wk1 hE rfl rfl rfl hb20) rfl rfl rfl hE (by kernel_rfl) (by kernel_rfl) (by kernel_rfl) hS (v := (.bool x4.2)) (ex_move rfl hE rfl) ?_
                      intro a hE
                      refine h_take 24 (wk1 hE rfl rfl rfl hb20) rfl rfl rfl hE (by kernel_rfl) (by kernel_rfl) (by kernel_rfl) hS (v := (.bool x5.2)) (ex_move rfl hE rfl) ?_
                      intro a hE
                      refine h_take 25 (wk1 hE rfl rfl rfl hb20) rfl rfl rfl hE (by kernel_rfl) (by kernel_rfl) (by kernel_rfl) hS (v := (.bool (x4.2 == x5.2))) (ex_beql bty4 rfl hE rfl rfl) ?_
                      intro a hE
                      refine h_take 26 (wk0 rfl) rfl rfl rfl hE (by kernel_rfl) (by kernel_rfl) (by kernel_rfl) hS (v := (.bool (x4.2 == x5.2))) (ex_pick1 rfl hE rfl hb20 rfl) ?_
                      intro a hE
                      have hE := hE.eqv (v' := (.bool ((((x8 && (decide (x2.1 = x3.1))) && (decide (x2.2 = x3.2))) && (decide (x4.1 = x5.1))) && (x4.2 == x5.2)))) (by rw [hb20]; rfl)
                      refine h_take 27 (wk0 rfl) rfl rfl rfl hE (by kernel_rfl) (by kernel_rfl) (by kernel_rfl) hS (v := (.bool ((((x8 && (decide (x2.1 = x3.1))) && (decide (x2.2 = x3.2))) && (decide (x4.1 = x5.1))) && (x4.2 == x5.2)))) (ex_asn rfl hE rfl) ?_
                      intro a hE
                      exact h_done (by kernel_rfl) ⟨_, _, hE.cut ⟨rfl, trivial⟩, hp⟩
                    ·
                      refine h_skip 23 (wk2 hE rfl rfl rfl hb20) rfl rfl rfl hE (by kernel_rfl) (by kernel_rfl) (by kernel_rfl) hS ?_
                      intro a hE
                      refine h_skip 24 (wk2 hE rfl rfl rfl hb20) rfl rfl rfl hE (by kernel_rfl) (by kernel_rfl) (by kernel_rfl) hS ?_
                      intro a hE
                      refine h_skip 25 (wk2 hE rfl rfl rfl hb20) rfl rfl rfl hE (by kernel_rfl) (by kernel_rfl) (by kernel_rfl) hS ?_
                      intro a hE
                      refine h_take 26 (wk0 rfl) rfl rfl rfl hE (by kernel_rfl) (by kernel_rfl) (by kernel_rfl) hS (v := (.bool false)) (ex_pick0 rfl hE rfl hb20 rfl) ?_
                      intro a hE
                      have hE := hE.eqv (v' := (.bool ((((x8 && (decide (x2.1 = x3.1))) && (decide (x2.2 = x3.2))) && (decide (x4.1 = x5.1))) && (x4.2 == x5.2)))) (by rw [hb20]; rfl)
                      refine h_take 27 (wk0 rfl) rfl rfl rfl hE (by kernel_rfl) (by kernel_rfl) (by kernel_rfl) hS (v := (.bool ((((x8 && (decide (x2.1 = x3.1))) && (decide (x2.2 = x3.2))) && (decide (x4.1 = x5.1))) && (x4.2 == x5.2)))) (ex_asn rfl hE rfl) ?_
                      intro a hE
                      exact h_done (by kernel_rfl) ⟨_, _, hE.cut ⟨rfl, trivial⟩, hp⟩
                  ·
                    refine h_skip 18 (wk2 hE rfl rfl rfl hb19) rfl rfl rfl hE (by kernel_rfl) (by kernel_rfl) (by kernel_rfl) hS ?_
                    intro a hE
                    refine h_skip 19 (wk2 hE rfl rfl rfl hb19) rfl rfl rfl hE (by kernel_rfl) (by kernel_rfl) (by kernel_rfl) hS ?_
                    intro a hE
                    refine h_skip 20 (wk2 hE rfl rfl rfl hb19) rfl rfl rfl hE (by kernel_rfl) (by kernel_rfl) (by kernel_rfl) hS ?_
                    intro a hE
                    refine h_take 21 (wk0 rfl) rfl rfl rfl hE (by kernel_rfl) (by kernel_rfl) (by kernel_rfl) hS (v := (.bool false)) (ex_pick0 rfl hE rfl hb19 rfl) ?_
                    intro a hE
                    have hE := hE.eqv (v' := (.bool (((x8 && (decide (x2.1 = x3.1))) && (decide (x2.2 = x3.2))) && (decide (x4.1 = x5.1))))) (by rw [hb19]; rfl)
                    refine h_take 22 (wk0 rfl) rfl rfl rfl hE (by kernel_rfl) (by kernel_rfl) (by kernel_rfl) hS (v := (.bool (((x8 && (decide (x2.1 = x3.1))) && (decide (x2.2 = x3.2))) && (decide (x4.1 = x5.1))))) (ex_move rfl hE rfl) ?_
                    intro a hE
                    rcases Bool.eq_false_or_eq_true (((x8 && (decide (x2.1 = x3.1))) && (decide (x2.2 = x3.2))) && (decide (x4.1 = x5.1))) with hb21 | hb21
                    ·
                      refine h_take 23 (wk1 hE rfl rfl rfl hb21) rfl rfl rfl hE (by kernel_rfl) (by kernel_rfl) (by kernel_rfl) hS (v := (.bool x4.2)) (ex_move rfl hE rfl) ?_
                      intro a hE
                      refine h_take 24 (wk1 hE rfl rfl rfl hb21) rfl rfl rfl hE (by kernel_rfl) (by kernel_rfl) (by kernel_rfl) hS (v := (.bool x5.2)) (ex_move rfl hE rfl) ?_
                      intro a hE
                      refine h_take 25 (wk1 hE rfl rfl rfl hb21) rfl rfl rfl hE (by kernel_rfl) (by kernel_rfl) (by kernel_rfl) hS (v := (.bool (x4.2 == x5.2))) (ex_beql bty4 rfl hE rfl rfl) ?_
                      intro a hE
                      refine h_take 26 (wk0 rfl) rfl rfl rfl hE (by kernel_rfl) (by kernel_rfl) (by kernel_rfl) hS (v := (.bool (x4.2 == x5.2))) (ex_pick1 rfl hE rfl hb21 rfl) ?_
                      intro a hE
                      have hE := hE.eqv (v' := (.bool ((((x8 && (decide (x2.1 = x3.1))) && (decide (x2.2 = x3.2))) && (decide (x4.1 = x5.1))) && (x4.2 == x5.2)))) (by rw [hb21]; rfl)
                      refine h_take 27 (wk0 rfl) rfl rfl rfl hE (by kernel_rfl) (by kernel_rfl) (by kernel_rfl) hS (v := (.bool ((((x8 && (decide (x2.1 = x3.1))) && (decide (x2.2 = x3.2))) && (decide (x4.1 = x5.1))) && (x4.2 == x5.2)))) (ex_asn rfl hE rfl) ?_
                      intro a hE
                      exact h_done (by kernel_rfl) ⟨_, _, hE.cut ⟨rfl, trivial⟩, hp⟩
                    ·
                      refine h_skip 23 (wk2 hE rfl rfl rfl hb21) rfl rfl rfl hE (by kernel_rfl) (by kernel_rfl) (by kernel_rfl) hS ?_
                      intro a hE
                      refine h_skip 24 (wk2 hE rfl rfl rfl hb21) rfl rfl rfl hE (by kernel_rfl) (by kernel_rfl) (by kernel_rfl) hS ?_
                      intro a hE
                      refine h_skip 25 (wk2 hE rfl rfl rfl hb21) rfl rfl rfl hE (by kernel_rfl) (by kernel_rfl) (by kernel_rfl) hS ?_
                      intro a hE
                      refine h_take 26 (wk0 rfl) rfl rfl rfl hE (by kernel_rfl) (by kernel_rfl) (by kernel_rfl) hS (v := (.bool false)) (ex_pick0 rfl hE rfl hb21 rfl) ?_
                      intro a hE
                      have hE := hE.eqv (v' := (.bool ((((x8 && (decide (x2.1 = x3.1))) && (decide (x2.2 = x3.2))) && (decide (x4.1 = x5.1))) && (x4.2 == x5.2)))) (by rw [hb21]; rfl)
                      refine h_take 27 (wk0 rfl) rfl rfl rfl hE (by kernel_rfl) (by kernel_rfl) (by kernel_rfl) hS (v := (.bool ((((x8 && (decide (x2.1 = x3.1))) && (decide (x2.2 = x3.2))) && (decide (x4.1 = x5.1))) && (x4.2 == x5.2)))) (ex_asn rfl hE rfl) ?_
                      intro a hE
                      exact h_done (by kernel_rfl) ⟨_, _, hE.cut ⟨rfl, trivial⟩, hp⟩
      · rintro a w ⟨y2, y3, hE, hp⟩
        refine k_ret ?_
        obtain rfl := Option.some.inj hm
        exact ret1 hE rfl rfl ⟨_, rfl, rfl, (((((hp.get 2 rfl).drop).get 1 rfl).drop).drop)⟩
end Go.Proofs.Ytmjmoogldbejoaa

/- The code goes as its model: assessor/assessorref27.Follows, assessor/assessorref27.IsProof, assessor/assessorref27.With, assessor/assessorref27.Check, assessor/ -/
import Derived.Test.YtfajmelamonolaaDoorKTr4
import Derived.Test.YtfajmelamonolaaDoorKTr8
import Derived.Test.YtfajmelamonolaaDoorKTr3
import Derived.Test.YtfajmelamonolaaDoorKTr5
set_option linter.unusedVariables false
set_option linter.unusedSimpArgs false
namespace Go.Proofs.YtfajmelamonolaaDoor
open Go.RowKit
set_option maxRecDepth 100000 in
set_option maxHeartbeats 4000000 in
theorem c_assessorref27_Follows {Z : World} {ρ : PH} {L : List Atom} {w : World} (hT : Tabs ρ) (p0 : Formula) (vp0_clauses : Value) (hp0_clauses : RoSl ρ vp0_clauses p0.clauses) (p1 : (List Int)) (vp1 : Value) (hp1 : RoSl ρ vp1 p1) (hp : Hp Z ρ (L) w) (r : Bool) (hm : m_assessorref27_Follows p0 p1 = some r) :
    Calls Tryd.prog 13 #[(.agg #[(.int .i64 p0.vars), vp0_clauses]), vp1] w (Ret fun v w' => v = (.bool r) ∧ Hp Z ρ (L) w') := by
  refine enter (N := 32) Tryd.func13 rfl rfl [(0, (.agg #[(.int .i64 p0.vars), vp0_clauses])), (1, vp1)] rfl (argsIn_mem ⟨rfl, rfl, trivial⟩) fun a hE => ?_
  unfold m_assessorref27_Follows at hm
  refine k_seq ?_
  refine k_region ?_
  refine s_box (wk0 rfl) rfl rfl hE hp rfl (v := (.agg #[(.int .i64 p0.vars), vp0_clauses])) rfl ?_
  intro a w b1 hE hp
  have hp : Hp Z ρ (Pt b1 (.cells #[(.int .i64 p0.vars), vp0_clauses] 24 (0, 0)) :: L) w := hp
  refine s_val (wk0 rfl) rfl rfl hE hp (v := (.bool false)) (ex_asn rfl hE rfl) ?_
  intro a hE
  refine s_nil ?_
  refine k_seq ?_
  refine k_region ?_
  refine s_lit (wk0 rfl) rfl rfl hE hp rfl [] trivial [] 3 (fun w => by simp [Instr.buildSlice, Instr.fill, Value.cells, go_sem]) ?_
  intro a w b2 hE hp
  have hp : Hp Z ρ (Pt b2 (.cells #[] 3 (0, 0)) :: _ :: L) w := hp
  refine s_val (wk0 rfl) rfl rfl hE hp (v := (.slice (some ⟨b2, 0, none⟩) 0 0)) (ex_asn rfl hE rfl) ?_
  intro a hE
  refine s_nil ?_
  refine k_seq ?_
  refine k_seq ?_
  refine k_region ?_
  refine s_val (wk0 rfl) rfl rfl hE hp (v := (.int .i64 0)) (ex_asn rfl hE rfl) ?_
  intro a hE
  refine s_nil ?_
  have hp := (hp.get 0 rfl).imp (own_of_pt (l := (([] : List Int) : List Int)) (n := 0) rfl (by decide) rfl)
  have hp : Hp Z ρ (OwnSl 3 (.slice (some ⟨b2, 0, none⟩) 0 0) ([] : List Int) :: _ :: L) w := hp
  obtain ⟨b3, hc1, hm⟩ := bnd hm
  refine k_block (fun a w => ∃ (w2 : Value), Env 32 [(2, (.pointer (some ⟨b1, 0, none⟩))), (5, w2)] a ∧ Hp Z ρ (OwnSl 3 w2 b3 :: Pt b1 (.cells #[(.int .i64 p0.vars), vp0_clauses] 24 (0, 0)) :: L) w) ?_ ?_
  · refine k_loop hc1 (fun s a w => ∃ (w2 : Value), Env 32 [(1, vp1), (2, (.pointer (some ⟨b1, 0, none⟩))), (5, w2), (6, (.int .i64 s.1))] a ∧ Hp Z ρ (OwnSl 3 w2 s.2 :: Pt b1 (.cells #[(.int .i64 p0.vars), vp0_clauses] 24 (0, 0)) :: L) w) ?_ ?_
    · exact ⟨_, hE.cut ⟨rfl, rfl, rfl, rfl, trivial⟩, hp⟩
    · rintro ⟨lp1_0, lp1_1⟩ st a w ⟨w2, hE, hp⟩ hl1
      have hE : Env 32 [(1, vp1), (2, (.pointer (some ⟨b1, 0, none⟩))), (5, w2), (6, (.int .i64 lp1_0))] a := hE
      have hp : Hp Z ρ (OwnSl 3 w2 lp1_1 :: _ :: L) w := hp
      replace hl1 : m_assessorref27_Follows_lp1 p1 lp1_0 lp1_1 = some st := hl1
      unfold m_assessorref27_Follows_lp1 at hl1
      refine k_seq ?_
      refine k_seq ?_
      refine k_region ?_
      refine s_val (wk0 rfl) rfl rfl hE hp (v := (.int .i64 lp1_0)) (ex_move rfl hE rfl) ?_
      intro a hE
      refine s_val (wk0 rfl) rfl rfl hE hp (v := vp1) (ex_move rfl hE rfl) ?_
      intro a hE
      refine s_val (wk0 rfl) rfl rfl hE hp (v := (.int .i64 (p1.length : Int))) (ex_len rfl hE rfl (RoSl.len hp1 slty25)) ?_
      intro a hE
      refine s_val (wk0 rfl) rfl rfl hE hp (v := (.bool (decide (lp1_0 < (p1.length : Int))))) (ex_lss rfl hE rfl rfl) ?_
      intro a hE
      refine s_nil ?_
      refine k_if hE rfl (fun hc2 => ?_) (fun hc2 => ?_)
      · replace hl1 := (it hc2).symm.trans hl1
        refine k_skip ?_
        refine k_seq ?_
        refine k_plain ?_
        refine k_region ?_
        refine s_val (wk0 rfl) rfl rfl hE hp (v := w2) (ex_move rfl hE rfl) ?_
        intro a hE
        refine s_val (wk0 rfl) rfl rfl hE hp (v := vp1) (ex_move rfl hE rfl) ?_
        intro a hE
        refine s_val (wk0 rfl) rfl rfl hE hp (v := (.int .i64 lp1_0)) (ex_move rfl hE rfl) ?_
        intro a hE
        obtain ⟨x1, ex1, hl1⟩ := bnd hl1
        obtain ⟨b4, b4o, b4c, b4r, b4k, b4f⟩ := RoSl.at hp1 slty25 ex1
        obtain rfl : b4c = Enc.enc x1 := b4k
        have b4f : AtP ρ b4 b4o [(.int .i64 x1)] := b4f
        refine s_val (wk0 rfl) rfl rfl hE hp (v := (.pointer (some ⟨b4, b4o, none⟩))) (ex_index rfl hE rfl rfl b4r) ?_
        intro a hE
        refine s_val (wk0 rfl) rfl rfl hE hp (v := (.int .i64 x1)) (ex_load rfl hE rfl (fun w hw => run_ld1 varty3 (b4f.c 0 rfl w hw))) ?_
        intro a hE
        obtain ⟨x2, ex2, hl1⟩ := bnd hl1
        refine s_val (wk0 rfl) rfl rfl hE hp (v := (.int .i64 x2)) (ex_neg rfl hE rfl (inK_some ex2)) ?_
        intro a hE
        refine s_lit (wk0 rfl) rfl rfl hE hp rfl [(0, (.int .i64 x2))] ⟨⟨rfl, rfl⟩, trivial⟩ [(.int .i64 x2)] 3 (fun w => by simp [Instr.buildSlice, Instr.fill, Value.cells, go_sem]) ?_
        intro a w b5 hE hp
        have hp : Hp Z ρ (Pt b5 (.cells #[(.int .i64 x2)] 3 (0, 0)) :: _ :: _ :: L) w := hp
        obtain ⟨x3, ex3, hl1⟩ := bnd hl1
        refine s_app (wk0 rfl) rfl rfl hE hp rfl slty25 rfl rfl 1 rfl rfl (l2 := [x2]) rfl (fun j u hj => by have := Hp.cN 0 rfl 0 _ (sub_all rfl) w hp j u hj; simpa using this) ex3 ?_
        intro v1 a w hE hp
        have hp : Hp Z ρ (_ :: OwnSl 3 v1 x3 :: _ :: L) w := hp
        refine s_val (wk0 rfl) rfl rfl hE hp (v := v1) (ex_asn rfl hE rfl) ?_
        intro a hE
        refine s_nil ?_
        have hE := hE.cut (E' := [(1, vp1), (2, (.pointer (some ⟨b1, 0, none⟩))), (5, v1), (6, (.int .i64 lp1_0))]) ⟨rfl, rfl, rfl, rfl, trivial⟩
        refine k_region ?_
        refine s_val (wk0 rfl) rfl rfl hE hp (v := (.int .i64 lp1_0)) (ex_move rfl hE rfl) ?_
        intro a hE
        obtain ⟨x4, ex4, hl1⟩ := bnd hl1
        refine s_val (wk0 rfl) rfl rfl hE hp (v := (.int .i64 x4)) (ex_add rfl hE rfl rfl (inK_some ex4)) ?_
        intro a hE
        refine s_val (wk0 rfl) rfl rfl hE hp (v := (.int .i64 x4)) (ex_asn rfl hE rfl) ?_
        intro a hE
        refine s_nil ?_
        exact ⟨_, (Option.some.inj hl1).symm, _, hE.cut ⟨rfl, rfl, rfl, rfl, trivial⟩, (hp.drop)⟩
      · replace hl1 := (ie hc2).symm.trans hl1
        refine k_exit ?_
        refine ⟨_, (Option.some.inj hl1).symm, fun hbb => ?_⟩
        subst hbb
        exact ⟨_, hE.cut ⟨rfl, rfl, trivial⟩, hp⟩
  · rintro a w ⟨w2, hE, hp⟩
    refine k_seq ?_
    refine k_region ?_
    refine s_val (wk0 rfl) rfl rfl hE hp (v := (.agg #[(.int .i64 p0.vars), vp0_clauses])) (ex_load rfl hE rfl (fun w hw => run_ldN (cs := [(.int .i64 p0.vars), vp0_clauses]) varty24 (Hp.cN 1 rfl 0 _ (sub_all rfl) w hw))) ?_
    intro a hE
    refine s_val (wk0 rfl) rfl rfl hE hp (v := w2) (ex_move rfl hE rfl) ?_
    intro a hE
    obtain ⟨k1, k1a, k1d, k1h⟩ := (hp.get 0 rfl).lend
    obtain ⟨x5, ex5, hm⟩ := bnd hm
    refine s_call (wk0 rfl) rfl rfl hE rfl [(.agg #[(.int .i64 p0.vars), vp0_clauses]), w2] ⟨rfl, rfl, trivial⟩ ent34 (c_assessorref26_Closure (Tabs.mono hT (PH.le_un _ k1)) p0 vp0_clauses (RoSl.mono hp0_clauses (PH.le_un _ _)) b3 w2 (OwnSl.ro k1d k1a) k1h x5 ex5) Ret.ret ?_
    intro v a w hR hE
    obtain ⟨vr1, rfl, hp⟩ := Ret.of hR
    have hp := Hp.back k1a k1d hp
    have hp : Hp Z ρ (OwnSl 3 w2 b3 :: OwnSl 3 vr1 x5.1 :: _ :: L) w := hp
    refine s_val (wk0 rfl) rfl rfl hE hp (v := (.tuple #[vr1, (.bool x5.2)])) (ex_move rfl hE rfl) ?_
    intro a hE
    refine s_val (wk0 rfl) rfl rfl hE hp (v := vr1) (ex_extract rfl hE rfl rfl) ?_
    intro a hE
    refine s_val (wk0 rfl) rfl rfl hE hp (v := (.bool x5.2)) (ex_extract rfl hE rfl rfl) ?_
    intro a hE
    refine s_val (wk0 rfl) rfl rfl hE hp (v := vr1) (ex_asn rfl hE rfl) ?_
    intro a hE
    refine s_val (wk0 rfl) rfl rfl hE hp (v := (.bool x5.2)) (ex_asn rfl hE rfl) ?_
    intro a hE
    refine s_nil ?_
    refine k_seq ?_
    refine k_region ?_
    refine s_val (wk0 rfl) rfl rfl hE hp (v := (.bool x5.2)) (ex_move rfl hE rfl) ?_
    intro a hE
    refine s_val (wk0 rfl) rfl rfl hE hp (v := (.bool (!x5.2))) (ex_not rfl hE rfl) ?_
    intro a hE
    refine s_val (wk0 rfl) rfl rfl hE hp (v := (.bool (!x5.2))) (ex_asn rfl hE rfl) ?_
    intro a hE
    refine s_nil ?_
    refine k_ret ?_
    obtain rfl := Option.some.inj hm
    exact ret1 hE rfl rfl ⟨_, rfl, rfl, (((((hp.get 2 rfl).drop).get 1 rfl).drop).drop)⟩
set_option maxRecDepth 100000 in
set_option maxHeartbeats 4000000 in
theorem c_assessorref27_IsProof {Z : World} {ρ : PH} {L : List Atom} {w : World} (hT : Tabs ρ) (p0 : (List (List Int))) (vp0 : Value) (hp0 : RoSl ρ vp0 p0) (hp : Hp Z ρ (L) w) (r : Bool) (hm : m_assessorref27_IsProof p0 = some r) :
    Calls Tryd.prog 37 #[vp0] w (Ret fun v w' => v = (.bool r) ∧ Hp Z ρ (L) w') := by
  refine enter (N := 26) Tryd.func37 rfl rfl [(0, vp0)] rfl (argsIn_mem ⟨rfl, trivial⟩) fun a hE => ?_
  unfold m_assessorref27_IsProof at hm
  refine k_seq ?_
  refine k_region ?_
  refine s_val (wk0 rfl) rfl rfl hE hp (v := (.bool false)) (ex_asn rfl hE rfl) ?_
  intro a hE
  refine s_nil ?_
  refine k_seq ?_
  refine k_region ?_
  refine s_val (wk0 rfl) rfl rfl hE hp (v := (.int .i64 0)) (ex_asn rfl hE rfl) ?_
  intro a hE
  refine s_nil ?_
  refine k_seq ?_
  refine k_seq ?_
  refine k_region ?_
  refine s_val (wk0 rfl) rfl rfl hE hp (v := (.int .i64 0)) (ex_asn rfl hE rfl) ?_
  intro a hE
  refine s_nil ?_
  obtain ⟨b1, hc1, hm⟩ := bnd hm
  refine k_block (fun a w => ∃ s : Int, b1 = .brk s ∧ (Env 26 [(3, (.int .i64 s))] a ∧ Hp Z ρ (L) w)) ?_ ?_
  · refine k_loop hc1 (fun s a w => Env 26 [(0, vp0), (3, (.int .i64 s.1)), (4, (.int .i64 s.2))] a ∧ Hp Z ρ (L) w) ?_ ?_
    · exact ⟨hE.cut ⟨rfl, rfl, rfl, trivial⟩, hp⟩
    · rintro ⟨lp1_0, lp1_1⟩ st a w ⟨hE, hp⟩ hl1
      have hE : Env 26 [(0, vp0), (3, (.int .i64 lp1_0)), (4, (.int .i64 lp1_1))] a := hE
      have hp : Hp Z ρ (L) w := hp
      replace hl1 : m_assessorref27_IsProof_lp1 p0 lp1_0 lp1_1 = some st := hl1
      unfold m_assessorref27_IsProof_lp1 at hl1
      refine k_seq ?_
      refine k_seq ?_
      refine k_region ?_
      refine s_val (wk0 rfl) rfl rfl hE hp (v := (.int .i64 lp1_1)) (ex_move rfl hE rfl) ?_
      intro a hE
      refine s_val (wk0 rfl) rfl rfl hE hp (v := vp0) (ex_move rfl hE rfl) ?_
      intro a hE
      refine s_val (wk0 rfl) rfl rfl hE hp (v := (.int .i64 (p0.length : Int))) (ex_len rfl hE rfl (RoSl.len hp0 slty22)) ?_
      intro a hE
      refine s_val (wk0 rfl) rfl rfl hE hp (v := (.bool (decide (lp1_1 < (p0.length : Int))))) (ex_lss rfl hE rfl rfl) ?_
      intro a hE
      refine s_nil ?_
      refine k_if hE rfl (fun hc2 => ?_) (fun hc2 => ?_)
      · replace hl1 := (it hc2).symm.trans hl1
        refine k_skip ?_
        refine k_seq ?_
        refine k_plain ?_
        refine k_seq ?_
        refine k_seq ?_
        refine k_region ?_
        refine s_val (wk0 rfl) rfl rfl hE hp (v := vp0) (ex_move rfl hE rfl) ?_
        intro a hE
        refine s_val (wk0 rfl) rfl rfl hE hp (v := (.int .i64 lp1_1)) (ex_move rfl hE rfl) ?_
        intro a hE
        obtain ⟨x1, ex1, hl1⟩ := bnd hl1
        obtain ⟨b2, b2o, b2c, b2r, b2k, b2f⟩ := RoSl.at hp0 slty22 ex1
        obtain ⟨vb2, rfl, hb2⟩ := b2k
        have b2f : AtP ρ b2 b2o [vb2] := b2f
        refine s_val (wk0 rfl) rfl rfl hE hp (v := (.pointer (some ⟨b2, b2o, none⟩))) (ex_index rfl hE rfl rfl b2r) ?_
        intro a hE
        refine s_val (wk0 rfl) rfl rfl hE hp (v := vb2) (ex_load rfl hE rfl (fun w hw => run_ld1 varty25 (b2f.c 0 rfl w hw))) ?_
        intro a hE
        obtain ⟨x2, ex2, hl1⟩ := bnd hl1
        refine s_call (wk0 rfl) rfl rfl hE rfl [vb2, (.int .i64 65536)] ⟨rfl, rfl, trivial⟩ ent12 (c_assessorref26_IsClause hT x1 vb2 hb2 65536 hp x2 ex2) Ret.ret ?_
        intro v a w hR hE
        obtain ⟨rfl, hp⟩ := Ret.of hR
        have hp : Hp Z ρ (L) w := hp
        refine s_val (wk0 rfl) rfl rfl hE hp (v := (.bool (!x2))) (ex_not rfl hE rfl) ?_
        intro a hE
        refine s_nil ?_
        refine k_if hE rfl (fun hc3 => ?_) (fun hc3 => ?_)
        · replace hl1 := (it hc3).symm.trans hl1
          refine k_seq ?_
          refine k_region ?_
          refine s_val (wk0 rfl) rfl rfl hE hp (v := (.bool false)) (ex_asn rfl hE rfl) ?_
          intro a hE
          refine s_nil ?_
          refine k_ret ?_
          refine ⟨_, (Option.some.inj hl1).symm, fun hb => ?_⟩
          subst hb
          obtain rfl := Option.some.inj hm
          exact ret1 hE rfl rfl ⟨_, rfl, rfl, hp⟩
        · replace hl1 := (ie hc3).symm.trans hl1
          refine k_skip ?_
          refine k_region ?_
          refine s_val (wk0 rfl) rfl rfl hE hp (v := (.int .i64 lp1_0)) (ex_move rfl hE rfl) ?_
          intro a hE
          refine s_val (wk0 rfl) rfl rfl hE hp (v := vp0) (ex_move rfl hE rfl) ?_
          intro a hE
          refine s_val (wk0 rfl) rfl rfl hE hp (v := (.int .i64 lp1_1)) (ex_move rfl hE rfl) ?_
          intro a hE
          obtain ⟨x3, ex3, hl1⟩ := bnd hl1
          obtain ⟨b3, b3o, b3c, b3r, b3k, b3f⟩ := RoSl.at hp0 slty22 ex3
          obtain ⟨vb3, rfl, hb3⟩ := b3k
          have b3f : AtP ρ b3 b3o [vb3] := b3f
          refine s_val (wk0 rfl) rfl rfl hE hp (v := (.pointer (some ⟨b3, b3o, none⟩))) (ex_index rfl hE rfl rfl b3r) ?_
          intro a hE
          refine s_val (wk0 rfl) rfl rfl hE hp (v := vb3) (ex_load rfl hE rfl (fun w hw => run_ld1 varty25 (b3f.c 0 rfl w hw))) ?_
          intro a hE
          refine s_val (wk0 rfl) rfl rfl hE hp (v := (.int .i64 (x3.length : Int))) (ex_len rfl hE rfl (RoSl.len hb3 slty25)) ?_
          intro a hE
          obtain ⟨x4, ex4, hl1⟩ := bnd hl1
          refine s_val (wk0 rfl) rfl rfl hE hp (v := (.int .i64 x4)) (ex_add rfl hE rfl rfl (inK_some ex4)) ?_
          intro a hE
          refine s_val (wk0 rfl) rfl rfl hE hp (v := (.int .i64 x4)) (ex_asn rfl hE rfl) ?_
          intro a hE
          refine s_nil ?_
          refine k_region ?_
          refine s_val (wk0 rfl) rfl rfl hE hp (v := (.int .i64 lp1_1)) (ex_move rfl hE rfl) ?_
          intro a hE
          obtain ⟨x5, ex5, hl1⟩ := bnd hl1
          refine s_val (wk0 rfl) rfl rfl hE hp (v := (.int .i64 x5)) (ex_add rfl hE rfl rfl (inK_some ex5)) ?_
          intro a hE
          refine s_val (wk0 rfl) rfl rfl hE hp (v := (.int .i64 x5)) (ex_asn rfl hE rfl) ?_
          intro a hE
          refine s_nil ?_
          have hE := hE.cut (E' := [(0, vp0), (3, (.int .i64 x4)), (4, (.int .i64 x5))]) ⟨rfl, rfl, rfl, trivial⟩
          exact ⟨_, (Option.some.inj hl1).symm, hE.cut ⟨rfl, rfl, rfl, trivial⟩, hp⟩
      · replace hl1 := (ie hc2).symm.trans hl1
        refine k_exit ?_
        refine ⟨_, (Option.some.inj hl1).symm, fun hbb => ?_⟩
        exact ⟨_, hbb.symm, hE.cut ⟨rfl, trivial⟩, hp⟩
  · rintro a w ⟨b1s, rfl, hE, hp⟩
    dsimp only at hm
    refine k_seq ?_
    refine k_region ?_
    refine s_val (wk0 rfl) rfl rfl hE hp (v := (.int .i64 b1s)) (ex_move rfl hE rfl) ?_
    intro a hE
    refine s_val (wk0 rfl) rfl rfl hE hp (v := (.bool (decide (b1s ≤ 1048576)))) (ex_leq rfl hE rfl rfl) ?_
    intro a hE
    refine s_val (wk0 rfl) rfl rfl hE hp (v := (.bool (decide (b1s ≤ 1048576)))) (ex_asn rfl hE rfl) ?_
    intro a hE
    refine s_nil ?_
    refine k_ret ?_
    obtain rfl := Option.some.inj hm
    exact ret1 hE rfl rfl ⟨_, rfl, rfl, hp⟩
set_option maxRecDepth 100000 in
set_option maxHeartbeats 4000000 in
theorem c_assessorref27_With {Z : World} {ρ : PH} {L : List Atom} {w : World} (hT : Tabs ρ) (p0 : Formula) (vp0_clauses : Value) (hp0_clauses : RoSl ρ vp0_clauses p0.clauses) (p1 : (List Int)) (vp1 : Value) (hp1 : RoSl ρ vp1 p1) (hp : Hp Z ρ (L) w) (r : Formula) (hm : m_assessorref27_With p0 p1 = some r) :
    Calls Tryd.prog 38 #[(.agg #[(.int .i64 p0.vars), vp0_clauses]), vp1] w (Ret fun v w' => ∃ (ρ' : PH) (vr1_clauses : Value), ρ.le ρ' ∧ v = (.agg #[(.int .i64 r.vars), vr1_clauses]) ∧ RoSl ρ' vr1_clauses r.clauses ∧ Hp Z ρ' (L) w') := by
  refine enter (N := 19) Tryd.func38 rfl rfl [(0, (.agg #[(.int .i64 p0.vars), vp0_clauses])), (1, vp1)] rfl (argsIn_mem ⟨rfl, rfl, trivial⟩) fun a hE => ?_
  unfold m_assessorref27_With at hm
  refine k_seq ?_
  refine k_region ?_
  refine s_box (wk0 rfl) rfl rfl hE hp rfl (v := (.agg #[(.int .i64 p0.vars), vp0_clauses])) rfl ?_
  intro a w b1 hE hp
  have hp : Hp Z ρ (Pt b1 (.cells #[(.int .i64 p0.vars), vp0_clauses] 24 (0, 0)) :: L) w := hp
  refine s_new (wk0 rfl) rfl rfl hE hp rfl [(.int .i64 0), (.slice none 0 0)] (fun w => by simp [Instr.alloc, go_sem] <;> rfl) ?_
  intro a w b2 hE hp
  have hp : Hp Z ρ (Pt b2 (.cells #[(.int .i64 0), (.slice none 0 0)] 24 (0, 0)) :: _ :: L) w := hp
  refine s_nil ?_
  refine k_seq ?_
  refine k_region ?_
  refine s_val (wk0 rfl) rfl rfl hE hp (v := (.pointer (some ⟨b1, 1, none⟩))) (ex_field rfl hE rfl (fldty24_1 _ _)) ?_
  intro a hE
  refine s_val (wk0 rfl) rfl rfl hE hp (v := vp0_clauses) (ex_load rfl hE rfl (fun w hw => run_ld1 varty22 (Hp.c 1 rfl 1 rfl w hw))) ?_
  intro a hE
  refine s_val (wk0 rfl) rfl rfl hE hp (v := (.int .i64 (p0.clauses.length : Int))) (ex_len rfl hE rfl (RoSl.len hp0_clauses slty22)) ?_
  intro a hE
  refine s_val (wk0 rfl) rfl rfl hE hp (v := (.int .i64 (p0.clauses.length : Int))) (ex_asn rfl hE rfl) ?_
  intro a hE
  refine s_nil ?_
  refine k_seq ?_
  refine k_region ?_
  refine s_val (wk0 rfl) rfl rfl hE hp (v := (.pointer (some ⟨b1, 1, none⟩))) (ex_field rfl hE rfl (fldty24_1 _ _)) ?_
  intro a hE
  refine s_val (wk0 rfl) rfl rfl hE hp (v := vp0_clauses) (ex_load rfl hE rfl (fun w hw => run_ld1 varty22 (Hp.c 1 rfl 1 rfl w hw))) ?_
  intro a hE
  refine s_val (wk0 rfl) rfl rfl hE hp (v := (.int .i64 (p0.clauses.length : Int))) (ex_move rfl hE rfl) ?_
  intro a hE
  refine s_val (wk0 rfl) rfl rfl hE hp (v := (.int .i64 (p0.clauses.length : Int))) (ex_move rfl hE rfl) ?_
  intro a hE
  obtain ⟨v1, v1r, f1⟩ := RoSl.full hp0_clauses slty22 .i64 .i64
  refine s_val (wk0 rfl) rfl rfl hE hp (v := v1) (ex_sl3 rfl hE rfl rfl rfl v1r) ?_
  intro a hE
  refine s_val (wk0 rfl) rfl rfl hE hp (v := vp1) (ex_move rfl hE rfl) ?_
  intro a hE
  refine s_lit (wk0 rfl) rfl rfl hE hp rfl [(0, vp1)] ⟨⟨rfl, rfl⟩, trivial⟩ [vp1] 25 (fun w => by have hc0 := RoSl.cells hp1; simp only [Value.cells] at hc0; simp [Instr.buildSlice, Instr.fill, Value.cells, hc0, go_sem]) ?_
  intro a w b3 hE hp
  have hp : Hp Z ρ (Pt b3 (.cells #[vp1] 25 (0, 0)) :: _ :: _ :: L) w := hp
  obtain ⟨x1, ex1, hm⟩ := bnd hm
  have hR3 : RepAll ρ ([p1] : List (List Int)) [vp1] := ⟨_, _, rfl, ⟨_, rfl, (hp1)⟩, rfl⟩
  refine s_appC (wk0 rfl) rfl rfl hE hp rfl slty22 rfl rfl f1 rfl (l2 := [p1]) (ys := [vp1]) rfl rfl hR3 (fun j u hj => by have := Hp.cN 0 rfl 0 _ (sub_all rfl) w hp j u hj; simpa using this) ex1 ?_
  intro v2 xs1 a w hR2 hE hp
  have hR1 : RepAll ρ x1 (xs1 ++ [vp1]) := (app_some ex1).2 ▸ RepAll.app hR2 hR3
  have hp : Hp Z ρ (RowR 25 v2 (x1 : (List (List Int))) (xs1 ++ [vp1]) :: _ :: _ :: _ :: L) w := hp
  refine s_val (wk0 rfl) rfl rfl hE hp (v := (.pointer (some ⟨b1, 1, none⟩))) (ex_field rfl hE rfl (fldty24_1 _ _)) ?_
  intro a hE
  refine s_store1 (wk0 rfl) rfl hE hp rfl rfl rfl 3 rfl varty22.size_ (RowR.cells hp 0 rfl) (RowR.one hp 0 rfl) rfl [(.int .i64 p0.vars), v2] rfl ?_
  intro w hp
  have hp : Hp Z ρ (_ :: _ :: _ :: Pt b1 (.cells #[(.int .i64 p0.vars), v2] 24 (0, 0)) :: L) w := hp
  refine s_nil ?_
  refine k_seq ?_
  refine k_region ?_
  refine s_val (wk0 rfl) rfl rfl hE hp (v := (.agg #[(.int .i64 p0.vars), v2])) (ex_load rfl hE rfl (fun w hw => run_ldN (cs := [(.int .i64 p0.vars), v2]) varty24 (Hp.cN 3 rfl 0 _ (sub_all rfl) w hw))) ?_
  intro a hE
  refine s_store (wk0 rfl) rfl hE hp rfl rfl rfl 2 rfl varty24.size_ rfl (allOne_mem ⟨rfl, (RowR.one hp 0 rfl), trivial⟩) [(.int .i64 p0.vars), v2] rfl ?_
  intro w hp
  have hp : Hp Z ρ (_ :: _ :: Pt b2 (.cells #[(.int .i64 p0.vars), v2] 24 (0, 0)) :: _ :: L) w := hp
  refine s_nil ?_
  refine k_ret ?_
  obtain ⟨k1, k1a, k1d, hp⟩ := (hp.get 0 rfl).lend
  have f2 : RoSl (ρ.un k1) v2 x1 := RowR.ro k1d k1a hR1
  have hp : Hp Z (ρ.un k1) (_ :: _ :: _ :: L) w := hp
  obtain rfl := Option.some.inj hm
  exact retc1 hE rfl rfl (run_lvN (cs := [(.int .i64 p0.vars), v2]) varty24 (Hp.cN 1 rfl 0 _ (sub_all rfl) _ hp)) ⟨_, rfl, _, _, (PH.le_un _ k1), rfl, f2, (((((hp.get 2 rfl).drop).get 1 rfl).drop).drop)⟩
set_option maxRecDepth 100000 in
set_option maxHeartbeats 4000000 in
theorem c_assessorref27_Check {Z : World} {ρ : PH} {L : List Atom} {w : World} (hT : Tabs ρ) (p0 : Formula) (vp0_clauses : Value) (hp0_clauses : RoSl ρ vp0_clauses p0.clauses) (p1 : (List (List Int))) (vp1 : Value) (hp1 : RoSl ρ vp1 p1) (hp : Hp Z ρ (L) w) (r : Bool) (hm : m_assessorref27_Check p0 p1 = some r) :
    Calls Tryd.prog 16 #[(.agg #[(.int .i64 p0.vars), vp0_clauses]), vp1] w (Ret fun v w' => v = (.bool r) ∧ Hp Z ρ (L) w') := by
  refine enter (N := 58) Tryd.func16 rfl rfl [(0, (.agg #[(.int .i64 p0.vars), vp0_clauses])), (1, vp1)] rfl (argsIn_mem ⟨rfl, rfl, trivial⟩) fun a hE => ?_
  unfold m_assessorref27_Check at hm
  refine k_seq ?_
  refine k_region ?_
  refine s_box (wk0 rfl) rfl rfl hE hp rfl (v := (.agg #[(.int .i64 p0.vars), vp0_clauses])) rfl ?_
  intro a w b1 hE hp
  have hp : Hp Z ρ (Pt b1 (.cells #[(.int .i64 p0.vars), vp0_clauses] 24 (0, 0)) :: L) w := hp
  refine s_val (wk0 rfl) rfl rfl hE hp (v := (.bool false)) (ex_asn rfl hE rfl) ?_
  intro a hE
  refine s_nil ?_
  refine k_seq ?_
  refine k_seq ?_
  refine k_region ?_
  refine s_val (wk0 rfl) rfl rfl hE hp (v := (.agg #[(.int .i64 p0.vars), vp0_clauses])) (ex_load rfl hE rfl (fun w hw => run_ldN (cs := [(.int .i64 p0.vars), vp0_clauses]) varty24 (Hp.cN 0 rfl 0 _ (sub_all rfl) w hw))) ?_
  intro a hE
  obtain ⟨x1, ex1, hm⟩ := bnd hm
  refine s_call (wk0 rfl) rfl rfl hE rfl [(.agg #[(.int .i64 p0.vars), vp0_clauses])] ⟨rfl, trivial⟩ ent11 (c_assessorref26_Valid hT p0 vp0_clauses hp0_clauses hp x1 ex1) Ret.ret ?_
  intro v a w hR hE
  obtain ⟨rfl, hp⟩ := Ret.of hR
  have hp : Hp Z ρ (_ :: L) w := hp
  refine s_val (wk0 rfl) rfl rfl hE hp (v := (.bool (!x1))) (ex_not rfl hE rfl) ?_
  intro a hE
  refine s_val (wk0 rfl) rfl rfl hE hp (v := (.bool (!x1))) (ex_move rfl hE rfl) ?_
  intro a hE
  obtain ⟨m1, hg1, hm⟩ := bnd hm
  refine s_cut [_, _, _, _] (fun a w => Env 58 [(13, (.bool m1)), (1, vp1), (2, (.pointer (some ⟨b1, 0, none⟩)))] a ∧ Hp Z ρ (Pt b1 (.cells #[(.int .i64 p0.vars), vp0_clauses] 24 (0, 0)) :: L) w) ?_ ?_
  · rcases Bool.eq_false_or_eq_true (!x1) with hc1 | hc1
    ·
      replace hg1 := (it hc1).symm.trans hg1
      refine s_skip (wk2 hE rfl rfl rfl hc1) rfl rfl hE ?_
      intro a hE
      refine s_skip (wk2 hE rfl rfl rfl hc1) rfl rfl hE ?_
      intro a hE
      refine s_skip (wk2 hE rfl rfl rfl hc1) rfl rfl hE ?_
      intro a hE
      refine s_val (wk0 rfl) rfl rfl hE hp (v := (.bool true)) (ex_pick1 rfl hE rfl hc1 rfl) ?_
      intro a hE
      obtain rfl := Option.some.inj hg1
      exact s_nil ⟨hE.cut ⟨rfl, rfl, rfl, trivial⟩, hp⟩
    ·
      replace hg1 := (ie hc1).symm.trans hg1
      refine s_val (wk1 hE rfl rfl rfl hc1) rfl rfl hE hp (v := vp1) (ex_move rfl hE rfl) ?_
      intro a hE
      obtain ⟨x2, ex2, hg1⟩ := bnd hg1
      refine s_call (wk1 hE rfl rfl rfl hc1) rfl rfl hE rfl [vp1] ⟨rfl, trivial⟩ ent37 (c_assessorref27_IsProof hT p1 vp1 hp1 hp x2 ex2) Ret.ret ?_
      intro v a w hR hE
      obtain ⟨rfl, hp⟩ := Ret.of hR
      have hp : Hp Z ρ (_ :: L) w := hp
      refine s_val (wk1 hE rfl rfl rfl hc1) rfl rfl hE hp (v := (.bool (!x2))) (ex_not rfl hE rfl) ?_
      intro a hE
      refine s_val (wk0 rfl) rfl rfl hE hp (v := (.bool (!x2))) (ex_pick0 rfl hE rfl hc1 rfl) ?_
      intro a hE
      obtain rfl := Option.some.inj hg1
      exact s_nil ⟨hE.cut ⟨rfl, rfl, rfl, trivial⟩, hp⟩
  · rintro a w ⟨hE, hp⟩
    refine s_val (wk0 rfl) rfl rfl hE hp (v := (.bool m1)) (ex_move rfl hE rfl) ?_
    intro a hE
    refine s_cut [_, _, _, _] (fun a w => Env 58 [(18, (.bool (m1 || (decide ((p1.length : Int) = 0))))), (1, vp1), (2, (.pointer (some ⟨b1, 0, none⟩)))] a ∧ Hp Z ρ (Pt b1 (.cells #[(.int .i64 p0.vars), vp0_clauses] 24 (0, 0)) :: L) w) ?_ ?_
    · rcases Bool.eq_false_or_eq_true m1 with hc2 | hc2
      ·
        refine s_skip (wk2 hE rfl rfl rfl hc2) rfl rfl hE ?_
        intro a hE
        refine s_skip (wk2 hE rfl rfl rfl hc2) rfl rfl hE ?_
        intro a hE
        refine s_skip (wk2 hE rfl rfl rfl hc2) rfl rfl hE ?_
        intro a hE
        refine s_val (wk0 rfl) rfl rfl hE hp (v := (.bool true)) (ex_pick1 rfl hE rfl hc2 rfl) ?_
        intro a hE
        have hE := hE.eqv (v' := (.bool (m1 || (decide ((p1.length : Int) = 0))))) (by rw [hc2]; rfl)
        exact s_nil ⟨hE.cut ⟨rfl, rfl, rfl, trivial⟩, hp⟩
      ·
        refine s_val (wk1 hE rfl rfl rfl hc2) rfl rfl hE hp (v := vp1) (ex_move rfl hE rfl) ?_
        intro a hE
        refine s_val (wk1 hE rfl rfl rfl hc2) rfl rfl hE hp (v := (.int .i64 (p1.length : Int))) (ex_len rfl hE rfl (RoSl.len hp1 slty22)) ?_
        intro a hE
        refine s_val (wk1 hE rfl rfl rfl hc2) rfl rfl hE hp (v := (.bool (decide ((p1.length : Int) = 0)))) (ex_eql rfl hE rfl rfl) ?_
        intro a hE
        refine s_val (wk0 rfl) rfl rfl hE hp (v := (.bool (decide ((p1.length : Int) = 0)))) (ex_pick0 rfl hE rfl hc2 rfl) ?_
        intro a hE
        have hE := hE.eqv (v' := (.bool (m1 || (decide ((p1.length : Int) = 0))))) (by rw [hc2]; rfl)
        exact s_nil ⟨hE.cut ⟨rfl, rfl, rfl, trivial⟩, hp⟩
    · rintro a w ⟨hE, hp⟩
      refine s_val (wk0 rfl) rfl rfl hE hp (v := (.bool (m1 || (decide ((p1.length : Int) = 0))))) (ex_move rfl hE rfl) ?_
      intro a hE
      obtain ⟨m2, hg2, hm⟩ := bnd hm
      refine s_cut [_, _, _, _, _, _, _, _, _] (fun a w => Env 58 [(28, (.bool m2)), (1, vp1), (2, (.pointer (some ⟨b1, 0, none⟩)))] a ∧ Hp Z ρ (Pt b1 (.cells #[(.int .i64 p0.vars), vp0_clauses] 24 (0, 0)) :: L) w) ?_ ?_
      · rcases Bool.eq_false_or_eq_true (m1 || (decide ((p1.length : Int) = 0))) with hc3 | hc3
        ·
          replace hg2 := (it hc3).symm.trans hg2
          refine s_skip (wk2 hE rfl rfl rfl hc3) rfl rfl hE ?_
          intro a hE
          refine s_skip (wk2 hE rfl rfl rfl hc3) rfl rfl hE ?_
          intro a hE
          refine s_skip (wk2 hE rfl rfl rfl hc3) rfl rfl hE ?_
          intro a hE
          refine s_skip (wk2 hE rfl rfl rfl hc3) rfl rfl hE ?_
          intro a hE
          refine s_skip (wk2 hE rfl rfl rfl hc3) rfl rfl hE ?_
          intro a hE
          refine s_skip (wk2 hE rfl rfl rfl hc3) rfl rfl hE ?_
          intro a hE
          refine s_skip (wk2 hE rfl rfl rfl hc3) rfl rfl hE ?_
          intro a hE
          refine s_skip (wk2 hE rfl rfl rfl hc3) rfl rfl hE ?_
          intro a hE
          refine s_val (wk0 rfl) rfl rfl hE hp (v := (.bool true)) (ex_pick1 rfl hE rfl hc3 rfl) ?_
          intro a hE
          obtain rfl := Option.some.inj hg2
          exact s_nil ⟨hE.cut ⟨rfl, rfl, rfl, trivial⟩, hp⟩
        ·
          replace hg2 := (ie hc3).symm.trans hg2
          refine s_val (wk1 hE rfl rfl rfl hc3) rfl rfl hE hp (v := vp1) (ex_move rfl hE rfl) ?_
          intro a hE
          refine s_val (wk1 hE rfl rfl rfl hc3) rfl rfl hE hp (v := vp1) (ex_move rfl hE rfl) ?_
          intro a hE
          refine s_val (wk1 hE rfl rfl rfl hc3) rfl rfl hE hp (v := (.int .i64 (p1.length : Int))) (ex_len rfl hE rfl (RoSl.len hp1 slty22)) ?_
          intro a hE
          obtain ⟨x3, ex3, hg2⟩ := bnd hg2
          refine s_val (wk1 hE rfl rfl rfl hc3) rfl rfl hE hp (v := (.int .i64 x3)) (ex_sub rfl hE rfl rfl (inK_some ex3)) ?_
          intro a hE
          obtain ⟨x4, ex4, hg2⟩ := bnd hg2
          obtain ⟨b2, b2o, b2c, b2r, b2k, b2f⟩ := RoSl.at hp1 slty22 ex4
          obtain ⟨vb2, rfl, hb2⟩ := b2k
          have b2f : AtP ρ b2 b2o [vb2] := b2f
          refine s_val (wk1 hE rfl rfl rfl hc3) rfl rfl hE hp (v := (.pointer (some ⟨b2, b2o, none⟩))) (ex_index rfl hE rfl rfl b2r) ?_
          intro a hE
          refine s_val (wk1 hE rfl rfl rfl hc3) rfl rfl hE hp (v := vb2) (ex_load rfl hE rfl (fun w hw => run_ld1 varty25 (b2f.c 0 rfl w hw))) ?_
          intro a hE
          refine s_val (wk1 hE rfl rfl rfl hc3) rfl rfl hE hp (v := (.int .i64 (x4.length : Int))) (ex_len rfl hE rfl (RoSl.len hb2 slty25)) ?_
          intro a hE
          refine s_val (wk1 hE rfl rfl rfl hc3) rfl rfl hE hp (v := (.bool (!decide ((x4.length : Int) = 0)))) (ex_neq rfl hE rfl rfl) ?_
          intro a hE
          refine s_val (wk0 rfl) rfl rfl hE hp (v := (.bool (!decide ((x4.length : Int) = 0)))) (ex_pick0 rfl hE rfl hc3 rfl) ?_
          intro a hE
          obtain rfl := Option.some.inj hg2
          exact s_nil ⟨hE.cut ⟨rfl, rfl, rfl, trivial⟩, hp⟩
      · rintro a w ⟨hE, hp⟩
        refine s_nil ?_
        refine k_if hE rfl (fun hc4 => ?_) (fun hc4 => ?_)
        · replace hm := (it hc4).symm.trans hm
          refine k_seq ?_
          refine k_region ?_
          refine s_val (wk0 rfl) rfl rfl hE hp (v := (.bool false)) (ex_asn rfl hE rfl) ?_
          intro a hE
          refine s_nil ?_
          refine k_ret ?_
          obtain rfl := Option.some.inj hm
          exact ret1 hE rfl rfl ⟨_, rfl, rfl, (hp.drop)⟩
        · replace hm := (ie hc4).symm.trans hm
          refine k_skip ?_
          refine k_seq ?_
          refine k_seq ?_
          refine k_region ?_
          refine s_val (wk0 rfl) rfl rfl hE hp (v := (.int .i64 0)) (ex_asn rfl hE rfl) ?_
          intro a hE
          refine s_nil ?_
          obtain ⟨b3, hc5, hm⟩ := bnd hm
          refine k_block (fun a w => ∃ s : (Int × (List (List Int))), b3 = .brk s ∧ (∃ (ρ1 : PH) (vc1_1 : Value), ρ.le ρ1 ∧ RoSl ρ1 vc1_1 s.2 ∧ Env 58 [] a ∧ Hp Z ρ1 (Pt b1 (.cells #[(.int .i64 s.1), vc1_1] 24 (0, 0)) :: L) w)) ?_ ?_
          · refine k_loop hc5 (fun s a w => ∃ (ρ1 : PH) (vc1_1 : Value), ρ.le ρ1 ∧ RoSl ρ1 vc1_1 s.2.2 ∧ Env 58 [(1, vp1), (2, (.pointer (some ⟨b1, 0, none⟩))), (5, (.int .i64 s.1))] a ∧ Hp Z ρ1 (Pt b1 (.cells #[(.int .i64 s.2.1), vc1_1] 24 (0, 0)) :: L) w) ?_ ?_
            · exact ⟨ρ, _, (PH.le.rf _), hp0_clauses, hE.cut ⟨rfl, rfl, rfl, trivial⟩, hp⟩
            · rintro ⟨lp1_0, lp1_1, lp1_2⟩ st a w ⟨ρ1, vc1_1, hlg1, hc1_1, hE, hp⟩ hl1
              have hE : Env 58 [(1, vp1), (2, (.pointer (some ⟨b1, 0, none⟩))), (5, (.int .i64 lp1_0))] a := hE
              have hp : Hp Z ρ1 (Pt b1 (.cells #[(.int .i64 lp1_1), vc1_1] 24 (0, 0)) :: L) w := hp
              have hlg1 : ρ.le ρ1 := hlg1
              have hc1_1 : RoSl ρ1 vc1_1 lp1_2 := hc1_1
              replace hl1 : m_assessorref27_Check_lp1 p1 lp1_0 lp1_1 lp1_2 = some st := hl1
              unfold m_assessorref27_Check_lp1 at hl1
              refine k_seq ?_
              refine k_seq ?_
              refine k_region ?_
              refine s_val (wk0 rfl) rfl rfl hE hp (v := (.int .i64 lp1_0)) (ex_move rfl hE rfl) ?_
              intro a hE
              refine s_val (wk0 rfl) rfl rfl hE hp (v := vp1) (ex_move rfl hE rfl) ?_
              intro a hE
              refine s_val (wk0 rfl) rfl rfl hE hp (v := (.int .i64 (p1.length : Int))) (ex_len rfl hE rfl (RoSl.len (RoSl.mono hp1 hlg1) slty22)) ?_
              intro a hE
              refine s_val (wk0 rfl) rfl rfl hE hp (v := (.bool (decide (lp1_0 < (p1.length : Int))))) (ex_lss rfl hE rfl rfl) ?_
              intro a hE
              refine s_nil ?_
              refine k_if hE rfl (fun hc6 => ?_) (fun hc6 => ?_)
              · replace hl1 := (it hc6).symm.trans hl1
                refine k_skip ?_
                refine k_seq ?_
                refine k_plain ?_
                refine k_seq ?_
                refine k_seq ?_
                refine k_quiet (by kernel_rfl) (by kernel_rfl) hp ?_
                refine q_val (wk0 rfl) rfl rfl hE (v := vp1) (ex_move rfl hE rfl) ?_
                intro a hE
                refine q_val (wk0 rfl) rfl rfl hE (v := (.int .i64 lp1_0)) (ex_move rfl hE rfl) ?_
                intro a hE
                obtain ⟨x5, ex5, hl1⟩ := bnd hl1
                obtain ⟨b4, b4o, b4c, b4r, b4k, b4f⟩ := RoSl.at (RoSl.mono hp1 hlg1) slty22 ex5
                obtain ⟨vb4, rfl, hb4⟩ := b4k
                have b4f : AtP ρ1 b4 b4o [vb4] := b4f
                refine q_val (wk0 rfl) rfl rfl hE (v := (.pointer (some ⟨b4, b4o, none⟩))) (ex_index rfl hE rfl rfl b4r) ?_
                intro a hE
                refine q_val (wk0 rfl) rfl rfl hE (v := vb4) (ex_load rfl hE rfl (fun w hw => run_ld1 varty25 (b4f.c 0 rfl w hw))) ?_
                intro a hE
                refine q_val (wk0 rfl) rfl rfl hE (v := (.pointer (some ⟨b1, 0, none⟩))) (ex_field rfl hE rfl (fldty24_0 _ _)) ?_
                intro a hE
                refine q_val (wk0 rfl) rfl rfl hE (v := (.int .i64 lp1_1)) (ex_load rfl hE rfl (fun w hw => run_ld1 varty3 (Hp.c 0 rfl 0 rfl w hw))) ?_
                intro a hE
                obtain ⟨x6, ex6, hl1⟩ := bnd hl1
                refine q_call (wk0 rfl) rfl rfl hE rfl [vb4, (.int .i64 lp1_1)] ⟨rfl, rfl, trivial⟩ ent12 (v := (.bool x6)) (fun w hw => Calls.mono (c_assessorref26_IsClause (Tabs.mono hT hlg1) x5 vb4 hb4 lp1_1 hw x6 ex6) fun e w' ⟨v, he, hv, hh⟩ => ⟨by rw [he, hv], hh⟩) ?_
                intro a hE
                refine q_val (wk0 rfl) rfl rfl hE (v := (.bool (!x6))) (ex_not rfl hE rfl) ?_
                intro a hE
                refine q_val (wk0 rfl) rfl rfl hE (v := (.bool (!x6))) (ex_move rfl hE rfl) ?_
                intro a hE
                obtain ⟨m3, hg3, hl1⟩ := bnd hl1
                refine q_cut [_, _, _, _, _, _, _, _] (fun a => Env 58 [(51, (.bool m3)), (1, vp1), (2, (.pointer (some ⟨b1, 0, none⟩))), (5, (.int .i64 lp1_0))] a) ?_ ?_
                · rcases Bool.eq_false_or_eq_true (!x6) with hc7 | hc7
                  ·
                    replace hg3 := (it hc7).symm.trans hg3
                    refine q_skip (wk2 hE rfl rfl rfl hc7) rfl rfl hE ?_
                    intro a hE
                    refine q_skip (wk2 hE rfl rfl rfl hc7) rfl rfl hE ?_
                    intro a hE
                    refine q_skip (wk2 hE rfl rfl rfl hc7) rfl rfl hE ?_
                    intro a hE
                    refine q_skip (wk2 hE rfl rfl rfl hc7) rfl rfl hE ?_
                    intro a hE
                    refine q_skip (wk2 hE rfl rfl rfl hc7) rfl rfl hE ?_
                    intro a hE
                    refine q_skip (wk2 hE rfl rfl rfl hc7) rfl rfl hE ?_
                    intro a hE
                    refine q_skip (wk2 hE rfl rfl rfl hc7) rfl rfl hE ?_
                    intro a hE
                    refine q_val (wk0 rfl) rfl rfl hE (v := (.bool true)) (ex_pick1 rfl hE rfl hc7 rfl) ?_
                    intro a hE
                    obtain rfl := Option.some.inj hg3
                    exact q_nil (hE.cut ⟨rfl, rfl, rfl, rfl, trivial⟩)
                  ·
                    replace hg3 := (ie hc7).symm.trans hg3
                    refine q_val (wk1 hE rfl rfl rfl hc7) rfl rfl hE (v := (.agg #[(.int .i64 lp1_1), vc1_1])) (ex_load rfl hE rfl (fun w hw => run_ldN (cs := [(.int .i64 lp1_1), vc1_1]) varty24 (Hp.cN 0 rfl 0 _ (sub_all rfl) w hw))) ?_
                    intro a hE
                    refine q_val (wk1 hE rfl rfl rfl hc7) rfl rfl hE (v := vp1) (ex_move rfl hE rfl) ?_
                    intro a hE
                    refine q_val (wk1 hE rfl rfl rfl hc7) rfl rfl hE (v := (.int .i64 lp1_0)) (ex_move rfl hE rfl) ?_
                    intro a hE
                    obtain ⟨x7, ex7, hg3⟩ := bnd hg3
                    obtain ⟨b5, b5o, b5c, b5r, b5k, b5f⟩ := RoSl.at (RoSl.mono hp1 hlg1) slty22 ex7
                    obtain ⟨vb5, rfl, hb5⟩ := b5k
                    have b5f : AtP ρ1 b5 b5o [vb5] := b5f
                    refine q_val (wk1 hE rfl rfl rfl hc7) rfl rfl hE (v := (.pointer (some ⟨b5, b5o, none⟩))) (ex_index rfl hE rfl rfl b5r) ?_
                    intro a hE
                    refine q_val (wk1 hE rfl rfl rfl hc7) rfl rfl hE (v := vb5) (ex_load rfl hE rfl (fun w hw => run_ld1 varty25 (b5f.c 0 rfl w hw))) ?_
                    intro a hE
                    obtain ⟨x8, ex8, hg3⟩ := bnd hg3
                    refine q_call (wk1 hE rfl rfl rfl hc7) rfl rfl hE rfl [(.agg #[(.int .i64 lp1_1), vc1_1]), vb5] ⟨rfl, rfl, trivial⟩ ent13 (v := (.bool x8)) (fun w hw => Calls.mono (c_assessorref27_Follows (Tabs.mono hT hlg1) (Formula.mk lp1_1 lp1_2) vc1_1 hc1_1 x7 vb5 hb5 hw x8 ex8) fun e w' ⟨v, he, hv, hh⟩ => ⟨by rw [he, hv], hh⟩) ?_
                    intro a hE
                    refine q_val (wk1 hE rfl rfl rfl hc7) rfl rfl hE (v := (.bool (!x8))) (ex_not rfl hE rfl) ?_
                    intro a hE
                    refine q_val (wk0 rfl) rfl rfl hE (v := (.bool (!x8))) (ex_pick0 rfl hE rfl hc7 rfl) ?_
                    intro a hE
                    obtain rfl := Option.some.inj hg3
                    exact q_nil (hE.cut ⟨rfl, rfl, rfl, rfl, trivial⟩)
                · intro a hE
                  refine q_nil fun w hp => ?_
                  have hp : Hp Z ρ1 (_ :: L) w := hp
                  refine k_if hE rfl (fun hc8 => ?_) (fun hc8 => ?_)
                  · replace hl1 := (it hc8).symm.trans hl1
                    refine k_seq ?_
                    refine k_region ?_
                    refine s_val (wk0 rfl) rfl rfl hE hp (v := (.bool false)) (ex_asn rfl hE rfl) ?_
                    intro a hE
                    refine s_nil ?_
                    refine k_ret ?_
                    refine ⟨_, (Option.some.inj hl1).symm, fun hb => ?_⟩
                    subst hb
                    obtain rfl := Option.some.inj hm
                    exact ret1 hE rfl rfl ⟨_, rfl, rfl, ((hp.drop).less hlg1)⟩
                  · replace hl1 := (ie hc8).symm.trans hl1
                    refine k_skip ?_
                    obtain ⟨x9, ex9, hl1⟩ := bnd hl1
                    obtain ⟨x10, ex10, hl1⟩ := bnd hl1
                    have hp := hp.drew
                    refine k_heldV ([([], At0 Z ρ1), ([6], At1 Z ρ1 (Pt b1 (.cells #[(.int .i64 lp1_1), vc1_1] 24 (0, 0))))] : Facts) (fun a w => ∃ ρy1 : PH, ∃ yv1 : Value, ρ1.le ρy1 ∧ RoSl ρy1 yv1 x10.clauses ∧ Env 58 [(1, vp1), (2, (.pointer (some ⟨b1, 0, none⟩))), (5, (.int .i64 lp1_0))] a ∧ Hp Z ρy1 (Pt b1 (.cells #[(.int .i64 x10.vars), yv1] 24 (0, 0)) :: L) w) (by kernel_rfl) ⟨fun _ => ⟨_, hp⟩, fun _ => ⟨_, (hp.get 0 rfl)⟩, trivial⟩ (fun hS => ?_) ?_
                    ·
                      generalize w.drew = w at hS hp ⊢
                      refine v_take1 0 1 (wk0 rfl) rfl rfl rfl hE (by kernel_rfl) (by kernel_rfl) (by kernel_rfl) rfl (by kernel_rfl) hS (v := (.agg #[(.int .i64 lp1_1), vc1_1])) (fun _ => ex_load rfl hE rfl (fun w hw => run_ldN (cs := [(.int .i64 lp1_1), vc1_1]) varty24 (Hp.cN 0 rfl 0 _ (sub_all rfl) w hw))) ?_
                      intro a hE hS
                      refine v_take0 1 (wk0 rfl) rfl rfl rfl hE (by kernel_rfl) (by kernel_rfl) (by kernel_rfl) rfl (by kernel_rfl) hS (v := vp1) (fun _ => ex_move rfl hE rfl) ?_
                      intro a hE hS
                      refine v_take0 2 (wk0 rfl) rfl rfl rfl hE (by kernel_rfl) (by kernel_rfl) (by kernel_rfl) rfl (by kernel_rfl) hS (v := (.int .i64 lp1_0)) (fun _ => ex_move rfl hE rfl) ?_
                      intro a hE hS
                      obtain ⟨b7, b7o, b7c, b7r, b7k, b7f⟩ := RoSl.at (RoSl.mono hp1 hlg1) slty22 ex9
                      obtain ⟨vb7, rfl, hb7⟩ := b7k
                      have b7f : AtP ρ1 b7 b7o [vb7] := b7f
                      refine v_take0 3 (wk0 rfl) rfl rfl rfl hE (by kernel_rfl) (by kernel_rfl) (by kernel_rfl) rfl (by kernel_rfl) hS (v := (.pointer (some ⟨b7, b7o, none⟩))) (fun _ => ex_index rfl hE rfl rfl b7r) ?_
                      intro a hE hS
                      refine v_take0 4 (wk0 rfl) rfl rfl rfl hE (by kernel_rfl) (by kernel_rfl) (by kernel_rfl) rfl (by kernel_rfl) hS (v := vb7) (fun _ => ex_load rfl hE rfl (fun w hw => run_ld1 varty25 (b7f.c 0 rfl w hw))) ?_
                      intro a hE hS
                      refine v_all [5] (by kernel_rfl) rfl ?_
                      refine List.forall_mem_cons.2 ⟨?_, fun _ h => absurd h (by simp)⟩
                      ·
                        refine h_op rfl ?_
                        refine s_call (wk0 rfl) rfl rfl hE rfl [(.agg #[(.int .i64 lp1_1), vc1_1]), vb7] ⟨rfl, rfl, trivial⟩ ent38 (c_assessorref27_With (Tabs.mono hT hlg1) (Formula.mk lp1_1 lp1_2) vc1_1 hc1_1 x9 vb7 hb7 hp x10 ex10) Ret.ret ?_
                        intro v a w hR hE
                        obtain ⟨ρ3, vr4_clauses, hle2, rfl, hr4_clauses, hp⟩ := Ret.of hR
                        have hp : Hp Z ρ3 (_ :: L) w := hp
                        refine s_nil (and_with ⟨fun _ => ⟨_, (hp.less hle2)⟩, fun _ => ⟨_, ((hp.get 0 rfl).less hle2)⟩, trivial⟩ fun hS => ?_)
                        refine v_all [6] (by kernel_rfl) rfl ?_
                        refine List.forall_mem_cons.2 ⟨?_, fun _ h => absurd h (by simp)⟩
                        ·
                          refine h_op rfl ?_
                          refine s_store (wk0 rfl) rfl hE hp rfl rfl rfl 0 rfl varty24.size_ rfl (allOne_mem ⟨rfl, (RoSl.one hr4_clauses), trivial⟩) [(.int .i64 x10.vars), vr4_clauses] rfl ?_
                          intro w hp
                          have hp : Hp Z ρ3 (Pt b1 (.cells #[(.int .i64 x10.vars), vr4_clauses] 24 (0, 0)) :: L) w := hp
                          refine s_nil (and_with ⟨fun _ => ⟨_, (hp.less hle2)⟩, dead (by kernel_rfl), trivial⟩ fun hS => ?_)
                          exact v_done (by kernel_rfl) ⟨ρ3, _, hle2, hr4_clauses, hE.cut ⟨rfl, rfl, rfl, trivial⟩, hp⟩
                    · rintro a w ⟨ρy1, yv1, hley1, yh1, hE, hp⟩
                      refine k_region ?_
                      refine s_val (wk0 rfl) rfl rfl hE hp (v := (.int .i64 lp1_0)) (ex_move rfl hE rfl) ?_
                      intro a hE
                      obtain ⟨x11, ex11, hl1⟩ := bnd hl1
                      refine s_val (wk0 rfl) rfl rfl hE hp (v := (.int .i64 x11)) (ex_add rfl hE rfl rfl (inK_some ex11)) ?_
                      intro a hE
                      refine s_val (wk0 rfl) rfl rfl hE hp (v := (.int .i64 x11)) (ex_asn rfl hE rfl) ?_
                      intro a hE
                      refine s_nil ?_
                      exact ⟨_, (Option.some.inj hl1).symm, ρy1, _, (PH.le.tr hlg1 hley1), yh1, hE.cut ⟨rfl, rfl, rfl, trivial⟩, hp⟩
              · replace hl1 := (ie hc6).symm.trans hl1
                refine k_exit ?_
                refine ⟨_, (Option.some.inj hl1).symm, fun hbb => ?_⟩
                exact ⟨_, hbb.symm, ρ1, _, hlg1, hc1_1, hE.cut trivial, hp⟩
          · rintro a w ⟨b3s, rfl, ρ1, vc1_1, hlg1, hc1_1, hE, hp⟩
            dsimp only at hm
            refine k_seq ?_
            refine k_region ?_
            refine s_val (wk0 rfl) rfl rfl hE hp (v := (.bool true)) (ex_asn rfl hE rfl) ?_
            intro a hE
            refine s_nil ?_
            refine k_ret ?_
            obtain rfl := Option.some.inj hm
            exact ret1 hE rfl rfl ⟨_, rfl, rfl, ((hp.drop).less hlg1)⟩
set_option maxRecDepth 100000 in
set_option maxHeartbeats 4000000 in
theorem c_assessorref27_without {Z : World} {ρ : PH} {L : List Atom} {w : World} (hT : Tabs ρ) (p0 : (List (List Int))) (vp0 : Value) (hp0 : RoSl ρ vp0 p0) (p1 : Int) (hp : Hp Z ρ (L) w) (r : (List (List Int))) (hm : m_assessorref27_without p0 p1 = some r) :
    Calls Tryd.prog 41 #[vp0, (.int .i64 p1)] w (Ret fun v w' => ∃ (ρ' : PH) (vr1 : Value), ρ.le ρ' ∧ v = vr1 ∧ RoSl ρ' vr1 r ∧ Hp Z ρ' (L) w') := by
  refine enter (N := 17) Tryd.func41 rfl rfl [(0, vp0), (1, (.int .i64 p1))] rfl (argsIn_mem ⟨rfl, rfl, trivial⟩) fun a hE => ?_
  unfold m_assessorref27_without at hm
  refine k_seq ?_
  refine k_region ?_
  refine s_val (wk0 rfl) rfl rfl hE hp (v := (.slice none 0 0)) (ex_asn rfl hE rfl) ?_
  intro a hE
  refine s_nil ?_
  refine k_seq ?_
  refine k_region ?_
  refine s_lit (wk0 rfl) rfl rfl hE hp rfl [] trivial [] 25 (fun w => by simp [Instr.buildSlice, Instr.fill, Value.cells, go_sem]) ?_
  intro a w b1 hE hp
  have hp : Hp Z ρ (Pt b1 (.cells #[] 25 (0, 0)) :: L) w := hp
  refine s_val (wk0 rfl) rfl rfl hE hp (v := vp0) (ex_move rfl hE rfl) ?_
  intro a hE
  refine s_val (wk0 rfl) rfl rfl hE hp (v := (.int .i64 p1)) (ex_move rfl hE rfl) ?_
  intro a hE
  obtain ⟨x1, ex1, hm⟩ := bnd hm
  obtain ⟨v1, v1r, f1⟩ := RoSl.part hp0 slty22 none (some (.i64, p1)) rfl rfl ex1
  refine s_val (wk0 rfl) rfl rfl hE hp (v := v1) (ex_sl rfl hE rfl none (some (.i64, p1)) (by exact trivial) (by exact rfl) v1r) ?_
  intro a hE
  have hR1 : RepAll ρ ([] : List (List Int)) [] := rfl
  have hp := (hp.get 0 rfl).imp (rowR_of_pt (l := ([] : List (List Int))) (n := 0) (cs := []) rfl (by decide) rfl)
  have hp : Hp Z ρ (RowR 25 (.slice (some ⟨b1, 0, none⟩) 0 0) (([] : List (List Int)) : (List (List Int))) ([]) :: L) w := hp
  obtain ⟨x2, ex2, hm⟩ := bnd hm
  refine s_appsR (wk0 rfl) rfl rfl hE hp rfl slty22 rfl rfl 0 rfl rfl f1 ex2 ?_
  intro v2 ys1 a w hR3 hE hp
  have hR2 : RepAll ρ x2 (([]) ++ ys1) := (app_some ex2).2 ▸ RepAll.app hR1 hR3
  have hp : Hp Z ρ (RowR 25 v2 (x2 : (List (List Int))) (([]) ++ ys1) :: L) w := hp
  refine s_val (wk0 rfl) rfl rfl hE hp (v := v2) (ex_asn rfl hE rfl) ?_
  intro a hE
  refine s_nil ?_
  refine k_seq ?_
  refine k_region ?_
  refine s_val (wk0 rfl) rfl rfl hE hp (v := v2) (ex_move rfl hE rfl) ?_
  intro a hE
  refine s_val (wk0 rfl) rfl rfl hE hp (v := vp0) (ex_move rfl hE rfl) ?_
  intro a hE
  refine s_val (wk0 rfl) rfl rfl hE hp (v := (.int .i64 p1)) (ex_move rfl hE rfl) ?_
  intro a hE
  obtain ⟨x3, ex3, hm⟩ := bnd hm
  refine s_val (wk0 rfl) rfl rfl hE hp (v := (.int .i64 x3)) (ex_add rfl hE rfl rfl (inK_some ex3)) ?_
  intro a hE
  obtain ⟨x4, ex4, hm⟩ := bnd hm
  obtain ⟨v3, v3r, f2⟩ := RoSl.part hp0 slty22 (some (.i64, x3)) none rfl rfl ex4
  refine s_val (wk0 rfl) rfl rfl hE hp (v := v3) (ex_sl rfl hE rfl (some (.i64, x3)) none (by exact rfl) (by exact trivial) v3r) ?_
  intro a hE
  obtain ⟨x5, ex5, hm⟩ := bnd hm
  refine s_appsR (wk0 rfl) rfl rfl hE hp rfl slty22 rfl rfl 0 rfl rfl f2 ex5 ?_
  intro v4 ys2 a w hR5 hE hp
  have hR4 : RepAll ρ x5 ((([]) ++ ys1) ++ ys2) := (app_some ex5).2 ▸ RepAll.app hR2 hR5
  have hp : Hp Z ρ (RowR 25 v4 (x5 : (List (List Int))) ((([]) ++ ys1) ++ ys2) :: L) w := hp
  refine s_val (wk0 rfl) rfl rfl hE hp (v := v4) (ex_asn rfl hE rfl) ?_
  intro a hE
  refine s_nil ?_
  refine k_ret ?_
  obtain ⟨k1, k1a, k1d, hp⟩ := (hp.get 0 rfl).lend
  have f3 : RoSl (ρ.un k1) v4 x5 := RowR.ro k1d k1a hR4
  have hp : Hp Z (ρ.un k1) (L) w := hp
  obtain rfl := Option.some.inj hm
  exact ret1 hE rfl rfl ⟨_, rfl, _, _, (PH.le_un _ k1), rfl, f3, hp⟩
set_option maxRecDepth 100000 in
set_option maxHeartbeats 4000000 in
theorem c_assessorref27_Trim {Z : World} {ρ : PH} {L : List Atom} {w : World} (hT : Tabs ρ) (p0 : Formula) (vp0_clauses : Value) (hp0_clauses : RoSl ρ vp0_clauses p0.clauses) (p1 : (List (List Int))) (vp1 : Value) (hp1 : RoSl ρ vp1 p1) (hp : Hp Z ρ (L) w) (r : ((List (List Int)) × Int)) (hm : m_assessorref27_Trim p0 p1 = some r) :
    Calls Tryd.prog 18 #[(.agg #[(.int .i64 p0.vars), vp0_clauses]), vp1] w (Ret fun v w' => ∃ (ρ' : PH) (vr1 : Value), ρ.le ρ' ∧ v = .tuple #[vr1, (.int .i64 r.2)] ∧ RoSl ρ' vr1 r.1 ∧ Hp Z ρ' (L) w') := by
  refine enter (N := 27) Tryd.func18 rfl rfl [(0, (.agg #[(.int .i64 p0.vars), vp0_clauses])), (1, vp1)] rfl (argsIn_mem ⟨rfl, rfl, trivial⟩) fun a hE => ?_
  unfold m_assessorref27_Trim at hm
  refine k_seq ?_
  refine k_region ?_
  refine s_box (wk0 rfl) rfl rfl hE hp rfl (v := (.agg #[(.int .i64 p0.vars), vp0_clauses])) rfl ?_
  intro a w b1 hE hp
  have hp : Hp Z ρ (Pt b1 (.cells #[(.int .i64 p0.vars), vp0_clauses] 24 (0, 0)) :: L) w := hp
  refine s_val (wk0 rfl) rfl rfl hE hp (v := (.slice none 0 0)) (ex_asn rfl hE rfl) ?_
  intro a hE
  refine s_val (wk0 rfl) rfl rfl hE hp (v := (.int .i64 0)) (ex_asn rfl hE rfl) ?_
  intro a hE
  refine s_nil ?_
  refine k_seq ?_
  refine k_seq ?_
  refine k_region ?_
  refine s_val (wk0 rfl) rfl rfl hE hp (v := (.agg #[(.int .i64 p0.vars), vp0_clauses])) (ex_load rfl hE rfl (fun w hw => run_ldN (cs := [(.int .i64 p0.vars), vp0_clauses]) varty24 (Hp.cN 0 rfl 0 _ (sub_all rfl) w hw))) ?_
  intro a hE
  refine s_val (wk0 rfl) rfl rfl hE hp (v := vp1) (ex_move rfl hE rfl) ?_
  intro a hE
  obtain ⟨x1, ex1, hm⟩ := bnd hm
  refine s_call (wk0 rfl) rfl rfl hE rfl [(.agg #[(.int .i64 p0.vars), vp0_clauses]), vp1] ⟨rfl, rfl, trivial⟩ ent16 (c_assessorref27_Check hT p0 vp0_clauses hp0_clauses p1 vp1 hp1 hp x1 ex1) Ret.ret ?_
  intro v a w hR hE
  obtain ⟨rfl, hp⟩ := Ret.of hR
  have hp : Hp Z ρ (_ :: L) w := hp
  refine s_val (wk0 rfl) rfl rfl hE hp (v := (.bool (!x1))) (ex_not rfl hE rfl) ?_
  intro a hE
  refine s_nil ?_
  refine k_if hE rfl (fun hc1 => ?_) (fun hc1 => ?_)
  · replace hm := (it hc1).symm.trans hm
    refine k_seq ?_
    refine k_region ?_
    refine s_val (wk0 rfl) rfl rfl hE hp (v := (.slice none 0 0)) (ex_asn rfl hE rfl) ?_
    intro a hE
    refine s_val (wk0 rfl) rfl rfl hE hp (v := (.int .i64 1)) (ex_asn rfl hE rfl) ?_
    intro a hE
    refine s_nil ?_
    refine k_ret ?_
    obtain rfl := Option.some.inj hm
    exact ret2 hE rfl rfl rfl ⟨_, rfl, _, _, (PH.le.rf _), rfl, (RoSl.nil _), (hp.drop)⟩
  · replace hm := (ie hc1).symm.trans hm
    refine k_skip ?_
    refine k_seq ?_
    refine k_seq ?_
    refine k_region ?_
    refine s_val (wk0 rfl) rfl rfl hE hp (v := vp1) (ex_move rfl hE rfl) ?_
    intro a hE
    refine s_val (wk0 rfl) rfl rfl hE hp (v := (.int .i64 (p1.length : Int))) (ex_len rfl hE rfl (RoSl.len hp1 slty22)) ?_
    intro a hE
    obtain ⟨x2, ex2, hm⟩ := bnd hm
    refine s_val (wk0 rfl) rfl rfl hE hp (v := (.int .i64 x2)) (ex_sub rfl hE rfl rfl (inK_some ex2)) ?_
    intro a hE
    refine s_val (wk0 rfl) rfl rfl hE hp (v := (.int .i64 x2)) (ex_asn rfl hE rfl) ?_
    intro a hE
    refine s_nil ?_
    obtain ⟨b2, hc2, hm⟩ := bnd hm
    refine k_block (fun a w => ∃ (ρ1 : PH) (v1 : Value), ρ.le ρ1 ∧ RoSl ρ1 v1 b2 ∧ Env 27 [(1, v1)] a ∧ Hp Z ρ1 (Pt b1 (.cells #[(.int .i64 p0.vars), vp0_clauses] 24 (0, 0)) :: L) w) ?_ ?_
    · refine k_loop hc2 (fun s a w => ∃ (ρ1 : PH) (v1 : Value), ρ.le ρ1 ∧ RoSl ρ1 v1 s.1 ∧ Env 27 [(1, v1), (2, (.pointer (some ⟨b1, 0, none⟩))), (6, (.int .i64 s.2))] a ∧ Hp Z ρ1 (Pt b1 (.cells #[(.int .i64 p0.vars), vp0_clauses] 24 (0, 0)) :: L) w) ?_ ?_
      · exact ⟨ρ, _, (PH.le.rf _), hp1, hE.cut ⟨rfl, rfl, rfl, trivial⟩, hp⟩
      · rintro ⟨lp1_0, lp1_1⟩ st a w ⟨ρ1, v1, hlg1, h1, hE, hp⟩ hl1
        have hE : Env 27 [(1, v1), (2, (.pointer (some ⟨b1, 0, none⟩))), (6, (.int .i64 lp1_1))] a := hE
        have hp : Hp Z ρ1 (_ :: L) w := hp
        have hlg1 : ρ.le ρ1 := hlg1
        have h1 : RoSl ρ1 v1 lp1_0 := h1
        replace hl1 : m_assessorref27_Trim_lp1 p0 lp1_0 lp1_1 = some st := hl1
        unfold m_assessorref27_Trim_lp1 at hl1
        refine k_seq ?_
        refine k_seq ?_
        refine k_region ?_
        refine s_val (wk0 rfl) rfl rfl hE hp (v := (.int .i64 lp1_1)) (ex_move rfl hE rfl) ?_
        intro a hE
        refine s_val (wk0 rfl) rfl rfl hE hp (v := (.bool (decide (0 ≤ lp1_1)))) (ex_geq rfl hE rfl rfl) ?_
        intro a hE
        refine s_nil ?_
        refine k_if hE rfl (fun hc3 => ?_) (fun hc3 => ?_)
        · replace hl1 := (it hc3).symm.trans hl1
          refine k_skip ?_
          refine k_seq ?_
          refine k_plain ?_
          refine k_seq ?_
          refine k_region ?_
          refine s_val (wk0 rfl) rfl rfl hE hp (v := v1) (ex_move rfl hE rfl) ?_
          intro a hE
          refine s_val (wk0 rfl) rfl rfl hE hp (v := (.int .i64 lp1_1)) (ex_move rfl hE rfl) ?_
          intro a hE
          obtain ⟨x3, ex3, hl1⟩ := bnd hl1
          refine s_call (wk0 rfl) rfl rfl hE rfl [v1, (.int .i64 lp1_1)] ⟨rfl, rfl, trivial⟩ ent41 (c_assessorref27_without (Tabs.mono hT hlg1) lp1_0 v1 h1 lp1_1 hp x3 ex3) Ret.ret ?_
          intro vr2 a w hR hE
          obtain ⟨ρ2, u, hle1, rfl, hr2, hp⟩ := Ret.of hR
          have hp : Hp Z ρ2 (_ :: L) w := hp
          refine s_val (wk0 rfl) rfl rfl hE hp (v := vr2) (ex_asn rfl hE rfl) ?_
          intro a hE
          refine s_nil ?_
          refine k_seq ?_
          refine k_region ?_
          refine s_val (wk0 rfl) rfl rfl hE hp (v := (.agg #[(.int .i64 p0.vars), vp0_clauses])) (ex_load rfl hE rfl (fun w hw => run_ldN (cs := [(.int .i64 p0.vars), vp0_clauses]) varty24 (Hp.cN 0 rfl 0 _ (sub_all rfl) w hw))) ?_
          intro a hE
          refine s_val (wk0 rfl) rfl rfl hE hp (v := vr2) (ex_move rfl hE rfl) ?_
          intro a hE
          obtain ⟨x4, ex4, hl1⟩ := bnd hl1
          refine s_call (wk0 rfl) rfl rfl hE rfl [(.agg #[(.int .i64 p0.vars), vp0_clauses]), vr2] ⟨rfl, rfl, trivial⟩ ent16 (c_assessorref27_Check (Tabs.mono (Tabs.mono hT hlg1) hle1) p0 vp0_clauses (RoSl.mono (RoSl.mono hp0_clauses hlg1) hle1) x3 vr2 hr2 hp x4 ex4) Ret.ret ?_
          intro v a w hR hE
          obtain ⟨rfl, hp⟩ := Ret.of hR
          have hp : Hp Z ρ2 (_ :: L) w := hp
          refine s_nil ?_
          refine k_if hE rfl (fun hc4 => ?_) (fun hc4 => ?_)
          · replace hl1 := (it hc4).symm.trans hl1
            refine k_region ?_
            refine s_val (wk0 rfl) rfl rfl hE hp (v := vr2) (ex_move rfl hE rfl) ?_
            intro a hE
            refine s_val (wk0 rfl) rfl rfl hE hp (v := vr2) (ex_asn rfl hE rfl) ?_
            intro a hE
            refine s_nil ?_
            refine k_region ?_
            refine s_val (wk0 rfl) rfl rfl hE hp (v := (.int .i64 lp1_1)) (ex_move rfl hE rfl) ?_
            intro a hE
            obtain ⟨x5, ex5, hl1⟩ := bnd hl1
            refine s_val (wk0 rfl) rfl rfl hE hp (v := (.int .i64 x5)) (ex_sub rfl hE rfl rfl (inK_some ex5)) ?_
            intro a hE
            refine s_val (wk0 rfl) rfl rfl hE hp (v := (.int .i64 x5)) (ex_asn rfl hE rfl) ?_
            intro a hE
            refine s_nil ?_
            exact ⟨_, (Option.some.inj hl1).symm, ρ2, _, (PH.le.tr hlg1 hle1), hr2, hE.cut ⟨rfl, rfl, rfl, trivial⟩, hp⟩
          · replace hl1 := (ie hc4).symm.trans hl1
            refine k_skip ?_
            refine k_region ?_
            refine s_val (wk0 rfl) rfl rfl hE hp (v := (.int .i64 lp1_1)) (ex_move rfl hE rfl) ?_
            intro a hE
            obtain ⟨x6, ex6, hl1⟩ := bnd hl1
            refine s_val (wk0 rfl) rfl rfl hE hp (v := (.int .i64 x6)) (ex_sub rfl hE rfl rfl (inK_some ex6)) ?_
            intro a hE
            refine s_val (wk0 rfl) rfl rfl hE hp (v := (.int .i64 x6)) (ex_asn rfl hE rfl) ?_
            intro a hE
            refine s_nil ?_
            exact ⟨_, (Option.some.inj hl1).symm, ρ2, _, (PH.le.tr hlg1 hle1), (RoSl.mono h1 hle1), hE.cut ⟨rfl, rfl, rfl, trivial⟩, hp⟩
        · replace hl1 := (ie hc3).symm.trans hl1
          refine k_exit ?_
          refine ⟨_, (Option.some.inj hl1).symm, fun hbb => ?_⟩
          subst hbb
          exact ⟨ρ1, _, hlg1, h1, hE.cut ⟨rfl, trivial⟩, hp⟩
    · rintro a w ⟨ρ1, v1, hlg1, h1, hE, hp⟩
      refine k_seq ?_
      refine k_region ?_
      refine s_val (wk0 rfl) rfl rfl hE hp (v := v1) (ex_move rfl hE rfl) ?_
      intro a hE
      refine s_val (wk0 rfl) rfl rfl hE hp (v := v1) (ex_asn rfl hE rfl) ?_
      intro a hE
      refine s_val (wk0 rfl) rfl rfl hE hp (v := (.int .i64 0)) (ex_asn rfl hE rfl) ?_
      intro a hE
      refine s_nil ?_
      have hE := hE.cut (E' := [(4, v1), (5, (.int .i64 0))]) ⟨rfl, rfl, trivial⟩
      refine k_ret ?_
      obtain rfl := Option.some.inj hm
      exact ret2 hE rfl rfl rfl ⟨_, rfl, _, _, hlg1, rfl, h1, (hp.drop)⟩
set_option maxRecDepth 100000 in
set_option maxHeartbeats 4000000 in
theorem c_assessorref27_Core {Z : World} {ρ : PH} {L : List Atom} {w : World} (hT : Tabs ρ) (p0 : Formula) (vp0_clauses : Value) (hp0_clauses : RoSl ρ vp0_clauses p0.clauses) (p1 : (List (List Int))) (vp1 : Value) (hp1 : RoSl ρ vp1 p1) (hp : Hp Z ρ (L) w) (r : ((List Int) × Int)) (hm : m_assessorref27_Core p0 p1 = some r) :
    Calls Tryd.prog 20 #[(.agg #[(.int .i64 p0.vars), vp0_clauses]), vp1] w (Ret fun v w' => ∃ (vr1 : Value), v = .tuple #[vr1, (.int .i64 r.2)] ∧ Hp Z ρ (OwnSl 3 vr1 r.1 :: L) w') := by
  refine enter (N := 37) Tryd.func20 rfl rfl [(0, (.agg #[(.int .i64 p0.vars), vp0_clauses])), (1, vp1)] rfl (argsIn_mem ⟨rfl, rfl, trivial⟩) fun a hE => ?_
  unfold m_assessorref27_Core at hm
  refine k_seq ?_
  refine k_region ?_
  refine s_box (wk0 rfl) rfl rfl hE hp rfl (v := (.agg #[(.int .i64 p0.vars), vp0_clauses])) rfl ?_
  intro a w b1 hE hp
  have hp : Hp Z ρ (Pt b1 (.cells #[(.int .i64 p0.vars), vp0_clauses] 24 (0, 0)) :: L) w := hp
  refine s_val (wk0 rfl) rfl rfl hE hp (v := (.slice none 0 0)) (ex_asn rfl hE rfl) ?_
  intro a hE
  refine s_val (wk0 rfl) rfl rfl hE hp (v := (.int .i64 0)) (ex_asn rfl hE rfl) ?_
  intro a hE
  refine s_nil ?_
  refine k_seq ?_
  refine k_seq ?_
  refine k_region ?_
  refine s_val (wk0 rfl) rfl rfl hE hp (v := (.agg #[(.int .i64 p0.vars), vp0_clauses])) (ex_load rfl hE rfl (fun w hw => run_ldN (cs := [(.int .i64 p0.vars), vp0_clauses]) varty24 (Hp.cN 0 rfl 0 _ (sub_all rfl) w hw))) ?_
  intro a hE
  refine s_val (wk0 rfl) rfl rfl hE hp (v := vp1) (ex_move rfl hE rfl) ?_
  intro a hE
  obtain ⟨x1, ex1, hm⟩ := bnd hm
  refine s_call (wk0 rfl) rfl rfl hE rfl [(.agg #[(.int .i64 p0.vars), vp0_clauses]), vp1] ⟨rfl, rfl, trivial⟩ ent16 (c_assessorref27_Check hT p0 vp0_clauses hp0_clauses p1 vp1 hp1 hp x1 ex1) Ret.ret ?_
  intro v a w hR hE
  obtain ⟨rfl, hp⟩ := Ret.of hR
  have hp : Hp Z ρ (_ :: L) w := hp
  refine s_val (wk0 rfl) rfl rfl hE hp (v := (.bool (!x1))) (ex_not rfl hE rfl) ?_
  intro a hE
  refine s_nil ?_
  refine k_if hE rfl (fun hc1 => ?_) (fun hc1 => ?_)
  · replace hm := (it hc1).symm.trans hm
    refine k_seq ?_
    refine k_region ?_
    refine s_val (wk0 rfl) rfl rfl hE hp (v := (.slice none 0 0)) (ex_asn rfl hE rfl) ?_
    intro a hE
    refine s_val (wk0 rfl) rfl rfl hE hp (v := (.int .i64 1)) (ex_asn rfl hE rfl) ?_
    intro a hE
    refine s_nil ?_
    refine k_ret ?_
    have hp := hp.emp (OwnSl.nil (α := Int) 3)
    have hp : Hp Z ρ (OwnSl 3 (.slice none 0 0) ([] : List Int) :: _ :: L) w := hp
    obtain rfl := Option.some.inj hm
    exact ret2 hE rfl rfl rfl ⟨_, rfl, _, rfl, ((hp.get 1 rfl).drop)⟩
  · replace hm := (ie hc1).symm.trans hm
    refine k_skip ?_
    refine k_seq ?_
    refine k_region ?_
    refine s_lit (wk0 rfl) rfl rfl hE hp rfl [] trivial [] 3 (fun w => by simp [Instr.buildSlice, Instr.fill, Value.cells, go_sem]) ?_
    intro a w b2 hE hp
    have hp : Hp Z ρ (Pt b2 (.cells #[] 3 (0, 0)) :: _ :: L) w := hp
    refine s_val (wk0 rfl) rfl rfl hE hp (v := (.slice (some ⟨b2, 0, none⟩) 0 0)) (ex_asn rfl hE rfl) ?_
    intro a hE
    refine s_nil ?_
    refine k_seq ?_
    refine k_seq ?_
    refine k_region ?_
    refine s_val (wk0 rfl) rfl rfl hE hp (v := (.pointer (some ⟨b1, 1, none⟩))) (ex_field rfl hE rfl (fldty24_1 _ _)) ?_
    intro a hE
    refine s_val (wk0 rfl) rfl rfl hE hp (v := vp0_clauses) (ex_load rfl hE rfl (fun w hw => run_ld1 varty22 (Hp.c 1 rfl 1 rfl w hw))) ?_
    intro a hE
    refine s_val (wk0 rfl) rfl rfl hE hp (v := (.int .i64 (p0.clauses.length : Int))) (ex_len rfl hE rfl (RoSl.len hp0_clauses slty22)) ?_
    intro a hE
    obtain ⟨x2, ex2, hm⟩ := bnd hm
    refine s_val (wk0 rfl) rfl rfl hE hp (v := (.int .i64 x2)) (ex_sub rfl hE rfl rfl (inK_some ex2)) ?_
    intro a hE
    refine s_val (wk0 rfl) rfl rfl hE hp (v := (.int .i64 x2)) (ex_asn rfl hE rfl) ?_
    intro a hE
    refine s_nil ?_
    have hp := (hp.get 0 rfl).imp (own_of_pt (l := (([] : List Int) : List Int)) (n := 0) rfl (by decide) rfl)
    have hp : Hp Z ρ (OwnSl 3 (.slice (some ⟨b2, 0, none⟩) 0 0) ([] : List Int) :: _ :: L) w := hp
    obtain ⟨b3, hc2, hm⟩ := bnd hm
    refine k_block (fun a w => ∃ (ρ1 : PH) (w4 : Value) (vc2_1 : Value), ρ.le ρ1 ∧ RoSl ρ1 vc2_1 b3.2 ∧ Env 37 [(6, w4)] a ∧ Hp Z ρ1 (OwnSl 3 w4 b3.1 :: Pt b1 (.cells #[(.int .i64 p0.vars), vc2_1] 24 (0, 0)) :: L) w) ?_ ?_
    · refine k_loop hc2 (fun s a w => ∃ (ρ1 : PH) (w4 : Value) (vc2_1 : Value), ρ.le ρ1 ∧ RoSl ρ1 vc2_1 s.2.2 ∧ Env 37 [(1, vp1), (2, (.pointer (some ⟨b1, 0, none⟩))), (6, w4), (7, (.int .i64 s.1))] a ∧ Hp Z ρ1 (OwnSl 3 w4 s.2.1 :: Pt b1 (.cells #[(.int .i64 p0.vars), vc2_1] 24 (0, 0)) :: L) w) ?_ ?_
      · exact ⟨ρ, _, _, (PH.le.rf _), hp0_clauses, hE.cut ⟨rfl, rfl, rfl, rfl, trivial⟩, hp⟩
      · rintro ⟨lp1_0, lp1_1, lp1_2⟩ st a w ⟨ρ1, w4, vc2_1, hlg1, hc2_1, hE, hp⟩ hl1
        have hE : Env 37 [(1, vp1), (2, (.pointer (some ⟨b1, 0, none⟩))), (6, w4), (7, (.int .i64 lp1_0))] a := hE
        have hp : Hp Z ρ1 (OwnSl 3 w4 lp1_1 :: Pt b1 (.cells #[(.int .i64 p0.vars), vc2_1] 24 (0, 0)) :: L) w := hp
        have hlg1 : ρ.le ρ1 := hlg1
        have hc2_1 : RoSl ρ1 vc2_1 lp1_2 := hc2_1
        replace hl1 : m_assessorref27_Core_lp1 p0 p1 lp1_0 lp1_1 lp1_2 = some st := hl1
        unfold m_assessorref27_Core_lp1 at hl1
        refine k_seq ?_
        refine k_seq ?_
        refine k_region ?_
        refine s_val (wk0 rfl) rfl rfl hE hp (v := (.int .i64 lp1_0)) (ex_move rfl hE rfl) ?_
        intro a hE
        refine s_val (wk0 rfl) rfl rfl hE hp (v := (.bool (decide (0 ≤ lp1_0)))) (ex_geq rfl hE rfl rfl) ?_
        intro a hE
        refine s_nil ?_
        refine k_if hE rfl (fun hc3 => ?_) (fun hc3 => ?_)
        · replace hl1 := (it hc3).symm.trans hl1
          refine k_skip ?_
          refine k_seq ?_
          refine k_plain ?_
          refine k_seq ?_
          refine k_region ?_
          refine s_val (wk0 rfl) rfl rfl hE hp (v := (.agg #[(.int .i64 p0.vars), vc2_1])) (ex_load rfl hE rfl (fun w hw => run_ldN (cs := [(.int .i64 p0.vars), vc2_1]) varty24 (Hp.cN 1 rfl 0 _ (sub_all rfl) w hw))) ?_
          intro a hE
          refine s_new (wk0 rfl) rfl rfl hE hp rfl [(.int .i64 0), (.slice none 0 0)] (fun w => by simp [Instr.alloc, go_sem] <;> rfl) ?_
          intro a w b4 hE hp
          have hp : Hp Z ρ1 (Pt b4 (.cells #[(.int .i64 0), (.slice none 0 0)] 24 (0, 0)) :: _ :: _ :: L) w := hp
          refine s_store (wk0 rfl) rfl hE hp rfl rfl rfl 0 rfl varty24.size_ rfl (allOne_mem ⟨rfl, (RoSl.one hc2_1), trivial⟩) [(.int .i64 p0.vars), vc2_1] rfl ?_
          intro w hp
          have hp : Hp Z ρ1 (Pt b4 (.cells #[(.int .i64 p0.vars), vc2_1] 24 (0, 0)) :: _ :: _ :: L) w := hp
          refine s_nil ?_
          refine k_seq ?_
          refine k_region ?_
          refine s_val (wk0 rfl) rfl rfl hE hp (v := (.pointer (some ⟨b1, 1, none⟩))) (ex_field rfl hE rfl (fldty24_1 _ _)) ?_
          intro a hE
          refine s_val (wk0 rfl) rfl rfl hE hp (v := vc2_1) (ex_load rfl hE rfl (fun w hw => run_ld1 varty22 (Hp.c 2 rfl 1 rfl w hw))) ?_
          intro a hE
          refine s_val (wk0 rfl) rfl rfl hE hp (v := (.int .i64 lp1_0)) (ex_move rfl hE rfl) ?_
          intro a hE
          obtain ⟨x3, ex3, hl1⟩ := bnd hl1
          refine s_call (wk0 rfl) rfl rfl hE rfl [vc2_1, (.int .i64 lp1_0)] ⟨rfl, rfl, trivial⟩ ent41 (c_assessorref27_without (Tabs.mono hT hlg1) lp1_2 vc2_1 hc2_1 lp1_0 hp x3 ex3) Ret.ret ?_
          intro vr2 a w hR hE
          obtain ⟨ρ2, u, hle1, rfl, hr2, hp⟩ := Ret.of hR
          have hp : Hp Z ρ2 (_ :: _ :: _ :: L) w := hp
          refine s_val (wk0 rfl) rfl rfl hE hp (v := (.pointer (some ⟨b4, 1, none⟩))) (ex_field rfl hE rfl (fldty24_1 _ _)) ?_
          intro a hE
          refine s_store1 (wk0 rfl) rfl hE hp rfl rfl rfl 0 rfl varty22.size_ (RoSl.cells hr2) (RoSl.one hr2) rfl [(.int .i64 p0.vars), vr2] rfl ?_
          intro w hp
          have hp : Hp Z ρ2 (Pt b4 (.cells #[(.int .i64 p0.vars), vr2] 24 (0, 0)) :: _ :: _ :: L) w := hp
          refine s_nil ?_
          have hE := hE.cut (E' := [(1, vp1), (2, (.pointer (some ⟨b1, 0, none⟩))), (6, w4), (7, (.int .i64 lp1_0)), (8, (.pointer (some ⟨b4, 0, none⟩)))]) ⟨rfl, rfl, rfl, rfl, rfl, trivial⟩
          refine k_seq ?_
          refine k_region ?_
          refine s_val (wk0 rfl) rfl rfl hE hp (v := (.agg #[(.int .i64 p0.vars), vr2])) (ex_load rfl hE rfl (fun w hw => run_ldN (cs := [(.int .i64 p0.vars), vr2]) varty24 (Hp.cN 0 rfl 0 _ (sub_all rfl) w hw))) ?_
          intro a hE
          refine s_val (wk0 rfl) rfl rfl hE hp (v := vp1) (ex_move rfl hE rfl) ?_
          intro a hE
          obtain ⟨x4, ex4, hl1⟩ := bnd hl1
          refine s_call (wk0 rfl) rfl rfl hE rfl [(.agg #[(.int .i64 p0.vars), vr2]), vp1] ⟨rfl, rfl, trivial⟩ ent16 (c_assessorref27_Check (Tabs.mono (Tabs.mono hT hlg1) hle1) (Formula.mk p0.vars x3) vr2 hr2 p1 vp1 (RoSl.mono (RoSl.mono hp1 hlg1) hle1) hp x4 ex4) Ret.ret ?_
          intro v a w hR hE
          obtain ⟨rfl, hp⟩ := Ret.of hR
          have hp : Hp Z ρ2 (_ :: _ :: _ :: L) w := hp
          refine s_nil ?_
          refine k_if hE rfl (fun hc4 => ?_) (fun hc4 => ?_)
          · replace hl1 := (it hc4).symm.trans hl1
            refine k_region ?_
            refine s_val (wk0 rfl) rfl rfl hE hp (v := (.agg #[(.int .i64 p0.vars), vr2])) (ex_load rfl hE rfl (fun w hw => run_ldN (cs := [(.int .i64 p0.vars), vr2]) varty24 (Hp.cN 0 rfl 0 _ (sub_all rfl) w hw))) ?_
            intro a hE
            refine s_store (wk0 rfl) rfl hE hp rfl rfl rfl 2 rfl varty24.size_ rfl (allOne_mem ⟨rfl, (RoSl.one hr2), trivial⟩) [(.int .i64 p0.vars), vr2] rfl ?_
            intro w hp
            have hp : Hp Z ρ2 (_ :: _ :: Pt b1 (.cells #[(.int .i64 p0.vars), vr2] 24 (0, 0)) :: L) w := hp
            refine s_nil ?_
            refine k_region ?_
            refine s_val (wk0 rfl) rfl rfl hE hp (v := (.int .i64 lp1_0)) (ex_move rfl hE rfl) ?_
            intro a hE
            obtain ⟨x5, ex5, hl1⟩ := bnd hl1
            refine s_val (wk0 rfl) rfl rfl hE hp (v := (.int .i64 x5)) (ex_sub rfl hE rfl rfl (inK_some ex5)) ?_
            intro a hE
            refine s_val (wk0 rfl) rfl rfl hE hp (v := (.int .i64 x5)) (ex_asn rfl hE rfl) ?_
            intro a hE
            refine s_nil ?_
            exact ⟨_, (Option.some.inj hl1).symm, ρ2, _, _, (PH.le.tr hlg1 hle1), hr2, hE.cut ⟨rfl, rfl, rfl, rfl, trivial⟩, (hp.drop)⟩
          · replace hl1 := (ie hc4).symm.trans hl1
            refine k_region ?_
            refine s_val (wk0 rfl) rfl rfl hE hp (v := (.int .i64 lp1_0)) (ex_move rfl hE rfl) ?_
            intro a hE
            refine s_lit (wk0 rfl) rfl rfl hE hp rfl [(0, (.int .i64 lp1_0))] ⟨⟨rfl, rfl⟩, trivial⟩ [(.int .i64 lp1_0)] 3 (fun w => by simp [Instr.buildSlice, Instr.fill, Value.cells, go_sem]) ?_
            intro a w b5 hE hp
            have hp : Hp Z ρ2 (Pt b5 (.cells #[(.int .i64 lp1_0)] 3 (0, 0)) :: _ :: _ :: _ :: L) w := hp
            refine s_val (wk0 rfl) rfl rfl hE hp (v := w4) (ex_move rfl hE rfl) ?_
            intro a hE
            have hp := (hp.get 0 rfl).imp (own_of_pt (l := (([lp1_0] : List Int) : List Int)) (n := 1) rfl (by decide) rfl)
            have hp : Hp Z ρ2 (OwnSl 3 (.slice (some ⟨b5, 0, none⟩) 1 1) ([lp1_0] : List Int) :: _ :: _ :: _ :: L) w := hp
            obtain ⟨x6, ex6, hl1⟩ := bnd hl1
            obtain ⟨k1, k1a, k1d, k1h⟩ := (hp.get 2 rfl).lend
            refine s_apps (wk0 rfl) rfl rfl hE k1h rfl slty25 rfl rfl 0 rfl rfl (OwnSl.ro k1d k1a) ex6 ?_
            intro v1 a w hE hp
            have hp := Hp.back k1a k1d hp
            have hp : Hp Z ρ2 (_ :: OwnSl 3 v1 x6 :: _ :: _ :: L) w := hp
            refine s_val (wk0 rfl) rfl rfl hE hp (v := v1) (ex_asn rfl hE rfl) ?_
            intro a hE
            refine s_nil ?_
            refine k_region ?_
            refine s_val (wk0 rfl) rfl rfl hE hp (v := (.int .i64 lp1_0)) (ex_move rfl hE rfl) ?_
            intro a hE
            obtain ⟨x7, ex7, hl1⟩ := bnd hl1
            refine s_val (wk0 rfl) rfl rfl hE hp (v := (.int .i64 x7)) (ex_sub rfl hE rfl rfl (inK_some ex7)) ?_
            intro a hE
            refine s_val (wk0 rfl) rfl rfl hE hp (v := (.int .i64 x7)) (ex_asn rfl hE rfl) ?_
            intro a hE
            refine s_nil ?_
            have hp := (hp.get 0 rfl).drop
            have hp : Hp Z ρ2 (OwnSl 3 v1 x6 :: _ :: _ :: L) w := hp
            exact ⟨_, (Option.some.inj hl1).symm, ρ2, _, _, (PH.le.tr hlg1 hle1), (RoSl.mono hc2_1 hle1), hE.cut ⟨rfl, rfl, rfl, rfl, trivial⟩, ((hp.get 1 rfl).drop)⟩
        · replace hl1 := (ie hc3).symm.trans hl1
          refine k_exit ?_
          refine ⟨_, (Option.some.inj hl1).symm, fun hbb => ?_⟩
          subst hbb
          exact ⟨ρ1, _, _, hlg1, hc2_1, hE.cut ⟨rfl, trivial⟩, hp⟩
    · rintro a w ⟨ρ1, w4, vc2_1, hlg1, hc2_1, hE, hp⟩
      refine k_seq ?_
      refine k_region ?_
      refine s_val (wk0 rfl) rfl rfl hE hp (v := w4) (ex_move rfl hE rfl) ?_
      intro a hE
      refine s_val (wk0 rfl) rfl rfl hE hp (v := w4) (ex_asn rfl hE rfl) ?_
      intro a hE
      refine s_val (wk0 rfl) rfl rfl hE hp (v := (.int .i64 0)) (ex_asn rfl hE rfl) ?_
      intro a hE
      refine s_nil ?_
      refine k_ret ?_
      obtain rfl := Option.some.inj hm
      exact ret2 hE rfl rfl rfl ⟨_, rfl, _, rfl, (((hp.get 1 rfl).drop).less hlg1)⟩
end Go.Proofs.YtfajmelamonolaaDoor

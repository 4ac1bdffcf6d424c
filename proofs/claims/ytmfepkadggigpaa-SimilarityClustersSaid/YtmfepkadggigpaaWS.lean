/-
  The code goes as its model: assessor/assessorlaw44.overlaps, assessor/assessorlaw44.pairs, assessor/assessorlaw44.few, assessor/assessorlaw44.awake. (Printed by wip/sp/gen.py.)
-/
import Derived.Test.YtmfepkadggigpaaWM
import Derived.Test.YtmfepkadggigpaaFct
import Derived.Test.YtmfepkadggigpaaFS
import Derived.Test.YtmfepkadggigpaaGS
import Derived.Test.YtmfepkadggigpaaRS
set_option linter.unusedVariables false
set_option linter.unusedSimpArgs false
namespace Go.Proofs.Ytmfepkadggigpaa
open Go.RowKit

/- assessor/assessorlaw44.overlaps -/
set_option maxRecDepth 100000 in
set_option maxHeartbeats 4000000 in
theorem c_assessorlaw44_overlaps {Z : World} {ρ : PH} {L : List Atom} {w : World} (p0 : (List Overlap)) (vp0 : Value) (hp0 : RoSl ρ vp0 p0) (p1 : (List Overlap)) (vp1 : Value) (hp1 : RoSl ρ vp1 p1) (hp : Hp Z ρ (L) w) (r : Bool) (hm : m_assessorlaw44_overlaps p0 p1 = some r) :
    Calls Try.prog 31 #[vp0, vp1] w (Ret fun v w' => v = (.bool r) ∧ Hp Z ρ (L) w') := by
  refine enter (N := 26) Try.func31 rfl rfl [(0, vp0), (1, vp1)] rfl (argsIn_mem ⟨rfl, rfl, trivial⟩) fun a hE => ?_
  unfold m_assessorlaw44_overlaps at hm
  refine k_seq ?_
  refine k_region ?_
  refine s_val (wk0 rfl) rfl rfl hE hp (v := (.bool false)) (ex_asn rfl hE rfl) ?_
  intro a hE
  refine s_nil ?_
  refine k_seq ?_
  refine k_seq ?_
  refine k_region ?_
  refine s_val (wk0 rfl) rfl rfl hE hp (v := vp0) (ex_move rfl hE rfl) ?_
  intro a hE
  refine s_val (wk0 rfl) rfl rfl hE hp (v := (.int .i64 (p0.length : Int))) (ex_len rfl hE rfl (RoSl.len hp0 slty56)) ?_
  intro a hE
  refine s_val (wk0 rfl) rfl rfl hE hp (v := vp1) (ex_move rfl hE rfl) ?_
  intro a hE
  refine s_val (wk0 rfl) rfl rfl hE hp (v := (.int .i64 (p1.length : Int))) (ex_len rfl hE rfl (RoSl.len hp1 slty56)) ?_
  intro a hE
  refine s_val (wk0 rfl) rfl rfl hE hp (v := (.bool (!decide ((p0.length : Int) = (p1.length : Int))))) (ex_neq rfl hE rfl rfl) ?_
  intro a hE
  refine s_nil ?_
  refine k_if hE rfl (fun hb1 => ?_) (fun hb1 => ?_)
  · replace hm := (it hb1).symm.trans hm
    refine k_seq ?_
    refine k_region ?_
    refine s_val (wk0 rfl) rfl rfl hE hp (v := (.bool false)) (ex_asn rfl hE rfl) ?_
    intro a hE
    refine s_nil ?_
    refine k_ret ?_
    obtain rfl := Option.some.inj hm
    exact ret1 hE rfl rfl ⟨_, rfl, rfl, hp⟩
  · replace hm := (ie hb1).symm.trans hm
    refine k_skip ?_
    refine k_seq ?_
    refine k_seq ?_
    refine k_region ?_
    refine s_val (wk0 rfl) rfl rfl hE hp (v := vp0) (ex_move rfl hE rfl) ?_
    intro a hE
    refine s_val (wk0 rfl) rfl rfl hE hp (v := (.int .i64 (p0.length : Int))) (ex_len rfl hE rfl (RoSl.len hp0 slty56)) ?_
    intro a hE
    refine s_val (wk0 rfl) rfl rfl hE hp (v := (.int .i64 0)) (ex_move rfl hE rfl) ?_
    intro a hE
    refine s_nil ?_
    obtain ⟨b1, hb2, hm⟩ := bnd hm
    refine k_block (fun a w => ∃ s : Unit, b1 = .brk s ∧ (Env 26 [] a ∧ Hp Z ρ (L) w)) ?_ ?_
    · refine k_loop hb2 (fun s a w => Env 26 [(0, vp0), (1, vp1), (12, (.int .i64 (p0.length : Int))), (13, (.int .i64 s))] a ∧ Hp Z ρ (L) w) ?_ ?_
      · exact ⟨hE.cut ⟨rfl, rfl, rfl, rfl, trivial⟩, hp⟩
      · rintro lp1_0 st a w ⟨hE, hp⟩ hl1
        have hE : Env 26 [(0, vp0), (1, vp1), (12, (.int .i64 (p0.length : Int))), (13, (.int .i64 lp1_0))] a := hE
        have hp : Hp Z ρ (L) w := hp
        replace hl1 : m_assessorlaw44_overlaps_lp1 p0 p1 lp1_0 = some st := hl1
        unfold m_assessorlaw44_overlaps_lp1 at hl1
        refine k_seq ?_
        refine k_region ?_
        refine s_val (wk0 rfl) rfl rfl hE hp (v := (.bool (decide (lp1_0 < (p0.length : Int))))) (ex_lss rfl hE rfl rfl) ?_
        intro a hE
        refine s_nil ?_
        refine k_seq ?_
        refine k_if hE rfl (fun hb3 => ?_) (fun hb3 => ?_)
        · replace hl1 := (it hb3).symm.trans hl1
          refine k_skip ?_
          refine k_seq ?_
          refine k_plain ?_
          refine k_seq ?_
          refine k_region ?_
          refine s_val (wk0 rfl) rfl rfl hE hp (v := (.int .i64 lp1_0)) (ex_move rfl hE rfl) ?_
          intro a hE
          refine s_val (wk0 rfl) rfl rfl hE hp (v := (.int .i64 lp1_0)) (ex_asn rfl hE rfl) ?_
          intro a hE
          refine s_nil ?_
          refine k_seq ?_
          refine k_quiet (by kernel_rfl) (by kernel_rfl) hp ?_
          refine q_val (wk0 rfl) rfl rfl hE (v := vp0) (ex_move rfl hE rfl) ?_
          intro a hE
          refine q_val (wk0 rfl) rfl rfl hE (v := (.int .i64 lp1_0)) (ex_move rfl hE rfl) ?_
          intro a hE
          obtain ⟨x1, ex1, hl1⟩ := bnd hl1
          obtain ⟨b2, b2o, b2c, b2r, b2k, b2f⟩ := RoSl.at hp0 slty56 ex1
          obtain rfl : b2c = Enc.enc x1 := b2k
          have b2f : AtP ρ b2 b2o [(.int .i64 x1.a), (.int .i64 x1.b), (.int .i64 x1.len)] := b2f
          refine q_val (wk0 rfl) rfl rfl hE (v := (.pointer (some ⟨b2, b2o, none⟩))) (ex_index rfl hE rfl rfl b2r) ?_
          intro a hE
          refine q_val (wk0 rfl) rfl rfl hE (v := (.agg #[(.int .i64 x1.a), (.int .i64 x1.b), (.int .i64 x1.len)])) (ex_load rfl hE rfl (fun w hw => run_ldN (cs := [(.int .i64 x1.a), (.int .i64 x1.b), (.int .i64 x1.len)]) varty63 (fun j u hj => cell_of hw.le (b2f j u hj)))) ?_
          intro a hE
          refine q_val (wk0 rfl) rfl rfl hE (v := vp1) (ex_move rfl hE rfl) ?_
          intro a hE
          refine q_val (wk0 rfl) rfl rfl hE (v := (.int .i64 lp1_0)) (ex_move rfl hE rfl) ?_
          intro a hE
          obtain ⟨x2, ex2, hl1⟩ := bnd hl1
          obtain ⟨b3, b3o, b3c, b3r, b3k, b3f⟩ := RoSl.at hp1 slty56 ex2
          obtain rfl : b3c = Enc.enc x2 := b3k
          have b3f : AtP ρ b3 b3o [(.int .i64 x2.a), (.int .i64 x2.b), (.int .i64 x2.len)] := b3f
          refine q_val (wk0 rfl) rfl rfl hE (v := (.pointer (some ⟨b3, b3o, none⟩))) (ex_index rfl hE rfl rfl b3r) ?_
          intro a hE
          refine q_val (wk0 rfl) rfl rfl hE (v := (.agg #[(.int .i64 x2.a), (.int .i64 x2.b), (.int .i64 x2.len)])) (ex_load rfl hE rfl (fun w hw => run_ldN (cs := [(.int .i64 x2.a), (.int .i64 x2.b), (.int .i64 x2.len)]) varty63 (fun j u hj => cell_of hw.le (b3f j u hj)))) ?_
          intro a hE
          refine q_val (wk0 rfl) rfl rfl hE (v := (.bool (!((decide (x1.a = x2.a)) && (decide (x1.b = x2.b)) && (decide (x1.len = x2.len)))))) (ex_stneq (eqst63 x1.a x1.b x1.len x2.a x2.b x2.len) rfl hE rfl rfl) ?_
          intro a hE
          refine q_nil fun w hp => ?_
          have hp : Hp Z ρ (L) w := hp
          refine k_if hE rfl (fun hb4 => ?_) (fun hb4 => ?_)
          · replace hl1 := (it hb4).symm.trans hl1
            refine k_seq ?_
            refine k_region ?_
            refine s_val (wk0 rfl) rfl rfl hE hp (v := (.bool false)) (ex_asn rfl hE rfl) ?_
            intro a hE
            refine s_nil ?_
            refine k_ret ?_
            refine ⟨_, (Option.some.inj hl1).symm, fun hb => ?_⟩
            subst hb
            obtain rfl := Option.some.inj hm
            exact ret1 hE rfl rfl ⟨_, rfl, rfl, hp⟩
          · replace hl1 := (ie hb4).symm.trans hl1
            refine k_skip ?_
            refine k_region ?_
            obtain ⟨x3, ex3, hl1⟩ := bnd hl1
            refine s_val (wk0 rfl) rfl rfl hE hp (v := (.int .i64 x3)) (ex_add rfl hE rfl rfl (inK_some ex3)) ?_
            intro a hE
            refine s_val (wk0 rfl) rfl rfl hE hp (v := (.int .i64 x3)) (ex_move rfl hE rfl) ?_
            intro a hE
            refine s_nil ?_
            exact ⟨_, (Option.some.inj hl1).symm, hE.cut ⟨rfl, rfl, rfl, rfl, trivial⟩, hp⟩
        · replace hl1 := (ie hb3).symm.trans hl1
          refine k_exit ?_
          refine ⟨_, (Option.some.inj hl1).symm, fun hbb => ?_⟩
          exact ⟨_, hbb.symm, hE.cut trivial, hp⟩
    · rintro a w ⟨b1s, rfl, hE, hp⟩
      dsimp only at hm
      refine k_seq ?_
      refine k_region ?_
      refine s_val (wk0 rfl) rfl rfl hE hp (v := (.bool true)) (ex_asn rfl hE rfl) ?_
      intro a hE
      refine s_nil ?_
      refine k_ret ?_
      obtain rfl := Option.some.inj hm
      exact ret1 hE rfl rfl ⟨_, rfl, rfl, hp⟩
/- assessor/assessorlaw44.pairs -/
set_option maxRecDepth 100000 in
set_option maxHeartbeats 4000000 in
theorem c_assessorlaw44_pairs {Z : World} {ρ : PH} {L : List Atom} {w : World} (p0 : (List Pair)) (vp0 : Value) (hp0 : RoSl ρ vp0 p0) (p1 : (List Pair)) (vp1 : Value) (hp1 : RoSl ρ vp1 p1) (hp : Hp Z ρ (L) w) (r : Bool) (hm : m_assessorlaw44_pairs p0 p1 = some r) :
    Calls Try.prog 24 #[vp0, vp1] w (Ret fun v w' => v = (.bool r) ∧ Hp Z ρ (L) w') := by
  refine enter (N := 26) Try.func24 rfl rfl [(0, vp0), (1, vp1)] rfl (argsIn_mem ⟨rfl, rfl, trivial⟩) fun a hE => ?_
  unfold m_assessorlaw44_pairs at hm
  refine k_seq ?_
  refine k_region ?_
  refine s_val (wk0 rfl) rfl rfl hE hp (v := (.bool false)) (ex_asn rfl hE rfl) ?_
  intro a hE
  refine s_nil ?_
  refine k_seq ?_
  refine k_seq ?_
  refine k_region ?_
  refine s_val (wk0 rfl) rfl rfl hE hp (v := vp0) (ex_move rfl hE rfl) ?_
  intro a hE
  refine s_val (wk0 rfl) rfl rfl hE hp (v := (.int .i64 (p0.length : Int))) (ex_len rfl hE rfl (RoSl.len hp0 slty37)) ?_
  intro a hE
  refine s_val (wk0 rfl) rfl rfl hE hp (v := vp1) (ex_move rfl hE rfl) ?_
  intro a hE
  refine s_val (wk0 rfl) rfl rfl hE hp (v := (.int .i64 (p1.length : Int))) (ex_len rfl hE rfl (RoSl.len hp1 slty37)) ?_
  intro a hE
  refine s_val (wk0 rfl) rfl rfl hE hp (v := (.bool (!decide ((p0.length : Int) = (p1.length : Int))))) (ex_neq rfl hE rfl rfl) ?_
  intro a hE
  refine s_nil ?_
  refine k_if hE rfl (fun hb1 => ?_) (fun hb1 => ?_)
  · replace hm := (it hb1).symm.trans hm
    refine k_seq ?_
    refine k_region ?_
    refine s_val (wk0 rfl) rfl rfl hE hp (v := (.bool false)) (ex_asn rfl hE rfl) ?_
    intro a hE
    refine s_nil ?_
    refine k_ret ?_
    obtain rfl := Option.some.inj hm
    exact ret1 hE rfl rfl ⟨_, rfl, rfl, hp⟩
  · replace hm := (ie hb1).symm.trans hm
    refine k_skip ?_
    refine k_seq ?_
    refine k_seq ?_
    refine k_region ?_
    refine s_val (wk0 rfl) rfl rfl hE hp (v := vp0) (ex_move rfl hE rfl) ?_
    intro a hE
    refine s_val (wk0 rfl) rfl rfl hE hp (v := (.int .i64 (p0.length : Int))) (ex_len rfl hE rfl (RoSl.len hp0 slty37)) ?_
    intro a hE
    refine s_val (wk0 rfl) rfl rfl hE hp (v := (.int .i64 0)) (ex_move rfl hE rfl) ?_
    intro a hE
    refine s_nil ?_
    obtain ⟨b1, hb2, hm⟩ := bnd hm
    refine k_block (fun a w => ∃ s : Unit, b1 = .brk s ∧ (Env 26 [] a ∧ Hp Z ρ (L) w)) ?_ ?_
    · refine k_loop hb2 (fun s a w => Env 26 [(0, vp0), (1, vp1), (12, (.int .i64 (p0.length : Int))), (13, (.int .i64 s))] a ∧ Hp Z ρ (L) w) ?_ ?_
      · exact ⟨hE.cut ⟨rfl, rfl, rfl, rfl, trivial⟩, hp⟩
      · rintro lp1_0 st a w ⟨hE, hp⟩ hl1
        have hE : Env 26 [(0, vp0), (1, vp1), (12, (.int .i64 (p0.length : Int))), (13, (.int .i64 lp1_0))] a := hE
        have hp : Hp Z ρ (L) w := hp
        replace hl1 : m_assessorlaw44_pairs_lp1 p0 p1 lp1_0 = some st := hl1
        unfold m_assessorlaw44_pairs_lp1 at hl1
        refine k_seq ?_
        refine k_region ?_
        refine s_val (wk0 rfl) rfl rfl hE hp (v := (.bool (decide (lp1_0 < (p0.length : Int))))) (ex_lss rfl hE rfl rfl) ?_
        intro a hE
        refine s_nil ?_
        refine k_seq ?_
        refine k_if hE rfl (fun hb3 => ?_) (fun hb3 => ?_)
        · replace hl1 := (it hb3).symm.trans hl1
          refine k_skip ?_
          refine k_seq ?_
          refine k_plain ?_
          refine k_seq ?_
          refine k_region ?_
          refine s_val (wk0 rfl) rfl rfl hE hp (v := (.int .i64 lp1_0)) (ex_move rfl hE rfl) ?_
          intro a hE
          refine s_val (wk0 rfl) rfl rfl hE hp (v := (.int .i64 lp1_0)) (ex_asn rfl hE rfl) ?_
          intro a hE
          refine s_nil ?_
          refine k_seq ?_
          refine k_quiet (by kernel_rfl) (by kernel_rfl) hp ?_
          refine q_val (wk0 rfl) rfl rfl hE (v := vp0) (ex_move rfl hE rfl) ?_
          intro a hE
          refine q_val (wk0 rfl) rfl rfl hE (v := (.int .i64 lp1_0)) (ex_move rfl hE rfl) ?_
          intro a hE
          obtain ⟨x1, ex1, hl1⟩ := bnd hl1
          obtain ⟨b2, b2o, b2c, b2r, b2k, b2f⟩ := RoSl.at hp0 slty37 ex1
          obtain rfl : b2c = Enc.enc x1 := b2k
          have b2f : AtP ρ b2 b2o [(.int .i64 x1.a), (.int .i64 x1.b), (.int .i64 x1.shared), (.int .i64 x1.total)] := b2f
          refine q_val (wk0 rfl) rfl rfl hE (v := (.pointer (some ⟨b2, b2o, none⟩))) (ex_index rfl hE rfl rfl b2r) ?_
          intro a hE
          refine q_val (wk0 rfl) rfl rfl hE (v := (.agg #[(.int .i64 x1.a), (.int .i64 x1.b), (.int .i64 x1.shared), (.int .i64 x1.total)])) (ex_load rfl hE rfl (fun w hw => run_ldN (cs := [(.int .i64 x1.a), (.int .i64 x1.b), (.int .i64 x1.shared), (.int .i64 x1.total)]) varty52 (fun j u hj => cell_of hw.le (b2f j u hj)))) ?_
          intro a hE
          refine q_val (wk0 rfl) rfl rfl hE (v := vp1) (ex_move rfl hE rfl) ?_
          intro a hE
          refine q_val (wk0 rfl) rfl rfl hE (v := (.int .i64 lp1_0)) (ex_move rfl hE rfl) ?_
          intro a hE
          obtain ⟨x2, ex2, hl1⟩ := bnd hl1
          obtain ⟨b3, b3o, b3c, b3r, b3k, b3f⟩ := RoSl.at hp1 slty37 ex2
          obtain rfl : b3c = Enc.enc x2 := b3k
          have b3f : AtP ρ b3 b3o [(.int .i64 x2.a), (.int .i64 x2.b), (.int .i64 x2.shared), (.int .i64 x2.total)] := b3f
          refine q_val (wk0 rfl) rfl rfl hE (v := (.pointer (some ⟨b3, b3o, none⟩))) (ex_index rfl hE rfl rfl b3r) ?_
          intro a hE
          refine q_val (wk0 rfl) rfl rfl hE (v := (.agg #[(.int .i64 x2.a), (.int .i64 x2.b), (.int .i64 x2.shared), (.int .i64 x2.total)])) (ex_load rfl hE rfl (fun w hw => run_ldN (cs := [(.int .i64 x2.a), (.int .i64 x2.b), (.int .i64 x2.shared), (.int .i64 x2.total)]) varty52 (fun j u hj => cell_of hw.le (b3f j u hj)))) ?_
          intro a hE
          refine q_val (wk0 rfl) rfl rfl hE (v := (.bool (!((decide (x1.a = x2.a)) && (decide (x1.b = x2.b)) && (decide (x1.shared = x2.shared)) && (decide (x1.total = x2.total)))))) (ex_stneq (eqst52 x1.a x1.b x1.shared x1.total x2.a x2.b x2.shared x2.total) rfl hE rfl rfl) ?_
          intro a hE
          refine q_nil fun w hp => ?_
          have hp : Hp Z ρ (L) w := hp
          refine k_if hE rfl (fun hb4 => ?_) (fun hb4 => ?_)
          · replace hl1 := (it hb4).symm.trans hl1
            refine k_seq ?_
            refine k_region ?_
            refine s_val (wk0 rfl) rfl rfl hE hp (v := (.bool false)) (ex_asn rfl hE rfl) ?_
            intro a hE
            refine s_nil ?_
            refine k_ret ?_
            refine ⟨_, (Option.some.inj hl1).symm, fun hb => ?_⟩
            subst hb
            obtain rfl := Option.some.inj hm
            exact ret1 hE rfl rfl ⟨_, rfl, rfl, hp⟩
          · replace hl1 := (ie hb4).symm.trans hl1
            refine k_skip ?_
            refine k_region ?_
            obtain ⟨x3, ex3, hl1⟩ := bnd hl1
            refine s_val (wk0 rfl) rfl rfl hE hp (v := (.int .i64 x3)) (ex_add rfl hE rfl rfl (inK_some ex3)) ?_
            intro a hE
            refine s_val (wk0 rfl) rfl rfl hE hp (v := (.int .i64 x3)) (ex_move rfl hE rfl) ?_
            intro a hE
            refine s_nil ?_
            exact ⟨_, (Option.some.inj hl1).symm, hE.cut ⟨rfl, rfl, rfl, rfl, trivial⟩, hp⟩
        · replace hl1 := (ie hb3).symm.trans hl1
          refine k_exit ?_
          refine ⟨_, (Option.some.inj hl1).symm, fun hbb => ?_⟩
          exact ⟨_, hbb.symm, hE.cut trivial, hp⟩
    · rintro a w ⟨b1s, rfl, hE, hp⟩
      dsimp only at hm
      refine k_seq ?_
      refine k_region ?_
      refine s_val (wk0 rfl) rfl rfl hE hp (v := (.bool true)) (ex_asn rfl hE rfl) ?_
      intro a hE
      refine s_nil ?_
      refine k_ret ?_
      obtain rfl := Option.some.inj hm
      exact ret1 hE rfl rfl ⟨_, rfl, rfl, hp⟩
/- assessor/assessorlaw44.few -/
set_option maxRecDepth 100000 in
set_option maxHeartbeats 4000000 in
theorem c_assessorlaw44_few {Z : World} {ρ : PH} {L : List Atom} {w : World} (p0 : (List (List Mark))) (vp0 : Value) (hp0 : RoSl ρ vp0 p0) (p1 : Int) (p2 : Int) (hp : Hp Z ρ (L) w) (r : Bool) (hm : m_assessorlaw44_few p0 p1 p2 = some r) :
    Calls Try.prog 11 #[vp0, (.int .i64 p1), (.int .i64 p2)] w (Ret fun v w' => v = (.bool r) ∧ Hp Z ρ (L) w') := by
  refine enter (N := 24) Try.func11 rfl rfl [(0, vp0), (1, (.int .i64 p1)), (2, (.int .i64 p2))] rfl (argsIn_mem ⟨rfl, rfl, rfl, trivial⟩) fun a hE => ?_
  unfold m_assessorlaw44_few at hm
  refine k_seq ?_
  refine k_region ?_
  refine s_val (wk0 rfl) rfl rfl hE hp (v := (.bool false)) (ex_asn rfl hE rfl) ?_
  intro a hE
  refine s_nil ?_
  refine k_seq ?_
  refine k_seq ?_
  refine k_region ?_
  refine s_val (wk0 rfl) rfl rfl hE hp (v := vp0) (ex_move rfl hE rfl) ?_
  intro a hE
  refine s_val (wk0 rfl) rfl rfl hE hp (v := (.int .i64 (p0.length : Int))) (ex_len rfl hE rfl (RoSl.len hp0 slty22)) ?_
  intro a hE
  refine s_val (wk0 rfl) rfl rfl hE hp (v := (.int .i64 0)) (ex_move rfl hE rfl) ?_
  intro a hE
  refine s_nil ?_
  obtain ⟨b1, hb1, hm⟩ := bnd hm
  refine k_block (fun a w => ∃ s : Unit, b1 = .brk s ∧ (Env 24 [(0, vp0), (1, (.int .i64 p1))] a ∧ Hp Z ρ (L) w)) ?_ ?_
  · refine k_loop hb1 (fun s a w => Env 24 [(0, vp0), (1, (.int .i64 p1)), (2, (.int .i64 p2)), (9, vp0), (10, (.int .i64 (p0.length : Int))), (11, (.int .i64 s))] a ∧ Hp Z ρ (L) w) ?_ ?_
    · exact ⟨hE.cut ⟨rfl, rfl, rfl, rfl, rfl, rfl, trivial⟩, hp⟩
    · rintro lp1_0 st a w ⟨hE, hp⟩ hl1
      have hE : Env 24 [(0, vp0), (1, (.int .i64 p1)), (2, (.int .i64 p2)), (9, vp0), (10, (.int .i64 (p0.length : Int))), (11, (.int .i64 lp1_0))] a := hE
      have hp : Hp Z ρ (L) w := hp
      replace hl1 : m_assessorlaw44_few_lp1 p0 p2 lp1_0 = some st := hl1
      unfold m_assessorlaw44_few_lp1 at hl1
      refine k_seq ?_
      refine k_region ?_
      refine s_val (wk0 rfl) rfl rfl hE hp (v := (.bool (decide (lp1_0 < (p0.length : Int))))) (ex_lss rfl hE rfl rfl) ?_
      intro a hE
      refine s_nil ?_
      refine k_seq ?_
      refine k_if hE rfl (fun hb2 => ?_) (fun hb2 => ?_)
      · replace hl1 := (it hb2).symm.trans hl1
        refine k_skip ?_
        refine k_seq ?_
        refine k_plain ?_
        refine k_seq ?_
        refine k_region ?_
        obtain ⟨x1, ex1, hl1⟩ := bnd hl1
        obtain ⟨b2, b2o, b2c, b2r, b2k, b2f⟩ := RoSl.at hp0 slty22 ex1
        obtain ⟨vb2, rfl, hb2⟩ := b2k
        have b2f : AtP ρ b2 b2o [vb2] := b2f
        refine s_val (wk0 rfl) rfl rfl hE hp (v := (.pointer (some ⟨b2, b2o, none⟩))) (ex_index rfl hE rfl rfl b2r) ?_
        intro a hE
        refine s_val (wk0 rfl) rfl rfl hE hp (v := vb2) (ex_load rfl hE rfl (fun w hw => run_ld1 varty26 (b2f.c 0 rfl w hw))) ?_
        intro a hE
        refine s_val (wk0 rfl) rfl rfl hE hp (v := vb2) (ex_asn rfl hE rfl) ?_
        intro a hE
        refine s_nil ?_
        refine k_seq ?_
        refine k_region ?_
        refine s_val (wk0 rfl) rfl rfl hE hp (v := vb2) (ex_move rfl hE rfl) ?_
        intro a hE
        refine s_val (wk0 rfl) rfl rfl hE hp (v := (.int .i64 (x1.length : Int))) (ex_len rfl hE rfl (RoSl.len hb2 slty26)) ?_
        intro a hE
        refine s_val (wk0 rfl) rfl rfl hE hp (v := (.int .i64 p2)) (ex_move rfl hE rfl) ?_
        intro a hE
        refine s_val (wk0 rfl) rfl rfl hE hp (v := (.bool (decide (p2 < (x1.length : Int))))) (ex_gtr rfl hE rfl rfl) ?_
        intro a hE
        refine s_nil ?_
        refine k_if hE rfl (fun hb3 => ?_) (fun hb3 => ?_)
        · replace hl1 := (it hb3).symm.trans hl1
          refine k_seq ?_
          refine k_region ?_
          refine s_val (wk0 rfl) rfl rfl hE hp (v := (.bool false)) (ex_asn rfl hE rfl) ?_
          intro a hE
          refine s_nil ?_
          refine k_ret ?_
          refine ⟨_, (Option.some.inj hl1).symm, fun hb => ?_⟩
          subst hb
          obtain rfl := Option.some.inj hm
          exact ret1 hE rfl rfl ⟨_, rfl, rfl, hp⟩
        · replace hl1 := (ie hb3).symm.trans hl1
          refine k_skip ?_
          refine k_region ?_
          obtain ⟨x2, ex2, hl1⟩ := bnd hl1
          refine s_val (wk0 rfl) rfl rfl hE hp (v := (.int .i64 x2)) (ex_add rfl hE rfl rfl (inK_some ex2)) ?_
          intro a hE
          refine s_val (wk0 rfl) rfl rfl hE hp (v := (.int .i64 x2)) (ex_move rfl hE rfl) ?_
          intro a hE
          refine s_nil ?_
          have hE := hE.cut (E' := [(0, vp0), (1, (.int .i64 p1)), (2, (.int .i64 p2)), (9, vp0), (10, (.int .i64 (p0.length : Int))), (11, (.int .i64 x2))]) ⟨rfl, rfl, rfl, rfl, rfl, rfl, trivial⟩
          exact ⟨_, (Option.some.inj hl1).symm, hE.cut ⟨rfl, rfl, rfl, rfl, rfl, rfl, trivial⟩, hp⟩
      · replace hl1 := (ie hb2).symm.trans hl1
        refine k_exit ?_
        refine ⟨_, (Option.some.inj hl1).symm, fun hbb => ?_⟩
        exact ⟨_, hbb.symm, hE.cut ⟨rfl, rfl, trivial⟩, hp⟩
  · rintro a w ⟨b1s, rfl, hE, hp⟩
    dsimp only at hm
    refine k_seq ?_
    refine k_region ?_
    refine s_val (wk0 rfl) rfl rfl hE hp (v := vp0) (ex_move rfl hE rfl) ?_
    intro a hE
    refine s_val (wk0 rfl) rfl rfl hE hp (v := (.int .i64 (p0.length : Int))) (ex_len rfl hE rfl (RoSl.len hp0 slty22)) ?_
    intro a hE
    refine s_val (wk0 rfl) rfl rfl hE hp (v := (.int .i64 p1)) (ex_move rfl hE rfl) ?_
    intro a hE
    refine s_val (wk0 rfl) rfl rfl hE hp (v := (.bool (decide ((p0.length : Int) ≤ p1)))) (ex_leq rfl hE rfl rfl) ?_
    intro a hE
    refine s_val (wk0 rfl) rfl rfl hE hp (v := (.bool (decide ((p0.length : Int) ≤ p1)))) (ex_asn rfl hE rfl) ?_
    intro a hE
    refine s_nil ?_
    refine k_ret ?_
    obtain rfl := Option.some.inj hm
    exact ret1 hE rfl rfl ⟨_, rfl, rfl, hp⟩
/- assessor/assessorlaw44.awake -/
set_option maxRecDepth 100000 in
set_option maxHeartbeats 4000000 in
theorem c_assessorlaw44_awake {Z : World} {ρ : PH} {L : List Atom} {w : World}  (hp : Hp Z ρ (L) w) (r : Bool) (hm : m_assessorlaw44_awake  = some r) :
    Calls Try.prog 10 #[] w (Ret fun v w' => v = (.bool r) ∧ Hp Z ρ (L) w') := by
  refine enter (N := 130) Try.func10 rfl rfl [] rfl (argsIn_mem trivial) fun a hE => ?_
  unfold m_assessorlaw44_awake at hm
  refine k_seq ?_
  refine k_region ?_
  refine s_val (wk0 rfl) rfl rfl hE hp (v := (.bool false)) (ex_asn rfl hE rfl) ?_
  intro a hE
  refine s_nil ?_
  refine k_seq ?_
  refine k_region ?_
  refine s_val (wk0 rfl) rfl rfl hE hp (v := (.agg #[(.int .i64 5), (.int .i64 0)])) (ex_bld rfl hE [(0, (.int .i64 5))] (by exact ⟨⟨rfl, rfl⟩, trivial⟩) (fun w => by simp [Instr.build, Instr.fill, Value.cells, go_sem])) ?_
  intro a hE
  refine s_val (wk0 rfl) rfl rfl hE hp (v := (.agg #[(.int .i64 7), (.int .i64 3)])) (ex_bld rfl hE [(0, (.int .i64 7)), (1, (.int .i64 3))] (by exact ⟨⟨rfl, rfl⟩, ⟨rfl, rfl⟩, trivial⟩) (fun w => by simp [Instr.build, Instr.fill, Value.cells, go_sem])) ?_
  intro a hE
  refine s_val (wk0 rfl) rfl rfl hE hp (v := (.agg #[(.int .i64 9), (.int .i64 9)])) (ex_bld rfl hE [(0, (.int .i64 9)), (1, (.int .i64 9))] (by exact ⟨⟨rfl, rfl⟩, ⟨rfl, rfl⟩, trivial⟩) (fun w => by simp [Instr.build, Instr.fill, Value.cells, go_sem])) ?_
  intro a hE
  refine s_lit (wk0 rfl) rfl rfl hE hp rfl [(0, (.agg #[(.int .i64 5), (.int .i64 0)])), (1, (.agg #[(.int .i64 7), (.int .i64 3)])), (2, (.agg #[(.int .i64 9), (.int .i64 9)]))] ⟨⟨rfl, rfl⟩, ⟨rfl, rfl⟩, ⟨rfl, rfl⟩, trivial⟩ [(.int .i64 5), (.int .i64 0), (.int .i64 7), (.int .i64 3), (.int .i64 9), (.int .i64 9)] 65 (fun w => by simp [Instr.buildSlice, Instr.fill, Value.cells, go_sem]) ?_
  intro a w b1 hE hp
  have hp : Hp Z ρ (Pt b1 (.cells #[(.int .i64 5), (.int .i64 0), (.int .i64 7), (.int .i64 3), (.int .i64 9), (.int .i64 9)] 65 (0, 0)) :: L) w := hp
  refine s_val (wk0 rfl) rfl rfl hE hp (v := (.agg #[(.int .i64 7), (.int .i64 5)])) (ex_bld rfl hE [(0, (.int .i64 7)), (1, (.int .i64 5))] (by exact ⟨⟨rfl, rfl⟩, ⟨rfl, rfl⟩, trivial⟩) (fun w => by simp [Instr.build, Instr.fill, Value.cells, go_sem])) ?_
  intro a hE
  refine s_val (wk0 rfl) rfl rfl hE hp (v := (.agg #[(.int .i64 5), (.int .i64 2)])) (ex_bld rfl hE [(0, (.int .i64 5)), (1, (.int .i64 2))] (by exact ⟨⟨rfl, rfl⟩, ⟨rfl, rfl⟩, trivial⟩) (fun w => by simp [Instr.build, Instr.fill, Value.cells, go_sem])) ?_
  intro a hE
  refine s_val (wk0 rfl) rfl rfl hE hp (v := (.agg #[(.int .i64 8), (.int .i64 6)])) (ex_bld rfl hE [(0, (.int .i64 8)), (1, (.int .i64 6))] (by exact ⟨⟨rfl, rfl⟩, ⟨rfl, rfl⟩, trivial⟩) (fun w => by simp [Instr.build, Instr.fill, Value.cells, go_sem])) ?_
  intro a hE
  refine s_lit (wk0 rfl) rfl rfl hE hp rfl [(0, (.agg #[(.int .i64 7), (.int .i64 5)])), (1, (.agg #[(.int .i64 5), (.int .i64 2)])), (2, (.agg #[(.int .i64 8), (.int .i64 6)]))] ⟨⟨rfl, rfl⟩, ⟨rfl, rfl⟩, ⟨rfl, rfl⟩, trivial⟩ [(.int .i64 7), (.int .i64 5), (.int .i64 5), (.int .i64 2), (.int .i64 8), (.int .i64 6)] 65 (fun w => by simp [Instr.buildSlice, Instr.fill, Value.cells, go_sem]) ?_
  intro a w b2 hE hp
  have hp : Hp Z ρ (Pt b2 (.cells #[(.int .i64 7), (.int .i64 5), (.int .i64 5), (.int .i64 2), (.int .i64 8), (.int .i64 6)] 65 (0, 0)) :: _ :: L) w := hp
  refine s_val (wk0 rfl) rfl rfl hE hp (v := (.slice (some ⟨b1, 0, none⟩) 3 3)) (ex_asn rfl hE rfl) ?_
  intro a hE
  refine s_val (wk0 rfl) rfl rfl hE hp (v := (.slice (some ⟨b2, 0, none⟩) 3 3)) (ex_asn rfl hE rfl) ?_
  intro a hE
  refine s_nil ?_
  refine k_seq ?_
  refine k_region ?_
  refine s_val (wk0 rfl) rfl rfl hE hp (v := (.slice (some ⟨b1, 0, none⟩) 3 3)) (ex_move rfl hE rfl) ?_
  intro a hE
  refine s_val (wk0 rfl) rfl rfl hE hp (v := (.slice (some ⟨b2, 0, none⟩) 3 3)) (ex_move rfl hE rfl) ?_
  intro a hE
  have hp := (hp.get 1 rfl).imp (own_of_pt (l := (([(Mark.mk 5 0), (Mark.mk 7 3), (Mark.mk 9 9)] : List Mark) : List Mark)) (n := 3) rfl (by decide) rfl)
  have hp : Hp Z ρ (OwnSl 65 (.slice (some ⟨b1, 0, none⟩) 3 3) ([(Mark.mk 5 0), (Mark.mk 7 3), (Mark.mk 9 9)] : List Mark) :: _ :: L) w := hp
  have hp := (hp.get 1 rfl).imp (own_of_pt (l := (([(Mark.mk 7 5), (Mark.mk 5 2), (Mark.mk 8 6)] : List Mark) : List Mark)) (n := 3) rfl (by decide) rfl)
  have hp : Hp Z ρ (OwnSl 65 (.slice (some ⟨b2, 0, none⟩) 3 3) ([(Mark.mk 7 5), (Mark.mk 5 2), (Mark.mk 8 6)] : List Mark) :: _ :: L) w := hp
  obtain ⟨k1, k1a, k1d, k1h⟩ := (hp.get 1 rfl).lend
  obtain ⟨k2, k2a, k2d, k2h⟩ := (k1h.get 0 rfl).lend
  obtain ⟨x1, ex1, hm⟩ := bnd hm
  refine s_call (wk0 rfl) rfl rfl hE rfl [(.slice (some ⟨b1, 0, none⟩) 3 3), (.slice (some ⟨b2, 0, none⟩) 3 3)] ⟨rfl, rfl, trivial⟩ ent18 (c_similarity_Compare ([(Mark.mk 5 0), (Mark.mk 7 3), (Mark.mk 9 9)] : List Mark) (.slice (some ⟨b1, 0, none⟩) 3 3) (RoSl.mono (OwnSl.ro k1d k1a) (PH.le_un _ _)) ([(Mark.mk 7 5), (Mark.mk 5 2), (Mark.mk 8 6)] : List Mark) (.slice (some ⟨b2, 0, none⟩) 3 3) (OwnSl.ro k2d k2a) k2h x1 ex1) Ret.ret ?_
  intro v a w hR hE
  obtain ⟨rfl, hp⟩ := Ret.of hR
  have hp := Hp.back k2a k2d hp
  have hp := Hp.back k1a k1d hp
  have hp : Hp Z ρ (_ :: _ :: L) w := hp
  refine s_val (wk0 rfl) rfl rfl hE hp (v := (.tuple #[(.int .i64 x1.1), (.int .i64 x1.2)])) (ex_move rfl hE rfl) ?_
  intro a hE
  refine s_val (wk0 rfl) rfl rfl hE hp (v := (.int .i64 x1.1)) (ex_extract rfl hE rfl rfl) ?_
  intro a hE
  refine s_val (wk0 rfl) rfl rfl hE hp (v := (.int .i64 x1.2)) (ex_extract rfl hE rfl rfl) ?_
  intro a hE
  refine s_val (wk0 rfl) rfl rfl hE hp (v := (.int .i64 x1.1)) (ex_asn rfl hE rfl) ?_
  intro a hE
  refine s_val (wk0 rfl) rfl rfl hE hp (v := (.int .i64 x1.2)) (ex_asn rfl hE rfl) ?_
  intro a hE
  refine s_nil ?_
  refine k_seq ?_
  refine k_region ?_
  refine s_val (wk0 rfl) rfl rfl hE hp (v := (.slice (some ⟨b1, 0, none⟩) 3 3)) (ex_move rfl hE rfl) ?_
  intro a hE
  refine s_val (wk0 rfl) rfl rfl hE hp (v := (.slice (some ⟨b2, 0, none⟩) 3 3)) (ex_move rfl hE rfl) ?_
  intro a hE
  obtain ⟨k3, k3a, k3d, hp⟩ := (hp.get 0 rfl).lend
  have f1 : RoSl (ρ.un k3) (.slice (some ⟨b1, 0, none⟩) 3 3) ([(Mark.mk 5 0), (Mark.mk 7 3), (Mark.mk 9 9)] : List Mark) := OwnSl.ro k3d k3a
  have hp : Hp Z (ρ.un k3) (_ :: L) w := hp
  obtain ⟨k4, k4a, k4d, hp⟩ := (hp.get 0 rfl).lend
  have f2 : RoSl ((ρ.un k3).un k4) (.slice (some ⟨b2, 0, none⟩) 3 3) ([(Mark.mk 7 5), (Mark.mk 5 2), (Mark.mk 8 6)] : List Mark) := OwnSl.ro k4d k4a
  have hp : Hp Z ((ρ.un k3).un k4) (L) w := hp
  obtain ⟨x2, ex2, hm⟩ := bnd hm
  refine s_call (wk0 rfl) rfl rfl hE rfl [(.slice (some ⟨b1, 0, none⟩) 3 3), (.slice (some ⟨b2, 0, none⟩) 3 3), (.int .i64 3)] ⟨rfl, rfl, rfl, trivial⟩ ent29 (c_similarity_Overlaps ([(Mark.mk 5 0), (Mark.mk 7 3), (Mark.mk 9 9)] : List Mark) (.slice (some ⟨b1, 0, none⟩) 3 3) (RoSl.mono f1 (PH.le_un _ k4)) ([(Mark.mk 7 5), (Mark.mk 5 2), (Mark.mk 8 6)] : List Mark) (.slice (some ⟨b2, 0, none⟩) 3 3) f2 3 hp x2 ex2) Ret.ret ?_
  intro v a w hR hE
  obtain ⟨ρ1, vr3, hle1, rfl, hr3, hp⟩ := Ret.of hR
  have hp : Hp Z ρ1 (L) w := hp
  refine s_val (wk0 rfl) rfl rfl hE hp (v := (.tuple #[vr3, (.int .i64 x2.2)])) (ex_move rfl hE rfl) ?_
  intro a hE
  refine s_val (wk0 rfl) rfl rfl hE hp (v := vr3) (ex_extract rfl hE rfl rfl) ?_
  intro a hE
  refine s_val (wk0 rfl) rfl rfl hE hp (v := (.int .i64 x2.2)) (ex_extract rfl hE rfl rfl) ?_
  intro a hE
  refine s_val (wk0 rfl) rfl rfl hE hp (v := vr3) (ex_asn rfl hE rfl) ?_
  intro a hE
  refine s_val (wk0 rfl) rfl rfl hE hp (v := (.int .i64 x2.2)) (ex_asn rfl hE rfl) ?_
  intro a hE
  refine s_nil ?_
  have hE := hE.cut (E' := [(1, (.slice (some ⟨b1, 0, none⟩) 3 3)), (2, (.slice (some ⟨b2, 0, none⟩) 3 3)), (3, (.int .i64 x1.1)), (4, (.int .i64 x1.2)), (5, vr3), (6, (.int .i64 x2.2))]) ⟨rfl, rfl, rfl, rfl, rfl, rfl, trivial⟩
  refine k_seq ?_
  refine k_region ?_
  refine s_val (wk0 rfl) rfl rfl hE hp (v := (.slice (some ⟨b1, 0, none⟩) 3 3)) (ex_move rfl hE rfl) ?_
  intro a hE
  refine s_val (wk0 rfl) rfl rfl hE hp (v := (.slice (some ⟨b2, 0, none⟩) 3 3)) (ex_move rfl hE rfl) ?_
  intro a hE
  obtain ⟨x3, ex3, hm⟩ := bnd hm
  refine s_call (wk0 rfl) rfl rfl hE rfl [(.slice (some ⟨b1, 0, none⟩) 3 3), (.slice (some ⟨b2, 0, none⟩) 3 3), (.int .i64 2)] ⟨rfl, rfl, rfl, trivial⟩ ent29 (c_similarity_Overlaps ([(Mark.mk 5 0), (Mark.mk 7 3), (Mark.mk 9 9)] : List Mark) (.slice (some ⟨b1, 0, none⟩) 3 3) (RoSl.mono (RoSl.mono f1 (PH.le_un _ k4)) hle1) ([(Mark.mk 7 5), (Mark.mk 5 2), (Mark.mk 8 6)] : List Mark) (.slice (some ⟨b2, 0, none⟩) 3 3) (RoSl.mono f2 hle1) 2 hp x3 ex3) Ret.ret ?_
  intro v a w hR hE
  obtain ⟨ρ2, vr5, hle2, rfl, hr5, hp⟩ := Ret.of hR
  have hp : Hp Z ρ2 (L) w := hp
  refine s_val (wk0 rfl) rfl rfl hE hp (v := (.tuple #[vr5, (.int .i64 x3.2)])) (ex_move rfl hE rfl) ?_
  intro a hE
  refine s_val (wk0 rfl) rfl rfl hE hp (v := vr5) (ex_extract rfl hE rfl rfl) ?_
  intro a hE
  refine s_val (wk0 rfl) rfl rfl hE hp (v := (.int .i64 x3.2)) (ex_extract rfl hE rfl rfl) ?_
  intro a hE
  refine s_val (wk0 rfl) rfl rfl hE hp (v := vr5) (ex_asn rfl hE rfl) ?_
  intro a hE
  refine s_val (wk0 rfl) rfl rfl hE hp (v := (.int .i64 x3.2)) (ex_asn rfl hE rfl) ?_
  intro a hE
  refine s_nil ?_
  refine k_seq ?_
  refine k_region ?_
  refine s_val (wk0 rfl) rfl rfl hE hp (v := (.slice (some ⟨b1, 0, none⟩) 3 3)) (ex_move rfl hE rfl) ?_
  intro a hE
  refine s_val (wk0 rfl) rfl rfl hE hp (v := (.slice (some ⟨b2, 0, none⟩) 3 3)) (ex_move rfl hE rfl) ?_
  intro a hE
  refine s_lit (wk0 rfl) rfl rfl hE hp rfl [(0, (.slice (some ⟨b1, 0, none⟩) 3 3)), (1, (.slice (some ⟨b2, 0, none⟩) 3 3)), (2, (.slice none 0 0))] ⟨⟨rfl, rfl⟩, ⟨rfl, rfl⟩, ⟨rfl, rfl⟩, trivial⟩ [(.slice (some ⟨b1, 0, none⟩) 3 3), (.slice (some ⟨b2, 0, none⟩) 3 3), (.slice none 0 0)] 26 (fun w => by have hc0 := RoSl.cells (RoSl.mono (RoSl.mono (RoSl.mono f1 (PH.le_un _ k4)) hle1) hle2); simp only [Value.cells] at hc0; have hc1 := RoSl.cells (RoSl.mono (RoSl.mono f2 hle1) hle2); simp only [Value.cells] at hc1; simp [Instr.buildSlice, Instr.fill, Value.cells, hc0, hc1, go_sem]) ?_
  intro a w b3 hE hp
  have hp : Hp Z ρ2 (Pt b3 (.cells #[(.slice (some ⟨b1, 0, none⟩) 3 3), (.slice (some ⟨b2, 0, none⟩) 3 3), (.slice none 0 0)] 26 (0, 0)) :: L) w := hp
  obtain ⟨k5, k5a, k5d, hp⟩ := (hp.get 0 rfl).lend
  have f3 : RoSl (ρ2.un k5) (.slice (some ⟨b3, 0, none⟩) 3 3) ([([(Mark.mk 5 0), (Mark.mk 7 3), (Mark.mk 9 9)] : List Mark), ([(Mark.mk 7 5), (Mark.mk 5 2), (Mark.mk 8 6)] : List Mark), []] : List (List Mark)) := RoSl.of_all (l := (([([(Mark.mk 5 0), (Mark.mk 7 3), (Mark.mk 9 9)] : List Mark), ([(Mark.mk 7 5), (Mark.mk 5 2), (Mark.mk 8 6)] : List Mark), []] : List (List Mark)))) k5d k5a ⟨_, _, rfl, ⟨_, rfl, ((RoSl.mono (RoSl.mono (RoSl.mono (RoSl.mono f1 (PH.le_un _ k4)) hle1) hle2) (PH.le_un _ k5)))⟩, ⟨_, _, rfl, ⟨_, rfl, ((RoSl.mono (RoSl.mono (RoSl.mono f2 hle1) hle2) (PH.le_un _ k5)))⟩, ⟨_, _, rfl, ⟨_, rfl, (RoSl.nil _)⟩, rfl⟩⟩⟩
  have hp : Hp Z (ρ2.un k5) (L) w := hp
  obtain ⟨x4, ex4, hm⟩ := bnd hm
  refine s_call (wk0 rfl) rfl rfl hE rfl [(.int .i64 1), (.int .i64 2), (.slice (some ⟨b3, 0, none⟩) 3 3)] ⟨rfl, rfl, rfl, trivial⟩ ent22 (c_similarity_Pairs 1 2 ([([(Mark.mk 5 0), (Mark.mk 7 3), (Mark.mk 9 9)] : List Mark), ([(Mark.mk 7 5), (Mark.mk 5 2), (Mark.mk 8 6)] : List Mark), []] : List (List Mark)) (.slice (some ⟨b3, 0, none⟩) 3 3) f3 hp x4 ex4) Ret.ret ?_
  intro v a w hR hE
  obtain ⟨ρ3, vr7, hle3, rfl, hr7, hp⟩ := Ret.of hR
  have hp : Hp Z ρ3 (L) w := hp
  refine s_val (wk0 rfl) rfl rfl hE hp (v := (.tuple #[vr7, (.int .i64 x4.2)])) (ex_move rfl hE rfl) ?_
  intro a hE
  refine s_val (wk0 rfl) rfl rfl hE hp (v := vr7) (ex_extract rfl hE rfl rfl) ?_
  intro a hE
  refine s_val (wk0 rfl) rfl rfl hE hp (v := (.int .i64 x4.2)) (ex_extract rfl hE rfl rfl) ?_
  intro a hE
  refine s_val (wk0 rfl) rfl rfl hE hp (v := vr7) (ex_asn rfl hE rfl) ?_
  intro a hE
  refine s_val (wk0 rfl) rfl rfl hE hp (v := (.int .i64 x4.2)) (ex_asn rfl hE rfl) ?_
  intro a hE
  refine s_nil ?_
  refine k_seq ?_
  refine k_region ?_
  refine s_val (wk0 rfl) rfl rfl hE hp (v := (.agg #[(.int .i64 2), (.int .i64 0), (.int .i64 0), (.int .i64 0)])) (ex_bld rfl hE [(0, (.int .i64 2)), (1, (.int .i64 0))] (by exact ⟨⟨rfl, rfl⟩, ⟨rfl, rfl⟩, trivial⟩) (fun w => by simp [Instr.build, Instr.fill, Value.cells, go_sem])) ?_
  intro a hE
  refine s_lit (wk0 rfl) rfl rfl hE hp rfl [(0, (.agg #[(.int .i64 2), (.int .i64 0), (.int .i64 0), (.int .i64 0)]))] ⟨⟨rfl, rfl⟩, trivial⟩ [(.int .i64 2), (.int .i64 0), (.int .i64 0), (.int .i64 0)] 52 (fun w => by simp [Instr.buildSlice, Instr.fill, Value.cells, go_sem]) ?_
  intro a w b4 hE hp
  have hp : Hp Z ρ3 (Pt b4 (.cells #[(.int .i64 2), (.int .i64 0), (.int .i64 0), (.int .i64 0)] 52 (0, 0)) :: L) w := hp
  have hp := (hp.get 0 rfl).imp (own_of_pt (l := (([(Pair.mk 2 0 0 0)] : List Pair) : List Pair)) (n := 1) rfl (by decide) rfl)
  have hp : Hp Z ρ3 (OwnSl 52 (.slice (some ⟨b4, 0, none⟩) 1 1) ([(Pair.mk 2 0 0 0)] : List Pair) :: L) w := hp
  obtain ⟨k6, k6a, k6d, hp⟩ := (hp.get 0 rfl).lend
  have f4 : RoSl (ρ3.un k6) (.slice (some ⟨b4, 0, none⟩) 1 1) ([(Pair.mk 2 0 0 0)] : List Pair) := OwnSl.ro k6d k6a
  have hp : Hp Z (ρ3.un k6) (L) w := hp
  obtain ⟨x5, ex5, hm⟩ := bnd hm
  refine s_call (wk0 rfl) rfl rfl hE rfl [(.int .i64 3), (.slice (some ⟨b4, 0, none⟩) 1 1)] ⟨rfl, rfl, trivial⟩ ent26 (c_similarity_Clusters 3 ([(Pair.mk 2 0 0 0)] : List Pair) (.slice (some ⟨b4, 0, none⟩) 1 1) f4 hp x5 ex5) Ret.ret ?_
  intro v a w hR hE
  obtain ⟨ρ4, vr9, hle4, rfl, hr9, hp⟩ := Ret.of hR
  have hp : Hp Z ρ4 (L) w := hp
  refine s_val (wk0 rfl) rfl rfl hE hp (v := (.tuple #[vr9, (.int .i64 x5.2)])) (ex_move rfl hE rfl) ?_
  intro a hE
  refine s_val (wk0 rfl) rfl rfl hE hp (v := vr9) (ex_extract rfl hE rfl rfl) ?_
  intro a hE
  refine s_val (wk0 rfl) rfl rfl hE hp (v := (.int .i64 x5.2)) (ex_extract rfl hE rfl rfl) ?_
  intro a hE
  refine s_val (wk0 rfl) rfl rfl hE hp (v := vr9) (ex_asn rfl hE rfl) ?_
  intro a hE
  refine s_val (wk0 rfl) rfl rfl hE hp (v := (.int .i64 x5.2)) (ex_asn rfl hE rfl) ?_
  intro a hE
  refine s_nil ?_
  have hE := hE.cut (E' := [(1, (.slice (some ⟨b1, 0, none⟩) 3 3)), (2, (.slice (some ⟨b2, 0, none⟩) 3 3)), (3, (.int .i64 x1.1)), (4, (.int .i64 x1.2)), (5, vr3), (6, (.int .i64 x2.2)), (7, vr5), (8, (.int .i64 x3.2)), (9, vr7), (10, (.int .i64 x4.2)), (11, vr9), (12, (.int .i64 x5.2))]) ⟨rfl, rfl, rfl, rfl, rfl, rfl, rfl, rfl, rfl, rfl, rfl, rfl, trivial⟩
  refine k_seq ?_
  refine k_region ?_
  refine s_val (wk0 rfl) rfl rfl hE hp (v := (.func (.func 12) #[] #[])) (ex_asn rfl hE rfl) ?_
  intro a hE
  refine s_nil ?_
  refine k_seq ?_
  refine k_region ?_
  refine s_val (wk0 rfl) rfl rfl hE hp (v := (.int .i64 x1.1)) (ex_move rfl hE rfl) ?_
  intro a hE
  refine s_val (wk0 rfl) rfl rfl hE hp (v := (.bool (decide (x1.1 = 2)))) (ex_eql rfl hE rfl rfl) ?_
  intro a hE
  refine s_val (wk0 rfl) rfl rfl hE hp (v := (.bool (decide (x1.1 = 2)))) (ex_move rfl hE rfl) ?_
  intro a hE
  refine s_cut [_, _, _] (fun a w => Env 130 [(58, (.bool ((decide (x1.1 = 2)) && (decide (x1.2 = 4))))), (1, (.slice (some ⟨b1, 0, none⟩) 3 3)), (2, (.slice (some ⟨b2, 0, none⟩) 3 3)), (5, vr3), (6, (.int .i64 x2.2)), (7, vr5), (8, (.int .i64 x3.2)), (9, vr7), (10, (.int .i64 x4.2)), (11, vr9), (12, (.int .i64 x5.2)), (13, (.func (.func 12) #[] #[]))] a ∧ Hp Z ρ4 (L) w) ?_ ?_
  · rcases Bool.eq_false_or_eq_true (decide (x1.1 = 2)) with hb1 | hb1
    ·
      refine s_val (wk1 hE rfl rfl rfl hb1) rfl rfl hE hp (v := (.int .i64 x1.2)) (ex_move rfl hE rfl) ?_
      intro a hE
      refine s_val (wk1 hE rfl rfl rfl hb1) rfl rfl hE hp (v := (.bool (decide (x1.2 = 4)))) (ex_eql rfl hE rfl rfl) ?_
      intro a hE
      refine s_val (wk0 rfl) rfl rfl hE hp (v := (.bool (decide (x1.2 = 4)))) (ex_pick1 rfl hE rfl hb1 rfl) ?_
      intro a hE
      have hE := hE.eqv (v' := (.bool ((decide (x1.1 = 2)) && (decide (x1.2 = 4))))) (by rw [hb1]; rfl)
      exact s_nil ⟨hE.cut ⟨rfl, rfl, rfl, rfl, rfl, rfl, rfl, rfl, rfl, rfl, rfl, rfl, trivial⟩, hp⟩
    ·
      refine s_skip (wk2 hE rfl rfl rfl hb1) rfl rfl hE ?_
      intro a hE
      refine s_skip (wk2 hE rfl rfl rfl hb1) rfl rfl hE ?_
      intro a hE
      refine s_val (wk0 rfl) rfl rfl hE hp (v := (.bool false)) (ex_pick0 rfl hE rfl hb1 rfl) ?_
      intro a hE
      have hE := hE.eqv (v' := (.bool ((decide (x1.1 = 2)) && (decide (x1.2 = 4))))) (by rw [hb1]; rfl)
      exact s_nil ⟨hE.cut ⟨rfl, rfl, rfl, rfl, rfl, rfl, rfl, rfl, rfl, rfl, rfl, rfl, trivial⟩, hp⟩
  · rintro a w ⟨hE, hp⟩
    refine s_val (wk0 rfl) rfl rfl hE hp (v := (.bool ((decide (x1.1 = 2)) && (decide (x1.2 = 4))))) (ex_move rfl hE rfl) ?_
    intro a hE
    refine s_cut [_, _, _] (fun a w => Env 130 [(62, (.bool (((decide (x1.1 = 2)) && (decide (x1.2 = 4))) && (decide (x2.2 = 0))))), (1, (.slice (some ⟨b1, 0, none⟩) 3 3)), (2, (.slice (some ⟨b2, 0, none⟩) 3 3)), (5, vr3), (7, vr5), (8, (.int .i64 x3.2)), (9, vr7), (10, (.int .i64 x4.2)), (11, vr9), (12, (.int .i64 x5.2)), (13, (.func (.func 12) #[] #[]))] a ∧ Hp Z ρ4 (L) w) ?_ ?_
    · rcases Bool.eq_false_or_eq_true ((decide (x1.1 = 2)) && (decide (x1.2 = 4))) with hb2 | hb2
      ·
        refine s_val (wk1 hE rfl rfl rfl hb2) rfl rfl hE hp (v := (.int .i64 x2.2)) (ex_move rfl hE rfl) ?_
        intro a hE
        refine s_val (wk1 hE rfl rfl rfl hb2) rfl rfl hE hp (v := (.bool (decide (x2.2 = 0)))) (ex_eql rfl hE rfl rfl) ?_
        intro a hE
        refine s_val (wk0 rfl) rfl rfl hE hp (v := (.bool (decide (x2.2 = 0)))) (ex_pick1 rfl hE rfl hb2 rfl) ?_
        intro a hE
        have hE := hE.eqv (v' := (.bool (((decide (x1.1 = 2)) && (decide (x1.2 = 4))) && (decide (x2.2 = 0))))) (by rw [hb2]; rfl)
        exact s_nil ⟨hE.cut ⟨rfl, rfl, rfl, rfl, rfl, rfl, rfl, rfl, rfl, rfl, rfl, trivial⟩, hp⟩
      ·
        refine s_skip (wk2 hE rfl rfl rfl hb2) rfl rfl hE ?_
        intro a hE
        refine s_skip (wk2 hE rfl rfl rfl hb2) rfl rfl hE ?_
        intro a hE
        refine s_val (wk0 rfl) rfl rfl hE hp (v := (.bool false)) (ex_pick0 rfl hE rfl hb2 rfl) ?_
        intro a hE
        have hE := hE.eqv (v' := (.bool (((decide (x1.1 = 2)) && (decide (x1.2 = 4))) && (decide (x2.2 = 0))))) (by rw [hb2]; rfl)
        exact s_nil ⟨hE.cut ⟨rfl, rfl, rfl, rfl, rfl, rfl, rfl, rfl, rfl, rfl, rfl, trivial⟩, hp⟩
    · rintro a w ⟨hE, hp⟩
      refine s_val (wk0 rfl) rfl rfl hE hp (v := (.bool (((decide (x1.1 = 2)) && (decide (x1.2 = 4))) && (decide (x2.2 = 0))))) (ex_move rfl hE rfl) ?_
      intro a hE
      obtain ⟨m1, hg1, hm⟩ := bnd hm
      refine s_cut [_, _, _, _, _] (fun a w => Env 130 [(68, (.bool m1)), (1, (.slice (some ⟨b1, 0, none⟩) 3 3)), (2, (.slice (some ⟨b2, 0, none⟩) 3 3)), (7, vr5), (8, (.int .i64 x3.2)), (9, vr7), (10, (.int .i64 x4.2)), (11, vr9), (12, (.int .i64 x5.2)), (13, (.func (.func 12) #[] #[]))] a ∧ Hp Z ρ4 (L) w) ?_ ?_
      · rcases Bool.eq_false_or_eq_true (((decide (x1.1 = 2)) && (decide (x1.2 = 4))) && (decide (x2.2 = 0))) with hb3 | hb3
        ·
          replace hg1 := (it hb3).symm.trans hg1
          refine s_val (wk1 hE rfl rfl rfl hb3) rfl rfl hE hp (v := vr3) (ex_move rfl hE rfl) ?_
          intro a hE
          refine s_val (wk1 hE rfl rfl rfl hb3) rfl rfl hE hp (v := (.agg #[(.int .i64 0), (.int .i64 2), (.int .i64 6)])) (ex_bld rfl hE [(1, (.int .i64 2)), (2, (.int .i64 6))] (by exact ⟨⟨rfl, rfl⟩, ⟨rfl, rfl⟩, trivial⟩) (fun w => by simp [Instr.build, Instr.fill, Value.cells, go_sem])) ?_
          intro a hE
          refine s_lit (wk1 hE rfl rfl rfl hb3) rfl rfl hE hp rfl [(0, (.agg #[(.int .i64 0), (.int .i64 2), (.int .i64 6)]))] ⟨⟨rfl, rfl⟩, trivial⟩ [(.int .i64 0), (.int .i64 2), (.int .i64 6)] 63 (fun w => by simp [Instr.buildSlice, Instr.fill, Value.cells, go_sem]) ?_
          intro a w b5 hE hp
          have hp : Hp Z ρ4 (Pt b5 (.cells #[(.int .i64 0), (.int .i64 2), (.int .i64 6)] 63 (0, 0)) :: L) w := hp
          have hp := (hp.get 0 rfl).imp (own_of_pt (l := (([(Overlap.mk 0 2 6)] : List Overlap) : List Overlap)) (n := 1) rfl (by decide) rfl)
          have hp : Hp Z ρ4 (OwnSl 63 (.slice (some ⟨b5, 0, none⟩) 1 1) ([(Overlap.mk 0 2 6)] : List Overlap) :: L) w := hp
          obtain ⟨k7, k7a, k7d, k7h⟩ := (hp.get 0 rfl).lend
          obtain ⟨x6, ex6, hg1⟩ := bnd hg1
          refine s_call (wk1 hE rfl rfl rfl hb3) rfl rfl hE rfl [vr3, (.slice (some ⟨b5, 0, none⟩) 1 1)] ⟨rfl, rfl, trivial⟩ ent31 (c_assessorlaw44_overlaps x2.1 vr3 (RoSl.mono (RoSl.mono (RoSl.mono (RoSl.mono (RoSl.mono (RoSl.mono hr3 hle2) (PH.le_un _ k5)) hle3) (PH.le_un _ k6)) hle4) (PH.le_un _ _)) ([(Overlap.mk 0 2 6)] : List Overlap) (.slice (some ⟨b5, 0, none⟩) 1 1) (OwnSl.ro k7d k7a) k7h x6 ex6) Ret.ret ?_
          intro v a w hR hE
          obtain ⟨rfl, hp⟩ := Ret.of hR
          have hp := Hp.back k7a k7d hp
          have hp : Hp Z ρ4 (_ :: L) w := hp
          refine s_val (wk0 rfl) rfl rfl hE hp (v := (.bool x6)) (ex_pick1 rfl hE rfl hb3 rfl) ?_
          intro a hE
          obtain rfl := Option.some.inj hg1
          exact s_nil ⟨hE.cut ⟨rfl, rfl, rfl, rfl, rfl, rfl, rfl, rfl, rfl, rfl, trivial⟩, (hp.drop)⟩
        ·
          replace hg1 := (ie hb3).symm.trans hg1
          refine s_skip (wk2 hE rfl rfl rfl hb3) rfl rfl hE ?_
          intro a hE
          refine s_skip (wk2 hE rfl rfl rfl hb3) rfl rfl hE ?_
          intro a hE
          refine s_skip (wk2 hE rfl rfl rfl hb3) rfl rfl hE ?_
          intro a hE
          refine s_skip (wk2 hE rfl rfl rfl hb3) rfl rfl hE ?_
          intro a hE
          refine s_val (wk0 rfl) rfl rfl hE hp (v := (.bool false)) (ex_pick0 rfl hE rfl hb3 rfl) ?_
          intro a hE
          obtain rfl := Option.some.inj hg1
          exact s_nil ⟨hE.cut ⟨rfl, rfl, rfl, rfl, rfl, rfl, rfl, rfl, rfl, rfl, trivial⟩, hp⟩
      · rintro a w ⟨hE, hp⟩
        refine s_val (wk0 rfl) rfl rfl hE hp (v := (.bool m1)) (ex_move rfl hE rfl) ?_
        intro a hE
        refine s_cut [_, _, _] (fun a w => Env 130 [(72, (.bool (m1 && (decide (x3.2 = 0))))), (1, (.slice (some ⟨b1, 0, none⟩) 3 3)), (2, (.slice (some ⟨b2, 0, none⟩) 3 3)), (7, vr5), (9, vr7), (10, (.int .i64 x4.2)), (11, vr9), (12, (.int .i64 x5.2)), (13, (.func (.func 12) #[] #[]))] a ∧ Hp Z ρ4 (L) w) ?_ ?_
        · rcases Bool.eq_false_or_eq_true m1 with hb4 | hb4
          ·
            refine s_val (wk1 hE rfl rfl rfl hb4) rfl rfl hE hp (v := (.int .i64 x3.2)) (ex_move rfl hE rfl) ?_
            intro a hE
            refine s_val (wk1 hE rfl rfl rfl hb4) rfl rfl hE hp (v := (.bool (decide (x3.2 = 0)))) (ex_eql rfl hE rfl rfl) ?_
            intro a hE
            refine s_val (wk0 rfl) rfl rfl hE hp (v := (.bool (decide (x3.2 = 0)))) (ex_pick1 rfl hE rfl hb4 rfl) ?_
            intro a hE
            have hE := hE.eqv (v' := (.bool (m1 && (decide (x3.2 = 0))))) (by rw [hb4]; rfl)
            exact s_nil ⟨hE.cut ⟨rfl, rfl, rfl, rfl, rfl, rfl, rfl, rfl, rfl, trivial⟩, hp⟩
          ·
            refine s_skip (wk2 hE rfl rfl rfl hb4) rfl rfl hE ?_
            intro a hE
            refine s_skip (wk2 hE rfl rfl rfl hb4) rfl rfl hE ?_
            intro a hE
            refine s_val (wk0 rfl) rfl rfl hE hp (v := (.bool false)) (ex_pick0 rfl hE rfl hb4 rfl) ?_
            intro a hE
            have hE := hE.eqv (v' := (.bool (m1 && (decide (x3.2 = 0))))) (by rw [hb4]; rfl)
            exact s_nil ⟨hE.cut ⟨rfl, rfl, rfl, rfl, rfl, rfl, rfl, rfl, rfl, trivial⟩, hp⟩
        · rintro a w ⟨hE, hp⟩
          refine s_val (wk0 rfl) rfl rfl hE hp (v := (.bool (m1 && (decide (x3.2 = 0))))) (ex_move rfl hE rfl) ?_
          intro a hE
          obtain ⟨m2, hg2, hm⟩ := bnd hm
          refine s_cut [_, _, _, _, _, _] (fun a w => Env 130 [(79, (.bool m2)), (1, (.slice (some ⟨b1, 0, none⟩) 3 3)), (2, (.slice (some ⟨b2, 0, none⟩) 3 3)), (9, vr7), (10, (.int .i64 x4.2)), (11, vr9), (12, (.int .i64 x5.2)), (13, (.func (.func 12) #[] #[]))] a ∧ Hp Z ρ4 (L) w) ?_ ?_
          · rcases Bool.eq_false_or_eq_true (m1 && (decide (x3.2 = 0))) with hb5 | hb5
            ·
              replace hg2 := (it hb5).symm.trans hg2
              refine s_val (wk1 hE rfl rfl rfl hb5) rfl rfl hE hp (v := vr5) (ex_move rfl hE rfl) ?_
              intro a hE
              refine s_val (wk1 hE rfl rfl rfl hb5) rfl rfl hE hp (v := (.agg #[(.int .i64 0), (.int .i64 2), (.int .i64 2)])) (ex_bld rfl hE [(1, (.int .i64 2)), (2, (.int .i64 2))] (by exact ⟨⟨rfl, rfl⟩, ⟨rfl, rfl⟩, trivial⟩) (fun w => by simp [Instr.build, Instr.fill, Value.cells, go_sem])) ?_
              intro a hE
              refine s_val (wk1 hE rfl rfl rfl hb5) rfl rfl hE hp (v := (.agg #[(.int .i64 3), (.int .i64 5), (.int .i64 2)])) (ex_bld rfl hE [(0, (.int .i64 3)), (1, (.int .i64 5)), (2, (.int .i64 2))] (by exact ⟨⟨rfl, rfl⟩, ⟨rfl, rfl⟩, ⟨rfl, rfl⟩, trivial⟩) (fun w => by simp [Instr.build, Instr.fill, Value.cells, go_sem])) ?_
              intro a hE
              refine s_lit (wk1 hE rfl rfl rfl hb5) rfl rfl hE hp rfl [(0, (.agg #[(.int .i64 0), (.int .i64 2), (.int .i64 2)])), (1, (.agg #[(.int .i64 3), (.int .i64 5), (.int .i64 2)]))] ⟨⟨rfl, rfl⟩, ⟨rfl, rfl⟩, trivial⟩ [(.int .i64 0), (.int .i64 2), (.int .i64 2), (.int .i64 3), (.int .i64 5), (.int .i64 2)] 63 (fun w => by simp [Instr.buildSlice, Instr.fill, Value.cells, go_sem]) ?_
              intro a w b6 hE hp
              have hp : Hp Z ρ4 (Pt b6 (.cells #[(.int .i64 0), (.int .i64 2), (.int .i64 2), (.int .i64 3), (.int .i64 5), (.int .i64 2)] 63 (0, 0)) :: L) w := hp
              have hp := (hp.get 0 rfl).imp (own_of_pt (l := (([(Overlap.mk 0 2 2), (Overlap.mk 3 5 2)] : List Overlap) : List Overlap)) (n := 2) rfl (by decide) rfl)
              have hp : Hp Z ρ4 (OwnSl 63 (.slice (some ⟨b6, 0, none⟩) 2 2) ([(Overlap.mk 0 2 2), (Overlap.mk 3 5 2)] : List Overlap) :: L) w := hp
              obtain ⟨k8, k8a, k8d, k8h⟩ := (hp.get 0 rfl).lend
              obtain ⟨x7, ex7, hg2⟩ := bnd hg2
              refine s_call (wk1 hE rfl rfl rfl hb5) rfl rfl hE rfl [vr5, (.slice (some ⟨b6, 0, none⟩) 2 2)] ⟨rfl, rfl, trivial⟩ ent31 (c_assessorlaw44_overlaps x3.1 vr5 (RoSl.mono (RoSl.mono (RoSl.mono (RoSl.mono (RoSl.mono hr5 (PH.le_un _ k5)) hle3) (PH.le_un _ k6)) hle4) (PH.le_un _ _)) ([(Overlap.mk 0 2 2), (Overlap.mk 3 5 2)] : List Overlap) (.slice (some ⟨b6, 0, none⟩) 2 2) (OwnSl.ro k8d k8a) k8h x7 ex7) Ret.ret ?_
              intro v a w hR hE
              obtain ⟨rfl, hp⟩ := Ret.of hR
              have hp := Hp.back k8a k8d hp
              have hp : Hp Z ρ4 (_ :: L) w := hp
              refine s_val (wk0 rfl) rfl rfl hE hp (v := (.bool x7)) (ex_pick1 rfl hE rfl hb5 rfl) ?_
              intro a hE
              obtain rfl := Option.some.inj hg2
              exact s_nil ⟨hE.cut ⟨rfl, rfl, rfl, rfl, rfl, rfl, rfl, rfl, trivial⟩, (hp.drop)⟩
            ·
              replace hg2 := (ie hb5).symm.trans hg2
              refine s_skip (wk2 hE rfl rfl rfl hb5) rfl rfl hE ?_
              intro a hE
              refine s_skip (wk2 hE rfl rfl rfl hb5) rfl rfl hE ?_
              intro a hE
              refine s_skip (wk2 hE rfl rfl rfl hb5) rfl rfl hE ?_
              intro a hE
              refine s_skip (wk2 hE rfl rfl rfl hb5) rfl rfl hE ?_
              intro a hE
              refine s_skip (wk2 hE rfl rfl rfl hb5) rfl rfl hE ?_
              intro a hE
              refine s_val (wk0 rfl) rfl rfl hE hp (v := (.bool false)) (ex_pick0 rfl hE rfl hb5 rfl) ?_
              intro a hE
              obtain rfl := Option.some.inj hg2
              exact s_nil ⟨hE.cut ⟨rfl, rfl, rfl, rfl, rfl, rfl, rfl, rfl, trivial⟩, hp⟩
          · rintro a w ⟨hE, hp⟩
            refine s_val (wk0 rfl) rfl rfl hE hp (v := (.bool m2)) (ex_move rfl hE rfl) ?_
            intro a hE
            refine s_cut [_, _, _] (fun a w => Env 130 [(83, (.bool (m2 && (decide (x4.2 = 0))))), (1, (.slice (some ⟨b1, 0, none⟩) 3 3)), (2, (.slice (some ⟨b2, 0, none⟩) 3 3)), (9, vr7), (11, vr9), (12, (.int .i64 x5.2)), (13, (.func (.func 12) #[] #[]))] a ∧ Hp Z ρ4 (L) w) ?_ ?_
            · rcases Bool.eq_false_or_eq_true m2 with hb6 | hb6
              ·
                refine s_val (wk1 hE rfl rfl rfl hb6) rfl rfl hE hp (v := (.int .i64 x4.2)) (ex_move rfl hE rfl) ?_
                intro a hE
                refine s_val (wk1 hE rfl rfl rfl hb6) rfl rfl hE hp (v := (.bool (decide (x4.2 = 0)))) (ex_eql rfl hE rfl rfl) ?_
                intro a hE
                refine s_val (wk0 rfl) rfl rfl hE hp (v := (.bool (decide (x4.2 = 0)))) (ex_pick1 rfl hE rfl hb6 rfl) ?_
                intro a hE
                have hE := hE.eqv (v' := (.bool (m2 && (decide (x4.2 = 0))))) (by rw [hb6]; rfl)
                exact s_nil ⟨hE.cut ⟨rfl, rfl, rfl, rfl, rfl, rfl, rfl, trivial⟩, hp⟩
              ·
                refine s_skip (wk2 hE rfl rfl rfl hb6) rfl rfl hE ?_
                intro a hE
                refine s_skip (wk2 hE rfl rfl rfl hb6) rfl rfl hE ?_
                intro a hE
                refine s_val (wk0 rfl) rfl rfl hE hp (v := (.bool false)) (ex_pick0 rfl hE rfl hb6 rfl) ?_
                intro a hE
                have hE := hE.eqv (v' := (.bool (m2 && (decide (x4.2 = 0))))) (by rw [hb6]; rfl)
                exact s_nil ⟨hE.cut ⟨rfl, rfl, rfl, rfl, rfl, rfl, rfl, trivial⟩, hp⟩
            · rintro a w ⟨hE, hp⟩
              refine s_val (wk0 rfl) rfl rfl hE hp (v := (.bool (m2 && (decide (x4.2 = 0))))) (ex_move rfl hE rfl) ?_
              intro a hE
              obtain ⟨m3, hg3, hm⟩ := bnd hm
              refine s_cut [_, _, _, _, _] (fun a w => Env 130 [(89, (.bool m3)), (1, (.slice (some ⟨b1, 0, none⟩) 3 3)), (2, (.slice (some ⟨b2, 0, none⟩) 3 3)), (11, vr9), (12, (.int .i64 x5.2)), (13, (.func (.func 12) #[] #[]))] a ∧ Hp Z ρ4 (L) w) ?_ ?_
              · rcases Bool.eq_false_or_eq_true (m2 && (decide (x4.2 = 0))) with hb7 | hb7
                ·
                  replace hg3 := (it hb7).symm.trans hg3
                  refine s_val (wk1 hE rfl rfl rfl hb7) rfl rfl hE hp (v := vr7) (ex_move rfl hE rfl) ?_
                  intro a hE
                  refine s_val (wk1 hE rfl rfl rfl hb7) rfl rfl hE hp (v := (.agg #[(.int .i64 0), (.int .i64 1), (.int .i64 2), (.int .i64 4)])) (ex_bld rfl hE [(1, (.int .i64 1)), (2, (.int .i64 2)), (3, (.int .i64 4))] (by exact ⟨⟨rfl, rfl⟩, ⟨rfl, rfl⟩, ⟨rfl, rfl⟩, trivial⟩) (fun w => by simp [Instr.build, Instr.fill, Value.cells, go_sem])) ?_
                  intro a hE
                  refine s_lit (wk1 hE rfl rfl rfl hb7) rfl rfl hE hp rfl [(0, (.agg #[(.int .i64 0), (.int .i64 1), (.int .i64 2), (.int .i64 4)]))] ⟨⟨rfl, rfl⟩, trivial⟩ [(.int .i64 0), (.int .i64 1), (.int .i64 2), (.int .i64 4)] 52 (fun w => by simp [Instr.buildSlice, Instr.fill, Value.cells, go_sem]) ?_
                  intro a w b7 hE hp
                  have hp : Hp Z ρ4 (Pt b7 (.cells #[(.int .i64 0), (.int .i64 1), (.int .i64 2), (.int .i64 4)] 52 (0, 0)) :: L) w := hp
                  have hp := (hp.get 0 rfl).imp (own_of_pt (l := (([(Pair.mk 0 1 2 4)] : List Pair) : List Pair)) (n := 1) rfl (by decide) rfl)
                  have hp : Hp Z ρ4 (OwnSl 52 (.slice (some ⟨b7, 0, none⟩) 1 1) ([(Pair.mk 0 1 2 4)] : List Pair) :: L) w := hp
                  obtain ⟨k9, k9a, k9d, k9h⟩ := (hp.get 0 rfl).lend
                  obtain ⟨x8, ex8, hg3⟩ := bnd hg3
                  refine s_call (wk1 hE rfl rfl rfl hb7) rfl rfl hE rfl [vr7, (.slice (some ⟨b7, 0, none⟩) 1 1)] ⟨rfl, rfl, trivial⟩ ent24 (c_assessorlaw44_pairs x4.1 vr7 (RoSl.mono (RoSl.mono (RoSl.mono hr7 (PH.le_un _ k6)) hle4) (PH.le_un _ _)) ([(Pair.mk 0 1 2 4)] : List Pair) (.slice (some ⟨b7, 0, none⟩) 1 1) (OwnSl.ro k9d k9a) k9h x8 ex8) Ret.ret ?_
                  intro v a w hR hE
                  obtain ⟨rfl, hp⟩ := Ret.of hR
                  have hp := Hp.back k9a k9d hp
                  have hp : Hp Z ρ4 (_ :: L) w := hp
                  refine s_val (wk0 rfl) rfl rfl hE hp (v := (.bool x8)) (ex_pick1 rfl hE rfl hb7 rfl) ?_
                  intro a hE
                  obtain rfl := Option.some.inj hg3
                  exact s_nil ⟨hE.cut ⟨rfl, rfl, rfl, rfl, rfl, rfl, trivial⟩, (hp.drop)⟩
                ·
                  replace hg3 := (ie hb7).symm.trans hg3
                  refine s_skip (wk2 hE rfl rfl rfl hb7) rfl rfl hE ?_
                  intro a hE
                  refine s_skip (wk2 hE rfl rfl rfl hb7) rfl rfl hE ?_
                  intro a hE
                  refine s_skip (wk2 hE rfl rfl rfl hb7) rfl rfl hE ?_
                  intro a hE
                  refine s_skip (wk2 hE rfl rfl rfl hb7) rfl rfl hE ?_
                  intro a hE
                  refine s_val (wk0 rfl) rfl rfl hE hp (v := (.bool false)) (ex_pick0 rfl hE rfl hb7 rfl) ?_
                  intro a hE
                  obtain rfl := Option.some.inj hg3
                  exact s_nil ⟨hE.cut ⟨rfl, rfl, rfl, rfl, rfl, rfl, trivial⟩, hp⟩
              · rintro a w ⟨hE, hp⟩
                refine s_val (wk0 rfl) rfl rfl hE hp (v := (.bool m3)) (ex_move rfl hE rfl) ?_
                intro a hE
                refine s_cut [_, _, _] (fun a w => Env 130 [(93, (.bool (m3 && (decide (x5.2 = 0))))), (1, (.slice (some ⟨b1, 0, none⟩) 3 3)), (2, (.slice (some ⟨b2, 0, none⟩) 3 3)), (11, vr9), (13, (.func (.func 12) #[] #[]))] a ∧ Hp Z ρ4 (L) w) ?_ ?_
                · rcases Bool.eq_false_or_eq_true m3 with hb8 | hb8
                  ·
                    refine s_val (wk1 hE rfl rfl rfl hb8) rfl rfl hE hp (v := (.int .i64 x5.2)) (ex_move rfl hE rfl) ?_
                    intro a hE
                    refine s_val (wk1 hE rfl rfl rfl hb8) rfl rfl hE hp (v := (.bool (decide (x5.2 = 0)))) (ex_eql rfl hE rfl rfl) ?_
                    intro a hE
                    refine s_val (wk0 rfl) rfl rfl hE hp (v := (.bool (decide (x5.2 = 0)))) (ex_pick1 rfl hE rfl hb8 rfl) ?_
                    intro a hE
                    have hE := hE.eqv (v' := (.bool (m3 && (decide (x5.2 = 0))))) (by rw [hb8]; rfl)
                    exact s_nil ⟨hE.cut ⟨rfl, rfl, rfl, rfl, rfl, trivial⟩, hp⟩
                  ·
                    refine s_skip (wk2 hE rfl rfl rfl hb8) rfl rfl hE ?_
                    intro a hE
                    refine s_skip (wk2 hE rfl rfl rfl hb8) rfl rfl hE ?_
                    intro a hE
                    refine s_val (wk0 rfl) rfl rfl hE hp (v := (.bool false)) (ex_pick0 rfl hE rfl hb8 rfl) ?_
                    intro a hE
                    have hE := hE.eqv (v' := (.bool (m3 && (decide (x5.2 = 0))))) (by rw [hb8]; rfl)
                    exact s_nil ⟨hE.cut ⟨rfl, rfl, rfl, rfl, rfl, trivial⟩, hp⟩
                · rintro a w ⟨hE, hp⟩
                  refine s_val (wk0 rfl) rfl rfl hE hp (v := (.bool (m3 && (decide (x5.2 = 0))))) (ex_move rfl hE rfl) ?_
                  intro a hE
                  refine s_cut [_, _, _, _] (fun a w => Env 130 [(98, (.bool ((m3 && (decide (x5.2 = 0))) && (decide ((x5.1.length : Int) = 1))))), (1, (.slice (some ⟨b1, 0, none⟩) 3 3)), (2, (.slice (some ⟨b2, 0, none⟩) 3 3)), (11, vr9), (13, (.func (.func 12) #[] #[]))] a ∧ Hp Z ρ4 (L) w) ?_ ?_
                  · rcases Bool.eq_false_or_eq_true (m3 && (decide (x5.2 = 0))) with hb9 | hb9
                    ·
                      refine s_val (wk1 hE rfl rfl rfl hb9) rfl rfl hE hp (v := vr9) (ex_move rfl hE rfl) ?_
                      intro a hE
                      refine s_val (wk1 hE rfl rfl rfl hb9) rfl rfl hE hp (v := (.int .i64 (x5.1.length : Int))) (ex_len rfl hE rfl (RoSl.len hr9 slty45)) ?_
                      intro a hE
                      refine s_val (wk1 hE rfl rfl rfl hb9) rfl rfl hE hp (v := (.bool (decide ((x5.1.length : Int) = 1)))) (ex_eql rfl hE rfl rfl) ?_
                      intro a hE
                      refine s_val (wk0 rfl) rfl rfl hE hp (v := (.bool (decide ((x5.1.length : Int) = 1)))) (ex_pick1 rfl hE rfl hb9 rfl) ?_
                      intro a hE
                      have hE := hE.eqv (v' := (.bool ((m3 && (decide (x5.2 = 0))) && (decide ((x5.1.length : Int) = 1))))) (by rw [hb9]; rfl)
                      exact s_nil ⟨hE.cut ⟨rfl, rfl, rfl, rfl, rfl, trivial⟩, hp⟩
                    ·
                      refine s_skip (wk2 hE rfl rfl rfl hb9) rfl rfl hE ?_
                      intro a hE
                      refine s_skip (wk2 hE rfl rfl rfl hb9) rfl rfl hE ?_
                      intro a hE
                      refine s_skip (wk2 hE rfl rfl rfl hb9) rfl rfl hE ?_
                      intro a hE
                      refine s_val (wk0 rfl) rfl rfl hE hp (v := (.bool false)) (ex_pick0 rfl hE rfl hb9 rfl) ?_
                      intro a hE
                      have hE := hE.eqv (v' := (.bool ((m3 && (decide (x5.2 = 0))) && (decide ((x5.1.length : Int) = 1))))) (by rw [hb9]; rfl)
                      exact s_nil ⟨hE.cut ⟨rfl, rfl, rfl, rfl, rfl, trivial⟩, hp⟩
                  · rintro a w ⟨hE, hp⟩
                    refine s_val (wk0 rfl) rfl rfl hE hp (v := (.bool ((m3 && (decide (x5.2 = 0))) && (decide ((x5.1.length : Int) = 1))))) (ex_move rfl hE rfl) ?_
                    intro a hE
                    obtain ⟨m4, hg4, hm⟩ := bnd hm
                    refine s_cut [_, _, _, _, _, _, _] (fun a w => Env 130 [(106, (.bool m4)), (1, (.slice (some ⟨b1, 0, none⟩) 3 3)), (2, (.slice (some ⟨b2, 0, none⟩) 3 3)), (13, (.func (.func 12) #[] #[]))] a ∧ Hp Z ρ4 (L) w) ?_ ?_
                    · rcases Bool.eq_false_or_eq_true ((m3 && (decide (x5.2 = 0))) && (decide ((x5.1.length : Int) = 1))) with hb10 | hb10
                      ·
                        replace hg4 := (it hb10).symm.trans hg4
                        refine s_val (wk1 hE rfl rfl rfl hb10) rfl rfl hE hp (v := (.func (.func 12) #[] #[])) (ex_move rfl hE rfl) ?_
                        intro a hE
                        refine s_val (wk1 hE rfl rfl rfl hb10) rfl rfl hE hp (v := vr9) (ex_move rfl hE rfl) ?_
                        intro a hE
                        obtain ⟨x9, ex9, hg4⟩ := bnd hg4
                        obtain ⟨b8, b8o, b8c, b8r, b8k, b8f⟩ := RoSl.at hr9 slty45 ex9
                        obtain ⟨vb8, rfl, hb8⟩ := b8k
                        have b8f : AtP ρ4 b8 b8o [vb8] := b8f
                        refine s_val (wk1 hE rfl rfl rfl hb10) rfl rfl hE hp (v := (.pointer (some ⟨b8, b8o, none⟩))) (ex_index rfl hE rfl rfl b8r) ?_
                        intro a hE
                        refine s_val (wk1 hE rfl rfl rfl hb10) rfl rfl hE hp (v := vb8) (ex_load rfl hE rfl (fun w hw => run_ld1 varty23 (b8f.c 0 rfl w hw))) ?_
                        intro a hE
                        refine s_lit (wk1 hE rfl rfl rfl hb10) rfl rfl hE hp rfl [(0, (.int .i64 0)), (1, (.int .i64 2))] ⟨⟨rfl, rfl⟩, ⟨rfl, rfl⟩, trivial⟩ [(.int .i64 0), (.int .i64 2)] 3 (fun w => by simp [Instr.buildSlice, Instr.fill, Value.cells, go_sem]) ?_
                        intro a w b9 hE hp
                        have hp : Hp Z ρ4 (Pt b9 (.cells #[(.int .i64 0), (.int .i64 2)] 3 (0, 0)) :: L) w := hp
                        have hp := (hp.get 0 rfl).imp (own_of_pt (l := (([0, 2] : List Int) : List Int)) (n := 2) rfl (by decide) rfl)
                        have hp : Hp Z ρ4 (OwnSl 3 (.slice (some ⟨b9, 0, none⟩) 2 2) ([0, 2] : List Int) :: L) w := hp
                        obtain ⟨k10, k10a, k10d, k10h⟩ := (hp.get 0 rfl).lend
                        obtain ⟨x10, ex10, hg4⟩ := bnd hg4
                        refine s_callv (wk1 hE rfl rfl rfl hb10) rfl rfl hE rfl rfl [vb8, (.slice (some ⟨b9, 0, none⟩) 2 2)] ⟨rfl, rfl, trivial⟩ ent12 (c_assessorref35_Same x9 vb8 (RoSl.mono hb8 (PH.le_un _ _)) ([0, 2] : List Int) (.slice (some ⟨b9, 0, none⟩) 2 2) (OwnSl.ro k10d k10a) k10h x10 ex10) Ret.ret ?_
                        intro v a w hR hE
                        obtain ⟨rfl, hp⟩ := Ret.of hR
                        have hp := Hp.back k10a k10d hp
                        have hp : Hp Z ρ4 (_ :: L) w := hp
                        refine s_val (wk0 rfl) rfl rfl hE hp (v := (.bool x10)) (ex_pick1 rfl hE rfl hb10 rfl) ?_
                        intro a hE
                        obtain rfl := Option.some.inj hg4
                        exact s_nil ⟨hE.cut ⟨rfl, rfl, rfl, rfl, trivial⟩, (hp.drop)⟩
                      ·
                        replace hg4 := (ie hb10).symm.trans hg4
                        refine s_skip (wk2 hE rfl rfl rfl hb10) rfl rfl hE ?_
                        intro a hE
                        refine s_skip (wk2 hE rfl rfl rfl hb10) rfl rfl hE ?_
                        intro a hE
                        refine s_skip (wk2 hE rfl rfl rfl hb10) rfl rfl hE ?_
                        intro a hE
                        refine s_skip (wk2 hE rfl rfl rfl hb10) rfl rfl hE ?_
                        intro a hE
                        refine s_skip (wk2 hE rfl rfl rfl hb10) rfl rfl hE ?_
                        intro a hE
                        refine s_skip (wk2 hE rfl rfl rfl hb10) rfl rfl hE ?_
                        intro a hE
                        refine s_val (wk0 rfl) rfl rfl hE hp (v := (.bool false)) (ex_pick0 rfl hE rfl hb10 rfl) ?_
                        intro a hE
                        obtain rfl := Option.some.inj hg4
                        exact s_nil ⟨hE.cut ⟨rfl, rfl, rfl, rfl, trivial⟩, hp⟩
                    · rintro a w ⟨hE, hp⟩
                      refine s_val (wk0 rfl) rfl rfl hE hp (v := (.bool m4)) (ex_move rfl hE rfl) ?_
                      intro a hE
                      obtain ⟨m5, hg5, hm⟩ := bnd hm
                      refine s_cut [_, _, _, _, _, _] (fun a w => Env 130 [(113, (.bool m5)), (1, (.slice (some ⟨b1, 0, none⟩) 3 3)), (2, (.slice (some ⟨b2, 0, none⟩) 3 3)), (13, (.func (.func 12) #[] #[]))] a ∧ Hp Z ρ4 (L) w) ?_ ?_
                      · rcases Bool.eq_false_or_eq_true m4 with hb11 | hb11
                        ·
                          replace hg5 := (it hb11).symm.trans hg5
                          refine s_val (wk1 hE rfl rfl rfl hb11) rfl rfl hE hp (v := (.func (.func 12) #[] #[])) (ex_move rfl hE rfl) ?_
                          intro a hE
                          refine s_val (wk1 hE rfl rfl rfl hb11) rfl rfl hE hp (v := (.slice (some ⟨b1, 0, none⟩) 3 3)) (ex_move rfl hE rfl) ?_
                          intro a hE
                          obtain ⟨x11, ex11, hg5⟩ := bnd hg5
                          refine s_call (wk1 hE rfl rfl rfl hb11) rfl rfl hE rfl [(.slice (some ⟨b1, 0, none⟩) 3 3)] ⟨rfl, trivial⟩ ent13 (c_similarity_Hashes ([(Mark.mk 5 0), (Mark.mk 7 3), (Mark.mk 9 9)] : List Mark) (.slice (some ⟨b1, 0, none⟩) 3 3) (RoSl.mono (RoSl.mono (RoSl.mono (RoSl.mono (RoSl.mono (RoSl.mono (RoSl.mono f1 (PH.le_un _ k4)) hle1) hle2) (PH.le_un _ k5)) hle3) (PH.le_un _ k6)) hle4) hp x11 ex11) Ret.ret ?_
                          intro vr15 a w hR hE
                          obtain ⟨u, rfl, hp⟩ := Ret.of hR
                          have hp : Hp Z ρ4 (OwnSl 3 vr15 x11 :: L) w := hp
                          refine s_lit (wk1 hE rfl rfl rfl hb11) rfl rfl hE hp rfl [(0, (.int .i64 5)), (1, (.int .i64 7)), (2, (.int .i64 9))] ⟨⟨rfl, rfl⟩, ⟨rfl, rfl⟩, ⟨rfl, rfl⟩, trivial⟩ [(.int .i64 5), (.int .i64 7), (.int .i64 9)] 3 (fun w => by simp [Instr.buildSlice, Instr.fill, Value.cells, go_sem]) ?_
                          intro a w b10 hE hp
                          have hp : Hp Z ρ4 (Pt b10 (.cells #[(.int .i64 5), (.int .i64 7), (.int .i64 9)] 3 (0, 0)) :: _ :: L) w := hp
                          have hp := (hp.get 0 rfl).imp (own_of_pt (l := (([5, 7, 9] : List Int) : List Int)) (n := 3) rfl (by decide) rfl)
                          have hp : Hp Z ρ4 (OwnSl 3 (.slice (some ⟨b10, 0, none⟩) 3 3) ([5, 7, 9] : List Int) :: _ :: L) w := hp
                          obtain ⟨k11, k11a, k11d, k11h⟩ := (hp.get 1 rfl).lend
                          obtain ⟨k12, k12a, k12d, k12h⟩ := (k11h.get 0 rfl).lend
                          obtain ⟨x12, ex12, hg5⟩ := bnd hg5
                          refine s_callv (wk1 hE rfl rfl rfl hb11) rfl rfl hE rfl rfl [vr15, (.slice (some ⟨b10, 0, none⟩) 3 3)] ⟨rfl, rfl, trivial⟩ ent12 (c_assessorref35_Same x11 vr15 (RoSl.mono (OwnSl.ro k11d k11a) (PH.le_un _ _)) ([5, 7, 9] : List Int) (.slice (some ⟨b10, 0, none⟩) 3 3) (OwnSl.ro k12d k12a) k12h x12 ex12) Ret.ret ?_
                          intro v a w hR hE
                          obtain ⟨rfl, hp⟩ := Ret.of hR
                          have hp := Hp.back k12a k12d hp
                          have hp := Hp.back k11a k11d hp
                          have hp : Hp Z ρ4 (_ :: _ :: L) w := hp
                          refine s_val (wk0 rfl) rfl rfl hE hp (v := (.bool x12)) (ex_pick1 rfl hE rfl hb11 rfl) ?_
                          intro a hE
                          obtain rfl := Option.some.inj hg5
                          exact s_nil ⟨hE.cut ⟨rfl, rfl, rfl, rfl, trivial⟩, (((hp.get 1 rfl).drop).drop)⟩
                        ·
                          replace hg5 := (ie hb11).symm.trans hg5
                          refine s_skip (wk2 hE rfl rfl rfl hb11) rfl rfl hE ?_
                          intro a hE
                          refine s_skip (wk2 hE rfl rfl rfl hb11) rfl rfl hE ?_
                          intro a hE
                          refine s_skip (wk2 hE rfl rfl rfl hb11) rfl rfl hE ?_
                          intro a hE
                          refine s_skip (wk2 hE rfl rfl rfl hb11) rfl rfl hE ?_
                          intro a hE
                          refine s_skip (wk2 hE rfl rfl rfl hb11) rfl rfl hE ?_
                          intro a hE
                          refine s_val (wk0 rfl) rfl rfl hE hp (v := (.bool false)) (ex_pick0 rfl hE rfl hb11 rfl) ?_
                          intro a hE
                          obtain rfl := Option.some.inj hg5
                          exact s_nil ⟨hE.cut ⟨rfl, rfl, rfl, rfl, trivial⟩, hp⟩
                      · rintro a w ⟨hE, hp⟩
                        refine s_val (wk0 rfl) rfl rfl hE hp (v := (.bool m5)) (ex_move rfl hE rfl) ?_
                        intro a hE
                        obtain ⟨m6, hg6, hm⟩ := bnd hm
                        refine s_cut [_, _, _, _, _, _] (fun a w => Env 130 [(120, (.bool m6)), (1, (.slice (some ⟨b1, 0, none⟩) 3 3)), (2, (.slice (some ⟨b2, 0, none⟩) 3 3)), (13, (.func (.func 12) #[] #[]))] a ∧ Hp Z ρ4 (L) w) ?_ ?_
                        · rcases Bool.eq_false_or_eq_true m5 with hb12 | hb12
                          ·
                            replace hg6 := (it hb12).symm.trans hg6
                            refine s_val (wk1 hE rfl rfl rfl hb12) rfl rfl hE hp (v := (.slice (some ⟨b1, 0, none⟩) 3 3)) (ex_move rfl hE rfl) ?_
                            intro a hE
                            refine s_lit (wk1 hE rfl rfl rfl hb12) rfl rfl hE hp rfl [(0, (.int .i64 7))] ⟨⟨rfl, rfl⟩, trivial⟩ [(.int .i64 7)] 3 (fun w => by simp [Instr.buildSlice, Instr.fill, Value.cells, go_sem]) ?_
                            intro a w b11 hE hp
                            have hp : Hp Z ρ4 (Pt b11 (.cells #[(.int .i64 7)] 3 (0, 0)) :: L) w := hp
                            have hp := (hp.get 0 rfl).imp (own_of_pt (l := (([7] : List Int) : List Int)) (n := 1) rfl (by decide) rfl)
                            have hp : Hp Z ρ4 (OwnSl 3 (.slice (some ⟨b11, 0, none⟩) 1 1) ([7] : List Int) :: L) w := hp
                            obtain ⟨k13, k13a, k13d, k13h⟩ := (hp.get 0 rfl).lend
                            obtain ⟨x13, ex13, hg6⟩ := bnd hg6
                            refine s_call (wk1 hE rfl rfl rfl hb12) rfl rfl hE rfl [(.slice (some ⟨b1, 0, none⟩) 3 3), (.slice (some ⟨b11, 0, none⟩) 1 1)] ⟨rfl, rfl, trivial⟩ ent16 (c_similarity_Without ([(Mark.mk 5 0), (Mark.mk 7 3), (Mark.mk 9 9)] : List Mark) (.slice (some ⟨b1, 0, none⟩) 3 3) (RoSl.mono (RoSl.mono (RoSl.mono (RoSl.mono (RoSl.mono (RoSl.mono (RoSl.mono (RoSl.mono f1 (PH.le_un _ k4)) hle1) hle2) (PH.le_un _ k5)) hle3) (PH.le_un _ k6)) hle4) (PH.le_un _ _)) ([7] : List Int) (.slice (some ⟨b11, 0, none⟩) 1 1) (OwnSl.ro k13d k13a) k13h x13 ex13) Ret.ret ?_
                            intro vr17 a w hR hE
                            obtain ⟨u, rfl, hp⟩ := Ret.of hR
                            have hp := Hp.back k13a k13d hp
                            have hp : Hp Z ρ4 (_ :: OwnSl 65 vr17 x13 :: L) w := hp
                            refine s_val (wk1 hE rfl rfl rfl hb12) rfl rfl hE hp (v := (.int .i64 (x13.length : Int))) (ex_len rfl hE rfl (OwnSl.len hp 1 rfl slty26)) ?_
                            intro a hE
                            refine s_val (wk1 hE rfl rfl rfl hb12) rfl rfl hE hp (v := (.bool (decide ((x13.length : Int) = 2)))) (ex_eql rfl hE rfl rfl) ?_
                            intro a hE
                            refine s_val (wk0 rfl) rfl rfl hE hp (v := (.bool (decide ((x13.length : Int) = 2)))) (ex_pick1 rfl hE rfl hb12 rfl) ?_
                            intro a hE
                            obtain rfl := Option.some.inj hg6
                            exact s_nil ⟨hE.cut ⟨rfl, rfl, rfl, rfl, trivial⟩, (((hp.get 1 rfl).drop).drop)⟩
                          ·
                            replace hg6 := (ie hb12).symm.trans hg6
                            refine s_skip (wk2 hE rfl rfl rfl hb12) rfl rfl hE ?_
                            intro a hE
                            refine s_skip (wk2 hE rfl rfl rfl hb12) rfl rfl hE ?_
                            intro a hE
                            refine s_skip (wk2 hE rfl rfl rfl hb12) rfl rfl hE ?_
                            intro a hE
                            refine s_skip (wk2 hE rfl rfl rfl hb12) rfl rfl hE ?_
                            intro a hE
                            refine s_skip (wk2 hE rfl rfl rfl hb12) rfl rfl hE ?_
                            intro a hE
                            refine s_val (wk0 rfl) rfl rfl hE hp (v := (.bool false)) (ex_pick0 rfl hE rfl hb12 rfl) ?_
                            intro a hE
                            obtain rfl := Option.some.inj hg6
                            exact s_nil ⟨hE.cut ⟨rfl, rfl, rfl, rfl, trivial⟩, hp⟩
                        · rintro a w ⟨hE, hp⟩
                          refine s_val (wk0 rfl) rfl rfl hE hp (v := (.bool m6)) (ex_move rfl hE rfl) ?_
                          intro a hE
                          obtain ⟨m7, hg7, hm⟩ := bnd hm
                          refine s_cut [_, _, _, _, _, _, _, _] (fun a w => Env 130 [(129, (.bool m7))] a ∧ Hp Z ρ4 (L) w) ?_ ?_
                          · rcases Bool.eq_false_or_eq_true m6 with hb13 | hb13
                            ·
                              replace hg7 := (it hb13).symm.trans hg7
                              refine s_val (wk1 hE rfl rfl rfl hb13) rfl rfl hE hp (v := (.func (.func 12) #[] #[])) (ex_move rfl hE rfl) ?_
                              intro a hE
                              refine s_val (wk1 hE rfl rfl rfl hb13) rfl rfl hE hp (v := (.slice (some ⟨b1, 0, none⟩) 3 3)) (ex_move rfl hE rfl) ?_
                              intro a hE
                              refine s_val (wk1 hE rfl rfl rfl hb13) rfl rfl hE hp (v := (.slice (some ⟨b2, 0, none⟩) 3 3)) (ex_move rfl hE rfl) ?_
                              intro a hE
                              refine s_lit (wk1 hE rfl rfl rfl hb13) rfl rfl hE hp rfl [(0, (.slice (some ⟨b1, 0, none⟩) 3 3)), (1, (.slice (some ⟨b2, 0, none⟩) 3 3))] ⟨⟨rfl, rfl⟩, ⟨rfl, rfl⟩, trivial⟩ [(.slice (some ⟨b1, 0, none⟩) 3 3), (.slice (some ⟨b2, 0, none⟩) 3 3)] 26 (fun w => by have hc0 := RoSl.cells (RoSl.mono (RoSl.mono (RoSl.mono (RoSl.mono (RoSl.mono (RoSl.mono (RoSl.mono f1 (PH.le_un _ k4)) hle1) hle2) (PH.le_un _ k5)) hle3) (PH.le_un _ k6)) hle4); simp only [Value.cells] at hc0; have hc1 := RoSl.cells (RoSl.mono (RoSl.mono (RoSl.mono (RoSl.mono (RoSl.mono (RoSl.mono f2 hle1) hle2) (PH.le_un _ k5)) hle3) (PH.le_un _ k6)) hle4); simp only [Value.cells] at hc1; simp [Instr.buildSlice, Instr.fill, Value.cells, hc0, hc1, go_sem]) ?_
                              intro a w b12 hE hp
                              have hp : Hp Z ρ4 (Pt b12 (.cells #[(.slice (some ⟨b1, 0, none⟩) 3 3), (.slice (some ⟨b2, 0, none⟩) 3 3)] 26 (0, 0)) :: L) w := hp
                              obtain ⟨k14, k14a, k14d, hp⟩ := (hp.get 0 rfl).lend
                              have f5 : RoSl (ρ4.un k14) (.slice (some ⟨b12, 0, none⟩) 2 2) ([([(Mark.mk 5 0), (Mark.mk 7 3), (Mark.mk 9 9)] : List Mark), ([(Mark.mk 7 5), (Mark.mk 5 2), (Mark.mk 8 6)] : List Mark)] : List (List Mark)) := RoSl.of_all (l := (([([(Mark.mk 5 0), (Mark.mk 7 3), (Mark.mk 9 9)] : List Mark), ([(Mark.mk 7 5), (Mark.mk 5 2), (Mark.mk 8 6)] : List Mark)] : List (List Mark)))) k14d k14a ⟨_, _, rfl, ⟨_, rfl, ((RoSl.mono (RoSl.mono (RoSl.mono (RoSl.mono (RoSl.mono (RoSl.mono (RoSl.mono (RoSl.mono f1 (PH.le_un _ k4)) hle1) hle2) (PH.le_un _ k5)) hle3) (PH.le_un _ k6)) hle4) (PH.le_un _ k14)))⟩, ⟨_, _, rfl, ⟨_, rfl, ((RoSl.mono (RoSl.mono (RoSl.mono (RoSl.mono (RoSl.mono (RoSl.mono (RoSl.mono f2 hle1) hle2) (PH.le_un _ k5)) hle3) (PH.le_un _ k6)) hle4) (PH.le_un _ k14)))⟩, rfl⟩⟩
                              have hp : Hp Z (ρ4.un k14) (L) w := hp
                              obtain ⟨x14, ex14, hg7⟩ := bnd hg7
                              refine s_call (wk1 hE rfl rfl rfl hb13) rfl rfl hE rfl [(.int .i64 1), (.slice (some ⟨b12, 0, none⟩) 2 2)] ⟨rfl, rfl, trivial⟩ ent20 (c_similarity_Frequent 1 ([([(Mark.mk 5 0), (Mark.mk 7 3), (Mark.mk 9 9)] : List Mark), ([(Mark.mk 7 5), (Mark.mk 5 2), (Mark.mk 8 6)] : List Mark)] : List (List Mark)) (.slice (some ⟨b12, 0, none⟩) 2 2) f5 hp x14 ex14) Ret.ret ?_
                              intro vr18 a w hR hE
                              obtain ⟨u, rfl, hp⟩ := Ret.of hR
                              have hp : Hp Z (ρ4.un k14) (OwnSl 3 vr18 x14 :: L) w := hp
                              refine s_lit (wk1 hE rfl rfl rfl hb13) rfl rfl hE hp rfl [(0, (.int .i64 5)), (1, (.int .i64 7))] ⟨⟨rfl, rfl⟩, ⟨rfl, rfl⟩, trivial⟩ [(.int .i64 5), (.int .i64 7)] 3 (fun w => by simp [Instr.buildSlice, Instr.fill, Value.cells, go_sem]) ?_
                              intro a w b13 hE hp
                              have hp : Hp Z (ρ4.un k14) (Pt b13 (.cells #[(.int .i64 5), (.int .i64 7)] 3 (0, 0)) :: _ :: L) w := hp
                              have hp := (hp.get 0 rfl).imp (own_of_pt (l := (([5, 7] : List Int) : List Int)) (n := 2) rfl (by decide) rfl)
                              have hp : Hp Z (ρ4.un k14) (OwnSl 3 (.slice (some ⟨b13, 0, none⟩) 2 2) ([5, 7] : List Int) :: _ :: L) w := hp
                              obtain ⟨k15, k15a, k15d, k15h⟩ := (hp.get 1 rfl).lend
                              obtain ⟨k16, k16a, k16d, k16h⟩ := (k15h.get 0 rfl).lend
                              obtain ⟨x15, ex15, hg7⟩ := bnd hg7
                              refine s_callv (wk1 hE rfl rfl rfl hb13) rfl rfl hE rfl rfl [vr18, (.slice (some ⟨b13, 0, none⟩) 2 2)] ⟨rfl, rfl, trivial⟩ ent12 (c_assessorref35_Same x14 vr18 (RoSl.mono (OwnSl.ro k15d k15a) (PH.le_un _ _)) ([5, 7] : List Int) (.slice (some ⟨b13, 0, none⟩) 2 2) (OwnSl.ro k16d k16a) k16h x15 ex15) Ret.ret ?_
                              intro v a w hR hE
                              obtain ⟨rfl, hp⟩ := Ret.of hR
                              have hp := Hp.back k16a k16d hp
                              have hp := Hp.back k15a k15d hp
                              have hp : Hp Z (ρ4.un k14) (_ :: _ :: L) w := hp
                              refine s_val (wk0 rfl) rfl rfl hE hp (v := (.bool x15)) (ex_pick1 rfl hE rfl hb13 rfl) ?_
                              intro a hE
                              obtain rfl := Option.some.inj hg7
                              exact s_nil ⟨hE.cut ⟨rfl, trivial⟩, ((((hp.get 1 rfl).drop).drop).less (PH.le_un _ k14))⟩
                            ·
                              replace hg7 := (ie hb13).symm.trans hg7
                              refine s_skip (wk2 hE rfl rfl rfl hb13) rfl rfl hE ?_
                              intro a hE
                              refine s_skip (wk2 hE rfl rfl rfl hb13) rfl rfl hE ?_
                              intro a hE
                              refine s_skip (wk2 hE rfl rfl rfl hb13) rfl rfl hE ?_
                              intro a hE
                              refine s_skip (wk2 hE rfl rfl rfl hb13) rfl rfl hE ?_
                              intro a hE
                              refine s_skip (wk2 hE rfl rfl rfl hb13) rfl rfl hE ?_
                              intro a hE
                              refine s_skip (wk2 hE rfl rfl rfl hb13) rfl rfl hE ?_
                              intro a hE
                              refine s_skip (wk2 hE rfl rfl rfl hb13) rfl rfl hE ?_
                              intro a hE
                              refine s_val (wk0 rfl) rfl rfl hE hp (v := (.bool false)) (ex_pick0 rfl hE rfl hb13 rfl) ?_
                              intro a hE
                              obtain rfl := Option.some.inj hg7
                              exact s_nil ⟨hE.cut ⟨rfl, trivial⟩, hp⟩
                          · rintro a w ⟨hE, hp⟩
                            refine s_val (wk0 rfl) rfl rfl hE hp (v := (.bool m7)) (ex_asn rfl hE rfl) ?_
                            intro a hE
                            refine s_nil ?_
                            refine k_ret ?_
                            obtain rfl := Option.some.inj hm
                            exact ret1 hE rfl rfl ⟨_, rfl, rfl, ((((((((hp.less hle4).less (PH.le_un _ k6)).less hle3).less (PH.le_un _ k5)).less hle2).less hle1).less (PH.le_un _ k4)).less (PH.le_un _ k3))⟩
end Go.Proofs.Ytmfepkadggigpaa

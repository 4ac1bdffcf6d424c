/-
  The code goes as its model: assessor/assessorlaw44.SimilarityMetric$1, assessor/assessorlaw44.SimilarityMetric. (Printed by wip/sp/gen.py.)
-/
import Derived.Test.YtmfepkadggigpaaWTM
import Derived.Test.YtmfepkadggigpaaFct
import Derived.Test.YtmfepkadggigpaaWS
set_option linter.unusedVariables false
set_option linter.unusedSimpArgs false
namespace Go.Proofs.Ytmfepkadggigpaa
open Go.RowKit

/- assessor/assessorlaw44.SimilarityMetric$1 -/
set_option maxRecDepth 100000 in
set_option maxHeartbeats 4000000 in
theorem c_assessorlaw44_SimilarityMetric_1 {Z : World} {ρ : PH} {L : List Atom} {w : World} (p0 : (List Mark)) (vp0 : Value) (hp0 : RoSl ρ vp0 p0) (p1 : (List Mark)) (vp1 : Value) (hp1 : RoSl ρ vp1 p1) (hp : Hp Z ρ (L) w) (r : (Int × Int)) (hm : m_assessorlaw44_SimilarityMetric_1 p0 p1 = some r) :
    Calls Try.prog 25 #[vp0, vp1] w (Ret fun v w' => v = .tuple #[(.int .i64 r.1), (.int .i64 r.2)] ∧ Hp Z ρ (L) w') := by
  refine enter (N := 18) Try.func25 rfl rfl [(0, vp0), (1, vp1)] rfl (argsIn_mem ⟨rfl, rfl, trivial⟩) fun a hE => ?_
  unfold m_assessorlaw44_SimilarityMetric_1 at hm
  refine k_seq ?_
  refine k_region ?_
  refine s_val (wk0 rfl) rfl rfl hE hp (v := (.int .i64 0)) (ex_asn rfl hE rfl) ?_
  intro a hE
  refine s_val (wk0 rfl) rfl rfl hE hp (v := (.int .i64 0)) (ex_asn rfl hE rfl) ?_
  intro a hE
  refine s_nil ?_
  refine k_seq ?_
  refine k_region ?_
  refine s_val (wk0 rfl) rfl rfl hE hp (v := vp0) (ex_move rfl hE rfl) ?_
  intro a hE
  refine s_val (wk0 rfl) rfl rfl hE hp (v := vp1) (ex_move rfl hE rfl) ?_
  intro a hE
  obtain ⟨x1, ex1, hm⟩ := bnd hm
  refine s_call (wk0 rfl) rfl rfl hE rfl [vp0, vp1] ⟨rfl, rfl, trivial⟩ ent18 (c_similarity_Compare p0 vp0 hp0 p1 vp1 hp1 hp x1 ex1) Ret.ret ?_
  intro v a w hR hE
  obtain ⟨rfl, hp⟩ := Ret.of hR
  have hp : Hp Z ρ (L) w := hp
  refine s_val (wk0 rfl) rfl rfl hE hp (v := (.tuple #[(.int .i64 x1.1), (.int .i64 x1.2)])) (ex_move rfl hE rfl) ?_
  intro a hE
  refine s_val (wk0 rfl) rfl rfl hE hp (v := (.int .i64 x1.1)) (ex_extract rfl hE rfl rfl) ?_
  intro a hE
  refine s_val (wk0 rfl) rfl rfl hE hp (v := (.int .i64 x1.2)) (ex_extract rfl hE rfl rfl) ?_
  intro a hE
  refine s_val (wk0 rfl) rfl rfl hE hp (v := (.int .i64 x1.1)) (ex_asn rfl hE rfl) ?_
  intro a hE
  refine s_val (wk0 rfl) rfl rfl hE hp (v := (.int .i64 x1.2)) (ex_asn rfl hE rfl) ?_
  intro a hE
  refine s_nil ?_
  refine k_seq ?_
  refine k_region ?_
  refine s_val (wk0 rfl) rfl rfl hE hp (v := (.int .i64 x1.2)) (ex_move rfl hE rfl) ?_
  intro a hE
  refine s_val (wk0 rfl) rfl rfl hE hp (v := (.int .i64 x1.1)) (ex_move rfl hE rfl) ?_
  intro a hE
  obtain ⟨x2, ex2, hm⟩ := bnd hm
  refine s_val (wk0 rfl) rfl rfl hE hp (v := (.int .i64 x2)) (ex_sub rfl hE rfl rfl (inK_some ex2)) ?_
  intro a hE
  refine s_val (wk0 rfl) rfl rfl hE hp (v := (.int .i64 x1.2)) (ex_move rfl hE rfl) ?_
  intro a hE
  refine s_val (wk0 rfl) rfl rfl hE hp (v := (.int .i64 x2)) (ex_asn rfl hE rfl) ?_
  intro a hE
  refine s_val (wk0 rfl) rfl rfl hE hp (v := (.int .i64 x1.2)) (ex_asn rfl hE rfl) ?_
  intro a hE
  refine s_nil ?_
  refine k_ret ?_
  obtain rfl := Option.some.inj hm
  exact ret2 hE rfl rfl rfl ⟨_, rfl, rfl, hp⟩
/- assessor/assessorlaw44.SimilarityMetric -/
set_option maxRecDepth 100000 in
set_option maxHeartbeats 4000000 in
theorem c_assessorlaw44_SimilarityMetric {Z : World} {ρ : PH} {L : List Atom} {w : World} (p0 : (List Mark)) (vp0 : Value) (hp0 : RoSl ρ vp0 p0) (p1 : (List Mark)) (vp1 : Value) (hp1 : RoSl ρ vp1 p1) (p2 : (List Mark)) (vp2 : Value) (hp2 : RoSl ρ vp2 p2) (hp : Hp Z ρ (L) w) (r : Bool) (hm : m_assessorlaw44_SimilarityMetric p0 p1 p2 = some r) :
    Calls Try.prog 5 #[vp0, vp1, vp2] w (Ret fun v w' => v = (.bool r) ∧ Hp Z ρ (L) w') := by
  refine enter (N := 109) Try.func5 rfl rfl [(0, vp0), (1, vp1), (2, vp2)] rfl (argsIn_mem ⟨rfl, rfl, rfl, trivial⟩) fun a hE => ?_
  unfold m_assessorlaw44_SimilarityMetric at hm
  refine k_seq ?_
  refine k_region ?_
  refine s_val (wk0 rfl) rfl rfl hE hp (v := (.bool false)) (ex_asn rfl hE rfl) ?_
  intro a hE
  refine s_nil ?_
  refine k_seq ?_
  refine k_seq ?_
  refine k_region ?_
  obtain ⟨x1, ex1, hm⟩ := bnd hm
  refine s_call (wk0 rfl) rfl rfl hE rfl [] trivial ent10 (c_assessorlaw44_awake  hp x1 ex1) Ret.ret ?_
  intro v a w hR hE
  obtain ⟨rfl, hp⟩ := Ret.of hR
  have hp : Hp Z ρ (L) w := hp
  refine s_val (wk0 rfl) rfl rfl hE hp (v := (.bool (!x1))) (ex_not rfl hE rfl) ?_
  intro a hE
  refine s_nil ?_
  refine k_if hE rfl (fun hb1 => ?_) (fun hb1 => ?_)
  · replace hm := (it hb1).symm.trans hm
    refine k_seq ?_
    refine k_region ?_
    refine s_val (wk0 rfl) rfl rfl hE hp (v := (.bool false)) (ex_asn rfl hE rfl) ?_
    intro a hE
    refine s_nil ?_
    refine k_ret ?_
    obtain rfl := Option.some.inj hm
    exact ret1 hE rfl rfl ⟨_, rfl, rfl, hp⟩
  · replace hm := (ie hb1).symm.trans hm
    refine k_skip ?_
    refine k_seq ?_
    refine k_seq ?_
    refine k_region ?_
    refine s_val (wk0 rfl) rfl rfl hE hp (v := vp0) (ex_move rfl hE rfl) ?_
    intro a hE
    refine s_val (wk0 rfl) rfl rfl hE hp (v := vp1) (ex_move rfl hE rfl) ?_
    intro a hE
    refine s_val (wk0 rfl) rfl rfl hE hp (v := vp2) (ex_move rfl hE rfl) ?_
    intro a hE
    refine s_lit (wk0 rfl) rfl rfl hE hp rfl [(0, vp0), (1, vp1), (2, vp2)] ⟨⟨rfl, rfl⟩, ⟨rfl, rfl⟩, ⟨rfl, rfl⟩, trivial⟩ [vp0, vp1, vp2] 26 (fun w => by have hc0 := RoSl.cells hp0; simp only [Value.cells] at hc0; have hc1 := RoSl.cells hp1; simp only [Value.cells] at hc1; have hc2 := RoSl.cells hp2; simp only [Value.cells] at hc2; simp [Instr.buildSlice, Instr.fill, Value.cells, hc0, hc1, hc2, go_sem]) ?_
    intro a w b1 hE hp
    have hp : Hp Z ρ (Pt b1 (.cells #[vp0, vp1, vp2] 26 (0, 0)) :: L) w := hp
    obtain ⟨k1, k1a, k1d, hp⟩ := (hp.get 0 rfl).lend
    have f1 : RoSl (ρ.un k1) (.slice (some ⟨b1, 0, none⟩) 3 3) ([p0, p1, p2] : List (List Mark)) := RoSl.of_all (l := (([p0, p1, p2] : List (List Mark)))) k1d k1a ⟨_, _, rfl, ⟨_, rfl, ((RoSl.mono hp0 (PH.le_un _ k1)))⟩, ⟨_, _, rfl, ⟨_, rfl, ((RoSl.mono hp1 (PH.le_un _ k1)))⟩, ⟨_, _, rfl, ⟨_, rfl, ((RoSl.mono hp2 (PH.le_un _ k1)))⟩, rfl⟩⟩⟩
    have hp : Hp Z (ρ.un k1) (L) w := hp
    obtain ⟨x2, ex2, hm⟩ := bnd hm
    refine s_call (wk0 rfl) rfl rfl hE rfl [(.slice (some ⟨b1, 0, none⟩) 3 3), (.int .i64 3), (.int .i64 60)] ⟨rfl, rfl, rfl, trivial⟩ ent11 (c_assessorlaw44_few ([p0, p1, p2] : List (List Mark)) (.slice (some ⟨b1, 0, none⟩) 3 3) f1 3 60 hp x2 ex2) Ret.ret ?_
    intro v a w hR hE
    obtain ⟨rfl, hp⟩ := Ret.of hR
    have hp : Hp Z (ρ.un k1) (L) w := hp
    refine s_val (wk0 rfl) rfl rfl hE hp (v := (.bool (!x2))) (ex_not rfl hE rfl) ?_
    intro a hE
    refine s_val (wk0 rfl) rfl rfl hE hp (v := (.bool (!x2))) (ex_move rfl hE rfl) ?_
    intro a hE
    refine s_cut [_, _, _, _] (fun a w => Env 109 [(27, (.bool ((!x2) || (decide ((p0.length : Int) = 0))))), (0, vp0), (1, vp1), (2, vp2)] a ∧ Hp Z (ρ.un k1) (L) w) ?_ ?_
    · rcases Bool.eq_false_or_eq_true (!x2) with hb2 | hb2
      ·
        refine s_skip (wk2 hE rfl rfl rfl hb2) rfl rfl hE ?_
        intro a hE
        refine s_skip (wk2 hE rfl rfl rfl hb2) rfl rfl hE ?_
        intro a hE
        refine s_skip (wk2 hE rfl rfl rfl hb2) rfl rfl hE ?_
        intro a hE
        refine s_val (wk0 rfl) rfl rfl hE hp (v := (.bool true)) (ex_pick1 rfl hE rfl hb2 rfl) ?_
        intro a hE
        have hE := hE.eqv (v' := (.bool ((!x2) || (decide ((p0.length : Int) = 0))))) (by rw [hb2]; rfl)
        exact s_nil ⟨hE.cut ⟨rfl, rfl, rfl, rfl, trivial⟩, hp⟩
      ·
        refine s_val (wk1 hE rfl rfl rfl hb2) rfl rfl hE hp (v := vp0) (ex_move rfl hE rfl) ?_
        intro a hE
        refine s_val (wk1 hE rfl rfl rfl hb2) rfl rfl hE hp (v := (.int .i64 (p0.length : Int))) (ex_len rfl hE rfl (RoSl.len (RoSl.mono hp0 (PH.le_un _ k1)) slty26)) ?_
        intro a hE
        refine s_val (wk1 hE rfl rfl rfl hb2) rfl rfl hE hp (v := (.bool (decide ((p0.length : Int) = 0)))) (ex_eql rfl hE rfl rfl) ?_
        intro a hE
        refine s_val (wk0 rfl) rfl rfl hE hp (v := (.bool (decide ((p0.length : Int) = 0)))) (ex_pick0 rfl hE rfl hb2 rfl) ?_
        intro a hE
        have hE := hE.eqv (v' := (.bool ((!x2) || (decide ((p0.length : Int) = 0))))) (by rw [hb2]; rfl)
        exact s_nil ⟨hE.cut ⟨rfl, rfl, rfl, rfl, trivial⟩, hp⟩
    · rintro a w ⟨hE, hp⟩
      refine s_val (wk0 rfl) rfl rfl hE hp (v := (.bool ((!x2) || (decide ((p0.length : Int) = 0))))) (ex_move rfl hE rfl) ?_
      intro a hE
      refine s_cut [_, _, _, _] (fun a w => Env 109 [(32, (.bool (((!x2) || (decide ((p0.length : Int) = 0))) || (decide ((p1.length : Int) = 0))))), (0, vp0), (1, vp1), (2, vp2)] a ∧ Hp Z (ρ.un k1) (L) w) ?_ ?_
      · rcases Bool.eq_false_or_eq_true ((!x2) || (decide ((p0.length : Int) = 0))) with hb3 | hb3
        ·
          refine s_skip (wk2 hE rfl rfl rfl hb3) rfl rfl hE ?_
          intro a hE
          refine s_skip (wk2 hE rfl rfl rfl hb3) rfl rfl hE ?_
          intro a hE
          refine s_skip (wk2 hE rfl rfl rfl hb3) rfl rfl hE ?_
          intro a hE
          refine s_val (wk0 rfl) rfl rfl hE hp (v := (.bool true)) (ex_pick1 rfl hE rfl hb3 rfl) ?_
          intro a hE
          have hE := hE.eqv (v' := (.bool (((!x2) || (decide ((p0.length : Int) = 0))) || (decide ((p1.length : Int) = 0))))) (by rw [hb3]; rfl)
          exact s_nil ⟨hE.cut ⟨rfl, rfl, rfl, rfl, trivial⟩, hp⟩
        ·
          refine s_val (wk1 hE rfl rfl rfl hb3) rfl rfl hE hp (v := vp1) (ex_move rfl hE rfl) ?_
          intro a hE
          refine s_val (wk1 hE rfl rfl rfl hb3) rfl rfl hE hp (v := (.int .i64 (p1.length : Int))) (ex_len rfl hE rfl (RoSl.len (RoSl.mono hp1 (PH.le_un _ k1)) slty26)) ?_
          intro a hE
          refine s_val (wk1 hE rfl rfl rfl hb3) rfl rfl hE hp (v := (.bool (decide ((p1.length : Int) = 0)))) (ex_eql rfl hE rfl rfl) ?_
          intro a hE
          refine s_val (wk0 rfl) rfl rfl hE hp (v := (.bool (decide ((p1.length : Int) = 0)))) (ex_pick0 rfl hE rfl hb3 rfl) ?_
          intro a hE
          have hE := hE.eqv (v' := (.bool (((!x2) || (decide ((p0.length : Int) = 0))) || (decide ((p1.length : Int) = 0))))) (by rw [hb3]; rfl)
          exact s_nil ⟨hE.cut ⟨rfl, rfl, rfl, rfl, trivial⟩, hp⟩
      · rintro a w ⟨hE, hp⟩
        refine s_val (wk0 rfl) rfl rfl hE hp (v := (.bool (((!x2) || (decide ((p0.length : Int) = 0))) || (decide ((p1.length : Int) = 0))))) (ex_move rfl hE rfl) ?_
        intro a hE
        refine s_cut [_, _, _, _] (fun a w => Env 109 [(37, (.bool ((((!x2) || (decide ((p0.length : Int) = 0))) || (decide ((p1.length : Int) = 0))) || (decide ((p2.length : Int) = 0))))), (0, vp0), (1, vp1), (2, vp2)] a ∧ Hp Z (ρ.un k1) (L) w) ?_ ?_
        · rcases Bool.eq_false_or_eq_true (((!x2) || (decide ((p0.length : Int) = 0))) || (decide ((p1.length : Int) = 0))) with hb4 | hb4
          ·
            refine s_skip (wk2 hE rfl rfl rfl hb4) rfl rfl hE ?_
            intro a hE
            refine s_skip (wk2 hE rfl rfl rfl hb4) rfl rfl hE ?_
            intro a hE
            refine s_skip (wk2 hE rfl rfl rfl hb4) rfl rfl hE ?_
            intro a hE
            refine s_val (wk0 rfl) rfl rfl hE hp (v := (.bool true)) (ex_pick1 rfl hE rfl hb4 rfl) ?_
            intro a hE
            have hE := hE.eqv (v' := (.bool ((((!x2) || (decide ((p0.length : Int) = 0))) || (decide ((p1.length : Int) = 0))) || (decide ((p2.length : Int) = 0))))) (by rw [hb4]; rfl)
            exact s_nil ⟨hE.cut ⟨rfl, rfl, rfl, rfl, trivial⟩, hp⟩
          ·
            refine s_val (wk1 hE rfl rfl rfl hb4) rfl rfl hE hp (v := vp2) (ex_move rfl hE rfl) ?_
            intro a hE
            refine s_val (wk1 hE rfl rfl rfl hb4) rfl rfl hE hp (v := (.int .i64 (p2.length : Int))) (ex_len rfl hE rfl (RoSl.len (RoSl.mono hp2 (PH.le_un _ k1)) slty26)) ?_
            intro a hE
            refine s_val (wk1 hE rfl rfl rfl hb4) rfl rfl hE hp (v := (.bool (decide ((p2.length : Int) = 0)))) (ex_eql rfl hE rfl rfl) ?_
            intro a hE
            refine s_val (wk0 rfl) rfl rfl hE hp (v := (.bool (decide ((p2.length : Int) = 0)))) (ex_pick0 rfl hE rfl hb4 rfl) ?_
            intro a hE
            have hE := hE.eqv (v' := (.bool ((((!x2) || (decide ((p0.length : Int) = 0))) || (decide ((p1.length : Int) = 0))) || (decide ((p2.length : Int) = 0))))) (by rw [hb4]; rfl)
            exact s_nil ⟨hE.cut ⟨rfl, rfl, rfl, rfl, trivial⟩, hp⟩
        · rintro a w ⟨hE, hp⟩
          refine s_nil ?_
          refine k_if hE rfl (fun hb5 => ?_) (fun hb5 => ?_)
          · replace hm := (it hb5).symm.trans hm
            refine k_seq ?_
            refine k_region ?_
            refine s_val (wk0 rfl) rfl rfl hE hp (v := (.bool true)) (ex_asn rfl hE rfl) ?_
            intro a hE
            refine s_nil ?_
            refine k_ret ?_
            obtain rfl := Option.some.inj hm
            exact ret1 hE rfl rfl ⟨_, rfl, rfl, (hp.less (PH.le_un _ k1))⟩
          · replace hm := (ie hb5).symm.trans hm
            refine k_skip ?_
            refine k_seq ?_
            refine k_region ?_
            refine s_val (wk0 rfl) rfl rfl hE hp (v := (.func (.func 25) #[] #[])) (ex_asn rfl hE rfl) ?_
            intro a hE
            refine s_nil ?_
            refine k_seq ?_
            refine k_region ?_
            refine s_val (wk0 rfl) rfl rfl hE hp (v := (.func (.func 25) #[] #[])) (ex_move rfl hE rfl) ?_
            intro a hE
            refine s_val (wk0 rfl) rfl rfl hE hp (v := vp0) (ex_move rfl hE rfl) ?_
            intro a hE
            refine s_val (wk0 rfl) rfl rfl hE hp (v := vp1) (ex_move rfl hE rfl) ?_
            intro a hE
            obtain ⟨x3, ex3, hm⟩ := bnd hm
            refine s_callv (wk0 rfl) rfl rfl hE rfl rfl [vp0, vp1] ⟨rfl, rfl, trivial⟩ ent25 (c_assessorlaw44_SimilarityMetric_1 p0 vp0 (RoSl.mono hp0 (PH.le_un _ k1)) p1 vp1 (RoSl.mono hp1 (PH.le_un _ k1)) hp x3 ex3) Ret.ret ?_
            intro v a w hR hE
            obtain ⟨rfl, hp⟩ := Ret.of hR
            have hp : Hp Z (ρ.un k1) (L) w := hp
            refine s_val (wk0 rfl) rfl rfl hE hp (v := (.tuple #[(.int .i64 x3.1), (.int .i64 x3.2)])) (ex_move rfl hE rfl) ?_
            intro a hE
            refine s_val (wk0 rfl) rfl rfl hE hp (v := (.int .i64 x3.1)) (ex_extract rfl hE rfl rfl) ?_
            intro a hE
            refine s_val (wk0 rfl) rfl rfl hE hp (v := (.int .i64 x3.2)) (ex_extract rfl hE rfl rfl) ?_
            intro a hE
            refine s_val (wk0 rfl) rfl rfl hE hp (v := (.int .i64 x3.1)) (ex_asn rfl hE rfl) ?_
            intro a hE
            refine s_val (wk0 rfl) rfl rfl hE hp (v := (.int .i64 x3.2)) (ex_asn rfl hE rfl) ?_
            intro a hE
            refine s_nil ?_
            refine k_seq ?_
            refine k_region ?_
            refine s_val (wk0 rfl) rfl rfl hE hp (v := (.func (.func 25) #[] #[])) (ex_move rfl hE rfl) ?_
            intro a hE
            refine s_val (wk0 rfl) rfl rfl hE hp (v := vp1) (ex_move rfl hE rfl) ?_
            intro a hE
            refine s_val (wk0 rfl) rfl rfl hE hp (v := vp2) (ex_move rfl hE rfl) ?_
            intro a hE
            obtain ⟨x4, ex4, hm⟩ := bnd hm
            refine s_callv (wk0 rfl) rfl rfl hE rfl rfl [vp1, vp2] ⟨rfl, rfl, trivial⟩ ent25 (c_assessorlaw44_SimilarityMetric_1 p1 vp1 (RoSl.mono hp1 (PH.le_un _ k1)) p2 vp2 (RoSl.mono hp2 (PH.le_un _ k1)) hp x4 ex4) Ret.ret ?_
            intro v a w hR hE
            obtain ⟨rfl, hp⟩ := Ret.of hR
            have hp : Hp Z (ρ.un k1) (L) w := hp
            refine s_val (wk0 rfl) rfl rfl hE hp (v := (.tuple #[(.int .i64 x4.1), (.int .i64 x4.2)])) (ex_move rfl hE rfl) ?_
            intro a hE
            refine s_val (wk0 rfl) rfl rfl hE hp (v := (.int .i64 x4.1)) (ex_extract rfl hE rfl rfl) ?_
            intro a hE
            refine s_val (wk0 rfl) rfl rfl hE hp (v := (.int .i64 x4.2)) (ex_extract rfl hE rfl rfl) ?_
            intro a hE
            refine s_val (wk0 rfl) rfl rfl hE hp (v := (.int .i64 x4.1)) (ex_asn rfl hE rfl) ?_
            intro a hE
            refine s_val (wk0 rfl) rfl rfl hE hp (v := (.int .i64 x4.2)) (ex_asn rfl hE rfl) ?_
            intro a hE
            refine s_nil ?_
            refine k_seq ?_
            refine k_region ?_
            refine s_val (wk0 rfl) rfl rfl hE hp (v := (.func (.func 25) #[] #[])) (ex_move rfl hE rfl) ?_
            intro a hE
            refine s_val (wk0 rfl) rfl rfl hE hp (v := vp0) (ex_move rfl hE rfl) ?_
            intro a hE
            refine s_val (wk0 rfl) rfl rfl hE hp (v := vp2) (ex_move rfl hE rfl) ?_
            intro a hE
            obtain ⟨x5, ex5, hm⟩ := bnd hm
            refine s_callv (wk0 rfl) rfl rfl hE rfl rfl [vp0, vp2] ⟨rfl, rfl, trivial⟩ ent25 (c_assessorlaw44_SimilarityMetric_1 p0 vp0 (RoSl.mono hp0 (PH.le_un _ k1)) p2 vp2 (RoSl.mono hp2 (PH.le_un _ k1)) hp x5 ex5) Ret.ret ?_
            intro v a w hR hE
            obtain ⟨rfl, hp⟩ := Ret.of hR
            have hp : Hp Z (ρ.un k1) (L) w := hp
            refine s_val (wk0 rfl) rfl rfl hE hp (v := (.tuple #[(.int .i64 x5.1), (.int .i64 x5.2)])) (ex_move rfl hE rfl) ?_
            intro a hE
            refine s_val (wk0 rfl) rfl rfl hE hp (v := (.int .i64 x5.1)) (ex_extract rfl hE rfl rfl) ?_
            intro a hE
            refine s_val (wk0 rfl) rfl rfl hE hp (v := (.int .i64 x5.2)) (ex_extract rfl hE rfl rfl) ?_
            intro a hE
            refine s_val (wk0 rfl) rfl rfl hE hp (v := (.int .i64 x5.1)) (ex_asn rfl hE rfl) ?_
            intro a hE
            refine s_val (wk0 rfl) rfl rfl hE hp (v := (.int .i64 x5.2)) (ex_asn rfl hE rfl) ?_
            intro a hE
            refine s_nil ?_
            have hE := hE.cut (E' := [(0, vp0), (1, vp1), (8, (.int .i64 x3.1)), (9, (.int .i64 x3.2)), (10, (.int .i64 x4.1)), (11, (.int .i64 x4.2)), (12, (.int .i64 x5.1)), (13, (.int .i64 x5.2))]) ⟨rfl, rfl, rfl, rfl, rfl, rfl, rfl, rfl, trivial⟩
            refine k_seq ?_
            refine k_seq ?_
            refine k_region ?_
            refine s_val (wk0 rfl) rfl rfl hE hp (v := (.int .i64 x3.2)) (ex_move rfl hE rfl) ?_
            intro a hE
            refine s_val (wk0 rfl) rfl rfl hE hp (v := (.bool (decide (x3.2 < 1)))) (ex_lss rfl hE rfl rfl) ?_
            intro a hE
            refine s_val (wk0 rfl) rfl rfl hE hp (v := (.bool (decide (x3.2 < 1)))) (ex_move rfl hE rfl) ?_
            intro a hE
            refine s_cut [_, _, _] (fun a w => Env 109 [(64, (.bool ((decide (x3.2 < 1)) || (decide (x4.2 < 1))))), (0, vp0), (1, vp1), (8, (.int .i64 x3.1)), (9, (.int .i64 x3.2)), (10, (.int .i64 x4.1)), (11, (.int .i64 x4.2)), (12, (.int .i64 x5.1)), (13, (.int .i64 x5.2))] a ∧ Hp Z (ρ.un k1) (L) w) ?_ ?_
            · rcases Bool.eq_false_or_eq_true (decide (x3.2 < 1)) with hb6 | hb6
              ·
                refine s_skip (wk2 hE rfl rfl rfl hb6) rfl rfl hE ?_
                intro a hE
                refine s_skip (wk2 hE rfl rfl rfl hb6) rfl rfl hE ?_
                intro a hE
                refine s_val (wk0 rfl) rfl rfl hE hp (v := (.bool true)) (ex_pick1 rfl hE rfl hb6 rfl) ?_
                intro a hE
                have hE := hE.eqv (v' := (.bool ((decide (x3.2 < 1)) || (decide (x4.2 < 1))))) (by rw [hb6]; rfl)
                exact s_nil ⟨hE.cut ⟨rfl, rfl, rfl, rfl, rfl, rfl, rfl, rfl, rfl, trivial⟩, hp⟩
              ·
                refine s_val (wk1 hE rfl rfl rfl hb6) rfl rfl hE hp (v := (.int .i64 x4.2)) (ex_move rfl hE rfl) ?_
                intro a hE
                refine s_val (wk1 hE rfl rfl rfl hb6) rfl rfl hE hp (v := (.bool (decide (x4.2 < 1)))) (ex_lss rfl hE rfl rfl) ?_
                intro a hE
                refine s_val (wk0 rfl) rfl rfl hE hp (v := (.bool (decide (x4.2 < 1)))) (ex_pick0 rfl hE rfl hb6 rfl) ?_
                intro a hE
                have hE := hE.eqv (v' := (.bool ((decide (x3.2 < 1)) || (decide (x4.2 < 1))))) (by rw [hb6]; rfl)
                exact s_nil ⟨hE.cut ⟨rfl, rfl, rfl, rfl, rfl, rfl, rfl, rfl, rfl, trivial⟩, hp⟩
            · rintro a w ⟨hE, hp⟩
              refine s_val (wk0 rfl) rfl rfl hE hp (v := (.bool ((decide (x3.2 < 1)) || (decide (x4.2 < 1))))) (ex_move rfl hE rfl) ?_
              intro a hE
              refine s_cut [_, _, _] (fun a w => Env 109 [(68, (.bool (((decide (x3.2 < 1)) || (decide (x4.2 < 1))) || (decide (x5.2 < 1))))), (0, vp0), (1, vp1), (8, (.int .i64 x3.1)), (9, (.int .i64 x3.2)), (10, (.int .i64 x4.1)), (11, (.int .i64 x4.2)), (12, (.int .i64 x5.1)), (13, (.int .i64 x5.2))] a ∧ Hp Z (ρ.un k1) (L) w) ?_ ?_
              · rcases Bool.eq_false_or_eq_true ((decide (x3.2 < 1)) || (decide (x4.2 < 1))) with hb7 | hb7
                ·
                  refine s_skip (wk2 hE rfl rfl rfl hb7) rfl rfl hE ?_
                  intro a hE
                  refine s_skip (wk2 hE rfl rfl rfl hb7) rfl rfl hE ?_
                  intro a hE
                  refine s_val (wk0 rfl) rfl rfl hE hp (v := (.bool true)) (ex_pick1 rfl hE rfl hb7 rfl) ?_
                  intro a hE
                  have hE := hE.eqv (v' := (.bool (((decide (x3.2 < 1)) || (decide (x4.2 < 1))) || (decide (x5.2 < 1))))) (by rw [hb7]; rfl)
                  exact s_nil ⟨hE.cut ⟨rfl, rfl, rfl, rfl, rfl, rfl, rfl, rfl, rfl, trivial⟩, hp⟩
                ·
                  refine s_val (wk1 hE rfl rfl rfl hb7) rfl rfl hE hp (v := (.int .i64 x5.2)) (ex_move rfl hE rfl) ?_
                  intro a hE
                  refine s_val (wk1 hE rfl rfl rfl hb7) rfl rfl hE hp (v := (.bool (decide (x5.2 < 1)))) (ex_lss rfl hE rfl rfl) ?_
                  intro a hE
                  refine s_val (wk0 rfl) rfl rfl hE hp (v := (.bool (decide (x5.2 < 1)))) (ex_pick0 rfl hE rfl hb7 rfl) ?_
                  intro a hE
                  have hE := hE.eqv (v' := (.bool (((decide (x3.2 < 1)) || (decide (x4.2 < 1))) || (decide (x5.2 < 1))))) (by rw [hb7]; rfl)
                  exact s_nil ⟨hE.cut ⟨rfl, rfl, rfl, rfl, rfl, rfl, rfl, rfl, rfl, trivial⟩, hp⟩
              · rintro a w ⟨hE, hp⟩
                refine s_val (wk0 rfl) rfl rfl hE hp (v := (.bool (((decide (x3.2 < 1)) || (decide (x4.2 < 1))) || (decide (x5.2 < 1))))) (ex_move rfl hE rfl) ?_
                intro a hE
                refine s_cut [_, _, _] (fun a w => Env 109 [(72, (.bool ((((decide (x3.2 < 1)) || (decide (x4.2 < 1))) || (decide (x5.2 < 1))) || (decide (x3.1 < 0))))), (0, vp0), (1, vp1), (8, (.int .i64 x3.1)), (9, (.int .i64 x3.2)), (10, (.int .i64 x4.1)), (11, (.int .i64 x4.2)), (12, (.int .i64 x5.1)), (13, (.int .i64 x5.2))] a ∧ Hp Z (ρ.un k1) (L) w) ?_ ?_
                · rcases Bool.eq_false_or_eq_true (((decide (x3.2 < 1)) || (decide (x4.2 < 1))) || (decide (x5.2 < 1))) with hb8 | hb8
                  ·
                    refine s_skip (wk2 hE rfl rfl rfl hb8) rfl rfl hE ?_
                    intro a hE
                    refine s_skip (wk2 hE rfl rfl rfl hb8) rfl rfl hE ?_
                    intro a hE
                    refine s_val (wk0 rfl) rfl rfl hE hp (v := (.bool true)) (ex_pick1 rfl hE rfl hb8 rfl) ?_
                    intro a hE
                    have hE := hE.eqv (v' := (.bool ((((decide (x3.2 < 1)) || (decide (x4.2 < 1))) || (decide (x5.2 < 1))) || (decide (x3.1 < 0))))) (by rw [hb8]; rfl)
                    exact s_nil ⟨hE.cut ⟨rfl, rfl, rfl, rfl, rfl, rfl, rfl, rfl, rfl, trivial⟩, hp⟩
                  ·
                    refine s_val (wk1 hE rfl rfl rfl hb8) rfl rfl hE hp (v := (.int .i64 x3.1)) (ex_move rfl hE rfl) ?_
                    intro a hE
                    refine s_val (wk1 hE rfl rfl rfl hb8) rfl rfl hE hp (v := (.bool (decide (x3.1 < 0)))) (ex_lss rfl hE rfl rfl) ?_
                    intro a hE
                    refine s_val (wk0 rfl) rfl rfl hE hp (v := (.bool (decide (x3.1 < 0)))) (ex_pick0 rfl hE rfl hb8 rfl) ?_
                    intro a hE
                    have hE := hE.eqv (v' := (.bool ((((decide (x3.2 < 1)) || (decide (x4.2 < 1))) || (decide (x5.2 < 1))) || (decide (x3.1 < 0))))) (by rw [hb8]; rfl)
                    exact s_nil ⟨hE.cut ⟨rfl, rfl, rfl, rfl, rfl, rfl, rfl, rfl, rfl, trivial⟩, hp⟩
                · rintro a w ⟨hE, hp⟩
                  refine s_val (wk0 rfl) rfl rfl hE hp (v := (.bool ((((decide (x3.2 < 1)) || (decide (x4.2 < 1))) || (decide (x5.2 < 1))) || (decide (x3.1 < 0))))) (ex_move rfl hE rfl) ?_
                  intro a hE
                  refine s_cut [_, _, _] (fun a w => Env 109 [(76, (.bool (((((decide (x3.2 < 1)) || (decide (x4.2 < 1))) || (decide (x5.2 < 1))) || (decide (x3.1 < 0))) || (decide (x4.1 < 0))))), (0, vp0), (1, vp1), (8, (.int .i64 x3.1)), (9, (.int .i64 x3.2)), (10, (.int .i64 x4.1)), (11, (.int .i64 x4.2)), (12, (.int .i64 x5.1)), (13, (.int .i64 x5.2))] a ∧ Hp Z (ρ.un k1) (L) w) ?_ ?_
                  · rcases Bool.eq_false_or_eq_true ((((decide (x3.2 < 1)) || (decide (x4.2 < 1))) || (decide (x5.2 < 1))) || (decide (x3.1 < 0))) with hb9 | hb9
                    ·
                      refine s_skip (wk2 hE rfl rfl rfl hb9) rfl rfl hE ?_
                      intro a hE
                      refine s_skip (wk2 hE rfl rfl rfl hb9) rfl rfl hE ?_
                      intro a hE
                      refine s_val (wk0 rfl) rfl rfl hE hp (v := (.bool true)) (ex_pick1 rfl hE rfl hb9 rfl) ?_
                      intro a hE
                      have hE := hE.eqv (v' := (.bool (((((decide (x3.2 < 1)) || (decide (x4.2 < 1))) || (decide (x5.2 < 1))) || (decide (x3.1 < 0))) || (decide (x4.1 < 0))))) (by rw [hb9]; rfl)
                      exact s_nil ⟨hE.cut ⟨rfl, rfl, rfl, rfl, rfl, rfl, rfl, rfl, rfl, trivial⟩, hp⟩
                    ·
                      refine s_val (wk1 hE rfl rfl rfl hb9) rfl rfl hE hp (v := (.int .i64 x4.1)) (ex_move rfl hE rfl) ?_
                      intro a hE
                      refine s_val (wk1 hE rfl rfl rfl hb9) rfl rfl hE hp (v := (.bool (decide (x4.1 < 0)))) (ex_lss rfl hE rfl rfl) ?_
                      intro a hE
                      refine s_val (wk0 rfl) rfl rfl hE hp (v := (.bool (decide (x4.1 < 0)))) (ex_pick0 rfl hE rfl hb9 rfl) ?_
                      intro a hE
                      have hE := hE.eqv (v' := (.bool (((((decide (x3.2 < 1)) || (decide (x4.2 < 1))) || (decide (x5.2 < 1))) || (decide (x3.1 < 0))) || (decide (x4.1 < 0))))) (by rw [hb9]; rfl)
                      exact s_nil ⟨hE.cut ⟨rfl, rfl, rfl, rfl, rfl, rfl, rfl, rfl, rfl, trivial⟩, hp⟩
                  · rintro a w ⟨hE, hp⟩
                    refine s_val (wk0 rfl) rfl rfl hE hp (v := (.bool (((((decide (x3.2 < 1)) || (decide (x4.2 < 1))) || (decide (x5.2 < 1))) || (decide (x3.1 < 0))) || (decide (x4.1 < 0))))) (ex_move rfl hE rfl) ?_
                    intro a hE
                    refine s_cut [_, _, _] (fun a w => Env 109 [(80, (.bool ((((((decide (x3.2 < 1)) || (decide (x4.2 < 1))) || (decide (x5.2 < 1))) || (decide (x3.1 < 0))) || (decide (x4.1 < 0))) || (decide (x5.1 < 0))))), (0, vp0), (1, vp1), (8, (.int .i64 x3.1)), (9, (.int .i64 x3.2)), (10, (.int .i64 x4.1)), (11, (.int .i64 x4.2)), (12, (.int .i64 x5.1)), (13, (.int .i64 x5.2))] a ∧ Hp Z (ρ.un k1) (L) w) ?_ ?_
                    · rcases Bool.eq_false_or_eq_true (((((decide (x3.2 < 1)) || (decide (x4.2 < 1))) || (decide (x5.2 < 1))) || (decide (x3.1 < 0))) || (decide (x4.1 < 0))) with hb10 | hb10
                      ·
                        refine s_skip (wk2 hE rfl rfl rfl hb10) rfl rfl hE ?_
                        intro a hE
                        refine s_skip (wk2 hE rfl rfl rfl hb10) rfl rfl hE ?_
                        intro a hE
                        refine s_val (wk0 rfl) rfl rfl hE hp (v := (.bool true)) (ex_pick1 rfl hE rfl hb10 rfl) ?_
                        intro a hE
                        have hE := hE.eqv (v' := (.bool ((((((decide (x3.2 < 1)) || (decide (x4.2 < 1))) || (decide (x5.2 < 1))) || (decide (x3.1 < 0))) || (decide (x4.1 < 0))) || (decide (x5.1 < 0))))) (by rw [hb10]; rfl)
                        exact s_nil ⟨hE.cut ⟨rfl, rfl, rfl, rfl, rfl, rfl, rfl, rfl, rfl, trivial⟩, hp⟩
                      ·
                        refine s_val (wk1 hE rfl rfl rfl hb10) rfl rfl hE hp (v := (.int .i64 x5.1)) (ex_move rfl hE rfl) ?_
                        intro a hE
                        refine s_val (wk1 hE rfl rfl rfl hb10) rfl rfl hE hp (v := (.bool (decide (x5.1 < 0)))) (ex_lss rfl hE rfl rfl) ?_
                        intro a hE
                        refine s_val (wk0 rfl) rfl rfl hE hp (v := (.bool (decide (x5.1 < 0)))) (ex_pick0 rfl hE rfl hb10 rfl) ?_
                        intro a hE
                        have hE := hE.eqv (v' := (.bool ((((((decide (x3.2 < 1)) || (decide (x4.2 < 1))) || (decide (x5.2 < 1))) || (decide (x3.1 < 0))) || (decide (x4.1 < 0))) || (decide (x5.1 < 0))))) (by rw [hb10]; rfl)
                        exact s_nil ⟨hE.cut ⟨rfl, rfl, rfl, rfl, rfl, rfl, rfl, rfl, rfl, trivial⟩, hp⟩
                    · rintro a w ⟨hE, hp⟩
                      refine s_nil ?_
                      refine k_if hE rfl (fun hb11 => ?_) (fun hb11 => ?_)
                      · replace hm := (it hb11).symm.trans hm
                        refine k_seq ?_
                        refine k_region ?_
                        refine s_val (wk0 rfl) rfl rfl hE hp (v := (.bool false)) (ex_asn rfl hE rfl) ?_
                        intro a hE
                        refine s_nil ?_
                        refine k_ret ?_
                        obtain rfl := Option.some.inj hm
                        exact ret1 hE rfl rfl ⟨_, rfl, rfl, (hp.less (PH.le_un _ k1))⟩
                      · replace hm := (ie hb11).symm.trans hm
                        refine k_skip ?_
                        refine k_seq ?_
                        refine k_region ?_
                        refine s_val (wk0 rfl) rfl rfl hE hp (v := vp0) (ex_move rfl hE rfl) ?_
                        intro a hE
                        obtain ⟨x6, ex6, hm⟩ := bnd hm
                        refine s_call (wk0 rfl) rfl rfl hE rfl [vp0] ⟨rfl, trivial⟩ ent13 (c_similarity_Hashes p0 vp0 (RoSl.mono hp0 (PH.le_un _ k1)) hp x6 ex6) Ret.ret ?_
                        intro vr9 a w hR hE
                        obtain ⟨u, rfl, hp⟩ := Ret.of hR
                        have hp : Hp Z (ρ.un k1) (OwnSl 3 vr9 x6 :: L) w := hp
                        refine s_val (wk0 rfl) rfl rfl hE hp (v := vp1) (ex_move rfl hE rfl) ?_
                        intro a hE
                        obtain ⟨x7, ex7, hm⟩ := bnd hm
                        refine s_call (wk0 rfl) rfl rfl hE rfl [vp1] ⟨rfl, trivial⟩ ent13 (c_similarity_Hashes p1 vp1 (RoSl.mono hp1 (PH.le_un _ k1)) hp x7 ex7) Ret.ret ?_
                        intro vr10 a w hR hE
                        obtain ⟨u, rfl, hp⟩ := Ret.of hR
                        have hp : Hp Z (ρ.un k1) (OwnSl 3 vr10 x7 :: _ :: L) w := hp
                        obtain ⟨k2, k2a, k2d, k2h⟩ := (hp.get 1 rfl).lend
                        obtain ⟨k3, k3a, k3d, k3h⟩ := (k2h.get 0 rfl).lend
                        obtain ⟨x8, ex8, hm⟩ := bnd hm
                        refine s_call (wk0 rfl) rfl rfl hE rfl [vr9, vr10] ⟨rfl, rfl, trivial⟩ ent12 (c_assessorref35_Same x6 vr9 (RoSl.mono (OwnSl.ro k2d k2a) (PH.le_un _ _)) x7 vr10 (OwnSl.ro k3d k3a) k3h x8 ex8) Ret.ret ?_
                        intro v a w hR hE
                        obtain ⟨rfl, hp⟩ := Ret.of hR
                        have hp := Hp.back k3a k3d hp
                        have hp := Hp.back k2a k2d hp
                        have hp : Hp Z (ρ.un k1) (_ :: _ :: L) w := hp
                        refine s_val (wk0 rfl) rfl rfl hE hp (v := (.bool x8)) (ex_asn rfl hE rfl) ?_
                        intro a hE
                        refine s_nil ?_
                        refine k_seq ?_
                        refine k_region ?_
                        refine s_val (wk0 rfl) rfl rfl hE hp (v := (.int .i64 x5.1)) (ex_move rfl hE rfl) ?_
                        intro a hE
                        refine s_val (wk0 rfl) rfl rfl hE hp (v := (.int .i64 x3.2)) (ex_move rfl hE rfl) ?_
                        intro a hE
                        obtain ⟨x9, ex9, hm⟩ := bnd hm
                        refine s_val (wk0 rfl) rfl rfl hE hp (v := (.int .i64 x9)) (ex_mul rfl hE rfl rfl (inK_some ex9)) ?_
                        intro a hE
                        refine s_val (wk0 rfl) rfl rfl hE hp (v := (.int .i64 x4.2)) (ex_move rfl hE rfl) ?_
                        intro a hE
                        obtain ⟨x10, ex10, hm⟩ := bnd hm
                        refine s_val (wk0 rfl) rfl rfl hE hp (v := (.int .i64 x10)) (ex_mul rfl hE rfl rfl (inK_some ex10)) ?_
                        intro a hE
                        refine s_val (wk0 rfl) rfl rfl hE hp (v := (.int .i64 x3.1)) (ex_move rfl hE rfl) ?_
                        intro a hE
                        refine s_val (wk0 rfl) rfl rfl hE hp (v := (.int .i64 x5.2)) (ex_move rfl hE rfl) ?_
                        intro a hE
                        obtain ⟨x11, ex11, hm⟩ := bnd hm
                        refine s_val (wk0 rfl) rfl rfl hE hp (v := (.int .i64 x11)) (ex_mul rfl hE rfl rfl (inK_some ex11)) ?_
                        intro a hE
                        refine s_val (wk0 rfl) rfl rfl hE hp (v := (.int .i64 x4.2)) (ex_move rfl hE rfl) ?_
                        intro a hE
                        obtain ⟨x12, ex12, hm⟩ := bnd hm
                        refine s_val (wk0 rfl) rfl rfl hE hp (v := (.int .i64 x12)) (ex_mul rfl hE rfl rfl (inK_some ex12)) ?_
                        intro a hE
                        refine s_val (wk0 rfl) rfl rfl hE hp (v := (.int .i64 x4.1)) (ex_move rfl hE rfl) ?_
                        intro a hE
                        refine s_val (wk0 rfl) rfl rfl hE hp (v := (.int .i64 x5.2)) (ex_move rfl hE rfl) ?_
                        intro a hE
                        obtain ⟨x13, ex13, hm⟩ := bnd hm
                        refine s_val (wk0 rfl) rfl rfl hE hp (v := (.int .i64 x13)) (ex_mul rfl hE rfl rfl (inK_some ex13)) ?_
                        intro a hE
                        refine s_val (wk0 rfl) rfl rfl hE hp (v := (.int .i64 x3.2)) (ex_move rfl hE rfl) ?_
                        intro a hE
                        obtain ⟨x14, ex14, hm⟩ := bnd hm
                        refine s_val (wk0 rfl) rfl rfl hE hp (v := (.int .i64 x14)) (ex_mul rfl hE rfl rfl (inK_some ex14)) ?_
                        intro a hE
                        obtain ⟨x15, ex15, hm⟩ := bnd hm
                        refine s_val (wk0 rfl) rfl rfl hE hp (v := (.int .i64 x15)) (ex_add rfl hE rfl rfl (inK_some ex15)) ?_
                        intro a hE
                        refine s_val (wk0 rfl) rfl rfl hE hp (v := (.bool (decide (x10 ≤ x15)))) (ex_leq rfl hE rfl rfl) ?_
                        intro a hE
                        refine s_val (wk0 rfl) rfl rfl hE hp (v := (.bool (decide (x10 ≤ x15)))) (ex_move rfl hE rfl) ?_
                        intro a hE
                        refine s_cut [_, _, _, _, _] (fun a w => Env 109 [(108, (.bool ((decide (x10 ≤ x15)) && ((decide (x3.1 = 0)) == x8))))] a ∧ Hp Z (ρ.un k1) (OwnSl 3 vr9 x6 :: OwnSl 3 vr10 x7 :: L) w) ?_ ?_
                        · rcases Bool.eq_false_or_eq_true (decide (x10 ≤ x15)) with hb12 | hb12
                          ·
                            refine s_val (wk1 hE rfl rfl rfl hb12) rfl rfl hE hp (v := (.int .i64 x3.1)) (ex_move rfl hE rfl) ?_
                            intro a hE
                            refine s_val (wk1 hE rfl rfl rfl hb12) rfl rfl hE hp (v := (.bool (decide (x3.1 = 0)))) (ex_eql rfl hE rfl rfl) ?_
                            intro a hE
                            refine s_val (wk1 hE rfl rfl rfl hb12) rfl rfl hE hp (v := (.bool x8)) (ex_move rfl hE rfl) ?_
                            intro a hE
                            refine s_val (wk1 hE rfl rfl rfl hb12) rfl rfl hE hp (v := (.bool ((decide (x3.1 = 0)) == x8))) (ex_beql bty4 rfl hE rfl rfl) ?_
                            intro a hE
                            refine s_val (wk0 rfl) rfl rfl hE hp (v := (.bool ((decide (x3.1 = 0)) == x8))) (ex_pick1 rfl hE rfl hb12 rfl) ?_
                            intro a hE
                            have hE := hE.eqv (v' := (.bool ((decide (x10 ≤ x15)) && ((decide (x3.1 = 0)) == x8)))) (by rw [hb12]; rfl)
                            exact s_nil ⟨hE.cut ⟨rfl, trivial⟩, hp⟩
                          ·
                            refine s_skip (wk2 hE rfl rfl rfl hb12) rfl rfl hE ?_
                            intro a hE
                            refine s_skip (wk2 hE rfl rfl rfl hb12) rfl rfl hE ?_
                            intro a hE
                            refine s_skip (wk2 hE rfl rfl rfl hb12) rfl rfl hE ?_
                            intro a hE
                            refine s_skip (wk2 hE rfl rfl rfl hb12) rfl rfl hE ?_
                            intro a hE
                            refine s_val (wk0 rfl) rfl rfl hE hp (v := (.bool false)) (ex_pick0 rfl hE rfl hb12 rfl) ?_
                            intro a hE
                            have hE := hE.eqv (v' := (.bool ((decide (x10 ≤ x15)) && ((decide (x3.1 = 0)) == x8)))) (by rw [hb12]; rfl)
                            exact s_nil ⟨hE.cut ⟨rfl, trivial⟩, hp⟩
                        · rintro a w ⟨hE, hp⟩
                          refine s_val (wk0 rfl) rfl rfl hE hp (v := (.bool ((decide (x10 ≤ x15)) && ((decide (x3.1 = 0)) == x8)))) (ex_asn rfl hE rfl) ?_
                          intro a hE
                          refine s_nil ?_
                          refine k_ret ?_
                          obtain rfl := Option.some.inj hm
                          exact ret1 hE rfl rfl ⟨_, rfl, rfl, ((((hp.get 1 rfl).drop).drop).less (PH.le_un _ k1))⟩
end Go.Proofs.Ytmfepkadggigpaa

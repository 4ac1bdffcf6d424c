/- The code goes as its model: assessor/assessorref26.Variable, assessor/assessorref26.Normal, assessor/assessorref26.IsClause, assessor/assessorref26.Valid, asses -/
import Derived.Test.YtelioaepnpnojaaGreatDoorKCi3
import Derived.Test.YtelioaepnpnojaaGreatDoorKCi4
set_option linter.unusedVariables false
set_option linter.unusedSimpArgs false
namespace Go.Proofs.YtelioaepnpnojaaGreatDoor
open Go.RowKit
set_option maxRecDepth 100000 in
set_option maxHeartbeats 4000000 in
theorem c_assessorref26_Clauses {Z : World} {ρ : PH} {L : List Atom} {w : World} (hT : Tabs ρ) (p0 : (List (List Int))) (vp0 : Value) (hp0 : RoSl ρ vp0 p0) (p1 : (List (List Int))) (vp1 : Value) (hp1 : RoSl ρ vp1 p1) (hp : Hp Z ρ (L) w) (r : Bool) (hm : m_assessorref26_Clauses p0 p1 = some r) :
    Calls Tryz.prog 40 #[vp0, vp1] w (Ret fun v w' => v = (.bool r) ∧ Hp Z ρ (L) w') := by
  refine enter (N := 53) Tryz.func40 rfl rfl [(0, vp0), (1, vp1)] rfl (argsIn_mem ⟨rfl, rfl, trivial⟩) fun a hE => ?_
  unfold m_assessorref26_Clauses at hm
  refine k_seq ?_
  refine k_region ?_
  refine s_val (wk0 rfl) rfl rfl hE hp (v := (.bool false)) (ex_asn rfl hE rfl) ?_
  intro a hE
  refine s_nil ?_
  refine k_seq ?_
  refine k_seq ?_
  refine k_region ?_
  refine s_val (wk0 rfl) rfl rfl hE hp (v := vp0) (ex_move rfl hE rfl) ?_
  intro a hE
  refine s_val (wk0 rfl) rfl rfl hE hp (v := (.int .i64 (p0.length : Int))) (ex_len rfl hE rfl (RoSl.len hp0 slty22)) ?_
  intro a hE
  refine s_val (wk0 rfl) rfl rfl hE hp (v := vp1) (ex_move rfl hE rfl) ?_
  intro a hE
  refine s_val (wk0 rfl) rfl rfl hE hp (v := (.int .i64 (p1.length : Int))) (ex_len rfl hE rfl (RoSl.len hp1 slty22)) ?_
  intro a hE
  refine s_val (wk0 rfl) rfl rfl hE hp (v := (.bool (!decide ((p0.length : Int) = (p1.length : Int))))) (ex_neq rfl hE rfl rfl) ?_
  intro a hE
  refine s_nil ?_
  refine k_if hE rfl (fun hc1 => ?_) (fun hc1 => ?_)
  · replace hm := (it hc1).symm.trans hm
    refine k_seq ?_
    refine k_region ?_
    refine s_val (wk0 rfl) rfl rfl hE hp (v := (.bool false)) (ex_asn rfl hE rfl) ?_
    intro a hE
    refine s_nil ?_
    refine k_ret ?_
    obtain rfl := Option.some.inj hm
    exact ret1 hE rfl rfl ⟨_, rfl, rfl, hp⟩
  · replace hm := (ie hc1).symm.trans hm
    refine k_skip ?_
    refine k_seq ?_
    refine k_seq ?_
    refine k_region ?_
    refine s_val (wk0 rfl) rfl rfl hE hp (v := (.int .i64 0)) (ex_asn rfl hE rfl) ?_
    intro a hE
    refine s_nil ?_
    obtain ⟨b1, hc2, hm⟩ := bnd hm
    refine k_block (fun a w => ∃ s : Unit, b1 = .brk s ∧ (Env 53 [] a ∧ Hp Z ρ (L) w)) ?_ ?_
    · refine k_loop hc2 (fun s a w => Env 53 [(0, vp0), (1, vp1), (5, (.int .i64 s))] a ∧ Hp Z ρ (L) w) ?_ ?_
      · exact ⟨hE.cut ⟨rfl, rfl, rfl, trivial⟩, hp⟩
      · rintro lp1_0 st a w ⟨hE, hp⟩ hl1
        have hE : Env 53 [(0, vp0), (1, vp1), (5, (.int .i64 lp1_0))] a := hE
        have hp : Hp Z ρ (L) w := hp
        replace hl1 : m_assessorref26_Clauses_lp1 p0 p1 lp1_0 = some st := hl1
        unfold m_assessorref26_Clauses_lp1 at hl1
        refine k_seq ?_
        refine k_seq ?_
        refine k_region ?_
        refine s_val (wk0 rfl) rfl rfl hE hp (v := (.int .i64 lp1_0)) (ex_move rfl hE rfl) ?_
        intro a hE
        refine s_val (wk0 rfl) rfl rfl hE hp (v := vp0) (ex_move rfl hE rfl) ?_
        intro a hE
        refine s_val (wk0 rfl) rfl rfl hE hp (v := (.int .i64 (p0.length : Int))) (ex_len rfl hE rfl (RoSl.len hp0 slty22)) ?_
        intro a hE
        refine s_val (wk0 rfl) rfl rfl hE hp (v := (.bool (decide (lp1_0 < (p0.length : Int))))) (ex_lss rfl hE rfl rfl) ?_
        intro a hE
        refine s_nil ?_
        refine k_if hE rfl (fun hc3 => ?_) (fun hc3 => ?_)
        · replace hl1 := (it hc3).symm.trans hl1
          refine k_skip ?_
          refine k_seq ?_
          refine k_plain ?_
          refine k_seq ?_
          refine k_seq ?_
          refine k_quiet (by kernel_rfl) (by kernel_rfl) hp ?_
          refine q_val (wk0 rfl) rfl rfl hE (v := vp0) (ex_move rfl hE rfl) ?_
          intro a hE
          refine q_val (wk0 rfl) rfl rfl hE (v := (.int .i64 lp1_0)) (ex_move rfl hE rfl) ?_
          intro a hE
          obtain ⟨x1, ex1, hl1⟩ := bnd hl1
          obtain ⟨b2, b2o, b2c, b2r, b2k, b2f⟩ := RoSl.at hp0 slty22 ex1
          obtain ⟨vb2, rfl, hb2⟩ := b2k
          have b2f : AtP ρ b2 b2o [vb2] := b2f
          refine q_val (wk0 rfl) rfl rfl hE (v := (.pointer (some ⟨b2, b2o, none⟩))) (ex_index rfl hE rfl rfl b2r) ?_
          intro a hE
          refine q_val (wk0 rfl) rfl rfl hE (v := vb2) (ex_load rfl hE rfl (fun w hw => run_ld1 varty25 (b2f.c 0 rfl w hw))) ?_
          intro a hE
          refine q_val (wk0 rfl) rfl rfl hE (v := (.int .i64 (x1.length : Int))) (ex_len rfl hE rfl (RoSl.len hb2 slty25)) ?_
          intro a hE
          refine q_val (wk0 rfl) rfl rfl hE (v := vp1) (ex_move rfl hE rfl) ?_
          intro a hE
          refine q_val (wk0 rfl) rfl rfl hE (v := (.int .i64 lp1_0)) (ex_move rfl hE rfl) ?_
          intro a hE
          obtain ⟨x2, ex2, hl1⟩ := bnd hl1
          obtain ⟨b3, b3o, b3c, b3r, b3k, b3f⟩ := RoSl.at hp1 slty22 ex2
          obtain ⟨vb3, rfl, hb3⟩ := b3k
          have b3f : AtP ρ b3 b3o [vb3] := b3f
          refine q_val (wk0 rfl) rfl rfl hE (v := (.pointer (some ⟨b3, b3o, none⟩))) (ex_index rfl hE rfl rfl b3r) ?_
          intro a hE
          refine q_val (wk0 rfl) rfl rfl hE (v := vb3) (ex_load rfl hE rfl (fun w hw => run_ld1 varty25 (b3f.c 0 rfl w hw))) ?_
          intro a hE
          refine q_val (wk0 rfl) rfl rfl hE (v := (.int .i64 (x2.length : Int))) (ex_len rfl hE rfl (RoSl.len hb3 slty25)) ?_
          intro a hE
          refine q_val (wk0 rfl) rfl rfl hE (v := (.bool (!decide ((x1.length : Int) = (x2.length : Int))))) (ex_neq rfl hE rfl rfl) ?_
          intro a hE
          refine q_nil fun w hp => ?_
          have hp : Hp Z ρ (L) w := hp
          have hE := hE.cut (E' := [(0, vp0), (1, vp1), (5, (.int .i64 lp1_0)), (28, (.bool (!decide ((x1.length : Int) = (x2.length : Int)))))]) ⟨rfl, rfl, rfl, rfl, trivial⟩
          refine k_if hE rfl (fun hc4 => ?_) (fun hc4 => ?_)
          · replace hl1 := (it hc4).symm.trans hl1
            refine k_seq ?_
            refine k_region ?_
            refine s_val (wk0 rfl) rfl rfl hE hp (v := (.bool false)) (ex_asn rfl hE rfl) ?_
            intro a hE
            refine s_nil ?_
            refine k_ret ?_
            refine ⟨_, (Option.some.inj hl1).symm, fun hb => ?_⟩
            subst hb
            obtain rfl := Option.some.inj hm
            exact ret1 hE rfl rfl ⟨_, rfl, rfl, hp⟩
          · replace hl1 := (ie hc4).symm.trans hl1
            refine k_skip ?_
            refine k_seq ?_
            refine k_region ?_
            refine s_val (wk0 rfl) rfl rfl hE hp (v := (.int .i64 0)) (ex_asn rfl hE rfl) ?_
            intro a hE
            refine s_nil ?_
            obtain ⟨b4, hc5, hl1⟩ := bnd hl1
            refine k_block (fun a w => ∃ s : Unit, b4 = .brk s ∧ (Env 53 [(0, vp0), (1, vp1), (5, (.int .i64 lp1_0))] a ∧ Hp Z ρ (L) w)) ?_ ?_
            · refine k_loop hc5 (fun s a w => Env 53 [(0, vp0), (1, vp1), (5, (.int .i64 lp1_0)), (6, (.int .i64 s))] a ∧ Hp Z ρ (L) w) ?_ ?_
              · exact ⟨hE.cut ⟨rfl, rfl, rfl, rfl, trivial⟩, hp⟩
              · rintro lp2_0 st a w ⟨hE, hp⟩ hl2
                have hE : Env 53 [(0, vp0), (1, vp1), (5, (.int .i64 lp1_0)), (6, (.int .i64 lp2_0))] a := hE
                have hp : Hp Z ρ (L) w := hp
                replace hl2 : m_assessorref26_Clauses_lp2 p0 p1 lp1_0 lp2_0 = some st := hl2
                unfold m_assessorref26_Clauses_lp2 at hl2
                refine k_seq ?_
                refine k_seq ?_
                refine k_region ?_
                refine s_val (wk0 rfl) rfl rfl hE hp (v := (.int .i64 lp2_0)) (ex_move rfl hE rfl) ?_
                intro a hE
                refine s_val (wk0 rfl) rfl rfl hE hp (v := vp0) (ex_move rfl hE rfl) ?_
                intro a hE
                refine s_val (wk0 rfl) rfl rfl hE hp (v := (.int .i64 lp1_0)) (ex_move rfl hE rfl) ?_
                intro a hE
                obtain ⟨x3, ex3, hl2⟩ := bnd hl2
                obtain ⟨b5, b5o, b5c, b5r, b5k, b5f⟩ := RoSl.at hp0 slty22 ex3
                obtain ⟨vb5, rfl, hb5⟩ := b5k
                have b5f : AtP ρ b5 b5o [vb5] := b5f
                refine s_val (wk0 rfl) rfl rfl hE hp (v := (.pointer (some ⟨b5, b5o, none⟩))) (ex_index rfl hE rfl rfl b5r) ?_
                intro a hE
                refine s_val (wk0 rfl) rfl rfl hE hp (v := vb5) (ex_load rfl hE rfl (fun w hw => run_ld1 varty25 (b5f.c 0 rfl w hw))) ?_
                intro a hE
                refine s_val (wk0 rfl) rfl rfl hE hp (v := (.int .i64 (x3.length : Int))) (ex_len rfl hE rfl (RoSl.len hb5 slty25)) ?_
                intro a hE
                refine s_val (wk0 rfl) rfl rfl hE hp (v := (.bool (decide (lp2_0 < (x3.length : Int))))) (ex_lss rfl hE rfl rfl) ?_
                intro a hE
                refine s_nil ?_
                refine k_if hE rfl (fun hc6 => ?_) (fun hc6 => ?_)
                · replace hl2 := (it hc6).symm.trans hl2
                  refine k_skip ?_
                  refine k_seq ?_
                  refine k_plain ?_
                  refine k_seq ?_
                  refine k_quiet (by kernel_rfl) (by kernel_rfl) hp ?_
                  refine q_val (wk0 rfl) rfl rfl hE (v := vp0) (ex_move rfl hE rfl) ?_
                  intro a hE
                  refine q_val (wk0 rfl) rfl rfl hE (v := (.int .i64 lp1_0)) (ex_move rfl hE rfl) ?_
                  intro a hE
                  obtain ⟨x4, ex4, hl2⟩ := bnd hl2
                  obtain ⟨b6, b6o, b6c, b6r, b6k, b6f⟩ := RoSl.at hp0 slty22 ex4
                  obtain ⟨vb6, rfl, hb6⟩ := b6k
                  have b6f : AtP ρ b6 b6o [vb6] := b6f
                  refine q_val (wk0 rfl) rfl rfl hE (v := (.pointer (some ⟨b6, b6o, none⟩))) (ex_index rfl hE rfl rfl b6r) ?_
                  intro a hE
                  refine q_val (wk0 rfl) rfl rfl hE (v := vb6) (ex_load rfl hE rfl (fun w hw => run_ld1 varty25 (b6f.c 0 rfl w hw))) ?_
                  intro a hE
                  refine q_val (wk0 rfl) rfl rfl hE (v := (.int .i64 lp2_0)) (ex_move rfl hE rfl) ?_
                  intro a hE
                  obtain ⟨x5, ex5, hl2⟩ := bnd hl2
                  obtain ⟨b7, b7o, b7c, b7r, b7k, b7f⟩ := RoSl.at hb6 slty25 ex5
                  obtain rfl : b7c = Enc.enc x5 := b7k
                  have b7f : AtP ρ b7 b7o [(.int .i64 x5)] := b7f
                  refine q_val (wk0 rfl) rfl rfl hE (v := (.pointer (some ⟨b7, b7o, none⟩))) (ex_index rfl hE rfl rfl b7r) ?_
                  intro a hE
                  refine q_val (wk0 rfl) rfl rfl hE (v := (.int .i64 x5)) (ex_load rfl hE rfl (fun w hw => run_ld1 varty3 (b7f.c 0 rfl w hw))) ?_
                  intro a hE
                  refine q_val (wk0 rfl) rfl rfl hE (v := vp1) (ex_move rfl hE rfl) ?_
                  intro a hE
                  refine q_val (wk0 rfl) rfl rfl hE (v := (.int .i64 lp1_0)) (ex_move rfl hE rfl) ?_
                  intro a hE
                  obtain ⟨x6, ex6, hl2⟩ := bnd hl2
                  obtain ⟨b8, b8o, b8c, b8r, b8k, b8f⟩ := RoSl.at hp1 slty22 ex6
                  obtain ⟨vb8, rfl, hb8⟩ := b8k
                  have b8f : AtP ρ b8 b8o [vb8] := b8f
                  refine q_val (wk0 rfl) rfl rfl hE (v := (.pointer (some ⟨b8, b8o, none⟩))) (ex_index rfl hE rfl rfl b8r) ?_
                  intro a hE
                  refine q_val (wk0 rfl) rfl rfl hE (v := vb8) (ex_load rfl hE rfl (fun w hw => run_ld1 varty25 (b8f.c 0 rfl w hw))) ?_
                  intro a hE
                  refine q_val (wk0 rfl) rfl rfl hE (v := (.int .i64 lp2_0)) (ex_move rfl hE rfl) ?_
                  intro a hE
                  obtain ⟨x7, ex7, hl2⟩ := bnd hl2
                  obtain ⟨b9, b9o, b9c, b9r, b9k, b9f⟩ := RoSl.at hb8 slty25 ex7
                  obtain rfl : b9c = Enc.enc x7 := b9k
                  have b9f : AtP ρ b9 b9o [(.int .i64 x7)] := b9f
                  refine q_val (wk0 rfl) rfl rfl hE (v := (.pointer (some ⟨b9, b9o, none⟩))) (ex_index rfl hE rfl rfl b9r) ?_
                  intro a hE
                  refine q_val (wk0 rfl) rfl rfl hE (v := (.int .i64 x7)) (ex_load rfl hE rfl (fun w hw => run_ld1 varty3 (b9f.c 0 rfl w hw))) ?_
                  intro a hE
                  refine q_val (wk0 rfl) rfl rfl hE (v := (.bool (!decide (x5 = x7)))) (ex_neq rfl hE rfl rfl) ?_
                  intro a hE
                  refine q_nil fun w hp => ?_
                  have hp : Hp Z ρ (L) w := hp
                  have hE := hE.cut (E' := [(0, vp0), (1, vp1), (5, (.int .i64 lp1_0)), (6, (.int .i64 lp2_0)), (52, (.bool (!decide (x5 = x7))))]) ⟨rfl, rfl, rfl, rfl, rfl, trivial⟩
                  refine k_if hE rfl (fun hc7 => ?_) (fun hc7 => ?_)
                  · replace hl2 := (it hc7).symm.trans hl2
                    refine k_seq ?_
                    refine k_region ?_
                    refine s_val (wk0 rfl) rfl rfl hE hp (v := (.bool false)) (ex_asn rfl hE rfl) ?_
                    intro a hE
                    refine s_nil ?_
                    refine k_ret ?_
                    refine ⟨_, (Option.some.inj hl2).symm, fun hb => ?_⟩
                    subst hb
                    refine ⟨_, (Option.some.inj hl1).symm, fun hb => ?_⟩
                    subst hb
                    obtain rfl := Option.some.inj hm
                    exact ret1 hE rfl rfl ⟨_, rfl, rfl, hp⟩
                  · replace hl2 := (ie hc7).symm.trans hl2
                    refine k_skip ?_
                    refine k_region ?_
                    refine s_val (wk0 rfl) rfl rfl hE hp (v := (.int .i64 lp2_0)) (ex_move rfl hE rfl) ?_
                    intro a hE
                    obtain ⟨x8, ex8, hl2⟩ := bnd hl2
                    refine s_val (wk0 rfl) rfl rfl hE hp (v := (.int .i64 x8)) (ex_add rfl hE rfl rfl (inK_some ex8)) ?_
                    intro a hE
                    refine s_val (wk0 rfl) rfl rfl hE hp (v := (.int .i64 x8)) (ex_asn rfl hE rfl) ?_
                    intro a hE
                    refine s_nil ?_
                    exact ⟨_, (Option.some.inj hl2).symm, hE.cut ⟨rfl, rfl, rfl, rfl, trivial⟩, hp⟩
                · replace hl2 := (ie hc6).symm.trans hl2
                  refine k_exit ?_
                  refine ⟨_, (Option.some.inj hl2).symm, fun hbb => ?_⟩
                  exact ⟨_, hbb.symm, hE.cut ⟨rfl, rfl, rfl, trivial⟩, hp⟩
            · rintro a w ⟨b4s, rfl, hE, hp⟩
              dsimp only at hl1
              refine k_region ?_
              refine s_val (wk0 rfl) rfl rfl hE hp (v := (.int .i64 lp1_0)) (ex_move rfl hE rfl) ?_
              intro a hE
              obtain ⟨x9, ex9, hl1⟩ := bnd hl1
              refine s_val (wk0 rfl) rfl rfl hE hp (v := (.int .i64 x9)) (ex_add rfl hE rfl rfl (inK_some ex9)) ?_
              intro a hE
              refine s_val (wk0 rfl) rfl rfl hE hp (v := (.int .i64 x9)) (ex_asn rfl hE rfl) ?_
              intro a hE
              refine s_nil ?_
              exact ⟨_, (Option.some.inj hl1).symm, hE.cut ⟨rfl, rfl, rfl, trivial⟩, hp⟩
        · replace hl1 := (ie hc3).symm.trans hl1
          refine k_exit ?_
          refine ⟨_, (Option.some.inj hl1).symm, fun hbb => ?_⟩
          exact ⟨_, hbb.symm, hE.cut trivial, hp⟩
    · rintro a w ⟨b1s, rfl, hE, hp⟩
      dsimp only at hm
      refine k_seq ?_
      refine k_region ?_
      refine s_val (wk0 rfl) rfl rfl hE hp (v := (.bool true)) (ex_asn rfl hE rfl) ?_
      intro a hE
      refine s_nil ?_
      refine k_ret ?_
      obtain rfl := Option.some.inj hm
      exact ret1 hE rfl rfl ⟨_, rfl, rfl, hp⟩
end Go.Proofs.YtelioaepnpnojaaGreatDoor

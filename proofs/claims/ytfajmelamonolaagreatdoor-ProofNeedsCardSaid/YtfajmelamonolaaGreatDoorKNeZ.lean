/- ProofNeeds: for every input the law returns true, and each argument reads behind the call as it read before. No condition. (Printed by wip/sp/gen.py.) -/
import Derived.Test.YtfajmelamonolaaGreatDoorKNe3
import Derived.Test.YtfajmelamonolaaGreatDoorKNe12
import Derived.Test.YtfajmelamonolaaGreatDoorKNe15
import Derived.Test.YtfajmelamonolaaGreatDoorTie
import Derived.Test.YtfajmelamonolaaGreatDoorCards
set_option linter.unusedVariables false
set_option linter.unusedSimpArgs false
namespace Go.Proofs.YtfajmelamonolaaGreatDoor
open Go.ChangeShapes Go.WideShapes Go.ChangeAt Go.RowKit
set_option maxRecDepth 100000 in
theorem proofNeeds_lifted (os : Os) (started : os.Started) (H : Type) (enc : TypeId × Value → H) :
    ReturnsInHanded {} Tryz.checked os 3 .any (fun w args => (Rows.proofNeedsSpec.pre enc Tryz.prog Tryz.f3 Rows.proofNeedsRow.domain false w args ∧ laidMetH Tryz.prog laidL w) ∧ sizedMet enc Tryz.prog Tryz.f3 (OpenSpec.ofChange Rows.proofNeedsSpec) false w args) (Rows.proofNeedsSpec.post enc Tryz.prog Tryz.f3 false true false false) := by
  refine returnsInHanded_of_laid_shaped (C := Tryz.checked) (X := fun w _ => laidMetH Tryz.prog laidL w) (fun _ _ _ hh h => h.of_heap hh) own_ started (by kernel_rfl) Tryz.func3
    (ChangeSpec.witness_shaped (enc := enc) (C := Tryz.checked) (os := os) (X := fun w _ => laidMetH Tryz.prog laidL w) false (World.laidAll Tryz.prog os laidL) #[.agg #[.int .i64 0, .slice none 0 0], .slice none 0 0, .slice none 0 0] 8 (World.laidAll_os _ _ _)
      (World.shaped_of_ZipB (by kernel_rfl) (by kernel_rfl)) (by kernel_rfl) (by kernel_rfl) (by kernel_rfl) (by rw [laidMetH_plain_]; exact laidMet_laidAll _ (by kernel_rfl) (by kernel_rfl))) ?_
  intro W base args ds gs before hval0 hW hz hL hsh
  have hval : ∀ (j : Nat) t v, Tryz.f3.params[j]? = some t → args[j]? = some v → Value.okWide Tryz.prog W .any base t v := hval0
  have hW' := hW
  obtain ⟨p, q, hA0, hV, rfl, hfz, hnd⟩ := hW
  have hA : DataW.TrodAll enc Tryz.prog W 0 (fun _ => true) true Tryz.f3.params.toList args.toList ds p := hA0
  rw [Tryz.params3] at hA hval
  obtain ⟨v0, vs0, d0, ds0, q0, qs0, e0, rfl, e0', h0, hA0⟩ := trodAll_cons hA
  obtain ⟨v1, vs1, d1, ds1, q1, qs1, e1, rfl, e1', h1, hA1⟩ := trodAll_cons hA0
  obtain ⟨v2, vs2, d2, ds2, q2, qs2, e2, rfl, e2', h2, hA2⟩ := trodAll_cons hA1
  obtain ⟨en, rfl, rfl⟩ := trodAll_nil hA2
  subst en
  subst e2
  subst e1
  obtain ⟨al⟩ := args
  obtain rfl : al = [v0, v1, v2] := e0
  obtain ⟨rfl, rfl⟩ := trodVars_none hV
  obtain ⟨a0, c0, rfl, k0, r0⟩ := arg_struct reads_formula Tryz.underlying24 (hval 0 24 v0 rfl rfl) h0
  obtain ⟨u0, rfl, s0⟩ := k0
  obtain ⟨a1, s1, r1⟩ := arg_slice reads25 Tryz.underlying22 (hval 1 22 v1 rfl rfl) h1
  obtain ⟨a2, s2, r2⟩ := arg_slice reads3 Tryz.underlying25 (hval 2 25 v2 rfl rfl) h2
  have z2 := sized_arg Tryz.underlying25 s2 (hval 2 25 v2 rfl rfl) h2 hz (j := 2) (n := 8) (by kernel_rfl) rfl (by kernel_rfl)
  have hT : Tabs (hp W) := tabs_of (laidMetH_plain_ W ▸ hL) hsh
  refine Calls.mono (c_assessorlaw27_ProofNeeds (Z := W) (ρ := hp W) (L := []) (w := W) hT a0 u0 s0 a1 v1 s1 a2 v2 s2 (hp_whole W) true (law_ProofNeeds a0 a1 a2 r0 r1 r2 z2)) fun e W' he => ?_
  obtain ⟨v, rfl, rfl, hh⟩ := he
  exact ⟨_, rfl, law_post laidOut_ (by kernel_rfl) hW' rfl (tb := 4) rfl Tryz.underlying4 rfl (below_of hh)⟩
theorem proofNeeds_holds : Rows.ProofNeedsSaid :=
  OpenClaim.holds_of_wide 3 Tryz.f3 rfl rfl rfl rfl rfl rfl rfl ⟨rfl, rfl, rfl, rfl, rfl⟩ rfl rfl rfl rfl rfl (by kernel_rfl) Tryz.func3 (by kernel_rfl)
    (of_decide_eq_true (by kernel_rfl)) (by unfold Func.isWrapper; first | (rw [if_pos (by decide +kernel)]; kernel_rfl) | (rw [if_neg (by decide +kernel)]; exact ⟨rfl, rfl⟩))
    (fun os started H enc _ => proofNeeds_lifted os started H enc)
theorem proofNeeds_card : Rows.ProofNeedsCardSaid :=
  Claim7.holds_tied_plain_at .later [] [.data, .data, .data, .data, .sentinel, .sentinel, .pinned] true (true, "18406c14c570fa333f01f1902c7864c99234896e8b0eb4113bab2a6afefa280f") true
    proofNeeds_holds (fun _ h => by cases h) (by kernel_rfl) (fun _ h => by cases h) proofNeeds_row_tie rfl ⟨rfl, rfl⟩ (by kernel_rfl) rfl
    (fun f fn hf hfn => by
      obtain rfl : f = 3 := Option.some.inj ((show Tryz.prog.funcNamed "assessor/assessorlaw27.ProofNeeds" = some 3 by kernel_rfl).symm.trans hf) |>.symm
      obtain rfl : fn = Tryz.f3 := (Option.some.inj (Tryz.func3.symm.trans hfn)).symm
      exact ⟨by kernel_rfl, fun j t ht => by
        rw [Tryz.params3] at ht
        have hm : t ∈ [24, 22, 25] := by simpa using Array.mem_of_getElem? ht
        have hall : ([24, 22, 25].all fun u => !Tryz.prog.wantsStandIn u) = true := by kernel_rfl
        exact (show Tryz.prog.wantsStandIn t = false by simpa using List.all_eq_true.1 hall t hm)⟩)
    (by kernel_rfl)
end Go.Proofs.YtfajmelamonolaaGreatDoor

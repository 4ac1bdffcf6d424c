/- ProofTrims: for every input the law returns true, and each argument reads behind the call as it read before. No condition. (Printed by wip/sp/gen.py.) -/
import Derived.Test.YtfajmelamonolaaDoorKTr3
import Derived.Test.YtfajmelamonolaaDoorKTr11
import Derived.Test.YtfajmelamonolaaDoorKTr14
import Derived.Test.YtfajmelamonolaaDoorTie
import Derived.Test.YtfajmelamonolaaDoorCards
set_option linter.unusedVariables false
set_option linter.unusedSimpArgs false
namespace Go.Proofs.YtfajmelamonolaaDoor
open Go.ChangeShapes Go.WideShapes Go.ChangeAt Go.RowKit
set_option maxRecDepth 100000 in
theorem proofTrims_lifted (os : Os) (started : os.Started) (H : Type) (enc : TypeId × Value → H) :
    ReturnsInHanded {} Tryd.checked os 5 .any (fun w args => (Rows.proofTrimsSpec.pre enc Tryd.prog Tryd.f5 Rows.proofTrimsRow.domain false w args ∧ laidMetH Tryd.prog laidL w) ∧ sizedMet enc Tryd.prog Tryd.f5 (OpenSpec.ofChange Rows.proofTrimsSpec) false w args) (Rows.proofTrimsSpec.post enc Tryd.prog Tryd.f5 false true false false) := by
  refine returnsInHanded_of_laid_shaped (C := Tryd.checked) (X := fun w _ => laidMetH Tryd.prog laidL w) (fun _ _ _ hh h => h.of_heap hh) own_ started (by kernel_rfl) Tryd.func5
    (ChangeSpec.witness_shaped (enc := enc) (C := Tryd.checked) (os := os) (X := fun w _ => laidMetH Tryd.prog laidL w) false (World.laidAll Tryd.prog os laidL) #[.agg #[.int .i64 0, .slice none 0 0], .slice none 0 0] 8 (World.laidAll_os _ _ _)
      (World.shaped_of_ZipB (by kernel_rfl) (by kernel_rfl)) (by kernel_rfl) (by kernel_rfl) (by kernel_rfl) (by rw [laidMetH_plain_]; exact laidMet_laidAll _ (by kernel_rfl) (by kernel_rfl))) ?_
  intro W base args ds gs before hval0 hW hz hL hsh
  have hval : ∀ (j : Nat) t v, Tryd.f5.params[j]? = some t → args[j]? = some v → Value.okWide Tryd.prog W .any base t v := hval0
  have hW' := hW
  obtain ⟨p, q, hA0, hV, rfl, hfz, hnd⟩ := hW
  have hA : DataW.TrodAll enc Tryd.prog W 0 (fun _ => true) true Tryd.f5.params.toList args.toList ds p := hA0
  rw [Tryd.params5] at hA hval
  obtain ⟨v0, vs0, d0, ds0, q0, qs0, e0, rfl, e0', h0, hA0⟩ := trodAll_cons hA
  obtain ⟨v1, vs1, d1, ds1, q1, qs1, e1, rfl, e1', h1, hA1⟩ := trodAll_cons hA0
  obtain ⟨en, rfl, rfl⟩ := trodAll_nil hA1
  subst en
  subst e1
  obtain ⟨al⟩ := args
  obtain rfl : al = [v0, v1] := e0
  obtain ⟨rfl, rfl⟩ := trodVars_none hV
  obtain ⟨a0, c0, rfl, k0, r0⟩ := arg_struct reads_formula Tryd.underlying24 (hval 0 24 v0 rfl rfl) h0
  obtain ⟨u0, rfl, s0⟩ := k0
  obtain ⟨a1, s1, r1⟩ := arg_slice reads25 Tryd.underlying22 (hval 1 22 v1 rfl rfl) h1
  have hT : Tabs (hp W) := tabs_of (laidMetH_plain_ W ▸ hL) hsh
  refine Calls.mono (c_assessorlaw27_ProofTrims (Z := W) (ρ := hp W) (L := []) (w := W) hT a0 u0 s0 a1 v1 s1 (hp_whole W) true (law_ProofTrims a0 a1 r0 r1)) fun e W' he => ?_
  obtain ⟨v, rfl, rfl, hh⟩ := he
  exact ⟨_, rfl, law_post laidOut_ (by kernel_rfl) hW' rfl (tb := 4) rfl Tryd.underlying4 rfl (below_of hh)⟩
theorem proofTrims_holds : Rows.ProofTrimsSaid :=
  OpenClaim.holds_of_wide 5 Tryd.f5 rfl rfl rfl rfl rfl rfl rfl ⟨rfl, rfl, rfl, rfl, rfl⟩ rfl rfl rfl rfl rfl (by kernel_rfl) Tryd.func5 (by kernel_rfl)
    (of_decide_eq_true (by kernel_rfl)) (by unfold Func.isWrapper; first | (rw [if_pos (by decide +kernel)]; kernel_rfl) | (rw [if_neg (by decide +kernel)]; exact ⟨rfl, rfl⟩))
    (fun os started H enc _ => proofTrims_lifted os started H enc)
theorem proofTrims_card : Rows.ProofTrimsCardSaid :=
  Claim7.holds_tied_plain_at .later [] [.data, .data, .data, .data, .sentinel, .sentinel, .pinned] true (true, "ff2a5ccccdc464aa5f4e085112d1f3e4d95a662a972a860ba59c236cf3adac85") true
    proofTrims_holds (fun _ h => by cases h) (by kernel_rfl) (fun _ h => by cases h) proofTrims_row_tie rfl ⟨rfl, rfl⟩ (by kernel_rfl) rfl
    (fun f fn hf hfn => by
      obtain rfl : f = 5 := Option.some.inj ((show Tryd.prog.funcNamed "assessor/assessorlaw27.ProofTrims" = some 5 by kernel_rfl).symm.trans hf) |>.symm
      obtain rfl : fn = Tryd.f5 := (Option.some.inj (Tryd.func5.symm.trans hfn)).symm
      exact ⟨by kernel_rfl, fun j t ht => by
        rw [Tryd.params5] at ht
        have hm : t ∈ [24, 22] := by simpa using Array.mem_of_getElem? ht
        have hall : ([24, 22].all fun u => !Tryd.prog.wantsStandIn u) = true := by kernel_rfl
        exact (show Tryd.prog.wantsStandIn t = false by simpa using List.all_eq_true.1 hall t hm)⟩)
    (by kernel_rfl)
end Go.Proofs.YtfajmelamonolaaDoor

/-
  FingerprintLocal: for every input the law returns true, and each argument reads behind the call as it read before. No condition. (Printed by wip/sp/gen.py.)
-/
import Derived.Test.YtlnhijgieblmgaaDoorZRd
import Derived.Test.YtlnhijgieblmgaaDoorWLS
import Derived.Test.YtlnhijgieblmgaaDoorP7
import Derived.Test.YtlnhijgieblmgaaDoorTie
import Derived.Test.YtlnhijgieblmgaaDoorCards
set_option linter.unusedVariables false
set_option linter.unusedSimpArgs false
namespace Go.Proofs.YtlnhijgieblmgaaDoor
open Go.ChangeShapes Go.WideShapes Go.ChangeAt Go.RowKit
set_option maxRecDepth 100000 in
theorem fingerprintLocal_lifted (os : Os) (started : os.Started) (H : Type) (enc : TypeId × Value → H) :
    ReturnsInHanded {} Tryd.checked os 9 .any (fun w args => (Rows.fingerprintLocalSpec.pre enc Tryd.prog Tryd.f9 Rows.fingerprintLocalRow.domain false w args ∧ laidMet Tryd.prog laidL w) ∧ sizedMet enc Tryd.prog Tryd.f9 (OpenSpec.ofChange Rows.fingerprintLocalSpec) false w args) (Rows.fingerprintLocalSpec.post enc Tryd.prog Tryd.f9 false true false false) := by
  refine returnsInHanded_of_change_and (C := Tryd.checked) (X := fun w _ => laidMet Tryd.prog laidL w) (fun _ _ _ hh h => h.of_heap hh) own_ started (by kernel_rfl) Tryd.func9
    (ChangeSpec.witness_at (enc := enc) (C := Tryd.checked) (os := os) (X := fun w _ => laidMet Tryd.prog laidL w) false (laidWorld os) #[.slice none 0 0, .slice none 0 0, .int .i64 0, .int .i64 0] 8 rfl (by kernel_rfl) (by kernel_rfl) (by kernel_rfl) (by kernel_rfl) (by kernel_rfl) (laidMet_of_run' 8 (by kernel_rfl) (by kernel_rfl))) ?_
  intro W base args ds gs before hval0 hW _ hz hL _
  have hval : ∀ (j : Nat) t v, Tryd.f9.params[j]? = some t → args[j]? = some v → Value.okWide Tryd.prog W .any base t v := hval0
  have hW' := hW
  obtain ⟨p, q, hA0, hV, rfl, hfz, hnd⟩ := hW
  have hA : DataW.TrodAll enc Tryd.prog W 0 (fun _ => true) true Tryd.f9.params.toList args.toList ds p := hA0
  rw [Tryd.params9] at hA hval
  obtain ⟨v0, vs0, d0, ds0, q0, qs0, e0, rfl, e0', h0, hA0⟩ := trodAll_cons hA
  obtain ⟨v1, vs1, d1, ds1, q1, qs1, e1, rfl, e1', h1, hA1⟩ := trodAll_cons hA0
  obtain ⟨v2, vs2, d2, ds2, q2, qs2, e2, rfl, e2', h2, hA2⟩ := trodAll_cons hA1
  obtain ⟨v3, vs3, d3, ds3, q3, qs3, e3, rfl, e3', h3, hA3⟩ := trodAll_cons hA2
  obtain ⟨en, rfl, rfl⟩ := trodAll_nil hA3
  subst en
  subst e3
  subst e2
  subst e1
  obtain ⟨al⟩ := args
  obtain rfl : al = [v0, v1, v2, v3] := e0
  obtain ⟨rfl, rfl⟩ := trodVars_none hV
  obtain ⟨a0, s0, r0⟩ := arg_slice reads3 Tryd.underlying25 (hval 0 25 v0 rfl rfl) h0
  obtain ⟨a1, s1, r1⟩ := arg_slice reads3 Tryd.underlying25 (hval 1 25 v1 rfl rfl) h1
  obtain ⟨a2, rfl, r2⟩ := arg_int Tryd.underlying3 (hval 2 3 v2 rfl rfl) h2
  obtain ⟨a3, rfl, r3⟩ := arg_int Tryd.underlying3 (hval 3 3 v3 rfl rfl) h3
  have hT : Tabs (hp W) := Tabs.of (tab_of_laid hL)
  refine Calls.mono (c_assessorlaw43_FingerprintLocal (Z := W) (ρ := hp W) (L := []) (w := W) hT a0 v0 s0 a1 v1 s1 a2 a3 (hp_whole W) true (law_FingerprintLocal a0 a1 a2 a3 r0 r1 r2 r3)) fun e W' he => ?_
  obtain ⟨v, rfl, rfl, hh⟩ := he
  exact ⟨_, rfl, law_post laidOut_ (by kernel_rfl) hW' rfl (tb := 4) rfl Tryd.underlying4 rfl (below_of hh)⟩
theorem fingerprintLocal_holds : Rows.FingerprintLocalSaid :=
  OpenClaim.holds_of_wide 9 Tryd.f9 rfl rfl rfl rfl rfl rfl rfl ⟨rfl, rfl, rfl, rfl, rfl⟩ rfl rfl rfl rfl rfl (by kernel_rfl) Tryd.func9 (by kernel_rfl)
    (of_decide_eq_true (by kernel_rfl)) (by unfold Func.isWrapper; first | (rw [if_pos (by decide +kernel)]; kernel_rfl) | (rw [if_neg (by decide +kernel)]; exact ⟨rfl, rfl⟩))
    (fun os started H enc _ => fingerprintLocal_lifted os started H enc)
theorem fingerprintLocal_card : Rows.FingerprintLocalCardSaid :=
  Claim7.holds_tied_plain_at .later [] [.data, .data, .data] true (true, "14604ec80764b1688b87705caa6c6cb237fd6eb2ffa434605e82baa77f428602") false
    fingerprintLocal_holds (fun _ h => by cases h) (by kernel_rfl) (fun _ h => by cases h) fingerprintLocal_row_tie rfl ⟨rfl, rfl⟩ (by kernel_rfl) rfl
    (fun f fn hf hfn => by
      obtain rfl : f = 9 := Option.some.inj ((show Tryd.prog.funcNamed "assessor/assessorlaw43.FingerprintLocal" = some 9 by kernel_rfl).symm.trans hf) |>.symm
      obtain rfl : fn = Tryd.f9 := (Option.some.inj (Tryd.func9.symm.trans hfn)).symm
      exact ⟨by kernel_rfl, fun j t ht => by
        rw [Tryd.params9] at ht
        have hm : t ∈ [25, 25, 3, 3] := by simpa using Array.mem_of_getElem? ht
        have hall : ([25, 25, 3, 3].all fun u => !Tryd.prog.wantsStandIn u) = true := by kernel_rfl
        exact (show Tryd.prog.wantsStandIn t = false by simpa using List.all_eq_true.1 hall t hm)⟩)
    (by kernel_rfl)
end Go.Proofs.YtlnhijgieblmgaaDoor

/- SolverLeast: for every input the law returns true, and each argument reads behind the call as it read before. No condition. (Printed by wip/sp/gen.py.) -/
import Derived.Test.YtpkhmndpeipfmaaKLe4
import Derived.Test.YtpkhmndpeipfmaaKLe22
import Derived.Test.YtpkhmndpeipfmaaKLe28
set_option linter.unusedVariables false
set_option linter.unusedSimpArgs false
namespace Go.Proofs.Ytpkhmndpeipfmaa
open Go.ChangeShapes Go.WideShapes Go.ChangeAt Go.RowKit
set_option maxRecDepth 100000 in
theorem solverLeast_lifted (os : Os) (started : os.Started) (H : Type) (enc : TypeId × Value → H) :
    ReturnsInHanded {} Try.checked os 5 .any (Rows.solverLeastSpec.pre6 enc Try.prog Try.f5 Rows.solverLeastRow.domain false) (Rows.solverLeastSpec.post enc Try.prog Try.f5 false true false false) := by
  refine returnsInHanded_of_change (C := Try.checked) own_ started (by kernel_rfl) Try.func5
    (ChangeSpec.witness6 (enc := enc) (C := Try.checked) false ⟨#[], #[.agg #[.int .i64 0, .slice none 0 0], .slice none 0 0, .int .i64 0], []⟩ 8 (by kernel_rfl) (by kernel_rfl) (by kernel_rfl) (by kernel_rfl)) ?_
  intro W base args ds gs before hval0 hW hcnd hz
  have hval : ∀ (j : Nat) t v, Try.f5.params[j]? = some t → args[j]? = some v → Value.okWide Try.prog W .any base t v := hval0
  have hW' := hW
  obtain ⟨p, q, hA0, hV, rfl, hfz, hnd⟩ := hW
  have hA : DataW.TrodAll enc Try.prog W 0 (fun _ => true) true Try.f5.params.toList args.toList ds p := hA0
  rw [Try.params5] at hA hval
  obtain ⟨v0, vs0, d0, ds0, q0, qs0, e0, rfl, e0', h0, hA0⟩ := trodAll_cons hA
  obtain ⟨v1, vs1, d1, ds1, q1, qs1, e1, rfl, e1', h1, hA1⟩ := trodAll_cons hA0
  obtain ⟨v2, vs2, d2, ds2, q2, qs2, e2, rfl, e2', h2, hA2⟩ := trodAll_cons hA1
  obtain ⟨en, rfl, rfl⟩ := trodAll_nil hA2
  subst en
  subst e2
  subst e1
  obtain ⟨al⟩ := args
  obtain rfl : al = [v0, v1, v2] := e0
  obtain ⟨rfl, rfl⟩ := trodVars_none hV
  obtain ⟨a0, c0, rfl, k0, r0⟩ := arg_struct reads_formula Try.underlying24 (hval 0 24 v0 rfl rfl) h0
  obtain ⟨u0, rfl, s0⟩ := k0
  obtain ⟨a1, s1, r1⟩ := arg_slice reads3 Try.underlying25 (hval 1 25 v1 rfl rfl) h1
  obtain ⟨a2, rfl, r2⟩ := arg_int Try.underlying3 (hval 2 3 v2 rfl rfl) h2
  refine Calls.mono (c_assessorlaw28_SolverLeast (Z := W) (ρ := hp W) (L := []) (w := W) a0 u0 s0 a1 v1 s1 a2 (hp_whole W) true (law_SolverLeast a0 a1 a2 r0 r1 r2)) fun e W' he => ?_
  obtain ⟨v, rfl, rfl, hh⟩ := he
  exact ⟨_, rfl, law_post laidOut_ (by kernel_rfl) hW' rfl (tb := 4) rfl Try.underlying4 rfl (below_of hh)⟩
theorem solverLeast_holds : Rows.SolverLeastSaid :=
  OpenClaim.holds_of_wide 5 Try.f5 rfl rfl rfl rfl rfl rfl rfl ⟨rfl, rfl, rfl, rfl, rfl⟩ rfl rfl rfl rfl rfl (by kernel_rfl) Try.func5 (by kernel_rfl)
    (of_decide_eq_true (by kernel_rfl)) (by unfold Func.isWrapper; first | (rw [if_pos (by decide +kernel)]; kernel_rfl) | (rw [if_neg (by decide +kernel)]; exact ⟨rfl, rfl⟩))
    (fun os started H enc _ => solverLeast_lifted os started H enc)
end Go.Proofs.Ytpkhmndpeipfmaa

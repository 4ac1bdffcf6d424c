/- SolverPigeons: for every input the law returns true, and each argument reads behind the call as it read before. No condition. (Printed by wip/sp/gen.py.) -/
import Derived.Test.YtpkhmndpeipfmaaKUn4
import Derived.Test.YtpkhmndpeipfmaaKUn28
set_option linter.unusedVariables false
set_option linter.unusedSimpArgs false
namespace Go.Proofs.Ytpkhmndpeipfmaa
open Go.ChangeShapes Go.WideShapes Go.ChangeAt Go.RowKit
set_option maxRecDepth 100000 in
theorem solverPigeons_lifted (os : Os) (started : os.Started) (H : Type) (enc : TypeId × Value → H) :
    ReturnsInHanded {} Try.checked os 8 .any (Rows.solverPigeonsSpec.pre6 enc Try.prog Try.f8 Rows.solverPigeonsRow.domain false) (Rows.solverPigeonsSpec.post enc Try.prog Try.f8 false true false false) := by
  refine returnsInHanded_of_change (C := Try.checked) own_ started (by kernel_rfl) Try.func8
    (ChangeSpec.witness6 (enc := enc) (C := Try.checked) false ⟨#[], #[.int .u8 0, .bool false, .int .u32 0], []⟩ 8 (by kernel_rfl) (by kernel_rfl) (by kernel_rfl) (by kernel_rfl)) ?_
  intro W base args ds gs before hval0 hW hcnd hz
  have hval : ∀ (j : Nat) t v, Try.f8.params[j]? = some t → args[j]? = some v → Value.okWide Try.prog W .any base t v := hval0
  have hW' := hW
  obtain ⟨p, q, hA0, hV, rfl, hfz, hnd⟩ := hW
  have hA : DataW.TrodAll enc Try.prog W 0 (fun _ => true) true Try.f8.params.toList args.toList ds p := hA0
  rw [Try.params8] at hA hval
  obtain ⟨v0, vs0, d0, ds0, q0, qs0, e0, rfl, e0', h0, hA0⟩ := trodAll_cons hA
  obtain ⟨v1, vs1, d1, ds1, q1, qs1, e1, rfl, e1', h1, hA1⟩ := trodAll_cons hA0
  obtain ⟨v2, vs2, d2, ds2, q2, qs2, e2, rfl, e2', h2, hA2⟩ := trodAll_cons hA1
  obtain ⟨en, rfl, rfl⟩ := trodAll_nil hA2
  subst en
  subst e2
  subst e1
  obtain ⟨al⟩ := args
  obtain rfl : al = [v0, v1, v2] := e0
  obtain ⟨rfl, rfl⟩ := trodVars_none hV
  obtain ⟨a0, rfl, r0⟩ := arg_int Try.underlying5 (hval 0 5 v0 rfl rfl) h0
  obtain ⟨a1, rfl, -, -⟩ := open_bool Try.underlying4 (hval 1 4 v1 rfl rfl) h1
  obtain ⟨a2, rfl, r2⟩ := arg_int Try.underlying46 (hval 2 46 v2 rfl rfl) h2
  refine Calls.mono (c_assessorlaw28_SolverPigeons (Z := W) (ρ := hp W) (L := []) (w := W) a0 a1 a2 (hp_whole W) true (law_SolverPigeons a0 a1 a2 r0 r2)) fun e W' he => ?_
  obtain ⟨v, rfl, rfl, hh⟩ := he
  exact ⟨_, rfl, law_post laidOut_ (by kernel_rfl) hW' rfl (tb := 4) rfl Try.underlying4 rfl (below_of hh)⟩
theorem solverPigeons_holds : Rows.SolverPigeonsSaid :=
  OpenClaim.holds_of_wide 8 Try.f8 rfl rfl rfl rfl rfl rfl rfl ⟨rfl, rfl, rfl, rfl, rfl⟩ rfl rfl rfl rfl rfl (by kernel_rfl) Try.func8 (by kernel_rfl)
    (of_decide_eq_true (by kernel_rfl)) (by unfold Func.isWrapper; first | (rw [if_pos (by decide +kernel)]; kernel_rfl) | (rw [if_neg (by decide +kernel)]; exact ⟨rfl, rfl⟩))
    (fun os started H enc _ => solverPigeons_lifted os started H enc)
end Go.Proofs.Ytpkhmndpeipfmaa

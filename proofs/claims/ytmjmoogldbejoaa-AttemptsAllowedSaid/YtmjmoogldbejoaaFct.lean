/-
  Small facts on the types and functions of this seat. (Printed by wip/sp/gen.py.)
-/
import Derived.Test.YtmjmoogldbejoaaProg
import Derived.Test.YtmjmoogldbejoaaMut2
set_option linter.unusedVariables false
set_option linter.unusedSimpArgs false
namespace Go.Proofs.Ytmjmoogldbejoaa
open Go.RowKit
theorem fldty23_0 : FldTy Try.prog 23 0 0 := fun b o w => by simp [Instr.fieldAt, go_sem]
theorem varty3 : VarTy Try.prog 3 false 1 := ⟨fun w => by simp [isAgg, go_sem], fun w => by simp [sizeOf, go_sem] <;> rfl⟩
theorem fldty23_1 : FldTy Try.prog 23 1 1 := fun b o w => by simp [Instr.fieldAt, go_sem]
theorem fldty23_2 : FldTy Try.prog 23 2 2 := fun b o w => by simp [Instr.fieldAt, go_sem]
theorem ent36 : ∀ args w, (callFunc 36 args).run Try.prog w = .ok (.enter 36 args) w := enters Try.func36 (by kernel_rfl) rfl
theorem fldty23_3 : FldTy Try.prog 23 3 3 := fun b o w => by simp [Instr.fieldAt, go_sem]
theorem varty23 : VarTy Try.prog 23 true 4 := ⟨fun w => by simp [isAgg, go_sem], fun w => by simp [sizeOf, go_sem] <;> rfl⟩
theorem ent35 : ∀ args w, (callFunc 35 args).run Try.prog w = .ok (.enter 35 args) w := enters Try.func35 (by kernel_rfl) rfl
theorem slty24 : SlTy Try.prog 24 38 3 24 := SlTy.of (z := .agg #[.int .i64 0, .int .i64 0, .int .i64 0]) (by kernel_rfl) (by kernel_rfl) rfl
theorem varty38 : VarTy Try.prog 38 true 3 := ⟨fun w => by simp [isAgg, go_sem], fun w => by simp [sizeOf, go_sem] <;> rfl⟩
theorem fldty38_0 : FldTy Try.prog 38 0 0 := fun b o w => by simp [Instr.fieldAt, go_sem]
theorem fldty38_1 : FldTy Try.prog 38 1 1 := fun b o w => by simp [Instr.fieldAt, go_sem]
theorem fldty38_2 : FldTy Try.prog 38 2 2 := fun b o w => by simp [Instr.fieldAt, go_sem]
theorem ent30 : ∀ args w, (callFunc 30 args).run Try.prog w = .ok (.enter 30 args) w := enters Try.func30 (by kernel_rfl) rfl
theorem ent18 : ∀ args w, (callFunc 18 args).run Try.prog w = .ok (.enter 18 args) w := enters Try.func18 (by kernel_rfl) rfl
theorem ent38 : ∀ args w, (callFunc 38 args).run Try.prog w = .ok (.enter 38 args) w := enters Try.func38 (by kernel_rfl) rfl
theorem ent39 : ∀ args w, (callFunc 39 args).run Try.prog w = .ok (.enter 39 args) w := enters Try.func39 (by kernel_rfl) rfl
theorem ent24 : ∀ args w, (callFunc 24 args).run Try.prog w = .ok (.enter 24 args) w := enters Try.func24 (by kernel_rfl) rfl
theorem ent34 : ∀ args w, (callFunc 34 args).run Try.prog w = .ok (.enter 34 args) w := enters Try.func34 (by kernel_rfl) rfl
theorem slty32 : SlTy Try.prog 32 3 1 8 := SlTy.of (z := .int .i64 0) (by kernel_rfl) (by kernel_rfl) rfl
theorem ent17 : ∀ args w, (callFunc 17 args).run Try.prog w = .ok (.enter 17 args) w := enters Try.func17 (by kernel_rfl) rfl
theorem ent12 : ∀ args w, (callFunc 12 args).run Try.prog w = .ok (.enter 12 args) w := enters Try.func12 (by kernel_rfl) rfl
theorem ent31 : ∀ args w, (callFunc 31 args).run Try.prog w = .ok (.enter 31 args) w := enters Try.func31 (by kernel_rfl) rfl
theorem ent40 : ∀ args w, (callFunc 40 args).run Try.prog w = .ok (.enter 40 args) w := enters Try.func40 (by kernel_rfl) rfl
theorem ent41 : ∀ args w, (callFunc 41 args).run Try.prog w = .ok (.enter 41 args) w := enters Try.func41 (by kernel_rfl) rfl
theorem ent32 : ∀ args w, (callFunc 32 args).run Try.prog w = .ok (.enter 32 args) w := enters Try.func32 (by kernel_rfl) rfl
theorem ent33 : ∀ args w, (callFunc 33 args).run Try.prog w = .ok (.enter 33 args) w := enters Try.func33 (by kernel_rfl) rfl
theorem ent28 : ∀ args w, (callFunc 28 args).run Try.prog w = .ok (.enter 28 args) w := enters Try.func28 (by kernel_rfl) rfl
theorem varty24 : VarTy Try.prog 24 false 1 := ⟨fun w => by simp [isAgg, go_sem], fun w => by simp [sizeOf, go_sem] <;> rfl⟩
theorem ent19 : ∀ args w, (callFunc 19 args).run Try.prog w = .ok (.enter 19 args) w := enters Try.func19 (by kernel_rfl) rfl
theorem ent29 : ∀ args w, (callFunc 29 args).run Try.prog w = .ok (.enter 29 args) w := enters Try.func29 (by kernel_rfl) rfl
theorem ent11 : ∀ args w, (callFunc 11 args).run Try.prog w = .ok (.enter 11 args) w := enters Try.func11 (by kernel_rfl) rfl
theorem ent13 : ∀ args w, (callFunc 13 args).run Try.prog w = .ok (.enter 13 args) w := enters Try.func13 (by kernel_rfl) rfl
theorem ent16 : ∀ args w, (callFunc 16 args).run Try.prog w = .ok (.enter 16 args) w := enters Try.func16 (by kernel_rfl) rfl
theorem ent27 : ∀ args w, (callFunc 27 args).run Try.prog w = .ok (.enter 27 args) w := enters Try.func27 (by kernel_rfl) rfl
theorem ent10 : ∀ args w, (callFunc 10 args).run Try.prog w = .ok (.enter 10 args) w := enters Try.func10 (by kernel_rfl) rfl
theorem ent22 : ∀ args w, (callFunc 22 args).run Try.prog w = .ok (.enter 22 args) w := enters Try.func22 (by kernel_rfl) rfl
theorem ent23 : ∀ args w, (callFunc 23 args).run Try.prog w = .ok (.enter 23 args) w := enters Try.func23 (by kernel_rfl) rfl
theorem bty4 : Try.prog.underlying 4 = some .bool := by kernel_rfl
theorem ent25 : ∀ args w, (callFunc 25 args).run Try.prog w = .ok (.enter 25 args) w := enters Try.func25 (by kernel_rfl) rfl
theorem ent26 : ∀ args w, (callFunc 26 args).run Try.prog w = .ok (.enter 26 args) w := enters Try.func26 (by kernel_rfl) rfl
theorem ent14 : ∀ args w, (callFunc 14 args).run Try.prog w = .ok (.enter 14 args) w := enters Try.func14 (by kernel_rfl) rfl
theorem ent15 : ∀ args w, (callFunc 15 args).run Try.prog w = .ok (.enter 15 args) w := enters Try.func15 (by kernel_rfl) rfl
theorem ent20 : ∀ args w, (callFunc 20 args).run Try.prog w = .ok (.enter 20 args) w := enters Try.func20 (by kernel_rfl) rfl
theorem ent21 : ∀ args w, (callFunc 21 args).run Try.prog w = .ok (.enter 21 args) w := enters Try.func21 (by kernel_rfl) rfl
end Go.Proofs.Ytmjmoogldbejoaa

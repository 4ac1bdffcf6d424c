/-
  Small facts on the types and functions of this seat. (Printed by wip/sp/gen.py.)
-/
import Derived.Test.YtnnccbagbgndpaaProg
import Derived.Test.YtnnccbagbgndpaaTy
set_option linter.unusedVariables false
set_option linter.unusedSimpArgs false
namespace Go.Proofs.Ytnnccbagbgndpaa
open Vl (vl)
open Go.RowKit
theorem fldty24_4 : FldTy Try.prog 24 4 4 := fun b o w => by simp [Instr.fieldAt, go_sem]
theorem varty22 : VarTy Try.prog 22 false 1 := ⟨fun w => by simp [isAgg, go_sem], fun w => by simp [sizeOf, go_sem] <;> rfl⟩
theorem slty22 : SlTy Try.prog 22 24 5 64 := SlTy.of (z := .agg #[.int .i64 0, .string ByteArray.empty, .int .i64 0, .int .i64 0, .slice none 0 0]) (by kernel_rfl) (by kernel_rfl) rfl
theorem varty24 : VarTy Try.prog 24 true 5 := ⟨fun w => by simp [isAgg, go_sem], fun w => by simp [sizeOf, go_sem] <;> rfl⟩
theorem ent21 : ∀ args w, (callFunc 21 args).run Try.prog w = .ok (.enter 21 args) w := enters Try.func21 (by kernel_rfl) rfl
theorem fldty24_0 : FldTy Try.prog 24 0 0 := fun b o w => by simp [Instr.fieldAt, go_sem]
theorem varty3 : VarTy Try.prog 3 false 1 := ⟨fun w => by simp [isAgg, go_sem], fun w => by simp [sizeOf, go_sem] <;> rfl⟩
theorem fldty24_1 : FldTy Try.prog 24 1 1 := fun b o w => by simp [Instr.fieldAt, go_sem]
theorem varty9 : VarTy Try.prog 9 false 1 := ⟨fun w => by simp [isAgg, go_sem], fun w => by simp [sizeOf, go_sem] <;> rfl⟩
theorem ent35 : ∀ args w, (callFunc 35 args).run Try.prog w = .ok (.enter 35 args) w := enters Try.func35 (by kernel_rfl) rfl
theorem ent20 : ∀ args w, (callFunc 20 args).run Try.prog w = .ok (.enter 20 args) w := enters Try.func20 (by kernel_rfl) rfl
theorem sty9 : Try.prog.underlying 9 = some .string := by kernel_rfl
theorem ent37 : ∀ args w, (callFunc 37 args).run Try.prog w = .ok (.enter 37 args) w := enters Try.func37 (by kernel_rfl) rfl
theorem fldty60_0 : FldTy Try.prog 60 0 0 := fun b o w => by simp [Instr.fieldAt, go_sem]
theorem varty34 : VarTy Try.prog 34 false 1 := ⟨fun w => by simp [isAgg, go_sem], fun w => by simp [sizeOf, go_sem] <;> rfl⟩
theorem slty34 : SlTy Try.prog 34 3 1 8 := SlTy.of (z := .int .i64 0) (by kernel_rfl) (by kernel_rfl) rfl
theorem varty60 : VarTy Try.prog 60 true 4 := ⟨fun w => by simp [isAgg, go_sem], fun w => by simp [sizeOf, go_sem] <;> rfl⟩
theorem ent31 : ∀ args w, (callFunc 31 args).run Try.prog w = .ok (.enter 31 args) w := enters Try.func31 (by kernel_rfl) rfl
theorem fldty60_1 : FldTy Try.prog 60 1 1 := fun b o w => by simp [Instr.fieldAt, go_sem]
theorem varty58 : VarTy Try.prog 58 false 1 := ⟨fun w => by simp [isAgg, go_sem], fun w => by simp [sizeOf, go_sem] <;> rfl⟩
theorem slty58 : SlTy Try.prog 58 9 1 16 := SlTy.of (z := .string ByteArray.empty) (by kernel_rfl) (by kernel_rfl) rfl
theorem fldty60_2 : FldTy Try.prog 60 2 2 := fun b o w => by simp [Instr.fieldAt, go_sem]
theorem fldty60_3 : FldTy Try.prog 60 3 3 := fun b o w => by simp [Instr.fieldAt, go_sem]
theorem slty30 : SlTy Try.prog 30 34 1 24 := SlTy.of (z := .slice none 0 0) (by kernel_rfl) (by kernel_rfl) rfl
theorem ent32 : ∀ args w, (callFunc 32 args).run Try.prog w = .ok (.enter 32 args) w := enters Try.func32 (by kernel_rfl) rfl
theorem ent33 : ∀ args w, (callFunc 33 args).run Try.prog w = .ok (.enter 33 args) w := enters Try.func33 (by kernel_rfl) rfl
theorem slty71 : SlTy Try.prog 71 4 1 1 := SlTy.of (z := .bool false) (by kernel_rfl) (by kernel_rfl) rfl
theorem varty4 : VarTy Try.prog 4 false 1 := ⟨fun w => by simp [isAgg, go_sem], fun w => by simp [sizeOf, go_sem] <;> rfl⟩
theorem ent40 : ∀ args w, (callFunc 40 args).run Try.prog w = .ok (.enter 40 args) w := enters Try.func40 (by kernel_rfl) rfl
theorem ent39 : ∀ args w, (callFunc 39 args).run Try.prog w = .ok (.enter 39 args) w := enters Try.func39 (by kernel_rfl) rfl
theorem ent44 : ∀ args w, (callFunc 44 args).run Try.prog w = .ok (.enter 44 args) w := enters Try.func44 (by kernel_rfl) rfl
theorem ent38 : ∀ args w, (callFunc 38 args).run Try.prog w = .ok (.enter 38 args) w := enters Try.func38 (by kernel_rfl) rfl
theorem fldty66_0 : FldTy Try.prog 66 0 0 := fun b o w => by simp [Instr.fieldAt, go_sem]
theorem varty64 : VarTy Try.prog 64 false 1 := ⟨fun w => by simp [isAgg, go_sem], fun w => by simp [sizeOf, go_sem] <;> rfl⟩
theorem slty64 : SlTy Try.prog 64 70 2 24 := SlTy.of (z := .agg #[.int .i64 0, .string ByteArray.empty]) (by kernel_rfl) (by kernel_rfl) rfl
theorem varty80 : VarTy Try.prog 80 false 1 := ⟨fun w => by simp [isAgg, go_sem], fun w => by simp [sizeOf, go_sem] <;> rfl⟩
theorem ent43 : ∀ args w, (callFunc 43 args).run Try.prog w = .ok (.enter 43 args) w := enters Try.func43 (by kernel_rfl) rfl
theorem fldty66_1 : FldTy Try.prog 66 1 1 := fun b o w => by simp [Instr.fieldAt, go_sem]
theorem fldty66_2 : FldTy Try.prog 66 2 2 := fun b o w => by simp [Instr.fieldAt, go_sem]
theorem varty66 : VarTy Try.prog 66 true 3 := ⟨fun w => by simp [isAgg, go_sem], fun w => by simp [sizeOf, go_sem] <;> rfl⟩
theorem kt3 : KT Try.prog 3 Int := kt_int (by kernel_rfl)
theorem mapty84 : Try.prog.underlying 84 = some (.map 3 3) := by kernel_rfl
theorem ent48 : ∀ args w, (callFunc 48 args).run Try.prog w = .ok (.enter 48 args) w := enters Try.func48 (by kernel_rfl) rfl
theorem ent47 : ∀ args w, (callFunc 47 args).run Try.prog w = .ok (.enter 47 args) w := enters Try.func47 (by kernel_rfl) rfl
theorem ent36 : ∀ args w, (callFunc 36 args).run Try.prog w = .ok (.enter 36 args) w := enters Try.func36 (by kernel_rfl) rfl
theorem varty30 : VarTy Try.prog 30 false 1 := ⟨fun w => by simp [isAgg, go_sem], fun w => by simp [sizeOf, go_sem] <;> rfl⟩
theorem varty70 : VarTy Try.prog 70 true 2 := ⟨fun w => by simp [isAgg, go_sem], fun w => by simp [sizeOf, go_sem] <;> rfl⟩
theorem eqst70 (a0 : Int) (a1 : ByteArray) (b0 : Int) (b1 : ByteArray) : EqSt Try.prog 70 [.int .i64 a0, .string a1] [.int .i64 b0, .string b1] ((decide (a0 = b0)) && (decide (a1 = b1))) := eqst_of (by kernel_rfl) (by kernel_rfl) (by kernel_rfl) fun w => by
  simp only [Program.fieldsOf, Try.underlying70]
  go_simp
  by_cases h0 : a0 = b0 <;> by_cases h1 : a1 = b1 <;> simp [*, ba_inj]
theorem ent34 : ∀ args w, (callFunc 34 args).run Try.prog w = .ok (.enter 34 args) w := enters Try.func34 (by kernel_rfl) rfl
theorem ent41 : ∀ args w, (callFunc 41 args).run Try.prog w = .ok (.enter 41 args) w := enters Try.func41 (by kernel_rfl) rfl
theorem ent42 : ∀ args w, (callFunc 42 args).run Try.prog w = .ok (.enter 42 args) w := enters Try.func42 (by kernel_rfl) rfl
theorem ent46 : ∀ args w, (callFunc 46 args).run Try.prog w = .ok (.enter 46 args) w := enters Try.func46 (by kernel_rfl) rfl
theorem ent29 : ∀ args w, (callFunc 29 args).run Try.prog w = .ok (.enter 29 args) w := enters Try.func29 (by kernel_rfl) rfl
theorem ent30 : ∀ args w, (callFunc 30 args).run Try.prog w = .ok (.enter 30 args) w := enters Try.func30 (by kernel_rfl) rfl
theorem ent12 : ∀ args w, (callFunc 12 args).run Try.prog w = .ok (.enter 12 args) w := enters Try.func12 (by kernel_rfl) rfl
theorem kt70 : KT Try.prog 70 Lbl := kt_of_eq Try.underlying70 (fun _ _ => rfl) (fun em k w => by
  simp only [vl]
  rw [show (10000 : Nat) = 9998 + 1 + 1 from rfl]
  generalize 9998 = n
  rw [Instr.checkKey]
  simp only [run_underlying Try.underlying70, Sem.run_bind, Result.andThen_ok]
  simp [go_sem, Instr.checkKey]) (fun a b w => by
  have h := (eqst70 a.kind a.text b.kind b.text).2 w
  have e : ((decide (a.kind = b.kind)) && (decide (a.text = b.text))) = decide (a = b) := by
    obtain ⟨x0, x1⟩ := a
    obtain ⟨y0, y1⟩ := b
    simp
  rw [e] at h
  exact h) (fun k => by
  simp only [vl]
  rw [show (10000 : Nat) = 9999 + 1 from rfl, Instr.sameBits]
  simp [Instr.sameBits] <;> exact ba_beq _)
theorem mapty68 : Try.prog.underlying 68 = some (.map 70 3) := by kernel_rfl
theorem zero3 : ∀ w, (zeroValue 3).run Try.prog w = .ok (.int .i64 0) w := fun w => by simp [go_sem] <;> rfl
theorem ent28 : ∀ args w, (callFunc 28 args).run Try.prog w = .ok (.enter 28 args) w := enters Try.func28 (by kernel_rfl) rfl
theorem ent27 : ∀ args w, (callFunc 27 args).run Try.prog w = .ok (.enter 27 args) w := enters Try.func27 (by kernel_rfl) rfl
theorem ent26 : ∀ args w, (callFunc 26 args).run Try.prog w = .ok (.enter 26 args) w := enters Try.func26 (by kernel_rfl) rfl
theorem ent19 : ∀ args w, (callFunc 19 args).run Try.prog w = .ok (.enter 19 args) w := enters Try.func19 (by kernel_rfl) rfl
theorem ent24 : ∀ args w, (callFunc 24 args).run Try.prog w = .ok (.enter 24 args) w := enters Try.func24 (by kernel_rfl) rfl
theorem ent23 : ∀ args w, (callFunc 23 args).run Try.prog w = .ok (.enter 23 args) w := enters Try.func23 (by kernel_rfl) rfl
theorem ent13 : ∀ args w, (callFunc 13 args).run Try.prog w = .ok (.enter 13 args) w := enters Try.func13 (by kernel_rfl) rfl
theorem ent15 : ∀ args w, (callFunc 15 args).run Try.prog w = .ok (.enter 15 args) w := enters Try.func15 (by kernel_rfl) rfl
theorem ent10 : ∀ args w, (callFunc 10 args).run Try.prog w = .ok (.enter 10 args) w := enters Try.func10 (by kernel_rfl) rfl
theorem ent11 : ∀ args w, (callFunc 11 args).run Try.prog w = .ok (.enter 11 args) w := enters Try.func11 (by kernel_rfl) rfl
theorem ent14 : ∀ args w, (callFunc 14 args).run Try.prog w = .ok (.enter 14 args) w := enters Try.func14 (by kernel_rfl) rfl
theorem ent16 : ∀ args w, (callFunc 16 args).run Try.prog w = .ok (.enter 16 args) w := enters Try.func16 (by kernel_rfl) rfl
theorem slty38 : SlTy Try.prog 38 73 6 72 := SlTy.of (z := .agg #[.int .i64 0, .string ByteArray.empty, .int .i64 0, .int .i64 0, .slice none 0 0, .int .i64 0]) (by kernel_rfl) (by kernel_rfl) rfl
theorem ent18 : ∀ args w, (callFunc 18 args).run Try.prog w = .ok (.enter 18 args) w := enters Try.func18 (by kernel_rfl) rfl
theorem fldty73_1 : FldTy Try.prog 73 1 5 := fun b o w => by simp [Instr.fieldAt, go_sem]
theorem fldty73_0 : FldTy Try.prog 73 0 0 := fun b o w => by simp [Instr.fieldAt, go_sem]
theorem ent17 : ∀ args w, (callFunc 17 args).run Try.prog w = .ok (.enter 17 args) w := enters Try.func17 (by kernel_rfl) rfl
theorem bty4 : Try.prog.underlying 4 = some .bool := by kernel_rfl
theorem ent22 : ∀ args w, (callFunc 22 args).run Try.prog w = .ok (.enter 22 args) w := enters Try.func22 (by kernel_rfl) rfl
theorem ent25 : ∀ args w, (callFunc 25 args).run Try.prog w = .ok (.enter 25 args) w := enters Try.func25 (by kernel_rfl) rfl
end Go.Proofs.Ytnnccbagbgndpaa

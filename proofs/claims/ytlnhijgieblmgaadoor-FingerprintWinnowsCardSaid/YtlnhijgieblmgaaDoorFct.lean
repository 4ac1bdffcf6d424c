/-
  Small facts on the types and functions of this seat. (Printed by wip/sp/gen.py.)
-/
import Derived.Test.YtlnhijgieblmgaaDoorProg
import Derived.Test.YtlnhijgieblmgaaDoorTy
import Derived.Test.YtlnhijgieblmgaaDoorLibS
set_option linter.unusedVariables false
set_option linter.unusedSimpArgs false
namespace Go.Proofs.YtlnhijgieblmgaaDoor
open Vl (vl)
open Go.RowKit
theorem fldty24_0 : FldTy Tryd.prog 24 0 0 := fun b o w => by simp [Instr.fieldAt, go_sem]
theorem varty3 : VarTy Tryd.prog 3 false 1 := ⟨fun w => by simp [isAgg, go_sem], fun w => by simp [sizeOf, go_sem] <;> rfl⟩
theorem ent43 : ∀ args w, (callFunc 43 args).run Tryd.prog w = .ok (.enter 43 args) w := enters Tryd.func43 (by kernel_rfl) rfl
theorem fldty24_1 : FldTy Tryd.prog 24 1 1 := fun b o w => by simp [Instr.fieldAt, go_sem]
theorem varty9 : VarTy Tryd.prog 9 false 1 := ⟨fun w => by simp [isAgg, go_sem], fun w => by simp [sizeOf, go_sem] <;> rfl⟩
theorem slty72 : SlTy Tryd.prog 72 5 1 1 := SlTy.of (z := .int .u8 0) (by kernel_rfl) (by kernel_rfl) rfl
theorem varty5 : VarTy Tryd.prog 5 false 1 := ⟨fun w => by simp [isAgg, go_sem], fun w => by simp [sizeOf, go_sem] <;> rfl⟩
theorem varty24 : VarTy Tryd.prog 24 true 5 := ⟨fun w => by simp [isAgg, go_sem], fun w => by simp [sizeOf, go_sem] <;> rfl⟩
theorem ent32 : ∀ args w, (callFunc 32 args).run Tryd.prog w = .ok (.enter 32 args) w := enters Tryd.func32 (by kernel_rfl) rfl
theorem fldty24_4 : FldTy Tryd.prog 24 4 4 := fun b o w => by simp [Instr.fieldAt, go_sem]
theorem varty22 : VarTy Tryd.prog 22 false 1 := ⟨fun w => by simp [isAgg, go_sem], fun w => by simp [sizeOf, go_sem] <;> rfl⟩
theorem slty22 : SlTy Tryd.prog 22 24 5 64 := SlTy.of (z := .agg #[.int .i64 0, .string ByteArray.empty, .int .i64 0, .int .i64 0, .slice none 0 0]) (by kernel_rfl) (by kernel_rfl) rfl
theorem ent15 : ∀ args w, (callFunc 15 args).run Tryd.prog w = .ok (.enter 15 args) w := enters Tryd.func15 (by kernel_rfl) rfl
theorem slty25 : SlTy Tryd.prog 25 3 1 8 := SlTy.of (z := .int .i64 0) (by kernel_rfl) (by kernel_rfl) rfl
theorem ent35 : ∀ args w, (callFunc 35 args).run Tryd.prog w = .ok (.enter 35 args) w := enters Tryd.func35 (by kernel_rfl) rfl
theorem ent44 : ∀ args w, (callFunc 44 args).run Tryd.prog w = .ok (.enter 44 args) w := enters Tryd.func44 (by kernel_rfl) rfl
theorem ent31 : ∀ args w, (callFunc 31 args).run Tryd.prog w = .ok (.enter 31 args) w := enters Tryd.func31 (by kernel_rfl) rfl
theorem ent37 : ∀ args w, (callFunc 37 args).run Tryd.prog w = .ok (.enter 37 args) w := enters Tryd.func37 (by kernel_rfl) rfl
theorem ent45 : ∀ args w, (callFunc 45 args).run Tryd.prog w = .ok (.enter 45 args) w := enters Tryd.func45 (by kernel_rfl) rfl
theorem ent17 : ∀ args w, (callFunc 17 args).run Tryd.prog w = .ok (.enter 17 args) w := enters Tryd.func17 (by kernel_rfl) rfl
theorem slty28 : SlTy Tryd.prog 28 48 2 16 := SlTy.of (z := .agg #[.int .i64 0, .int .i64 0]) (by kernel_rfl) (by kernel_rfl) rfl
theorem fldty48_1 : FldTy Tryd.prog 48 1 1 := fun b o w => by simp [Instr.fieldAt, go_sem]
theorem ent20 : ∀ args w, (callFunc 20 args).run Tryd.prog w = .ok (.enter 20 args) w := enters Tryd.func20 (by kernel_rfl) rfl
theorem ent24 : ∀ args w, (callFunc 24 args).run Tryd.prog w = .ok (.enter 24 args) w := enters Tryd.func24 (by kernel_rfl) rfl
theorem varty48 : VarTy Tryd.prog 48 true 2 := ⟨fun w => by simp [isAgg, go_sem], fun w => by simp [sizeOf, go_sem] <;> rfl⟩
theorem fldty48_0 : FldTy Tryd.prog 48 0 0 := fun b o w => by simp [Instr.fieldAt, go_sem]
theorem kt3 : KT Tryd.prog 3 Int := kt_int (by kernel_rfl)
theorem mapty64 : Tryd.prog.underlying 64 = some (.map 3 4) := by kernel_rfl
theorem zero4 : ∀ w, (zeroValue 4).run Tryd.prog w = .ok (.bool false) w := fun w => by simp [go_sem] <;> rfl
theorem ent40 : ∀ args w, (callFunc 40 args).run Tryd.prog w = .ok (.enter 40 args) w := enters Tryd.func40 (by kernel_rfl) rfl
theorem ent39 : ∀ args w, (callFunc 39 args).run Tryd.prog w = .ok (.enter 39 args) w := enters Tryd.func39 (by kernel_rfl) rfl
theorem ent34 : ∀ args w, (callFunc 34 args).run Tryd.prog w = .ok (.enter 34 args) w := enters Tryd.func34 (by kernel_rfl) rfl
theorem sty9 : Tryd.prog.underlying 9 = some .string := by kernel_rfl
theorem ent33 : ∀ args w, (callFunc 33 args).run Tryd.prog w = .ok (.enter 33 args) w := enters Tryd.func33 (by kernel_rfl) rfl
theorem ent16 : ∀ args w, (callFunc 16 args).run Tryd.prog w = .ok (.enter 16 args) w := enters Tryd.func16 (by kernel_rfl) rfl
theorem ent36 : ∀ args w, (callFunc 36 args).run Tryd.prog w = .ok (.enter 36 args) w := enters Tryd.func36 (by kernel_rfl) rfl
theorem ent18 : ∀ args w, (callFunc 18 args).run Tryd.prog w = .ok (.enter 18 args) w := enters Tryd.func18 (by kernel_rfl) rfl
theorem slty62 : SlTy Tryd.prog 62 4 1 1 := SlTy.of (z := .bool false) (by kernel_rfl) (by kernel_rfl) rfl
theorem ent38 : ∀ args w, (callFunc 38 args).run Tryd.prog w = .ok (.enter 38 args) w := enters Tryd.func38 (by kernel_rfl) rfl
theorem varty4 : VarTy Tryd.prog 4 false 1 := ⟨fun w => by simp [isAgg, go_sem], fun w => by simp [sizeOf, go_sem] <;> rfl⟩
theorem ent21 : ∀ args w, (callFunc 21 args).run Tryd.prog w = .ok (.enter 21 args) w := enters Tryd.func21 (by kernel_rfl) rfl
theorem ent25 : ∀ args w, (callFunc 25 args).run Tryd.prog w = .ok (.enter 25 args) w := enters Tryd.func25 (by kernel_rfl) rfl
theorem ent41 : ∀ args w, (callFunc 41 args).run Tryd.prog w = .ok (.enter 41 args) w := enters Tryd.func41 (by kernel_rfl) rfl
theorem ent42 : ∀ args w, (callFunc 42 args).run Tryd.prog w = .ok (.enter 42 args) w := enters Tryd.func42 (by kernel_rfl) rfl
theorem eqst48 (a0 : Int) (a1 : Int) (b0 : Int) (b1 : Int) : EqSt Tryd.prog 48 [.int .i64 a0, .int .i64 a1] [.int .i64 b0, .int .i64 b1] ((decide (a0 = b0)) && (decide (a1 = b1))) := eqst_of (by kernel_rfl) (by kernel_rfl) (by kernel_rfl) fun w => by
  simp only [Program.fieldsOf, Tryd.underlying48]
  go_simp
  by_cases h0 : a0 = b0 <;> by_cases h1 : a1 = b1 <;> simp [*]
theorem ent30 : ∀ args w, (callFunc 30 args).run Tryd.prog w = .ok (.enter 30 args) w := enters Tryd.func30 (by kernel_rfl) rfl
theorem ent22 : ∀ args w, (callFunc 22 args).run Tryd.prog w = .ok (.enter 22 args) w := enters Tryd.func22 (by kernel_rfl) rfl
theorem ent12 : ∀ args w, (callFunc 12 args).run Tryd.prog w = .ok (.enter 12 args) w := enters Tryd.func12 (by kernel_rfl) rfl
theorem ent19 : ∀ args w, (callFunc 19 args).run Tryd.prog w = .ok (.enter 19 args) w := enters Tryd.func19 (by kernel_rfl) rfl
theorem ent14 : ∀ args w, (callFunc 14 args).run Tryd.prog w = .ok (.enter 14 args) w := enters Tryd.func14 (by kernel_rfl) rfl
theorem ent26 : ∀ args w, (callFunc 26 args).run Tryd.prog w = .ok (.enter 26 args) w := enters Tryd.func26 (by kernel_rfl) rfl
theorem ent10 : ∀ args w, (callFunc 10 args).run Tryd.prog w = .ok (.enter 10 args) w := enters Tryd.func10 (by kernel_rfl) rfl
theorem ent11 : ∀ args w, (callFunc 11 args).run Tryd.prog w = .ok (.enter 11 args) w := enters Tryd.func11 (by kernel_rfl) rfl
theorem ent13 : ∀ args w, (callFunc 13 args).run Tryd.prog w = .ok (.enter 13 args) w := enters Tryd.func13 (by kernel_rfl) rfl
theorem ent23 : ∀ args w, (callFunc 23 args).run Tryd.prog w = .ok (.enter 23 args) w := enters Tryd.func23 (by kernel_rfl) rfl
theorem ent27 : ∀ args w, (callFunc 27 args).run Tryd.prog w = .ok (.enter 27 args) w := enters Tryd.func27 (by kernel_rfl) rfl
theorem varty25 : VarTy Tryd.prog 25 false 1 := ⟨fun w => by simp [isAgg, go_sem], fun w => by simp [sizeOf, go_sem] <;> rfl⟩
theorem kt48 : KT Tryd.prog 48 Mark := kt_of_eq Tryd.underlying48 (fun _ _ => rfl) (fun em k w => by
  simp only [vl]
  rw [show (10000 : Nat) = 9998 + 1 + 1 from rfl]
  generalize 9998 = n
  rw [Instr.checkKey]
  simp only [run_underlying Tryd.underlying48, Sem.run_bind, Result.andThen_ok]
  simp [go_sem, Instr.checkKey]) (fun a b w => by
  have h := (eqst48 a.hash a.at_ b.hash b.at_).2 w
  have e : ((decide (a.hash = b.hash)) && (decide (a.at_ = b.at_))) = decide (a = b) := by
    obtain ⟨x0, x1⟩ := a
    obtain ⟨y0, y1⟩ := b
    simp
  rw [e] at h
  exact h) (fun k => by
  simp only [vl]
  rw [show (10000 : Nat) = 9999 + 1 from rfl, Instr.sameBits]
  simp [Instr.sameBits])
theorem mapty49 : Tryd.prog.underlying 49 = some (.map 48 4) := by kernel_rfl
theorem ent28 : ∀ args w, (callFunc 28 args).run Tryd.prog w = .ok (.enter 28 args) w := enters Tryd.func28 (by kernel_rfl) rfl
theorem ent29 : ∀ args w, (callFunc 29 args).run Tryd.prog w = .ok (.enter 29 args) w := enters Tryd.func29 (by kernel_rfl) rfl
theorem bty4 : Tryd.prog.underlying 4 = some .bool := by kernel_rfl
end Go.Proofs.YtlnhijgieblmgaaDoor

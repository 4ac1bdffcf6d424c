/-
  Small facts on the types and functions of this seat. (Printed by wip/sp/gen.py.)
-/
import Derived.Test.YtmfepkadggigpaaProg
import Derived.Test.YtmfepkadggigpaaTy
import Derived.Test.YtmfepkadggigpaaClr
set_option linter.unusedVariables false
set_option linter.unusedSimpArgs false
namespace Go.Proofs.Ytmfepkadggigpaa
open Vl (vl)
open Go.RowKit
theorem slty23 : SlTy Try.prog 23 3 1 8 := SlTy.of (z := .int .i64 0) (by kernel_rfl) (by kernel_rfl) rfl
theorem varty3 : VarTy Try.prog 3 false 1 := ⟨fun w => by simp [isAgg, go_sem], fun w => by simp [sizeOf, go_sem] <;> rfl⟩
theorem fldty52_2 : FldTy Try.prog 52 2 2 := fun b o w => by simp [Instr.fieldAt, go_sem]
theorem fldty52_3 : FldTy Try.prog 52 3 3 := fun b o w => by simp [Instr.fieldAt, go_sem]
theorem ent46 : ∀ args w, (callFunc 46 args).run Try.prog w = .ok (.enter 46 args) w := enters Try.func46 (by kernel_rfl) rfl
theorem fldty52_0 : FldTy Try.prog 52 0 0 := fun b o w => by simp [Instr.fieldAt, go_sem]
theorem fldty52_1 : FldTy Try.prog 52 1 1 := fun b o w => by simp [Instr.fieldAt, go_sem]
theorem ent45 : ∀ args w, (callFunc 45 args).run Try.prog w = .ok (.enter 45 args) w := enters Try.func45 (by kernel_rfl) rfl
theorem fldty63_2 : FldTy Try.prog 63 2 2 := fun b o w => by simp [Instr.fieldAt, go_sem]
theorem fldty63_0 : FldTy Try.prog 63 0 0 := fun b o w => by simp [Instr.fieldAt, go_sem]
theorem fldty63_1 : FldTy Try.prog 63 1 1 := fun b o w => by simp [Instr.fieldAt, go_sem]
theorem slty26 : SlTy Try.prog 26 65 2 16 := SlTy.of (z := .agg #[.int .i64 0, .int .i64 0]) (by kernel_rfl) (by kernel_rfl) rfl
theorem varty65 : VarTy Try.prog 65 true 2 := ⟨fun w => by simp [isAgg, go_sem], fun w => by simp [sizeOf, go_sem] <;> rfl⟩
theorem fldty65_0 : FldTy Try.prog 65 0 0 := fun b o w => by simp [Instr.fieldAt, go_sem]
theorem kt3 : KT Try.prog 3 Int := kt_int (by kernel_rfl)
theorem mapty70 : Try.prog.underlying 70 = some (.map 3 4) := by kernel_rfl
theorem ent34 : ∀ args w, (callFunc 34 args).run Try.prog w = .ok (.enter 34 args) w := enters Try.func34 (by kernel_rfl) rfl
theorem ent33 : ∀ args w, (callFunc 33 args).run Try.prog w = .ok (.enter 33 args) w := enters Try.func33 (by kernel_rfl) rfl
theorem ent32 : ∀ args w, (callFunc 32 args).run Try.prog w = .ok (.enter 32 args) w := enters Try.func32 (by kernel_rfl) rfl
theorem zero4 : ∀ w, (zeroValue 4).run Try.prog w = .ok (.bool false) w := fun w => by simp [go_sem] <;> rfl
theorem ent62 : ∀ args w, (callFunc 62 args).run Try.prog w = .ok (.enter 62 args) w := enters Try.func62 (by kernel_rfl) rfl
theorem varty23 : VarTy Try.prog 23 false 1 := ⟨fun w => by simp [isAgg, go_sem], fun w => by simp [sizeOf, go_sem] <;> rfl⟩
theorem ent39 : ∀ args w, (callFunc 39 args).run Try.prog w = .ok (.enter 39 args) w := enters Try.func39 (by kernel_rfl) rfl
theorem ent38 : ∀ args w, (callFunc 38 args).run Try.prog w = .ok (.enter 38 args) w := enters Try.func38 (by kernel_rfl) rfl
theorem ent61 : ∀ args w, (callFunc 61 args).run Try.prog w = .ok (.enter 61 args) w := enters Try.func61 (by kernel_rfl) rfl
theorem zero65 : ∀ w, (zeroValue 65).run Try.prog w = .ok (.agg #[.int .i64 0, .int .i64 0]) w := fun w => by simp [go_sem] <;> rfl
theorem ent37 : ∀ args w, (callFunc 37 args).run Try.prog w = .ok (.enter 37 args) w := enters Try.func37 (by kernel_rfl) rfl
theorem ent36 : ∀ args w, (callFunc 36 args).run Try.prog w = .ok (.enter 36 args) w := enters Try.func36 (by kernel_rfl) rfl
theorem slty22 : SlTy Try.prog 22 26 1 24 := SlTy.of (z := .slice none 0 0) (by kernel_rfl) (by kernel_rfl) rfl
theorem varty26 : VarTy Try.prog 26 false 1 := ⟨fun w => by simp [isAgg, go_sem], fun w => by simp [sizeOf, go_sem] <;> rfl⟩
theorem mapty49 : Try.prog.underlying 49 = some (.map 3 3) := by kernel_rfl
theorem zero3 : ∀ w, (zeroValue 3).run Try.prog w = .ok (.int .i64 0) w := fun w => by simp [go_sem] <;> rfl
theorem ent40 : ∀ args w, (callFunc 40 args).run Try.prog w = .ok (.enter 40 args) w := enters Try.func40 (by kernel_rfl) rfl
theorem ent42 : ∀ args w, (callFunc 42 args).run Try.prog w = .ok (.enter 42 args) w := enters Try.func42 (by kernel_rfl) rfl
theorem ent18 : ∀ args w, (callFunc 18 args).run Try.prog w = .ok (.enter 18 args) w := enters Try.func18 (by kernel_rfl) rfl
theorem slty37 : SlTy Try.prog 37 52 4 32 := SlTy.of (z := .agg #[.int .i64 0, .int .i64 0, .int .i64 0, .int .i64 0]) (by kernel_rfl) (by kernel_rfl) rfl
theorem ent43 : ∀ args w, (callFunc 43 args).run Try.prog w = .ok (.enter 43 args) w := enters Try.func43 (by kernel_rfl) rfl
theorem varty84 : VarTy Try.prog 84 false 1 := ⟨fun w => by simp [isAgg, go_sem], fun w => by simp [sizeOf, go_sem] <;> rfl⟩
theorem ent48 : ∀ args w, (callFunc 48 args).run Try.prog w = .ok (.enter 48 args) w := enters Try.func48 (by kernel_rfl) rfl
theorem varty52 : VarTy Try.prog 52 true 4 := ⟨fun w => by simp [isAgg, go_sem], fun w => by simp [sizeOf, go_sem] <;> rfl⟩
theorem mapty85 : Try.prog.underlying 85 = some (.map 3 23) := by kernel_rfl
theorem zero23 : ∀ w, (zeroValue 23).run Try.prog w = .ok (.slice none 0 0) w := fun w => by simp [go_sem] <;> rfl
theorem ent49 : ∀ args w, (callFunc 49 args).run Try.prog w = .ok (.enter 49 args) w := enters Try.func49 (by kernel_rfl) rfl
theorem slty45 : SlTy Try.prog 45 23 1 24 := SlTy.of (z := .slice none 0 0) (by kernel_rfl) (by kernel_rfl) rfl
theorem fldty65_1 : FldTy Try.prog 65 1 1 := fun b o w => by simp [Instr.fieldAt, go_sem]
theorem ent59 : ∀ args w, (callFunc 59 args).run Try.prog w = .ok (.enter 59 args) w := enters Try.func59 (by kernel_rfl) rfl
theorem ent50 : ∀ args w, (callFunc 50 args).run Try.prog w = .ok (.enter 50 args) w := enters Try.func50 (by kernel_rfl) rfl
theorem ent51 : ∀ args w, (callFunc 51 args).run Try.prog w = .ok (.enter 51 args) w := enters Try.func51 (by kernel_rfl) rfl
theorem ent52 : ∀ args w, (callFunc 52 args).run Try.prog w = .ok (.enter 52 args) w := enters Try.func52 (by kernel_rfl) rfl
theorem slty56 : SlTy Try.prog 56 63 3 24 := SlTy.of (z := .agg #[.int .i64 0, .int .i64 0, .int .i64 0]) (by kernel_rfl) (by kernel_rfl) rfl
theorem ent53 : ∀ args w, (callFunc 53 args).run Try.prog w = .ok (.enter 53 args) w := enters Try.func53 (by kernel_rfl) rfl
theorem eqst65 (a0 : Int) (a1 : Int) (b0 : Int) (b1 : Int) : EqSt Try.prog 65 [.int .i64 a0, .int .i64 a1] [.int .i64 b0, .int .i64 b1] ((decide (a0 = b0)) && (decide (a1 = b1))) := eqst_of (by kernel_rfl) (by kernel_rfl) (by kernel_rfl) fun w => by
  simp only [Program.fieldsOf, Try.underlying65]
  go_simp
  by_cases h0 : a0 = b0 <;> by_cases h1 : a1 = b1 <;> simp [*]
theorem ent35 : ∀ args w, (callFunc 35 args).run Try.prog w = .ok (.enter 35 args) w := enters Try.func35 (by kernel_rfl) rfl
theorem ent14 : ∀ args w, (callFunc 14 args).run Try.prog w = .ok (.enter 14 args) w := enters Try.func14 (by kernel_rfl) rfl
theorem ent28 : ∀ args w, (callFunc 28 args).run Try.prog w = .ok (.enter 28 args) w := enters Try.func28 (by kernel_rfl) rfl
theorem ent19 : ∀ args w, (callFunc 19 args).run Try.prog w = .ok (.enter 19 args) w := enters Try.func19 (by kernel_rfl) rfl
theorem ent47 : ∀ args w, (callFunc 47 args).run Try.prog w = .ok (.enter 47 args) w := enters Try.func47 (by kernel_rfl) rfl
theorem ent55 : ∀ args w, (callFunc 55 args).run Try.prog w = .ok (.enter 55 args) w := enters Try.func55 (by kernel_rfl) rfl
theorem ent56 : ∀ args w, (callFunc 56 args).run Try.prog w = .ok (.enter 56 args) w := enters Try.func56 (by kernel_rfl) rfl
theorem varty63 : VarTy Try.prog 63 true 3 := ⟨fun w => by simp [isAgg, go_sem], fun w => by simp [sizeOf, go_sem] <;> rfl⟩
theorem ent57 : ∀ args w, (callFunc 57 args).run Try.prog w = .ok (.enter 57 args) w := enters Try.func57 (by kernel_rfl) rfl
theorem eqst63 (a0 : Int) (a1 : Int) (a2 : Int) (b0 : Int) (b1 : Int) (b2 : Int) : EqSt Try.prog 63 [.int .i64 a0, .int .i64 a1, .int .i64 a2] [.int .i64 b0, .int .i64 b1, .int .i64 b2] ((decide (a0 = b0)) && (decide (a1 = b1)) && (decide (a2 = b2))) := eqst_of (by kernel_rfl) (by kernel_rfl) (by kernel_rfl) fun w => by
  simp only [Program.fieldsOf, Try.underlying63]
  go_simp
  by_cases h0 : a0 = b0 <;> by_cases h1 : a1 = b1 <;> by_cases h2 : a2 = b2 <;> simp [*]
theorem eqst52 (a0 : Int) (a1 : Int) (a2 : Int) (a3 : Int) (b0 : Int) (b1 : Int) (b2 : Int) (b3 : Int) : EqSt Try.prog 52 [.int .i64 a0, .int .i64 a1, .int .i64 a2, .int .i64 a3] [.int .i64 b0, .int .i64 b1, .int .i64 b2, .int .i64 b3] ((decide (a0 = b0)) && (decide (a1 = b1)) && (decide (a2 = b2)) && (decide (a3 = b3))) := eqst_of (by kernel_rfl) (by kernel_rfl) (by kernel_rfl) fun w => by
  simp only [Program.fieldsOf, Try.underlying52]
  go_simp
  by_cases h0 : a0 = b0 <;> by_cases h1 : a1 = b1 <;> by_cases h2 : a2 = b2 <;> by_cases h3 : a3 = b3 <;> simp [*]
theorem ent29 : ∀ args w, (callFunc 29 args).run Try.prog w = .ok (.enter 29 args) w := enters Try.func29 (by kernel_rfl) rfl
theorem ent22 : ∀ args w, (callFunc 22 args).run Try.prog w = .ok (.enter 22 args) w := enters Try.func22 (by kernel_rfl) rfl
theorem ent26 : ∀ args w, (callFunc 26 args).run Try.prog w = .ok (.enter 26 args) w := enters Try.func26 (by kernel_rfl) rfl
theorem ent31 : ∀ args w, (callFunc 31 args).run Try.prog w = .ok (.enter 31 args) w := enters Try.func31 (by kernel_rfl) rfl
theorem ent24 : ∀ args w, (callFunc 24 args).run Try.prog w = .ok (.enter 24 args) w := enters Try.func24 (by kernel_rfl) rfl
theorem ent12 : ∀ args w, (callFunc 12 args).run Try.prog w = .ok (.enter 12 args) w := enters Try.func12 (by kernel_rfl) rfl
theorem ent13 : ∀ args w, (callFunc 13 args).run Try.prog w = .ok (.enter 13 args) w := enters Try.func13 (by kernel_rfl) rfl
theorem ent16 : ∀ args w, (callFunc 16 args).run Try.prog w = .ok (.enter 16 args) w := enters Try.func16 (by kernel_rfl) rfl
theorem ent20 : ∀ args w, (callFunc 20 args).run Try.prog w = .ok (.enter 20 args) w := enters Try.func20 (by kernel_rfl) rfl
theorem ent10 : ∀ args w, (callFunc 10 args).run Try.prog w = .ok (.enter 10 args) w := enters Try.func10 (by kernel_rfl) rfl
theorem ent11 : ∀ args w, (callFunc 11 args).run Try.prog w = .ok (.enter 11 args) w := enters Try.func11 (by kernel_rfl) rfl
theorem ent17 : ∀ args w, (callFunc 17 args).run Try.prog w = .ok (.enter 17 args) w := enters Try.func17 (by kernel_rfl) rfl
theorem ent15 : ∀ args w, (callFunc 15 args).run Try.prog w = .ok (.enter 15 args) w := enters Try.func15 (by kernel_rfl) rfl
theorem ent21 : ∀ args w, (callFunc 21 args).run Try.prog w = .ok (.enter 21 args) w := enters Try.func21 (by kernel_rfl) rfl
theorem ent23 : ∀ args w, (callFunc 23 args).run Try.prog w = .ok (.enter 23 args) w := enters Try.func23 (by kernel_rfl) rfl
theorem ent25 : ∀ args w, (callFunc 25 args).run Try.prog w = .ok (.enter 25 args) w := enters Try.func25 (by kernel_rfl) rfl
theorem bty4 : Try.prog.underlying 4 = some .bool := by kernel_rfl
theorem ent27 : ∀ args w, (callFunc 27 args).run Try.prog w = .ok (.enter 27 args) w := enters Try.func27 (by kernel_rfl) rfl
theorem ent30 : ∀ args w, (callFunc 30 args).run Try.prog w = .ok (.enter 30 args) w := enters Try.func30 (by kernel_rfl) rfl
theorem kt63 : KT Try.prog 63 Overlap := kt_of_eq Try.underlying63 (fun _ _ => rfl) (fun em k w => by
  simp only [vl]
  rw [show (10000 : Nat) = 9998 + 1 + 1 from rfl]
  generalize 9998 = n
  rw [Instr.checkKey]
  simp only [run_underlying Try.underlying63, Sem.run_bind, Result.andThen_ok]
  simp [go_sem, Instr.checkKey]) (fun a b w => by
  have h := (eqst63 a.a a.b a.len b.a b.b b.len).2 w
  have e : ((decide (a.a = b.a)) && (decide (a.b = b.b)) && (decide (a.len = b.len))) = decide (a = b) := by
    obtain ⟨x0, x1, x2⟩ := a
    obtain ⟨y0, y1, y2⟩ := b
    rw [Bool.eq_iff_iff]; simp [and_assoc]
  rw [e] at h
  exact h) (fun k => by
  simp only [vl]
  rw [show (10000 : Nat) = 9999 + 1 from rfl, Instr.sameBits]
  simp [Instr.sameBits] <;> exact ba_beq _)
theorem mapty61 : Try.prog.underlying 61 = some (.map 63 4) := by kernel_rfl
end Go.Proofs.Ytmfepkadggigpaa

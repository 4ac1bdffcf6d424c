/-
  How the arguments of the laws are read. (Printed by wip/sp/gen.py.)
-/
import Derived.Test.YtmjmoogldbejoaaRows
import Derived.Test.YtmjmoogldbejoaaRow
import Derived.Test.YtmjmoogldbejoaaTy
set_option linter.unusedVariables false
set_option linter.unusedSimpArgs false
namespace Go.Proofs.Ytmjmoogldbejoaa
open Go.ChangeShapes Go.WideShapes Go.ChangeAt Go.RowKit
theorem own_ : ownKnob Try.prog.godebug = none := by kernel_rfl
theorem laidOut_ : laidOutB Try.prog = true := by kernel_rfl
theorem reads23 : Reads Try.prog 23 Rule (fun a : Rule => I64 a.kind ∧ I64 a.most ∧ I64 a.pause ∧ I64 a.keep) := ⟨by kernel_rfl, by decide, fun {H enc w base spare held fuel cs x} h => by
  obtain ⟨xs, n, _, _, hl, hx, hf⟩ := DataW.trod_struct Try.underlying23 h
  have hl2 : cs.length = 4 := hl.trans (by kernel_rfl)
  have hx2 : xs.length = 4 := hx
  have k3 : Try.prog.cellsOf 3 = 1 := by kernel_rfl
  match cs, hl2, xs, hx2 with
  | [c0, c1, c2, c3], _, [y0, y1, y2, y3], _ =>
    have z0 := hf 0 _ rfl
    simp [k3] at z0
    obtain ⟨n0, e0, _, w0⟩ := DataW.trod_int Try.underlying3 z0
    have z1 := hf 1 _ rfl
    simp [k3] at z1
    obtain ⟨n1, e1, _, w1⟩ := DataW.trod_int Try.underlying3 z1
    have z2 := hf 2 _ rfl
    simp [k3] at z2
    obtain ⟨n2, e2, _, w2⟩ := DataW.trod_int Try.underlying3 z2
    have z3 := hf 3 _ rfl
    simp [k3] at z3
    obtain ⟨n3, e3, _, w3⟩ := DataW.trod_int Try.underlying3 z3
    simp only [List.cons.injEq, and_true] at e0 e1 e2 e3
    subst e0 e1 e2 e3
    exact ⟨⟨n0, n1, n2, n3⟩, rfl, I64.of w0, I64.of w1, I64.of w2, I64.of w3⟩⟩
theorem reads38 : Reads Try.prog 38 Att (fun a : Att => I64 a.num ∧ I64 a.tick ∧ I64 a.pts) := ⟨by kernel_rfl, by decide, fun {H enc w base spare held fuel cs x} h => by
  obtain ⟨xs, n, _, _, hl, hx, hf⟩ := DataW.trod_struct Try.underlying38 h
  have hl2 : cs.length = 3 := hl.trans (by kernel_rfl)
  have hx2 : xs.length = 3 := hx
  have k3 : Try.prog.cellsOf 3 = 1 := by kernel_rfl
  match cs, hl2, xs, hx2 with
  | [c0, c1, c2], _, [y0, y1, y2], _ =>
    have z0 := hf 0 _ rfl
    simp [k3] at z0
    obtain ⟨n0, e0, _, w0⟩ := DataW.trod_int Try.underlying3 z0
    have z1 := hf 1 _ rfl
    simp [k3] at z1
    obtain ⟨n1, e1, _, w1⟩ := DataW.trod_int Try.underlying3 z1
    have z2 := hf 2 _ rfl
    simp [k3] at z2
    obtain ⟨n2, e2, _, w2⟩ := DataW.trod_int Try.underlying3 z2
    simp only [List.cons.injEq, and_true] at e0 e1 e2
    subst e0 e1 e2
    exact ⟨⟨n0, n1, n2⟩, rfl, I64.of w0, I64.of w1, I64.of w2⟩⟩
end Go.Proofs.Ytmjmoogldbejoaa

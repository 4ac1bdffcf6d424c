/-
  How the arguments of the laws are read. (Printed by wip/sp/gen.py.)
-/
import Derived.Test.YtmfepkadggigpaaRows
import Derived.Test.YtmfepkadggigpaaRow
import Derived.Test.YtmfepkadggigpaaTy
set_option linter.unusedVariables false
set_option linter.unusedSimpArgs false
namespace Go.Proofs.Ytmfepkadggigpaa
open Go.ChangeShapes Go.WideShapes Go.ChangeAt Go.RowKit
theorem own_ : ownKnob Try.prog.godebug = none := by kernel_rfl
theorem laidOut_ : laidOutB Try.prog = true := by kernel_rfl

set_option maxRecDepth 100000 in
theorem reads65 : Reads Try.prog 65 Mark (fun a : Mark => I64 a.hash ∧ I64 a.at_) := ⟨by kernel_rfl, by decide, fun {H enc w base spare held fuel cs x} h => by
  obtain ⟨xs, n, _, _, hl, hx, hf⟩ := DataW.trod_struct Try.underlying65 h
  have hl2 : cs.length = 2 := hl.trans (by kernel_rfl)
  have hx2 : xs.length = 2 := hx
  have k3 : Try.prog.cellsOf 3 = 1 := by kernel_rfl
  match cs, hl2, xs, hx2 with
  | [c0, c1], _, [y0, y1], _ =>
    have z0 := hf 0 _ rfl
    simp [k3] at z0
    obtain ⟨n0, e0, _, w0⟩ := DataW.trod_int Try.underlying3 z0
    have z1 := hf 1 _ rfl
    simp [k3] at z1
    obtain ⟨n1, e1, _, w1⟩ := DataW.trod_int Try.underlying3 z1
    simp only [List.cons.injEq, and_true] at e0 e1
    subst e0 e1
    exact ⟨⟨n0, n1⟩, rfl, I64.of w0, I64.of w1⟩⟩
theorem reads26 : Reads Try.prog 26 (List Mark) (LW (fun a : Mark => I64 a.hash ∧ I64 a.at_)) := ⟨by kernel_rfl, by decide, fun h => by
  obtain ⟨l, v, rfl, h1, h2⟩ := reads_slice reads65 Try.underlying26 h
  exact ⟨l, ⟨v, rfl, h1⟩, h2⟩⟩
theorem reads3 : Reads Try.prog 3 Int I64 := reads_int Try.underlying3 (by kernel_rfl)
set_option maxRecDepth 100000 in
theorem reads52 : Reads Try.prog 52 Pair (fun a : Pair => I64 a.a ∧ I64 a.b ∧ I64 a.shared ∧ I64 a.total) := ⟨by kernel_rfl, by decide, fun {H enc w base spare held fuel cs x} h => by
  obtain ⟨xs, n, _, _, hl, hx, hf⟩ := DataW.trod_struct Try.underlying52 h
  have hl2 : cs.length = 4 := hl.trans (by kernel_rfl)
  have hx2 : xs.length = 4 := hx
  have k3 : Try.prog.cellsOf 3 = 1 := by kernel_rfl
  match cs, hl2, xs, hx2 with
  | [c0, c1, c2, c3], _, [y0, y1, y2, y3], _ =>
    have z0 := hf 0 _ rfl
    simp [k3] at z0
    obtain ⟨n0, e0, _, w0⟩ := DataW.trod_int Try.underlying3 z0
    have z1 := hf 1 _ rfl
    simp [k3] at z1
    obtain ⟨n1, e1, _, w1⟩ := DataW.trod_int Try.underlying3 z1
    have z2 := hf 2 _ rfl
    simp [k3] at z2
    obtain ⟨n2, e2, _, w2⟩ := DataW.trod_int Try.underlying3 z2
    have z3 := hf 3 _ rfl
    simp [k3] at z3
    obtain ⟨n3, e3, _, w3⟩ := DataW.trod_int Try.underlying3 z3
    simp only [List.cons.injEq, and_true] at e0 e1 e2 e3
    subst e0 e1 e2 e3
    exact ⟨⟨n0, n1, n2, n3⟩, rfl, I64.of w0, I64.of w1, I64.of w2, I64.of w3⟩⟩
end Go.Proofs.Ytmfepkadggigpaa

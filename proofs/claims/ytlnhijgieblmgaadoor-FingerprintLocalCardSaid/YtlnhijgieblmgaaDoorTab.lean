/-
  The table of the powers of ten, which lies for ever.
-/
import Derived.Test.YtlnhijgieblmgaaDoorProg
import Derived.Test.YtlnhijgieblmgaaDoorLibD
import Derived.Lib.LaidTab
set_option linter.unusedVariables false
set_option linter.unusedSimpArgs false
namespace Go.Proofs.YtlnhijgieblmgaaDoor
open Go.RowKit
/-- In what is read for ever lies the table. -/
def Tabs (ρ : PH) : Prop := ∀ w : World, ρ.le (hp w) → Lib.TabIs Tryd.prog w "internal/strconv.uint64pow10" .u64 Lib.pow10Tab
theorem Tabs.mono {ρ ρ' : PH} (h : Tabs ρ) (hl : ρ.le ρ') : Tabs ρ' := fun w hw => h w (hl.tr hw)
theorem Tabs.of {W : World} (h : Lib.TabIs Tryd.prog W "internal/strconv.uint64pow10" .u64 Lib.pow10Tab) : Tabs (hp W) := fun w hw => by
  unfold Lib.TabIs World.var? at *
  obtain ⟨g, hg, h⟩ := Option.bind_eq_some_iff.1 h
  refine Option.bind_eq_some_iff.2 ⟨g, hg, ?_⟩
  split at h
  · rename_i cs el fz hb
    rw [show w.heap[g]? = some (.cells cs el fz) from hw g _ hb]
    exact h
  · cases h
end Go.Proofs.YtlnhijgieblmgaaDoor

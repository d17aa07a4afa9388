/- law03.same: whether two lists of numbers are equal. -/
import Derived.Test.YtmnbhdhgjbgidaaDoorKit
namespace Go.Proofs.YtmnbhdhgjbgidaaDoor
open Go.RowKit

theorem szint : (Tryd.prog.info? 3).map (·.size) = some 1 := by kernel_rfl
theorem eq_of_all {α : Type} {a b : List α} (hl : a.length = b.length) (h : ∀ j (ha : j < a.length) (hb : j < b.length), a[j] = b[j]) : a = b := List.ext_getElem hl h
theorem ne_of_at {α : Type} {a b : List α} {j : Nat} (ha : j < a.length) (hb : j < b.length) (h : a[j] ≠ b[j]) : a ≠ b := fun e => h (by subst e; rfl)
theorem IL.ix {w : World} {x : IL} (hx : x.In w) {i : Nat} (hi : i < x.l.length) : ∀ W, (Instr.indexAt 22 (.slice x.h.ao x.l.length x.h.cap) (.int .i64 (i : Int))).run Tryd.prog W = .ok (.pointer (some ⟨x.h.b, x.h.o + i, none⟩)) W := by
  have := hx.1.ix hi Tryd.underlying22 szint
  simpa using this


end Go.Proofs.YtmnbhdhgjbgidaaDoor

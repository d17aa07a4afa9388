/- The sizes of the elements' types. -/
import Derived.Test.YtmnbhdhgjbgidaaDoorSize
namespace Go.Proofs.YtmnbhdhgjbgidaaDoor
open Go.RowKit

theorem sz69 : (Tryd.prog.info? 79).map (·.size) = some 1 := by kernel_rfl
theorem sz74 : (Tryd.prog.info? 63).map (·.size) = some 7 := by kernel_rfl
theorem sz46 : (Tryd.prog.info? 57).map (·.size) = some 15 := by kernel_rfl
def Agg.In (w : World) (a : Agg) : Prop := int64 a.fn ∧ a.arg.In w
theorem Agg.In.mono {w w' : World} {a : Agg} (h : a.In w) (hb : Below w.heap.size w w') : a.In w' := ⟨h.1, h.2.mono hb⟩

end Go.Proofs.YtmnbhdhgjbgidaaDoor

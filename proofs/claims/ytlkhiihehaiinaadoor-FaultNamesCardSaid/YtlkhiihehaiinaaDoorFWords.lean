/- ref36.operations, operators: the words. -/
import Derived.Test.YtlkhiihehaiinaaDoorFPick
namespace Go.Proofs.YtlkhiihehaiinaaDoor
open Go.RowKit

def opsW : List (List UInt8) := [[97, 100, 100], [115, 117, 98], [109, 117, 108], [100, 105, 118], [109, 111, 100], [110, 101, 103], [99, 111, 110, 99, 97, 116], [108, 101, 110, 103, 116, 104], [101, 113], [110, 101], [108, 116], [108, 101], [103, 116], [103, 101], [115, 97, 109, 101], [105, 115, 110, 117, 108, 108], [97, 110, 100], [111, 114], [110, 111, 116], [105, 115, 116, 114, 117, 101], [99, 97, 115, 101], [99, 111, 97, 108, 101, 115, 99, 101], [105, 110]]
def pwsW : List (List UInt8) := [[115, 99, 97, 110], [118, 97, 108, 117, 101, 115], [102, 105, 108, 116, 101, 114], [112, 114, 111, 106, 101, 99, 116], [108, 111, 111, 112], [104, 97, 115, 104], [109, 101, 114, 103, 101], [115, 111, 114, 116], [104, 97, 115, 104, 103, 114, 111, 117, 112], [115, 111, 114, 116, 103, 114, 111, 117, 112], [97, 112, 112, 101, 110, 100], [100, 105, 115, 116, 105, 110, 99, 116], [117, 110, 105, 113, 117, 101], [101, 120, 99, 101, 112, 116], [105, 110, 116, 101, 114, 115, 101, 99, 116]]
set_option maxRecDepth 100000 in
theorem operations_any (w : World) : Calls Tryd.prog 23 #[] w fun e w' => e = .returned (.slice (some ⟨w.heap.size, 0, none⟩) 23 23) ∧ (∀ j x, opsW[j]? = some x → w'.cell? ⟨w.heap.size, j, none⟩ = some (.string (mk x))) ∧ Below w.heap.size w w' := by
  go_enter Tryd.func23, Tryd.ntmps23
  go_wp2
  go_ret
  refine ⟨rfl, fun j x hj => ?_, (Below.refl _ w).alloc (Nat.le_refl _) _⟩
  show (w.alloc (.cells (opsW.map fun l => Value.string (mk l)).toArray 9)).cell? _ = _
  rw [World.cell?_alloc_at _ _ _ _ rfl, List.getElem?_toArray, List.getElem?_map, hj]
  rfl

set_option maxRecDepth 100000 in
theorem operators_any (w : World) : Calls Tryd.prog 24 #[] w fun e w' => e = .returned (.slice (some ⟨w.heap.size, 0, none⟩) 15 15) ∧ (∀ j x, pwsW[j]? = some x → w'.cell? ⟨w.heap.size, j, none⟩ = some (.string (mk x))) ∧ Below w.heap.size w w' := by
  go_enter Tryd.func24, Tryd.ntmps24
  go_wp2
  go_ret
  refine ⟨rfl, fun j x hj => ?_, (Below.refl _ w).alloc (Nat.le_refl _) _⟩
  show (w.alloc (.cells (pwsW.map fun l => Value.string (mk l)).toArray 9)).cell? _ = _
  rw [World.cell?_alloc_at _ _ _ _ rfl, List.getElem?_toArray, List.getElem?_map, hj]
  rfl

end Go.Proofs.YtlkhiihehaiinaaDoor

/- A block that is just these cells. -/
import Derived.Test.YtlkhiihehaiinaaDoorData
import Derived.Test.YtlkhiihehaiinaaDoorKit
import Derived.Deep.AppendLies
import Derived.Laws.OwnMore
namespace Go.Proofs.YtlkhiihehaiinaaDoor
open Go.RowKit

/-- Block g is just these cells. -/
def Box (w : World) (g : Nat) (cs : Array Value) (T : TypeId) : Prop := w.heap[g]? = some (.cells cs T (0, 0))
theorem Box.new (w : World) (cs : Array Value) (T : TypeId) : Box (w.alloc (.cells cs T)) w.heap.size cs T := heap_alloc_new w _
theorem Box.lt {w : World} {g : Nat} {cs : Array Value} {T : TypeId} (h : Box w g cs T) : g < w.heap.size := (Array.getElem?_eq_some_iff.1 h).1
theorem Box.cell {w : World} {g : Nat} {cs : Array Value} {T : TypeId} (h : Box w g cs T) {j : Nat} {v : Value} (hv : cs[j]? = some v) : w.cell? ⟨g, j, none⟩ = some v := by
  rw [cell_of_row w g j cs T (0, 0) h]; exact hv
theorem Box.fr {w : World} {g : Nat} {cs : Array Value} {T : TypeId} (h : Box w g cs T) (j : Nat) : w.frozen? ⟨g, j, none⟩ = false := by
  unfold Box at h
  simp [World.frozen?, h]
theorem Box.below {w w' : World} {g : Nat} {cs : Array Value} {T : TypeId} (h : Box w g cs T) (hb : Below w.heap.size w w') : Box w' g cs T := (hb.block g h.lt).trans h
theorem Box.grown {w w' : World} {g : Nat} {cs : Array Value} {T : TypeId} {row : Option Nat} (h : Box w g cs T) (hb : w.grownBy w' row) (hne : some g ≠ row) : Box w' g cs T := (hb.block g h.lt hne).trans h
theorem gb_set (w : World) (g j : Nat) (u : Value) : w.grownBy (w.setCell ⟨g, j, none⟩ u) (some g) := ⟨rfl, rfl, rfl, by simp [World.setCell], fun i _ hi => Below.heap_setCell _ _ _ _ (fun e => hi (by rw [e]))⟩
theorem gb_then {a b c : World} {r : Option Nat} {g : Nat} (h : a.grownBy b r) (k : b.grownBy c (some g)) (hg : a.heap.size ≤ g) : a.grownBy c r := h.andThen k (fun j e => .inl (by cases e; exact hg))
theorem only_below {a w : World} (h : Below a.heap.size a w) (row : Option Nat) : a.grownBy w row := ⟨h.os, h.tape, h.output, h.size, fun i hi _ => h.block i hi⟩

theorem Box.set {w : World} {g : Nat} {cs : Array Value} {T : TypeId} (h : Box w g cs T) (j : Nat) (v : Value) : Box (w.setCell ⟨g, j, none⟩ v) g (cs.setIfInBounds j v) T := heap_setCell_same w g j cs T v h
theorem Box.ne {z : World} {g g' : Nat} {cs cs' : Array Value} {T T' : TypeId} (h : Box z g cs T) (h' : Box z g' cs' T') (hne : T ≠ T') : g ≠ g' := by
  rintro rfl
  unfold Box at h h'
  rw [h] at h'
  injection h' with h'
  injection h' with _ h2
  exact hne h2
theorem box2 {w w1 : World} {c d : Array Value} {T U : TypeId} (hb : Below ((w.alloc (.cells c T)).alloc (.cells d U)).heap.size ((w.alloc (.cells c T)).alloc (.cells d U)) w1) : Box w1 (w.heap.size + 1) d U := by
  have := (Box.new (w.alloc (.cells c T)) d U).below hb
  simpa only [World.size_alloc] using this
theorem bel_set {w w1 : World} {c d : Array Value} {T U : TypeId} {j : Nat} {v : Value} (hb : Below ((w.alloc (.cells c T)).alloc (.cells d U)).heap.size ((w.alloc (.cells c T)).alloc (.cells d U)) w1) : Below w.heap.size w (w1.setCell ⟨w.heap.size + 1, j, none⟩ v) :=
  (bel2 hb).grown (gb_set _ _ _ _) (bel2 hb).size (fun k hk => by injection hk with hk; omega)
theorem box1 {w w1 : World} {c d : Array Value} {T U : TypeId} (hb : Below ((w.alloc (.cells c T)).alloc (.cells d U)).heap.size ((w.alloc (.cells c T)).alloc (.cells d U)) w1) : Box w1 w.heap.size c T :=
  ((Box.new w c T).below (belA _)).below hb
theorem set4 (w : World) (g : Nat) (a b c d : Value) : w.grownBy ((((w.setCell ⟨g, 0, none⟩ a).setCell ⟨g, 1, none⟩ b).setCell ⟨g, 2, none⟩ c).setCell ⟨g, 3, none⟩ d) (some g) :=
  ((gb_set _ _ _ _).trans (gb_set _ _ _ _)).trans (gb_set _ _ _ _) |>.trans (gb_set _ _ _ _)
theorem boxs4 {w : World} {g : Nat} {T : TypeId} {p q r s : Value} (h : Box w g #[p, q, r, s] T) (a b c d : Value) : Box ((((w.setCell ⟨g, 0, none⟩ a).setCell ⟨g, 1, none⟩ b).setCell ⟨g, 2, none⟩ c).setCell ⟨g, 3, none⟩ d) g #[a, b, c, d] T := by
  have := (((h.set 0 a).set 1 b).set 2 c).set 3 d
  simpa only [List.setIfInBounds_toArray, List.set_cons_zero, List.set_cons_succ] using this
end Go.Proofs.YtlkhiihehaiinaaDoor

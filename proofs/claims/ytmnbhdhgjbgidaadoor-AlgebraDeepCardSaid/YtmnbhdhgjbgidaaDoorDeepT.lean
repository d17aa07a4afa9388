/- The plain part of AlgebraDeep: a chain of queries, whose newest lies in a box. -/
import Derived.Test.YtmnbhdhgjbgidaaDoorMadeS
import Derived.Test.YtmnbhdhgjbgidaaDoorCType
namespace Go.Proofs.YtmnbhdhgjbgidaaDoor
open Go.RowKit

/-- P holds of w, and of every world in which the blocks behind B are as in w. -/
def FarIn (B : Nat) (P : World → Prop) (w : World) : Prop := ∀ w' : World, w.heap.size ≤ w'.heap.size → (∀ i, B < i → i < w.heap.size → w'.heap[i]? = w.heap[i]?) → P w'
theorem FarIn.here {B : Nat} {P : World → Prop} {w : World} (h : FarIn B P w) : P w := h w (Nat.le_refl _) (fun _ _ _ => rfl)
theorem scan_in (w : World) : scanQ.In w := by
  refine ⟨_, ⟨?_, ?_, ?_, noEx_in w, Row.nil _ _ _, ?_, Row.nil _ _ _, ?_, ⟨Row.nil _ _ _, ?_⟩, Row.nil _ _ _, ?_⟩, Row.nil _ _ _, ?_⟩
  · constructor <;> decide
  · show (2 : Nat) ≤ maxLen; unfold maxLen; omega
  · constructor <;> decide
  all_goals intro x hx; cases hx
theorem more_in {x : Qu} {w : World} {g : Nat} {T : TypeId} (hx : x.In w) (hb : Box w g x.cells.toArray T) : (more x g).In w := by
  refine ⟨_, ⟨?_, ?_, ?_, noEx_in w, Row.nil _ _ _, ?_, Row.nil _ _ _, ?_, ⟨Row.nil _ _ _, ?_⟩, Row.nil _ _ _, ?_⟩, ?_, ?_⟩
  · show int64 9; constructor <;> decide
  · show (0 : Nat) ≤ maxLen; omega
  · show int64 0; constructor <;> decide
  · intro x hx; cases hx
  · intro x hx; cases hx
  · intro x hx; cases hx
  · intro x hx; cases hx
  · refine ⟨by show (1 : Nat) ≤ 1; omega, by show (1 : Nat) ≤ maxLen; unfold maxLen; omega, fun _ => ⟨rfl, hb.lt⟩, fun i hi j v hv => ?_⟩
    have h0 : i = 0 := by have : i < 1 := hi; omega
    subst h0
    show w.cell? ⟨g, 0 + 0 * 15 + j, none⟩ = some v
    rw [show 0 + 0 * 15 + j = j by omega]
    refine hb.cell (j := j) ?_
    rw [List.getElem?_toArray]
    exact hv
  · intro k hk
    have : k = x := List.mem_singleton.1 hk
    subst this
    exact hx
theorem far_scan (B : Nat) (w : World) : FarIn B scanQ.In w := fun w' _ _ => scan_in w'
theorem far_more {B : Nat} {x : Qu} {w w' : World} {T : TypeId} (h : FarIn B x.In w) (hB : B < w.heap.size) (hs : w.heap.size < w'.heap.size) (ho : ∀ i, B < i → i < w.heap.size → w'.heap[i]? = w.heap[i]?) (hb : Box w' w.heap.size x.cells.toArray T) : FarIn B (more x w.heap.size).In w' := by
  intro z hz hzo
  refine more_in (T := T) (h z (by omega) (fun i h1 h2 => (hzo i h1 (by omega)).trans (ho i h1 h2))) ?_
  unfold Box at hb ⊢
  rw [hzo w.heap.size hB hs]
  exact hb
theorem set15 (w : World) (g : Nat) (a0 a1 a2 a3 a4 a5 a6 a7 a8 a9 a10 a11 a12 a13 a14 : Value) : w.grownBy (((((((((((((((w.setCell ⟨g, 0, none⟩ a0).setCell ⟨g, 1, none⟩ a1).setCell ⟨g, 2, none⟩ a2).setCell ⟨g, 3, none⟩ a3).setCell ⟨g, 4, none⟩ a4).setCell ⟨g, 5, none⟩ a5).setCell ⟨g, 6, none⟩ a6).setCell ⟨g, 7, none⟩ a7).setCell ⟨g, 8, none⟩ a8).setCell ⟨g, 9, none⟩ a9).setCell ⟨g, 10, none⟩ a10).setCell ⟨g, 11, none⟩ a11).setCell ⟨g, 12, none⟩ a12).setCell ⟨g, 13, none⟩ a13).setCell ⟨g, 14, none⟩ a14) (some g) :=
  ((((((((((((((gb_set _ _ _ _).trans (gb_set _ _ _ _)).trans (gb_set _ _ _ _)).trans (gb_set _ _ _ _)).trans (gb_set _ _ _ _)).trans (gb_set _ _ _ _)).trans (gb_set _ _ _ _)).trans (gb_set _ _ _ _)).trans (gb_set _ _ _ _)).trans (gb_set _ _ _ _)).trans (gb_set _ _ _ _)).trans (gb_set _ _ _ _)).trans (gb_set _ _ _ _)).trans (gb_set _ _ _ _)).trans (gb_set _ _ _ _)
theorem box15 {w : World} {g : Nat} {T : TypeId} {c0 c1 c2 c3 c4 c5 c6 c7 c8 c9 c10 c11 c12 c13 c14 : Value} (h : Box w g #[c0, c1, c2, c3, c4, c5, c6, c7, c8, c9, c10, c11, c12, c13, c14] T) (a0 a1 a2 a3 a4 a5 a6 a7 a8 a9 a10 a11 a12 a13 a14 : Value) : Box (((((((((((((((w.setCell ⟨g, 0, none⟩ a0).setCell ⟨g, 1, none⟩ a1).setCell ⟨g, 2, none⟩ a2).setCell ⟨g, 3, none⟩ a3).setCell ⟨g, 4, none⟩ a4).setCell ⟨g, 5, none⟩ a5).setCell ⟨g, 6, none⟩ a6).setCell ⟨g, 7, none⟩ a7).setCell ⟨g, 8, none⟩ a8).setCell ⟨g, 9, none⟩ a9).setCell ⟨g, 10, none⟩ a10).setCell ⟨g, 11, none⟩ a11).setCell ⟨g, 12, none⟩ a12).setCell ⟨g, 13, none⟩ a13).setCell ⟨g, 14, none⟩ a14) g #[a0, a1, a2, a3, a4, a5, a6, a7, a8, a9, a10, a11, a12, a13, a14] T := by
  have := (((((((((((((((h.set 0 a0).set 1 a1).set 2 a2).set 3 a3).set 4 a4).set 5 a5).set 6 a6).set 7 a7).set 8 a8).set 9 a9).set 10 a10).set 11 a11).set 12 a12).set 13 a13).set 14 a14)
  simpa only [List.setIfInBounds_toArray, List.set_cons_zero, List.set_cons_succ] using this
theorem sz_set (w : World) (p : Addr) (v : Value) : (w.setCell p v).heap.size = w.heap.size := by simp [World.setCell]
theorem size15 (w : World) (g : Nat) (a0 a1 a2 a3 a4 a5 a6 a7 a8 a9 a10 a11 a12 a13 a14 : Value) : (((((((((((((((w.setCell ⟨g, 0, none⟩ a0).setCell ⟨g, 1, none⟩ a1).setCell ⟨g, 2, none⟩ a2).setCell ⟨g, 3, none⟩ a3).setCell ⟨g, 4, none⟩ a4).setCell ⟨g, 5, none⟩ a5).setCell ⟨g, 6, none⟩ a6).setCell ⟨g, 7, none⟩ a7).setCell ⟨g, 8, none⟩ a8).setCell ⟨g, 9, none⟩ a9).setCell ⟨g, 10, none⟩ a10).setCell ⟨g, 11, none⟩ a11).setCell ⟨g, 12, none⟩ a12).setCell ⟨g, 13, none⟩ a13).setCell ⟨g, 14, none⟩ a14).heap.size = w.heap.size := by
  simp only [sz_set]
theorem deep_far {B : Nat} {x : Qu} {w v : World} {T : TypeId} (h : FarIn B x.In w) (hB : B < w.heap.size) (hg : w.grownBy v (some B)) (hsz : v.heap.size = w.heap.size) : FarIn B (more x w.heap.size).In (v.alloc (.cells x.cells.toArray T)) := by
  refine far_more (T := T) h hB (by rw [World.size_alloc, hsz]; omega) (fun i h1 h2 => ?_) ?_
  · rw [(belA (w := v) (.cells x.cells.toArray T)).block i (by omega)]
    exact hg.block i h2 (by intro e; injection e with e; omega)
  · have := Box.new v x.cells.toArray T
    rw [hsz] at this
    exact this
theorem deep_bel {B : Nat} {a w v : World} {o : Obj} (h : Below B a w) (hB : B ≤ w.heap.size) (hg : w.grownBy v (some B)) : Below B a (v.alloc o) :=
  (h.grown hg hB (fun k hk => by injection hk with hk; omega)).trans ((belA o).mono (Nat.le_trans hB hg.size))
theorem t0cols_one {s : Sch} {tb : Tab} (hs : s.tabs = [tb]) (hn : tb.name = ⟨#[116, 48]⟩) (hc : tb.cols.length = 2) : t0cols s (tb.cols.map Col.typ) := by
  obtain ⟨th, tabs⟩ := s
  subst hs
  refine ⟨0, by show (0 : Nat) < 1; omega, ?_, ?_, rfl, by show tb.cols.length ≤ 100; omega⟩
  · simp [fok, named, hn]
  · simp [fi, named, hn]
end Go.Proofs.YtmnbhdhgjbgidaaDoor

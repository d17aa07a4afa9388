/- A list of strings that is collected in a box while other memory is written. -/
import Derived.Test.YtlkhiihehaiinaaDoorFSplit
import Derived.Maps.AppendAt
import Derived.Maps.OwnIn
import Derived.OwnWalk
namespace Go.Proofs.YtlkhiihehaiinaaDoor
open Go.RowKit Go.Shelf

/-- The box B holds a slice of its own that holds xs; no block of D is its own. -/
def Coll (n₀ B : Nat) (D : List Nat) (xs : List ByteArray) (W : World) : Prop :=
  ∃ v, Boxed W B 42 v ∧ W.ownsRow n₀ 9 1 v xs.length (xs.map Value.string) ∧ (v = .slice none 0 0 ↔ xs = []) ∧ ∀ g, v.ownBlock = some g → g ∉ D
theorem own_block_cells {W : World} {base : Nat} {e : TypeId} {size k : Nat} {v : Value} {xs : List Value} (h : W.ownsRow base e size v k xs) {g : Nat} (hg : v.ownBlock = some g) : base ≤ g ∧ g < W.heap.size ∧ ∃ o, W.heap[g]? = some o ∧ o.isCells = true := by
  rcases h.2 with ⟨rfl, _⟩ | ⟨g', cap, cur, rfl, hb, hgb, _⟩
  · simp [Value.ownBlock] at hg
  · obtain rfl : g' = g := by simpa [Value.ownBlock] using hg
    exact ⟨hb, (Array.getElem?_eq_some_iff.1 hgb).1, _, hgb, rfl⟩
theorem Coll.nil {n₀ B : Nat} {D : List Nat} {W : World} (h : Boxed W B 42 (.slice none 0 0)) : Coll n₀ B D [] W :=
  ⟨_, h, World.ownsRow_nil _ _ _ _, by simp, fun g hg => by simp [Value.ownBlock] at hg⟩
theorem Coll.lt {n₀ B : Nat} {D : List Nat} {xs : List ByteArray} {W : World} (h : Coll n₀ B D xs W) : B < W.heap.size := by obtain ⟨v, h1, _⟩ := h; exact h1.lt
theorem Coll.grown {n₀ B : Nat} {D : List Nat} {xs : List ByteArray} {X Y : World} {row : Option Nat} (h : Coll n₀ B D xs X) (hg : X.grownBy Y row) (hr : ∀ r, row = some r → r ≠ B ∧ (r ∈ D ∨ ∀ o, X.heap[r]? = some o → o.isCells = false)) : Coll n₀ B D xs Y := by
  obtain ⟨v, h1, h2, h3, h4⟩ := h
  refine ⟨v, h1.kept hg (fun e => (hr B e.symm).1 rfl), h2.kept hg ?_, h3, h4⟩
  cases ho : v.ownBlock with
  | none => exact .inl rfl
  | some g =>
    refine .inr fun e => ?_
    have hg2 := h4 g ho
    obtain ⟨_, _, o, ho2, hc⟩ := own_block_cells h2 ho
    rcases (hr g e.symm).2 with h5 | h5
    · exact hg2 h5
    · rw [h5 o ho2] at hc; cases hc
theorem Coll.alloc {n₀ B : Nat} {D : List Nat} {xs : List ByteArray} {X : World} (h : Coll n₀ B D xs X) (o : Obj) : Coll n₀ B D xs (X.alloc o) := h.grown (World.grownBy_alloc X o none) (fun r e => by cases e)
theorem Coll.set {n₀ B b : Nat} {D : List Nat} {xs : List ByteArray} {X : World} (h : Coll n₀ B D xs X) (hb : b ∈ D) (hne : b ≠ B) (v : Value) : Coll n₀ B D xs (X.setCell ⟨b, 0, none⟩ v) :=
  h.grown (grownBy_setCell' X b v) (fun r e => by cases e; exact ⟨hne, .inl hb⟩)
theorem Coll.mono {n₀ B : Nat} {D D' : List Nat} {xs : List ByteArray} {X : World} (h : Coll n₀ B D xs X) (hd : ∀ b ∈ D', b ∈ D ∨ X.heap.size ≤ b) : Coll n₀ B D' xs X := by
  obtain ⟨v, h1, h2, h3, h4⟩ := h
  refine ⟨v, h1, h2, h3, fun g hg hm => ?_⟩
  rcases hd g hm with h5 | h5
  · exact h4 g hg h5
  · have := (own_block_cells h2 hg).2.1; omega
theorem coll_own {β : Type} (n₀ B : Nat) (D : List Nat) (f : β → List ByteArray) : Own (fun s W => Coll n₀ B D (f s) W) := fun s X Y row h hg hr =>
  h.grown hg (fun r e => by
    obtain ⟨o, ho, hc⟩ := hr r e
    refine ⟨fun e2 => ?_, .inr fun o2 ho2 => by rw [ho] at ho2; cases ho2; exact hc⟩
    obtain ⟨v, h1, _⟩ := h
    subst e2
    rw [show X.heap[r]? = _ from h1] at ho; cases ho; cases hc)
theorem info_str : (Tryd.prog.info? 9).map (fun i => (i.zero, i.size, i.bytes)) = some (some (.string ByteArray.empty), 1, 16) := by kernel_rfl

/-- Behind an append of one string and the store into the box. -/
theorem coll_app {n₀ B : Nat} {D : List Nat} {xs : List ByteArray} {W w1 : World} {v v' : Value} {x : ByteArray} {tmp : Obj} (hv : Boxed W B 42 v) (hrow : W.ownsRow n₀ 9 1 v xs.length (xs.map Value.string)) (hD : ∀ g, v.ownBlock = some g → g ∉ D) (hn₀ : n₀ ≤ W.heap.size) (hB : n₀ ≤ B) (hlt : ∀ b ∈ D, b < W.heap.size) (hDB : ∀ b ∈ D, b ≠ B)
    (hown' : w1.ownsRow n₀ 9 1 v' (xs.length + 1) (xs.map Value.string ++ [.string x])) (hgrow : (W.alloc tmp).grownBy w1 v.ownBlock) (hat : v'.ownBlock = v.ownBlock ∨ v'.ownBlock = some (W.alloc tmp).heap.size) :
    Coll n₀ B D (xs ++ [x]) (w1.setCell ⟨B, 0, none⟩ v') ∧ KeepsOthers W (w1.setCell ⟨B, 0, none⟩ v') ∧ Below n₀ W (w1.setCell ⟨B, 0, none⟩ v') ∧ SameAt D W (w1.setCell ⟨B, 0, none⟩ v') := by
  obtain ⟨g', cap', rfl⟩ := ownsRow_succ hown'
  obtain ⟨hv1, hv2, hr2, hk2, hb2⟩ := hv.appended (by decide) hrow hn₀ hB hown' hgrow
  refine ⟨⟨_, hv2, by simpa using hr2, by simp, fun g hg hm => ?_⟩, hk2, hb2, fun k hk => ?_⟩
  · rcases hat with h | h
    · exact hD g (h ▸ hg) hm
    · rw [h] at hg
      injection hg with hg
      have := hlt g hm
      simp at hg
      omega
  · have hkB := hDB k hk
    have hkl := hlt k hk
    refine (Below.heap_setCell _ _ _ k hkB).trans ((hgrow.block k (by simp; omega) (fun e => ?_)).trans (Below.heap_alloc _ _ _ hkl))
    exact hD k e.symm hk
end Go.Proofs.YtlkhiihehaiinaaDoor

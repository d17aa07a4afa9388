/- What a round of a range over a function keeps, while loops run in it. -/
import Derived.Test.YtlkhiihehaiinaaDoorFTextP
namespace Go.Proofs.YtlkhiihehaiinaaDoor
open Go.RowKit Go.Shelf

/-- From the round's start W on: what lay below n₀, what is no cells at or beyond B0; from W2 on the blocks K. -/
structure RD (n₀ B0 : Nat) (K : List Nat) (W W2 X : World) : Prop where
  bel : Below n₀ W X
  kf : KeepsFrom B0 W X
  sm : SameAt K W2 X
section
variable {n₀ B0 : Nat} {K : List Nat} {W W2 X Y : World}
theorem RD.start (hb : Below n₀ W W2) (hk : KeepsFrom B0 W W2) : RD n₀ B0 K W W2 W2 := ⟨hb, hk, SameAt.refl _ _⟩
theorem RD.step (h : RD n₀ B0 K W W2 X) (hb : Below n₀ X Y) (hk : KeepsFrom B0 X Y) (hs : SameAt K X Y) : RD n₀ B0 K W W2 Y := ⟨h.bel.trans hb, h.kf.trans hk, h.sm.trans hs⟩
theorem RD.set (h : RD n₀ B0 K W W2 X) {b : Nat} (hb : n₀ ≤ b) (hK : b ∉ K) (v : Value) : RD n₀ B0 K W W2 (X.setCell ⟨b, 0, none⟩ v) :=
  h.step ((Below.refl n₀ X).setCell (p := ⟨b, 0, none⟩) hb v) ((KeepsOthers.setCell _ _ _).from _) (fun k hk => Below.heap_setCell _ _ _ k (fun e => hK (by have e2 : k = b := e; rw [← e2]; exact hk)))
theorem RD.alloc (h : RD n₀ B0 K W W2 X) (hn : n₀ ≤ X.heap.size) (hK : ∀ k ∈ K, k < X.heap.size) (o : Obj) : RD n₀ B0 K W W2 (X.alloc o) :=
  h.step ((Below.refl n₀ X).alloc hn o) ((KeepsOthers.alloc _ _).from _) (fun k hk => Below.heap_alloc _ _ _ (hK k hk))
end
theorem rd_own {β : Type} {n₀ B0 B' : Nat} {K : List Nat} {W W2 : World} (h0 : n₀ ≤ W.heap.size) (h1 : n₀ ≤ B') (h2 : W.heap.size ≤ B') (h3 : ∀ k ∈ K, k < B') : OwnFrom B' (fun (_ : β) X => RD n₀ B0 K W W2 X ∧ W2.heap.size ≤ X.heap.size ∧ ∀ k ∈ K, k < X.heap.size) :=
  fun _ X Y row ⟨hs, hz, hl⟩ hg hr => ⟨⟨hs.bel.grown hg (Nat.le_trans h0 hs.kf.size) (fun k e => by have := (hr k e).1; omega), (ownFrom_keepsFrom (β := Unit) h2) () X Y row hs.kf hg hr, hs.sm.trans (fun k hk => hg.block k (hl k hk) (fun e => by have := (hr k e.symm).1; have := h3 k hk; omega))⟩, Nat.le_trans hz hg.size, fun k hk => Nat.lt_of_lt_of_le (hl k hk) hg.size⟩
/-- Two words on one collection. -/
theorem coll_join {n₀ B : Nat} {D D' : List Nat} {xs ys : List ByteArray} {W : World} (h : Coll n₀ B D xs W) (h' : Coll n₀ B D' ys W) : Coll n₀ B (D ++ D') xs W := by
  obtain ⟨v, h1, h2, h3, h4⟩ := h
  obtain ⟨v', h1', _, _, h4'⟩ := h'
  have e : v = v' := by
    have a := h1.cell
    have b := h1'.cell
    rw [a] at b
    injection b
  subst e
  exact ⟨v, h1, h2, h3, fun g hg hm => (List.mem_append.1 hm).elim (h4 g hg) (h4' g hg)⟩
theorem kf_wider {B B' : Nat} {X Y : World} (h : KeepsFrom B X Y) (hB : B ≤ B') : KeepsFrom B' X Y := ⟨h.size, fun k o hk => h.same k o (Nat.le_trans hB hk)⟩
theorem setCell_size (X : World) (b : Nat) (v : Value) : (X.setCell ⟨b, 0, none⟩ v).heap.size = X.heap.size := by
  show (X.heap.modify _ _).size = _
  rw [Array.size_modify]
end Go.Proofs.YtlkhiihehaiinaaDoor

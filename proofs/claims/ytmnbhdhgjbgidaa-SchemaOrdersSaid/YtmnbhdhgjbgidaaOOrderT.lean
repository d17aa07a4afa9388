/- What schema.Order keeps between two steps: a slice of maps, each with its set. -/
import Derived.Test.YtmnbhdhgjbgidaaOrderMaps
namespace Go.Proofs.Ytmnbhdhgjbgidaa
open Go.RowKit

/-- Block g is a row of n maps (or nil); each map's keys are its set; each has a block of its own. -/
structure BO (w : World) (n g : Nat) (bx : Obj) (wr : World) (os : List (Option Nat)) (S : Nat → Nat → Prop) : Prop where
  row : wr.ownsRow (w.heap.size + 1) 84 1 (.slice (some ⟨g, 0, none⟩) n n) n (os.map .map)
  len : os.length = n
  sets : ∀ (j b : Nat), os[j]? = some (some b) → w.heap.size + 1 ≤ b ∧ ∃ m, MS wr m b (S j)
  ap : ∀ (i j b : Nat), os[i]? = some (some b) → os[j]? = some (some b) → i = j
  bw : Below (w.heap.size + 1) (w.alloc bx) wr

variable {w wr w' : World} {n g k m b : Nat} {bx : Obj} {os : List (Option Nat)} {S S' : Nat → Nat → Prop}

theorem BO.sz (h : BO w n g bx wr os S) : w.heap.size + 1 ≤ wr.heap.size := by have := h.bw.size; simpa using this
theorem BO.lt (h : BO w n g bx wr os S) : w.heap.size + 1 ≤ g ∧ g < wr.heap.size := h.row.lt g rfl
theorem BO.cell (h : BO w n g bx wr os S) {j : Nat} (hj : j < os.length) : wr.cell? ⟨g, j, none⟩ = some (.map os[j]) := by
  rw [h.row.cellAt j (by have := h.len; omega)]
  simp [hj]
theorem BO.free (h : BO w n g bx wr os S) (j : Nat) : wr.frozen? ⟨g, j, none⟩ = false := h.row.frozenAt j
theorem BO.gb (h : BO w n g bx wr os S) {j : Nat} (hj : os[j]? = some (some b)) : some g ≠ some b := by
  obtain ⟨-, m, hm⟩ := h.sets j b hj
  exact own_not_map h.row hm

/-- Only new blocks. -/
theorem BO.below (h : BO w n g bx wr os S) (hb : Below wr.heap.size wr w') : BO w n g bx w' os S :=
  ⟨h.row.kept (grown_of_below hb) (.inr (by simp [Value.ownBlock])), h.len, fun j b hj => by
    obtain ⟨h1, m, hm⟩ := h.sets j b hj
    exact ⟨h1, m, hm.kept (grown_of_below hb) (by simp)⟩, h.ap, h.bw.trans (hb.mono h.sz)⟩

/-- One row of cells turns, which is not ours. -/
theorem BO.other (h : BO w n g bx wr os S) {v : Value} {e : TypeId} {q c : Nat} {xs : List Value} (hv : wr.ownsRow c e q v m xs) (hne : v.ownBlock ≠ some g) (hc : w.heap.size + 1 ≤ c) (hg : wr.grownBy w' v.ownBlock) : BO w n g bx w' os S :=
  ⟨h.row.kept hg (.inr (fun e => hne e.symm)), h.len, fun j b hj => by
    obtain ⟨h1, m, hm⟩ := h.sets j b hj
    exact ⟨h1, m, hm.kept hg (fun e => own_not_map hv hm e.symm)⟩, h.ap, h.bw.grown hg h.sz (fun i hi => Nat.le_trans hc (hv.lt i hi).1)⟩

/-- One map turns. -/
theorem BO.turn (h : BO w n g bx wr os S) (hg : wr.grownBy w' (some b)) (hk : os[k]? = some (some b)) (hm : MS w' m b (S' k)) (hS : ∀ j, j ≠ k → S' j = S j) : BO w n g bx w' os S' :=
  ⟨h.row.kept hg (.inr (h.gb hk)), h.len, fun j c hj => by
    by_cases e : j = k
    · subst e
      rw [hk] at hj
      cases hj
      exact ⟨(h.sets j b hk).1, m, hm⟩
    · obtain ⟨h1, m, hm⟩ := h.sets j c hj
      rw [hS j e]
      exact ⟨h1, m, hm.kept hg (fun e2 => by cases e2; exact e (h.ap j k b hj hk))⟩, h.ap, h.bw.grown hg h.sz (fun i hi => by cases hi; exact (h.sets k b hk).1)⟩

theorem set_at {α : Type} {l : List α} {k j : Nat} {x : α} (hk : k < l.length) : (l.set k x)[j]? = if j = k then some x else l[j]? := by
  rw [List.getElem?_set]
  by_cases e : k = j
  · subst e; simp [hk]
  · rw [if_neg e, if_neg (fun h => e h.symm)]

/-- A new map at place k. -/
theorem BO.made (h : BO w n g bx wr os S) (hkn : k < n) (hS : ∀ j, j ≠ k → S' j = S j) (hk : ∀ t, ¬ S' k t) :
    BO w n g bx ((wr.alloc (.map #[] 0)).setCell ⟨g, k, none⟩ (.map (some wr.heap.size))) (os.set k (some wr.heap.size)) S' ∧
    MS ((wr.alloc (.map #[] 0)).setCell ⟨g, k, none⟩ (.map (some wr.heap.size))) 0 wr.heap.size (S' k) := by
  have hb : Below wr.heap.size wr (wr.alloc (.map #[] 0)) := belA _
  have h1 := h.below hb
  obtain ⟨h2, h3⟩ := h1.row.stored k (.map (some wr.heap.size))
  have hlt := h.lt
  have hm : MS ((wr.alloc (.map #[] 0)).setCell ⟨g, k, none⟩ (.map (some wr.heap.size))) 0 wr.heap.size (S' k) :=
    ((ms_made wr).kept h3 (by intro e; cases e; omega)).congr (fun t => ⟨False.elim, fun h => hk t h⟩)
  have hko : k < os.length := by have := h.len; omega
  refine ⟨⟨by rw [List.map_set]; exact h2, by simpa using h.len, fun j c hj => ?_, fun i j c hi hj => ?_, h1.bw.setCell (p := ⟨g, k, none⟩) hlt.1 _⟩, hm⟩
  · rw [set_at hko] at hj
    by_cases e : j = k
    · subst e
      rw [if_pos rfl] at hj
      cases hj
      exact ⟨h.sz, 0, hm⟩
    · rw [if_neg e] at hj
      obtain ⟨q1, m, hm'⟩ := h.sets j c hj
      rw [hS j e]
      exact ⟨q1, m, (hm'.kept (grown_of_below hb) (by simp)).kept h3 (fun e2 => h.gb hj e2.symm)⟩
  · rw [set_at hko] at hi hj
    by_cases e : i = k
    · by_cases e2 : j = k
      · rw [e, e2]
      · rw [if_pos e] at hi
        rw [if_neg e2] at hj
        cases hi
        obtain ⟨-, m, hm'⟩ := h.sets j _ hj
        exact absurd hm'.lt (by omega)
    · by_cases e2 : j = k
      · rw [if_neg e] at hi
        rw [if_pos e2] at hj
        cases hj
        obtain ⟨-, m, hm'⟩ := h.sets i _ hi
        exact absurd hm'.lt (by omega)
      · rw [if_neg e] at hi
        rw [if_neg e2] at hj
        exact h.ap i j c hi hj

/-- The nil map at place k. -/
theorem BO.nil (h : BO w n g bx wr os S) (hkn : k < n) : BO w n g bx (wr.setCell ⟨g, k, none⟩ (.map none)) (os.set k none) S := by
  obtain ⟨h2, h3⟩ := h.row.stored k (.map none)
  have hlt := h.lt
  have hko : k < os.length := by have := h.len; omega
  have key : ∀ {j c : Nat}, (os.set k none)[j]? = some (some c) → os[j]? = some (some c) := by
    intro j c hj
    rw [set_at hko] at hj
    by_cases e : j = k
    · rw [if_pos e] at hj; cases hj
    · rw [if_neg e] at hj; exact hj
  refine ⟨by rw [List.map_set]; exact h2, by simpa using h.len, fun j c hj => ?_, fun i j c hi hj => h.ap i j c (key hi) (key hj), h.bw.setCell (p := ⟨g, k, none⟩) hlt.1 _⟩
  obtain ⟨q1, m, hm'⟩ := h.sets j c (key hj)
  exact ⟨q1, m, hm'.kept h3 (fun e2 => h.gb (key hj) e2.symm)⟩

end Go.Proofs.Ytmnbhdhgjbgidaa

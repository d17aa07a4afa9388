/- What reads as a Go value is one of the trees of the data text, and lies in the world. -/
import Derived.Test.YtlkhiihehaiinaaDoorProg
import Derived.Test.YtlkhiihehaiinaaDoorData
import Derived.ProofKit
import Derived.OpenShut
import Derived.KernelRfl
namespace Go.Proofs.YtlkhiihehaiinaaDoor
open Go.RowKit Go.ChangeShapes Go.WideShapes

section
variable {H : Type} {enc : TypeId × Value → H} {w : World} {sp : Nat → Bool} {hd : Bool}

theorem pick_list {α : Type} {p : Nat → α → Prop} : ∀ (n : Nat), (∀ i, i < n → ∃ a, p i a) → ∃ xs : List α, xs.length = n ∧ ∀ i (h : i < xs.length), p i xs[i]
  | 0, _ => ⟨[], rfl, fun i h => absurd h (by simp)⟩
  | n + 1, h => by
    obtain ⟨xs, hl, hx⟩ := pick_list n (fun i hi => h i (by omega))
    obtain ⟨a, ha⟩ := h n (by omega)
    refine ⟨xs ++ [a], by simp [hl], fun i hi => ?_⟩
    by_cases e : i < xs.length
    · rw [List.getElem_append_left e]; exact hx i e
    · have hin : i = xs.length := by simp at hi; omega
      subst hin
      rw [List.getElem_append_right (by omega)]
      simpa [hl] using ha

theorem open_row {P : Program} {α : Type} {t e : TypeId} {size fuel : Nat} {cs : List Value} {x : DataW H × List MemPlace} (cells : α → List Value) (good : α → Prop)
    (ht : P.underlying t = some (.slice e)) (hc : P.cellsOf e = size) (hpos : 0 < size)
    (hel : ∀ fuel' cs' x', fuel' < fuel → DataW.trod enc P w 0 sp hd fuel' e cs' = some x' → ∃ a : α, cs' = cells a ∧ good a)
    (h : DataW.trod enc P w 0 sp hd fuel t cs = some x) : ∃ (h : Hd) (xs : List α), cs = [.slice h.ao xs.length h.cap] ∧ Row w size cells h xs ∧ ∀ a ∈ xs, good a := by
  rcases DataW.trod_slice ht h with ⟨rfl, _⟩ | ⟨a, len, cap, elems, rest, n, hn, rfl, _, _, hl, hm, hlen, hall, _⟩
  · exact ⟨nilHd, [], rfl, Row.nil _ _ _, fun a ha => by cases ha⟩
  · rw [hc] at hall
    have key : ∀ i, i < len → ∃ b : α, (∀ j v, (cells b)[j]? = some v → w.cell? ((a.add (i * size)).add j) = some v) ∧ (cells b).length = size ∧ good b := by
      intro i hi
      have h1 := hall i hi
      rw [List.getElem?_eq_getElem (by omega)] at h1
      obtain ⟨cs', hcs, htr⟩ := Option.bind_eq_some_iff.1 h1
      obtain ⟨b, rfl, hb⟩ := hel n cs' _ (by omega) htr
      obtain ⟨_, hcl, hcell⟩ := World.cells?_some hcs
      refine ⟨b, fun j v hv => ?_, hcl, hb⟩
      have hj : j < size := by rw [← hcl]; exact (List.getElem?_eq_some_iff.1 hv).1
      rw [hcell j hj]; exact hv
    obtain ⟨xs, hxl, hx⟩ := pick_list len key
    subst hxl
    obtain ⟨b, o, spot⟩ := a
    have hspot : 0 < xs.length → spot = none ∧ b < w.heap.size := by
      intro hp
      obtain ⟨g1, g2, _⟩ := hx 0 hp
      have hv : (cells (xs[0]'hp))[0]? = some ((cells (xs[0]'hp))[0]'(by omega)) := List.getElem?_eq_getElem (by omega)
      have := g1 0 _ hv
      simp only [Nat.zero_mul] at this
      have h0 : ((⟨b, o, spot⟩ : Addr).add 0).add 0 = ⟨b, o, spot⟩ := by simp [Addr.add]
      rw [h0] at this
      have hs := World.cell?_spot this
      have hs' : spot = none := by simpa using hs
      subst hs'
      exact ⟨rfl, World.block_lt_of_cell? w ⟨b, o, none⟩ this⟩
    refine ⟨⟨some ⟨b, o, spot⟩, cap⟩, xs, rfl, ⟨hl, hm, fun hp => ?_, fun i hi j v hv => ?_⟩, fun a ha => ?_⟩
    · obtain ⟨rfl, hlt⟩ := hspot hp
      exact ⟨rfl, hlt⟩
    · obtain ⟨rfl, hlt⟩ := hspot (by omega)
      have := (hx i hi).1 j v hv
      rw [Addr.add_lit, Addr.add_lit] at this
      exact this
    · obtain ⟨i, hi, rfl⟩ := List.getElem_of_mem ha
      exact (hx i hi).2.2

theorem fld {P : Program} {n : Nat} {cs : List Value} {xs : List (DataW H × List MemPlace)} {fs : Array Field} (hxl : xs.length = fs.size)
    (hf : ∀ (i : Nat) (f : Field), fs[i]? = some f → DataW.trod enc P w 0 sp hd n f.type ((cs.drop f.offset).take (P.cellsOf f.type)) = xs[i]?) (i T off sz : Nat) (hif : ∃ f, fs[i]? = some f ∧ f.type = T ∧ f.offset = off) (hs : P.cellsOf T = sz) :
    ∃ y, DataW.trod enc P w 0 sp hd n T ((cs.drop off).take sz) = some y := by
  obtain ⟨f, hif, rfl, rfl⟩ := hif
  subst hs
  have hi : i < xs.length := by rw [hxl]; exact (Array.getElem?_eq_some_iff.1 hif).1
  exact ⟨_, (hf i f hif).trans (List.getElem?_eq_getElem hi)⟩

theorem int64_of {n : Int} (h : (Lit.int .i64 n).wf = true) : int64 n := by
  exact bounds_i64 h
theorem list1 {α : Type} {l : List α} (h : l.length = 1) : ∃ c0, l = [c0] := by
  match l, h with
  | [c0], _ => exact ⟨c0, rfl⟩
theorem list2 {α : Type} {l : List α} (h : l.length = 2) : ∃ c0 c1, l = [c0, c1] := by
  match l, h with
  | [c0, c1], _ => exact ⟨c0, c1, rfl⟩
theorem list3 {α : Type} {l : List α} (h : l.length = 3) : ∃ c0 c1 c2, l = [c0, c1, c2] := by
  match l, h with
  | [c0, c1, c2], _ => exact ⟨c0, c1, c2, rfl⟩
theorem cells_of_int : Tryd.prog.cellsOf 3 = 1 := by kernel_rfl
theorem open_il {fuel : Nat} {cs : List Value} {x : DataW H × List MemPlace} (h : DataW.trod enc Tryd.prog w 0 sp hd fuel 34 cs = some x) : ∃ r : IL, cs = r.cells ∧ r.In w := by
  obtain ⟨hd, xs, rfl, hr, hg⟩ := open_row icells int64 Tryd.underlying34 cells_of_int (by decide) (fun f cs x _ h => by obtain ⟨n, rfl, _, hw⟩ := DataW.trod_int Tryd.underlying3 h; exact ⟨n, rfl, int64_of hw⟩) h
  exact ⟨⟨hd, xs⟩, rfl, hr, hg⟩
end
end Go.Proofs.YtlkhiihehaiinaaDoor

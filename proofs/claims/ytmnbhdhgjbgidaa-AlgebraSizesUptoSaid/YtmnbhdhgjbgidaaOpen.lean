/- What reads as a Go value is one of the trees of the data text, and lies in the world. -/
import Derived.Test.YtmnbhdhgjbgidaaProg
import Derived.Test.YtmnbhdhgjbgidaaData
import Derived.ProofKit
import Derived.OpenShut
import Derived.KernelRfl
namespace Go.Proofs.Ytmnbhdhgjbgidaa
open Go.RowKit Go.ChangeShapes Go.WideShapes

section
variable {H : Type} {enc : TypeId × Value → H} {w : World} {sp : Nat → Bool} {hd : Bool}

theorem pick_list {α : Type} {p : Nat → α → Prop} : ∀ (n : Nat), (∀ i, i < n → ∃ a, p i a) → ∃ xs : List α, xs.length = n ∧ ∀ i (h : i < xs.length), p i xs[i]
  | 0, _ => ⟨[], rfl, fun i h => absurd h (by simp)⟩
  | n + 1, h => by
    obtain ⟨xs, hl, hx⟩ := pick_list n (fun i hi => h i (by omega))
    obtain ⟨a, ha⟩ := h n (by omega)
    refine ⟨xs ++ [a], by simp [hl], fun i hi => ?_⟩
    by_cases e : i < xs.length
    · rw [List.getElem_append_left e]; exact hx i e
    · have hin : i = xs.length := by simp at hi; omega
      subst hin
      rw [List.getElem_append_right (by omega)]
      simpa [hl] using ha

theorem open_row {P : Program} {α : Type} {t e : TypeId} {size fuel : Nat} {cs : List Value} {x : DataW H × List MemPlace} (cells : α → List Value) (good : α → Prop)
    (ht : P.underlying t = some (.slice e)) (hc : P.cellsOf e = size) (hpos : 0 < size)
    (hel : ∀ fuel' cs' x', fuel' < fuel → DataW.trod enc P w 0 sp hd fuel' e cs' = some x' → ∃ a : α, cs' = cells a ∧ good a)
    (h : DataW.trod enc P w 0 sp hd fuel t cs = some x) : ∃ (h : Hd) (xs : List α), cs = [.slice h.ao xs.length h.cap] ∧ Row w size cells h xs ∧ ∀ a ∈ xs, good a := by
  rcases DataW.trod_slice ht h with ⟨rfl, _⟩ | ⟨a, len, cap, elems, rest, n, hn, rfl, _, _, hl, hm, hlen, hall, _⟩
  · exact ⟨nilHd, [], rfl, Row.nil _ _ _, fun a ha => by cases ha⟩
  · rw [hc] at hall
    have key : ∀ i, i < len → ∃ b : α, (∀ j v, (cells b)[j]? = some v → w.cell? ((a.add (i * size)).add j) = some v) ∧ (cells b).length = size ∧ good b := by
      intro i hi
      have h1 := hall i hi
      rw [List.getElem?_eq_getElem (by omega)] at h1
      obtain ⟨cs', hcs, htr⟩ := Option.bind_eq_some_iff.1 h1
      obtain ⟨b, rfl, hb⟩ := hel n cs' _ (by omega) htr
      obtain ⟨_, hcl, hcell⟩ := World.cells?_some hcs
      refine ⟨b, fun j v hv => ?_, hcl, hb⟩
      have hj : j < size := by rw [← hcl]; exact (List.getElem?_eq_some_iff.1 hv).1
      rw [hcell j hj]; exact hv
    obtain ⟨xs, hxl, hx⟩ := pick_list len key
    subst hxl
    obtain ⟨b, o, spot⟩ := a
    have hspot : 0 < xs.length → spot = none ∧ b < w.heap.size := by
      intro hp
      obtain ⟨g1, g2, _⟩ := hx 0 hp
      have hv : (cells (xs[0]'hp))[0]? = some ((cells (xs[0]'hp))[0]'(by omega)) := List.getElem?_eq_getElem (by omega)
      have := g1 0 _ hv
      simp only [Nat.zero_mul] at this
      have h0 : ((⟨b, o, spot⟩ : Addr).add 0).add 0 = ⟨b, o, spot⟩ := by simp [Addr.add]
      rw [h0] at this
      have hs := World.cell?_spot this
      have hs' : spot = none := by simpa using hs
      subst hs'
      exact ⟨rfl, World.block_lt_of_cell? w ⟨b, o, none⟩ this⟩
    refine ⟨⟨some ⟨b, o, spot⟩, cap⟩, xs, rfl, ⟨hl, hm, fun hp => ?_, fun i hi j v hv => ?_⟩, fun a ha => ?_⟩
    · obtain ⟨rfl, hlt⟩ := hspot hp
      exact ⟨rfl, hlt⟩
    · obtain ⟨rfl, hlt⟩ := hspot (by omega)
      have := (hx i hi).1 j v hv
      rw [Addr.add_lit, Addr.add_lit] at this
      exact this
    · obtain ⟨i, hi, rfl⟩ := List.getElem_of_mem ha
      exact (hx i hi).2.2

theorem fld {P : Program} {n : Nat} {cs : List Value} {xs : List (DataW H × List MemPlace)} {fs : Array Field} (hxl : xs.length = fs.size)
    (hf : ∀ (i : Nat) (f : Field), fs[i]? = some f → DataW.trod enc P w 0 sp hd n f.type ((cs.drop f.offset).take (P.cellsOf f.type)) = xs[i]?) (i T off sz : Nat) (hif : ∃ f, fs[i]? = some f ∧ f.type = T ∧ f.offset = off) (hs : P.cellsOf T = sz) :
    ∃ y, DataW.trod enc P w 0 sp hd n T ((cs.drop off).take sz) = some y := by
  obtain ⟨f, hif, rfl, rfl⟩ := hif
  subst hs
  have hi : i < xs.length := by rw [hxl]; exact (Array.getElem?_eq_some_iff.1 hif).1
  exact ⟨_, (hf i f hif).trans (List.getElem?_eq_getElem hi)⟩

theorem int64_of {n : Int} (h : (Lit.int .i64 n).wf = true) : int64 n := by
  exact bounds_i64 h
theorem list1 {α : Type} {l : List α} (h : l.length = 1) : ∃ c0, l = [c0] := by
  match l, h with
  | [c0], _ => exact ⟨c0, rfl⟩
theorem list2 {α : Type} {l : List α} (h : l.length = 2) : ∃ c0 c1, l = [c0, c1] := by
  match l, h with
  | [c0, c1], _ => exact ⟨c0, c1, rfl⟩
theorem list3 {α : Type} {l : List α} (h : l.length = 3) : ∃ c0 c1 c2, l = [c0, c1, c2] := by
  match l, h with
  | [c0, c1, c2], _ => exact ⟨c0, c1, c2, rfl⟩
theorem list6 {α : Type} {l : List α} (h : l.length = 6) : ∃ c0 c1 c2 c3 c4 c5, l = [c0, c1, c2, c3, c4, c5] := by
  match l, h with
  | [c0, c1, c2, c3, c4, c5], _ => exact ⟨c0, c1, c2, c3, c4, c5, rfl⟩
theorem list7 {α : Type} {l : List α} (h : l.length = 7) : ∃ c0 c1 c2 c3 c4 c5 c6, l = [c0, c1, c2, c3, c4, c5, c6] := by
  match l, h with
  | [c0, c1, c2, c3, c4, c5, c6], _ => exact ⟨c0, c1, c2, c3, c4, c5, c6, rfl⟩
theorem list15 {α : Type} {l : List α} (h : l.length = 15) : ∃ c0 c1 c2 c3 c4 c5 c6 c7 c8 c9 c10 c11 c12 c13 c14, l = [c0, c1, c2, c3, c4, c5, c6, c7, c8, c9, c10, c11, c12, c13, c14] := by
  match l, h with
  | [c0, c1, c2, c3, c4, c5, c6, c7, c8, c9, c10, c11, c12, c13, c14], _ => exact ⟨c0, c1, c2, c3, c4, c5, c6, c7, c8, c9, c10, c11, c12, c13, c14, rfl⟩

theorem cells_of_3 : Try.prog.cellsOf 3 = 1 := by kernel_rfl
theorem cells_of_2 : Try.prog.cellsOf 2 = 1 := by kernel_rfl
theorem cells_of_9 : Try.prog.cellsOf 9 = 1 := by kernel_rfl
theorem cells_of_4 : Try.prog.cellsOf 4 = 1 := by kernel_rfl
theorem cells_of_31 : Try.prog.cellsOf 31 = 1 := by kernel_rfl
theorem cells_of_32 : Try.prog.cellsOf 32 = 1 := by kernel_rfl
theorem cells_of_34 : Try.prog.cellsOf 34 = 1 := by kernel_rfl
theorem cells_of_41 : Try.prog.cellsOf 41 = 6 := by kernel_rfl
theorem cells_of_66 : Try.prog.cellsOf 66 = 3 := by kernel_rfl
theorem cells_of_30 : Try.prog.cellsOf 30 = 1 := by kernel_rfl
theorem cells_of_61 : Try.prog.cellsOf 61 = 2 := by kernel_rfl
theorem cells_of_33 : Try.prog.cellsOf 33 = 1 := by kernel_rfl
theorem cells_of_36 : Try.prog.cellsOf 36 = 6 := by kernel_rfl
theorem cells_of_22 : Try.prog.cellsOf 22 = 1 := by kernel_rfl
theorem cells_of_24 : Try.prog.cellsOf 24 = 1 := by kernel_rfl
theorem cells_of_72 : Try.prog.cellsOf 72 = 3 := by kernel_rfl
theorem cells_of_69 : Try.prog.cellsOf 69 = 1 := by kernel_rfl
theorem cells_of_43 : Try.prog.cellsOf 43 = 1 := by kernel_rfl
theorem cells_of_74 : Try.prog.cellsOf 74 = 7 := by kernel_rfl
theorem cells_of_42 : Try.prog.cellsOf 42 = 1 := by kernel_rfl
theorem cells_of_46 : Try.prog.cellsOf 46 = 15 := by kernel_rfl
theorem cells_of_44 : Try.prog.cellsOf 44 = 1 := by kernel_rfl

theorem open_il {fuel : Nat} {cs : List Value} {x : DataW H × List MemPlace} (h : DataW.trod enc Try.prog w 0 sp hd fuel 31 cs = some x) : ∃ r : IL, cs = r.cells ∧ r.In w := by
  obtain ⟨hd, xs, rfl, hr, hg⟩ := open_row icells int64 Try.underlying31 cells_of_3 (by decide) (fun f cs x _ h => by obtain ⟨n, rfl, _, hw⟩ := DataW.trod_int Try.underlying3 h; exact ⟨n, rfl, int64_of hw⟩) h
  exact ⟨⟨hd, xs⟩, rfl, hr, hg⟩

set_option maxRecDepth 100000 in
theorem open_ex : ∀ (fuel : Nat) (cs : List Value) (x : DataW H × List MemPlace), DataW.trod enc Try.prog w 0 sp hd fuel 41 cs = some x → ∃ r : Ex, cs = r.cells ∧ r.In w := by
  intro fuel
  induction fuel using Nat.strongRecOn with
  | _ fuel ih =>
  intro cs x h
  obtain ⟨xs, n, hn, _, hlen, hxl, hf⟩ := DataW.trod_struct Try.underlying41 h
  rw [cells_of_41] at hlen
  obtain ⟨c0, c1, c2, c3, c4, c5, rfl⟩ := list6 hlen
  · skip
    obtain ⟨y0, g0⟩ := fld hxl hf 0 3 0 1 ⟨_, rfl, rfl, rfl⟩ cells_of_3
    obtain ⟨op, e0, _, w0⟩ := DataW.trod_int Try.underlying3 g0
    obtain ⟨y1, g1⟩ := fld hxl hf 1 3 1 1 ⟨_, rfl, rfl, rfl⟩ cells_of_3
    obtain ⟨typ, e1, _, w1⟩ := DataW.trod_int Try.underlying3 g1
    obtain ⟨y2, g2⟩ := fld hxl hf 2 2 2 1 ⟨_, rfl, rfl, rfl⟩ cells_of_2
    obtain ⟨num, e2, _, w2⟩ := DataW.trod_int Try.underlying2 g2
    obtain ⟨y3, g3⟩ := fld hxl hf 3 9 3 1 ⟨_, rfl, rfl, rfl⟩ cells_of_9
    obtain ⟨text, e3, _, w3⟩ := DataW.trod_string Try.underlying9 g3
    obtain ⟨y4, g4⟩ := fld hxl hf 4 3 4 1 ⟨_, rfl, rfl, rfl⟩ cells_of_3
    obtain ⟨col, e4, _, w4⟩ := DataW.trod_int Try.underlying3 g4
    obtain ⟨y5, g5⟩ := fld hxl hf 5 34 5 1 ⟨_, rfl, rfl, rfl⟩ cells_of_34
    obtain ⟨kidsh, kids, e5, r5, w5⟩ := open_row Ex.cells (Ex.In w) Try.underlying34 cells_of_41 (by decide) (fun f cs x hlt h => ih f (by omega) cs x h) g5
    simp only [List.drop_zero, List.drop_succ_cons, List.take_succ_cons, List.take_zero, List.cons.injEq, and_true] at e0 e1 e2 e3 e4 e5
    subst e0 e1 e2 e3 e4 e5
    exact ⟨⟨op, typ, num, text, col, kidsh, kids⟩, rfl, ⟨_, ⟨int64_of w0, int64_of w1, int64_of w2, w3, int64_of w4⟩, r5, w5⟩⟩

set_option maxRecDepth 100000 in
theorem open_col {fuel : Nat} {cs : List Value} {x : DataW H × List MemPlace} (h : DataW.trod enc Try.prog w 0 sp hd fuel 66 cs = some x) : ∃ r : Col, cs = r.cells ∧ r.wf := by
  obtain ⟨xs, n, hn, _, hlen, hxl, hf⟩ := DataW.trod_struct Try.underlying66 h
  rw [cells_of_66] at hlen
  obtain ⟨c0, c1, c2, rfl⟩ := list3 hlen
  · skip
    obtain ⟨y0, g0⟩ := fld hxl hf 0 9 0 1 ⟨_, rfl, rfl, rfl⟩ cells_of_9
    obtain ⟨nm, e0, _, w0⟩ := DataW.trod_string Try.underlying9 g0
    obtain ⟨y1, g1⟩ := fld hxl hf 1 3 1 1 ⟨_, rfl, rfl, rfl⟩ cells_of_3
    obtain ⟨typ, e1, _, w1⟩ := DataW.trod_int Try.underlying3 g1
    obtain ⟨y2, g2⟩ := fld hxl hf 2 4 2 1 ⟨_, rfl, rfl, rfl⟩ cells_of_4
    obtain ⟨nul, e2, _⟩ := DataW.trod_bool Try.underlying4 g2
    simp only [List.drop_zero, List.drop_succ_cons, List.take_succ_cons, List.take_zero, List.cons.injEq, and_true] at e0 e1 e2
    subst e0 e1 e2
    exact ⟨⟨nm, typ, nul⟩, rfl, w0, int64_of w1⟩

set_option maxRecDepth 100000 in
theorem open_frn {fuel : Nat} {cs : List Value} {x : DataW H × List MemPlace} (h : DataW.trod enc Try.prog w 0 sp hd fuel 61 cs = some x) : ∃ r : Frn, cs = r.cells ∧ r.In w := by
  obtain ⟨xs, n, hn, _, hlen, hxl, hf⟩ := DataW.trod_struct Try.underlying61 h
  rw [cells_of_61] at hlen
  obtain ⟨c0, c1, rfl⟩ := list2 hlen
  · skip
    obtain ⟨y0, g0⟩ := fld hxl hf 0 31 0 1 ⟨_, rfl, rfl, rfl⟩ cells_of_31
    obtain ⟨cols, e0, w0⟩ := open_il g0
    obtain ⟨y1, g1⟩ := fld hxl hf 1 9 1 1 ⟨_, rfl, rfl, rfl⟩ cells_of_9
    obtain ⟨tab, e1, _, w1⟩ := DataW.trod_string Try.underlying9 g1
    simp only [List.drop_zero, List.drop_succ_cons, List.take_succ_cons, List.take_zero, List.cons.injEq, and_true] at e0 e1
    subst e0 e1
    exact ⟨⟨cols, tab⟩, rfl, w0, w1⟩

set_option maxRecDepth 100000 in
theorem open_tab {fuel : Nat} {cs : List Value} {x : DataW H × List MemPlace} (h : DataW.trod enc Try.prog w 0 sp hd fuel 36 cs = some x) : ∃ r : Tab, cs = r.cells ∧ r.In w := by
  obtain ⟨xs, n, hn, _, hlen, hxl, hf⟩ := DataW.trod_struct Try.underlying36 h
  rw [cells_of_36] at hlen
  obtain ⟨c0, c1, c2, c3, c4, c5, rfl⟩ := list6 hlen
  · skip
    obtain ⟨y0, g0⟩ := fld hxl hf 0 9 0 1 ⟨_, rfl, rfl, rfl⟩ cells_of_9
    obtain ⟨nm, e0, _, w0⟩ := DataW.trod_string Try.underlying9 g0
    obtain ⟨y1, g1⟩ := fld hxl hf 1 30 1 1 ⟨_, rfl, rfl, rfl⟩ cells_of_30
    obtain ⟨colsh, cols, e1, r1, w1⟩ := open_row Col.cells Col.wf Try.underlying30 cells_of_66 (by decide) (fun f cs x hlt h => open_col h) g1
    obtain ⟨y2, g2⟩ := fld hxl hf 2 31 2 1 ⟨_, rfl, rfl, rfl⟩ cells_of_31
    obtain ⟨prim, e2, w2⟩ := open_il g2
    obtain ⟨y3, g3⟩ := fld hxl hf 3 32 3 1 ⟨_, rfl, rfl, rfl⟩ cells_of_32
    obtain ⟨uqh, uq, e3, r3, w3⟩ := open_row IL.cells (IL.In w) Try.underlying32 cells_of_31 (by decide) (fun f cs x hlt h => open_il h) g3
    obtain ⟨y4, g4⟩ := fld hxl hf 4 33 4 1 ⟨_, rfl, rfl, rfl⟩ cells_of_33
    obtain ⟨foh, fo, e4, r4, w4⟩ := open_row Frn.cells (Frn.In w) Try.underlying33 cells_of_61 (by decide) (fun f cs x hlt h => open_frn h) g4
    obtain ⟨y5, g5⟩ := fld hxl hf 5 34 5 1 ⟨_, rfl, rfl, rfl⟩ cells_of_34
    obtain ⟨ckh, ck, e5, r5, w5⟩ := open_row Ex.cells (Ex.In w) Try.underlying34 cells_of_41 (by decide) (fun f cs x hlt h => open_ex _ _ _ h) g5
    simp only [List.drop_zero, List.drop_succ_cons, List.take_succ_cons, List.take_zero, List.cons.injEq, and_true] at e0 e1 e2 e3 e4 e5
    subst e0 e1 e2 e3 e4 e5
    exact ⟨⟨nm, colsh, cols, prim, uqh, uq, foh, fo, ckh, ck⟩, rfl, ⟨w0, r1, w1, w2, r3, w3, r4, w4, r5, w5⟩⟩

set_option maxRecDepth 100000 in
theorem open_sch {fuel : Nat} {cs : List Value} {x : DataW H × List MemPlace} (h : DataW.trod enc Try.prog w 0 sp hd fuel 24 cs = some x) : ∃ r : Sch, cs = r.cells ∧ r.In w := by
  obtain ⟨xs, n, hn, _, hlen, hxl, hf⟩ := DataW.trod_struct Try.underlying24 h
  rw [cells_of_24] at hlen
  obtain ⟨c0, rfl⟩ := list1 hlen
  · skip
    obtain ⟨y0, g0⟩ := fld hxl hf 0 22 0 1 ⟨_, rfl, rfl, rfl⟩ cells_of_22
    obtain ⟨tabsh, tabs, e0, r0, w0⟩ := open_row Tab.cells (Tab.In w) Try.underlying22 cells_of_36 (by decide) (fun f cs x hlt h => open_tab h) g0
    simp only [List.drop_zero, List.take_succ_cons, List.take_zero, List.cons.injEq, and_true] at e0
    subst e0
    exact ⟨⟨tabsh, tabs⟩, rfl, ⟨r0, w0⟩⟩

set_option maxRecDepth 100000 in
theorem open_val {fuel : Nat} {cs : List Value} {x : DataW H × List MemPlace} (h : DataW.trod enc Try.prog w 0 sp hd fuel 72 cs = some x) : ∃ r : V, cs = r.cells ∧ r.wf := by
  obtain ⟨xs, n, hn, _, hlen, hxl, hf⟩ := DataW.trod_struct Try.underlying72 h
  rw [cells_of_72] at hlen
  obtain ⟨c0, c1, c2, rfl⟩ := list3 hlen
  · skip
    obtain ⟨y0, g0⟩ := fld hxl hf 0 3 0 1 ⟨_, rfl, rfl, rfl⟩ cells_of_3
    obtain ⟨kind, e0, _, w0⟩ := DataW.trod_int Try.underlying3 g0
    obtain ⟨y1, g1⟩ := fld hxl hf 1 2 1 1 ⟨_, rfl, rfl, rfl⟩ cells_of_2
    obtain ⟨num, e1, _, w1⟩ := DataW.trod_int Try.underlying2 g1
    obtain ⟨y2, g2⟩ := fld hxl hf 2 9 2 1 ⟨_, rfl, rfl, rfl⟩ cells_of_9
    obtain ⟨text, e2, _, w2⟩ := DataW.trod_string Try.underlying9 g2
    simp only [List.drop_zero, List.drop_succ_cons, List.take_succ_cons, List.take_zero, List.cons.injEq, and_true] at e0 e1 e2
    subst e0 e1 e2
    exact ⟨⟨kind, num, text⟩, rfl, int64_of w0, int64_of w1, w2⟩

theorem open_vl {fuel : Nat} {cs : List Value} {x : DataW H × List MemPlace} (h : DataW.trod enc Try.prog w 0 sp hd fuel 69 cs = some x) : ∃ r : VL, cs = r.cells ∧ r.In w := by
  obtain ⟨hd, xs, rfl, hr, hg⟩ := open_row V.cells V.wf Try.underlying69 cells_of_72 (by decide) (fun f cs x _ h => open_val h) h
  exact ⟨⟨hd, xs⟩, rfl, hr, hg⟩
set_option maxRecDepth 100000 in
theorem open_agg {fuel : Nat} {cs : List Value} {x : DataW H × List MemPlace} (h : DataW.trod enc Try.prog w 0 sp hd fuel 74 cs = some x) : ∃ r : Agg, cs = r.cells ∧ int64 r.fn ∧ r.arg.In w := by
  obtain ⟨xs, n, hn, _, hlen, hxl, hf⟩ := DataW.trod_struct Try.underlying74 h
  rw [cells_of_74] at hlen
  obtain ⟨c0, c1, c2, c3, c4, c5, c6, rfl⟩ := list7 hlen
  · skip
    obtain ⟨y0, g0⟩ := fld hxl hf 0 3 0 1 ⟨_, rfl, rfl, rfl⟩ cells_of_3
    obtain ⟨fn, e0, _, w0⟩ := DataW.trod_int Try.underlying3 g0
    obtain ⟨y1, g1⟩ := fld hxl hf 1 41 1 6 ⟨_, rfl, rfl, rfl⟩ cells_of_41
    obtain ⟨arg, e1, w1⟩ := open_ex _ _ _ g1
    simp only [List.drop_zero, List.drop_succ_cons, List.take_succ_cons, List.take_zero, List.cons.injEq, and_true] at e0 e1
    obtain ⟨rfl, rfl, rfl, rfl, rfl, rfl⟩ := e1
    subst e0
    exact ⟨⟨fn, arg⟩, rfl, int64_of w0, w1⟩

set_option maxRecDepth 100000 in
theorem open_qu : ∀ (fuel : Nat) (cs : List Value) (x : DataW H × List MemPlace), DataW.trod enc Try.prog w 0 sp hd fuel 46 cs = some x → ∃ r : Qu, cs = r.cells ∧ r.In w := by
  intro fuel
  induction fuel using Nat.strongRecOn with
  | _ fuel ih =>
  intro cs x h
  obtain ⟨xs, n, hn, _, hlen, hxl, hf⟩ := DataW.trod_struct Try.underlying46 h
  rw [cells_of_46] at hlen
  obtain ⟨c0, c1, c2, c3, c4, c5, c6, c7, c8, c9, c10, c11, c12, c13, c14, rfl⟩ := list15 hlen
  · skip
    obtain ⟨y0, g0⟩ := fld hxl hf 0 3 0 1 ⟨_, rfl, rfl, rfl⟩ cells_of_3
    obtain ⟨op, e0, _, w0⟩ := DataW.trod_int Try.underlying3 g0
    obtain ⟨y1, g1⟩ := fld hxl hf 1 9 1 1 ⟨_, rfl, rfl, rfl⟩ cells_of_9
    obtain ⟨table, e1, _, w1⟩ := DataW.trod_string Try.underlying9 g1
    obtain ⟨y2, g2⟩ := fld hxl hf 2 3 2 1 ⟨_, rfl, rfl, rfl⟩ cells_of_3
    obtain ⟨kind, e2, _, w2⟩ := DataW.trod_int Try.underlying3 g2
    obtain ⟨y3, g3⟩ := fld hxl hf 3 4 3 1 ⟨_, rfl, rfl, rfl⟩ cells_of_4
    obtain ⟨al, e3, _⟩ := DataW.trod_bool Try.underlying4 g3
    obtain ⟨y4, g4⟩ := fld hxl hf 4 41 4 6 ⟨_, rfl, rfl, rfl⟩ cells_of_41
    obtain ⟨cond, e4, w4⟩ := open_ex _ _ _ g4
    obtain ⟨y5, g5⟩ := fld hxl hf 5 34 10 1 ⟨_, rfl, rfl, rfl⟩ cells_of_34
    obtain ⟨exh, ex, e5, r5, w5⟩ := open_row Ex.cells (Ex.In w) Try.underlying34 cells_of_41 (by decide) (fun f cs x hlt h => open_ex _ _ _ h) g5
    obtain ⟨y6, g6⟩ := fld hxl hf 6 42 11 1 ⟨_, rfl, rfl, rfl⟩ cells_of_42
    obtain ⟨agh, ag, e6, r6, w6⟩ := open_row Agg.cells (fun a => int64 a.fn ∧ a.arg.In w) Try.underlying42 cells_of_74 (by decide) (fun f cs x hlt h => open_agg h) g6
    obtain ⟨y7, g7⟩ := fld hxl hf 7 31 12 1 ⟨_, rfl, rfl, rfl⟩ cells_of_31
    obtain ⟨ty, e7, w7⟩ := open_il g7
    obtain ⟨y8, g8⟩ := fld hxl hf 8 43 13 1 ⟨_, rfl, rfl, rfl⟩ cells_of_43
    obtain ⟨roh, ro, e8, r8, w8⟩ := open_row VL.cells (VL.In w) Try.underlying43 cells_of_69 (by decide) (fun f cs x hlt h => open_vl h) g8
    obtain ⟨y9, g9⟩ := fld hxl hf 9 44 14 1 ⟨_, rfl, rfl, rfl⟩ cells_of_44
    obtain ⟨kidsh, kids, e9, r9, w9⟩ := open_row Qu.cells (Qu.In w) Try.underlying44 cells_of_46 (by decide) (fun f cs x hlt h => ih f (by omega) cs x h) g9
    simp only [List.drop_zero, List.drop_succ_cons, List.take_succ_cons, List.take_zero, List.cons.injEq, and_true] at e0 e1 e2 e3 e4 e5 e6 e7 e8 e9
    obtain ⟨rfl, rfl, rfl, rfl, rfl, rfl⟩ := e4
    subst e0 e1 e2 e3 e5 e6 e7 e8 e9
    exact ⟨⟨op, table, kind, al, cond, exh, ex, agh, ag, ty, roh, ro, kidsh, kids⟩, rfl, ⟨_, ⟨int64_of w0, w1, int64_of w2, w4, r5, w5, r6, w6, w7, r8, w8⟩, r9, w9⟩⟩

end
end Go.Proofs.Ytmnbhdhgjbgidaa

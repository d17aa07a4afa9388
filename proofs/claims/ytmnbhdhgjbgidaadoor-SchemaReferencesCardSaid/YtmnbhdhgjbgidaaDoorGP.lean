/- SchemaReferences: for every list the law returns true, and the list reads as it did. The package variable expression.operations starts as the program's text lays it (the card ties that to the text). No other condition. -/
import Derived.Test.YtmnbhdhgjbgidaaDoorOps
import Derived.Test.YtmnbhdhgjbgidaaDoorRows
import Derived.Test.YtmnbhdhgjbgidaaDoorProg
import Derived.Test.YtmnbhdhgjbgidaaDoorData
import Derived.Test.YtmnbhdhgjbgidaaDoorCards
import Derived.Test.YtmnbhdhgjbgidaaDoorTie
import Derived.Test.YtmnbhdhgjbgidaaDoorGV
import Derived.Test.YtmnbhdhgjbgidaaDoorMadeZ
import Derived.Test.YtmnbhdhgjbgidaaDoorGU
import Derived.OpenShut
import Derived.Lib.LaidU8
import Derived.ProofKit
import Derived.KernelRfl
import Derived.WalkKit
import Derived.ChangeOld
import Derived.Deep.DeepHandedRow
/- What the row's list says of expression.operations, cell by cell. -/
namespace Go.Proofs.YtmnbhdhgjbgidaaDoor
open Go.RowKit

theorem gOpers : Tryd.prog.globalNamed "querylab/expression.operations" = some 2 := by kernel_rfl
theorem gOpersType : (Tryd.prog.globals[2]?).map (·.type) = some 155 := by kernel_rfl
theorem cellsOper : Tryd.prog.cellsOf 135 = 4 := by kernel_rfl

section
variable {H : Type} {enc : TypeId × Value → H} {w : World} {base : Nat} {sp : Nat → Bool} {held : Bool} {fuel : Nat}
theorem oper_cells {c : List Value} {x : List UInt8} {n1 n2 n3 : Int} {d : DataW H × List MemPlace} (hd : d.1 = .agg [.lit (.string x), .lit (.int .i64 n1), .lit (.int .i64 n2), .lit (.int .i64 n3)])
    (h : DataW.trod enc Tryd.prog w base sp held fuel 135 c = some d) : c[0]? = some (.string ⟨x.toArray⟩) ∧ c[1]? = some (.int .i64 n1) ∧ c[2]? = some (.int .i64 n2) ∧ c[3]? = some (.int .i64 n3) := by
  obtain ⟨xs, m, rfl, rfl, hl, hxl, hall⟩ := DataW.trod_struct Tryd.underlying135 h
  have hd' : xs.map (·.1) = [.lit (.string x), .lit (.int .i64 n1), .lit (.int .i64 n2), .lit (.int .i64 n3)] := by simpa using hd
  have h0 := hall 0 _ rfl
  have h1 := hall 1 _ rfl
  have h2 := hall 2 _ rfl
  have h3 := hall 3 _ rfl
  obtain ⟨a0, a1, a2, a3, rfl⟩ : ∃ a0 a1 a2 a3, xs = [a0, a1, a2, a3] := by
    match xs, hxl with
    | [a0, a1, a2, a3], _ => exact ⟨a0, a1, a2, a3, rfl⟩
  simp only [List.map_cons, List.map_nil, List.cons.injEq, and_true] at hd'
  obtain ⟨e0, e1, e2, e3⟩ := hd'
  simp only [List.getElem?_cons_zero, List.getElem?_cons_succ] at h0 h1 h2 h3
  obtain ⟨s0, hc0, he0, -⟩ := DataW.trod_string Tryd.underlying9 h0
  obtain ⟨m1, hc1, he1, -⟩ := DataW.trod_int Tryd.underlying3 h1
  obtain ⟨m2, hc2, he2, -⟩ := DataW.trod_int Tryd.underlying3 h2
  obtain ⟨m3, hc3, he3, -⟩ := DataW.trod_int Tryd.underlying3 h3
  subst he0; subst he1; subst he2; subst he3
  simp only [DataW.lit.injEq, Lit.string.injEq, Lit.int.injEq, true_and] at e0 e1 e2 e3
  subst e1; subst e2; subst e3
  have g0 := congrArg (·[0]?) hc0
  have g1 := congrArg (·[0]?) hc1
  have g2 := congrArg (·[0]?) hc2
  have g3 := congrArg (·[0]?) hc3
  simp only [List.getElem?_take, List.getElem?_drop, List.getElem?_cons_zero] at g0 g1 g2 g3
  refine ⟨?_, ?_, ?_, ?_⟩
  · rw [← e0]
    have := (show _ ∧ c[0]? = some (Value.string s0) by simpa using g0).2
    simp only [Array.toArray_toList]
    exact this
  · exact (show _ ∧ c[1]? = some (Value.int .i64 m1) by simpa using g1).2
  · exact (show _ ∧ c[2]? = some (Value.int .i64 m2) by simpa using g2).2
  · exact (show _ ∧ c[3]? = some (Value.int .i64 m3) by simpa using g3).2
end

theorem ops_of_reads {W : World} (h : Lib.VarReads Tryd.prog W "querylab/expression.operations" Rows.laid_querylab_expression_operations) : OpsAt W := by
  obtain ⟨g, t, cs, fuel, p, hg, ht, hv, hr⟩ := h
  obtain rfl := Option.some.inj (gOpers.symm.trans hg)
  obtain rfl := Option.some.inj (gOpersType.symm.trans ht)
  obtain ⟨xs, m, rfl, hx, hl, hxl, hall⟩ := DataW.trod_array Tryd.underlying155 hr
  have hx' : Rows.laid_querylab_expression_operations (H := Unit) = .agg (xs.map (·.1)) := congrArg Prod.fst hx
  unfold Rows.laid_querylab_expression_operations at hx'
  injection hx' with hx'
  have key : ∀ (i : Nat) (hi : i < 29) (x : List UInt8) (n1 n2 n3 : Int), (xs.map (·.1))[i]? = some (.agg [.lit (.string x), .lit (.int .i64 n1), .lit (.int .i64 n2), .lit (.int .i64 n3)]) →
      W.cell? ⟨2, i * 4, none⟩ = some (.string ⟨x.toArray⟩) ∧ W.cell? ⟨2, i * 4 + 1, none⟩ = some (.int .i64 n1) ∧ W.cell? ⟨2, i * 4 + 2, none⟩ = some (.int .i64 n2) ∧ W.cell? ⟨2, i * 4 + 3, none⟩ = some (.int .i64 n3) := by
    intro i hi x n1 n2 n3 hd
    have h1 := hall i hi
    rw [List.getElem?_map] at hd
    obtain ⟨d, hd1, hd2⟩ := Option.map_eq_some_iff.1 hd
    rw [hd1, cellsOper] at h1
    obtain ⟨c0, c1, c2, c3⟩ := oper_cells hd2 h1
    rw [World.var?_cell gOpers hv, World.var?_cell gOpers hv, World.var?_cell gOpers hv, World.var?_cell gOpers hv]
    simp only [List.getElem?_take, List.getElem?_drop] at c0 c1 c2 c3
    refine ⟨?_, ?_, ?_, ?_⟩
    · simpa using c0
    · simpa using c1
    · simpa using c2
    · simpa using c3
  rw [← hx'] at key
  intro i hi
  have hc : i = 0 ∨ i = 1 ∨ i = 2 ∨ i = 3 ∨ i = 4 ∨ i = 5 ∨ i = 6 ∨ i = 7 ∨ i = 8 ∨ i = 9 ∨ i = 10 ∨ i = 11 ∨ i = 12 ∨ i = 13 ∨ i = 14 ∨ i = 15 ∨ i = 16 ∨ i = 17 ∨ i = 18 ∨ i = 19 ∨ i = 20 ∨ i = 21 ∨ i = 22 ∨ i = 23 ∨ i = 24 ∨ i = 25 ∨ i = 26 ∨ i = 27 ∨ i = 28 := by have := ops_len; omega
  rcases hc with rfl | rfl | rfl | rfl | rfl | rfl | rfl | rfl | rfl | rfl | rfl | rfl | rfl | rfl | rfl | rfl | rfl | rfl | rfl | rfl | rfl | rfl | rfl | rfl | rfl | rfl | rfl | rfl | rfl
  all_goals exact key _ (by decide) _ _ _ _ rfl
end Go.Proofs.YtmnbhdhgjbgidaaDoor

/- What reads as a Go value is one of the trees of the data text, and lies in the world. -/
namespace Go.Proofs.YtmnbhdhgjbgidaaDoor
open Go.RowKit Go.ChangeShapes Go.WideShapes

section
variable {H : Type} {enc : TypeId × Value → H} {w : World} {sp : Nat → Bool} {hd : Bool}

theorem pick_list {α : Type} {p : Nat → α → Prop} : ∀ (n : Nat), (∀ i, i < n → ∃ a, p i a) → ∃ xs : List α, xs.length = n ∧ ∀ i (h : i < xs.length), p i xs[i]
  | 0, _ => ⟨[], rfl, fun i h => absurd h (by simp)⟩
  | n + 1, h => by
    obtain ⟨xs, hl, hx⟩ := pick_list n (fun i hi => h i (by omega))
    obtain ⟨a, ha⟩ := h n (by omega)
    refine ⟨xs ++ [a], by simp [hl], fun i hi => ?_⟩
    by_cases e : i < xs.length
    · rw [List.getElem_append_left e]; exact hx i e
    · have hin : i = xs.length := by simp at hi; omega
      subst hin
      rw [List.getElem_append_right (by omega)]
      simpa [hl] using ha

theorem open_row {P : Program} {α : Type} {t e : TypeId} {size fuel : Nat} {cs : List Value} {x : DataW H × List MemPlace} (cells : α → List Value) (good : α → Prop)
    (ht : P.underlying t = some (.slice e)) (hc : P.cellsOf e = size) (hpos : 0 < size)
    (hel : ∀ fuel' cs' x', fuel' < fuel → DataW.trod enc P w 0 sp hd fuel' e cs' = some x' → ∃ a : α, cs' = cells a ∧ good a)
    (h : DataW.trod enc P w 0 sp hd fuel t cs = some x) : ∃ (h : Hd) (xs : List α), cs = [.slice h.ao xs.length h.cap] ∧ Row w size cells h xs ∧ ∀ a ∈ xs, good a := by
  rcases DataW.trod_slice ht h with ⟨rfl, _⟩ | ⟨a, len, cap, elems, rest, n, hn, rfl, _, _, hl, hm, hlen, hall, _⟩
  · exact ⟨nilHd, [], rfl, Row.nil _ _ _, fun a ha => by cases ha⟩
  · rw [hc] at hall
    have key : ∀ i, i < len → ∃ b : α, (∀ j v, (cells b)[j]? = some v → w.cell? ((a.add (i * size)).add j) = some v) ∧ (cells b).length = size ∧ good b := by
      intro i hi
      have h1 := hall i hi
      rw [List.getElem?_eq_getElem (by omega)] at h1
      obtain ⟨cs', hcs, htr⟩ := Option.bind_eq_some_iff.1 h1
      obtain ⟨b, rfl, hb⟩ := hel n cs' _ (by omega) htr
      obtain ⟨_, hcl, hcell⟩ := World.cells?_some hcs
      refine ⟨b, fun j v hv => ?_, hcl, hb⟩
      have hj : j < size := by rw [← hcl]; exact (List.getElem?_eq_some_iff.1 hv).1
      rw [hcell j hj]; exact hv
    obtain ⟨xs, hxl, hx⟩ := pick_list len key
    subst hxl
    obtain ⟨b, o, spot⟩ := a
    have hspot : 0 < xs.length → spot = none ∧ b < w.heap.size := by
      intro hp
      obtain ⟨g1, g2, _⟩ := hx 0 hp
      have hv : (cells (xs[0]'hp))[0]? = some ((cells (xs[0]'hp))[0]'(by omega)) := List.getElem?_eq_getElem (by omega)
      have := g1 0 _ hv
      simp only [Nat.zero_mul] at this
      have h0 : ((⟨b, o, spot⟩ : Addr).add 0).add 0 = ⟨b, o, spot⟩ := by simp [Addr.add]
      rw [h0] at this
      have hs := World.cell?_spot this
      have hs' : spot = none := by simpa using hs
      subst hs'
      exact ⟨rfl, World.block_lt_of_cell? w ⟨b, o, none⟩ this⟩
    refine ⟨⟨some ⟨b, o, spot⟩, cap⟩, xs, rfl, ⟨hl, hm, fun hp => ?_, fun i hi j v hv => ?_⟩, fun a ha => ?_⟩
    · obtain ⟨rfl, hlt⟩ := hspot hp
      exact ⟨rfl, hlt⟩
    · obtain ⟨rfl, hlt⟩ := hspot (by omega)
      have := (hx i hi).1 j v hv
      rw [Addr.add_lit, Addr.add_lit] at this
      exact this
    · obtain ⟨i, hi, rfl⟩ := List.getElem_of_mem ha
      exact (hx i hi).2.2

theorem fld {P : Program} {n : Nat} {cs : List Value} {xs : List (DataW H × List MemPlace)} {fs : Array Field} (hxl : xs.length = fs.size)
    (hf : ∀ (i : Nat) (f : Field), fs[i]? = some f → DataW.trod enc P w 0 sp hd n f.type ((cs.drop f.offset).take (P.cellsOf f.type)) = xs[i]?) (i T off sz : Nat) (hif : ∃ f, fs[i]? = some f ∧ f.type = T ∧ f.offset = off) (hs : P.cellsOf T = sz) :
    ∃ y, DataW.trod enc P w 0 sp hd n T ((cs.drop off).take sz) = some y := by
  obtain ⟨f, hif, rfl, rfl⟩ := hif
  subst hs
  have hi : i < xs.length := by rw [hxl]; exact (Array.getElem?_eq_some_iff.1 hif).1
  exact ⟨_, (hf i f hif).trans (List.getElem?_eq_getElem hi)⟩

theorem int64_of {n : Int} (h : (Lit.int .i64 n).wf = true) : int64 n := by
  exact bounds_i64 h
theorem list1 {α : Type} {l : List α} (h : l.length = 1) : ∃ c0, l = [c0] := by
  match l, h with
  | [c0], _ => exact ⟨c0, rfl⟩
theorem list2 {α : Type} {l : List α} (h : l.length = 2) : ∃ c0 c1, l = [c0, c1] := by
  match l, h with
  | [c0, c1], _ => exact ⟨c0, c1, rfl⟩
theorem list3 {α : Type} {l : List α} (h : l.length = 3) : ∃ c0 c1 c2, l = [c0, c1, c2] := by
  match l, h with
  | [c0, c1, c2], _ => exact ⟨c0, c1, c2, rfl⟩
theorem list6 {α : Type} {l : List α} (h : l.length = 6) : ∃ c0 c1 c2 c3 c4 c5, l = [c0, c1, c2, c3, c4, c5] := by
  match l, h with
  | [c0, c1, c2, c3, c4, c5], _ => exact ⟨c0, c1, c2, c3, c4, c5, rfl⟩
theorem list7 {α : Type} {l : List α} (h : l.length = 7) : ∃ c0 c1 c2 c3 c4 c5 c6, l = [c0, c1, c2, c3, c4, c5, c6] := by
  match l, h with
  | [c0, c1, c2, c3, c4, c5, c6], _ => exact ⟨c0, c1, c2, c3, c4, c5, c6, rfl⟩
theorem list15 {α : Type} {l : List α} (h : l.length = 15) : ∃ c0 c1 c2 c3 c4 c5 c6 c7 c8 c9 c10 c11 c12 c13 c14, l = [c0, c1, c2, c3, c4, c5, c6, c7, c8, c9, c10, c11, c12, c13, c14] := by
  match l, h with
  | [c0, c1, c2, c3, c4, c5, c6, c7, c8, c9, c10, c11, c12, c13, c14], _ => exact ⟨c0, c1, c2, c3, c4, c5, c6, c7, c8, c9, c10, c11, c12, c13, c14, rfl⟩

theorem cells_of_3 : Tryd.prog.cellsOf 3 = 1 := by kernel_rfl
theorem cells_of_2 : Tryd.prog.cellsOf 2 = 1 := by kernel_rfl
theorem cells_of_9 : Tryd.prog.cellsOf 9 = 1 := by kernel_rfl
theorem cells_of_4 : Tryd.prog.cellsOf 4 = 1 := by kernel_rfl
theorem cells_of_22 : Tryd.prog.cellsOf 22 = 1 := by kernel_rfl
theorem cells_of_35 : Tryd.prog.cellsOf 35 = 1 := by kernel_rfl
theorem cells_of_37 : Tryd.prog.cellsOf 37 = 1 := by kernel_rfl
theorem cells_of_45 : Tryd.prog.cellsOf 45 = 6 := by kernel_rfl
theorem cells_of_41 : Tryd.prog.cellsOf 41 = 3 := by kernel_rfl
theorem cells_of_34 : Tryd.prog.cellsOf 34 = 1 := by kernel_rfl
theorem cells_of_43 : Tryd.prog.cellsOf 43 = 2 := by kernel_rfl
theorem cells_of_36 : Tryd.prog.cellsOf 36 = 1 := by kernel_rfl
theorem cells_of_39 : Tryd.prog.cellsOf 39 = 6 := by kernel_rfl
theorem cells_of_26 : Tryd.prog.cellsOf 26 = 1 := by kernel_rfl
theorem cells_of_28 : Tryd.prog.cellsOf 28 = 1 := by kernel_rfl
theorem cells_of_98 : Tryd.prog.cellsOf 98 = 3 := by kernel_rfl
theorem cells_of_79 : Tryd.prog.cellsOf 79 = 1 := by kernel_rfl
theorem cells_of_54 : Tryd.prog.cellsOf 54 = 1 := by kernel_rfl
theorem cells_of_63 : Tryd.prog.cellsOf 63 = 7 := by kernel_rfl
theorem cells_of_53 : Tryd.prog.cellsOf 53 = 1 := by kernel_rfl
theorem cells_of_57 : Tryd.prog.cellsOf 57 = 15 := by kernel_rfl
theorem cells_of_55 : Tryd.prog.cellsOf 55 = 1 := by kernel_rfl

theorem open_il {fuel : Nat} {cs : List Value} {x : DataW H × List MemPlace} (h : DataW.trod enc Tryd.prog w 0 sp hd fuel 22 cs = some x) : ∃ r : IL, cs = r.cells ∧ r.In w := by
  obtain ⟨hd, xs, rfl, hr, hg⟩ := open_row icells int64 Tryd.underlying22 cells_of_3 (by decide) (fun f cs x _ h => by obtain ⟨n, rfl, _, hw⟩ := DataW.trod_int Tryd.underlying3 h; exact ⟨n, rfl, int64_of hw⟩) h
  exact ⟨⟨hd, xs⟩, rfl, hr, hg⟩

set_option maxRecDepth 100000 in
theorem open_ex : ∀ (fuel : Nat) (cs : List Value) (x : DataW H × List MemPlace), DataW.trod enc Tryd.prog w 0 sp hd fuel 45 cs = some x → ∃ r : Ex, cs = r.cells ∧ r.In w := by
  intro fuel
  induction fuel using Nat.strongRecOn with
  | _ fuel ih =>
  intro cs x h
  obtain ⟨xs, n, hn, _, hlen, hxl, hf⟩ := DataW.trod_struct Tryd.underlying45 h
  rw [cells_of_45] at hlen
  obtain ⟨c0, c1, c2, c3, c4, c5, rfl⟩ := list6 hlen
  · skip
    obtain ⟨y0, g0⟩ := fld hxl hf 0 3 0 1 ⟨_, rfl, rfl, rfl⟩ cells_of_3
    obtain ⟨op, e0, _, w0⟩ := DataW.trod_int Tryd.underlying3 g0
    obtain ⟨y1, g1⟩ := fld hxl hf 1 3 1 1 ⟨_, rfl, rfl, rfl⟩ cells_of_3
    obtain ⟨typ, e1, _, w1⟩ := DataW.trod_int Tryd.underlying3 g1
    obtain ⟨y2, g2⟩ := fld hxl hf 2 2 2 1 ⟨_, rfl, rfl, rfl⟩ cells_of_2
    obtain ⟨num, e2, _, w2⟩ := DataW.trod_int Tryd.underlying2 g2
    obtain ⟨y3, g3⟩ := fld hxl hf 3 9 3 1 ⟨_, rfl, rfl, rfl⟩ cells_of_9
    obtain ⟨text, e3, _, w3⟩ := DataW.trod_string Tryd.underlying9 g3
    obtain ⟨y4, g4⟩ := fld hxl hf 4 3 4 1 ⟨_, rfl, rfl, rfl⟩ cells_of_3
    obtain ⟨col, e4, _, w4⟩ := DataW.trod_int Tryd.underlying3 g4
    obtain ⟨y5, g5⟩ := fld hxl hf 5 37 5 1 ⟨_, rfl, rfl, rfl⟩ cells_of_37
    obtain ⟨kidsh, kids, e5, r5, w5⟩ := open_row Ex.cells (Ex.In w) Tryd.underlying37 cells_of_45 (by decide) (fun f cs x hlt h => ih f (by omega) cs x h) g5
    simp only [List.drop_zero, List.drop_succ_cons, List.take_succ_cons, List.take_zero, List.cons.injEq, and_true] at e0 e1 e2 e3 e4 e5
    subst e0 e1 e2 e3 e4 e5
    exact ⟨⟨op, typ, num, text, col, kidsh, kids⟩, rfl, ⟨_, ⟨int64_of w0, int64_of w1, int64_of w2, w3, int64_of w4⟩, r5, w5⟩⟩

set_option maxRecDepth 100000 in
theorem open_col {fuel : Nat} {cs : List Value} {x : DataW H × List MemPlace} (h : DataW.trod enc Tryd.prog w 0 sp hd fuel 41 cs = some x) : ∃ r : Col, cs = r.cells ∧ r.wf := by
  obtain ⟨xs, n, hn, _, hlen, hxl, hf⟩ := DataW.trod_struct Tryd.underlying41 h
  rw [cells_of_41] at hlen
  obtain ⟨c0, c1, c2, rfl⟩ := list3 hlen
  · skip
    obtain ⟨y0, g0⟩ := fld hxl hf 0 9 0 1 ⟨_, rfl, rfl, rfl⟩ cells_of_9
    obtain ⟨nm, e0, _, w0⟩ := DataW.trod_string Tryd.underlying9 g0
    obtain ⟨y1, g1⟩ := fld hxl hf 1 3 1 1 ⟨_, rfl, rfl, rfl⟩ cells_of_3
    obtain ⟨typ, e1, _, w1⟩ := DataW.trod_int Tryd.underlying3 g1
    obtain ⟨y2, g2⟩ := fld hxl hf 2 4 2 1 ⟨_, rfl, rfl, rfl⟩ cells_of_4
    obtain ⟨nul, e2, _⟩ := DataW.trod_bool Tryd.underlying4 g2
    simp only [List.drop_zero, List.drop_succ_cons, List.take_succ_cons, List.take_zero, List.cons.injEq, and_true] at e0 e1 e2
    subst e0 e1 e2
    exact ⟨⟨nm, typ, nul⟩, rfl, w0, int64_of w1⟩

set_option maxRecDepth 100000 in
theorem open_frn {fuel : Nat} {cs : List Value} {x : DataW H × List MemPlace} (h : DataW.trod enc Tryd.prog w 0 sp hd fuel 43 cs = some x) : ∃ r : Frn, cs = r.cells ∧ r.In w := by
  obtain ⟨xs, n, hn, _, hlen, hxl, hf⟩ := DataW.trod_struct Tryd.underlying43 h
  rw [cells_of_43] at hlen
  obtain ⟨c0, c1, rfl⟩ := list2 hlen
  · skip
    obtain ⟨y0, g0⟩ := fld hxl hf 0 22 0 1 ⟨_, rfl, rfl, rfl⟩ cells_of_22
    obtain ⟨cols, e0, w0⟩ := open_il g0
    obtain ⟨y1, g1⟩ := fld hxl hf 1 9 1 1 ⟨_, rfl, rfl, rfl⟩ cells_of_9
    obtain ⟨tab, e1, _, w1⟩ := DataW.trod_string Tryd.underlying9 g1
    simp only [List.drop_zero, List.drop_succ_cons, List.take_succ_cons, List.take_zero, List.cons.injEq, and_true] at e0 e1
    subst e0 e1
    exact ⟨⟨cols, tab⟩, rfl, w0, w1⟩

set_option maxRecDepth 100000 in
theorem open_tab {fuel : Nat} {cs : List Value} {x : DataW H × List MemPlace} (h : DataW.trod enc Tryd.prog w 0 sp hd fuel 39 cs = some x) : ∃ r : Tab, cs = r.cells ∧ r.In w := by
  obtain ⟨xs, n, hn, _, hlen, hxl, hf⟩ := DataW.trod_struct Tryd.underlying39 h
  rw [cells_of_39] at hlen
  obtain ⟨c0, c1, c2, c3, c4, c5, rfl⟩ := list6 hlen
  · skip
    obtain ⟨y0, g0⟩ := fld hxl hf 0 9 0 1 ⟨_, rfl, rfl, rfl⟩ cells_of_9
    obtain ⟨nm, e0, _, w0⟩ := DataW.trod_string Tryd.underlying9 g0
    obtain ⟨y1, g1⟩ := fld hxl hf 1 34 1 1 ⟨_, rfl, rfl, rfl⟩ cells_of_34
    obtain ⟨colsh, cols, e1, r1, w1⟩ := open_row Col.cells Col.wf Tryd.underlying34 cells_of_41 (by decide) (fun f cs x hlt h => open_col h) g1
    obtain ⟨y2, g2⟩ := fld hxl hf 2 22 2 1 ⟨_, rfl, rfl, rfl⟩ cells_of_22
    obtain ⟨prim, e2, w2⟩ := open_il g2
    obtain ⟨y3, g3⟩ := fld hxl hf 3 35 3 1 ⟨_, rfl, rfl, rfl⟩ cells_of_35
    obtain ⟨uqh, uq, e3, r3, w3⟩ := open_row IL.cells (IL.In w) Tryd.underlying35 cells_of_22 (by decide) (fun f cs x hlt h => open_il h) g3
    obtain ⟨y4, g4⟩ := fld hxl hf 4 36 4 1 ⟨_, rfl, rfl, rfl⟩ cells_of_36
    obtain ⟨foh, fo, e4, r4, w4⟩ := open_row Frn.cells (Frn.In w) Tryd.underlying36 cells_of_43 (by decide) (fun f cs x hlt h => open_frn h) g4
    obtain ⟨y5, g5⟩ := fld hxl hf 5 37 5 1 ⟨_, rfl, rfl, rfl⟩ cells_of_37
    obtain ⟨ckh, ck, e5, r5, w5⟩ := open_row Ex.cells (Ex.In w) Tryd.underlying37 cells_of_45 (by decide) (fun f cs x hlt h => open_ex _ _ _ h) g5
    simp only [List.drop_zero, List.drop_succ_cons, List.take_succ_cons, List.take_zero, List.cons.injEq, and_true] at e0 e1 e2 e3 e4 e5
    subst e0 e1 e2 e3 e4 e5
    exact ⟨⟨nm, colsh, cols, prim, uqh, uq, foh, fo, ckh, ck⟩, rfl, ⟨w0, r1, w1, w2, r3, w3, r4, w4, r5, w5⟩⟩

set_option maxRecDepth 100000 in
theorem open_sch {fuel : Nat} {cs : List Value} {x : DataW H × List MemPlace} (h : DataW.trod enc Tryd.prog w 0 sp hd fuel 28 cs = some x) : ∃ r : Sch, cs = r.cells ∧ r.In w := by
  obtain ⟨xs, n, hn, _, hlen, hxl, hf⟩ := DataW.trod_struct Tryd.underlying28 h
  rw [cells_of_28] at hlen
  obtain ⟨c0, rfl⟩ := list1 hlen
  · skip
    obtain ⟨y0, g0⟩ := fld hxl hf 0 26 0 1 ⟨_, rfl, rfl, rfl⟩ cells_of_26
    obtain ⟨tabsh, tabs, e0, r0, w0⟩ := open_row Tab.cells (Tab.In w) Tryd.underlying26 cells_of_39 (by decide) (fun f cs x hlt h => open_tab h) g0
    simp only [List.drop_zero, List.take_succ_cons, List.take_zero, List.cons.injEq, and_true] at e0
    subst e0
    exact ⟨⟨tabsh, tabs⟩, rfl, ⟨r0, w0⟩⟩

set_option maxRecDepth 100000 in
theorem open_val {fuel : Nat} {cs : List Value} {x : DataW H × List MemPlace} (h : DataW.trod enc Tryd.prog w 0 sp hd fuel 98 cs = some x) : ∃ r : V, cs = r.cells ∧ r.wf := by
  obtain ⟨xs, n, hn, _, hlen, hxl, hf⟩ := DataW.trod_struct Tryd.underlying98 h
  rw [cells_of_98] at hlen
  obtain ⟨c0, c1, c2, rfl⟩ := list3 hlen
  · skip
    obtain ⟨y0, g0⟩ := fld hxl hf 0 3 0 1 ⟨_, rfl, rfl, rfl⟩ cells_of_3
    obtain ⟨kind, e0, _, w0⟩ := DataW.trod_int Tryd.underlying3 g0
    obtain ⟨y1, g1⟩ := fld hxl hf 1 2 1 1 ⟨_, rfl, rfl, rfl⟩ cells_of_2
    obtain ⟨num, e1, _, w1⟩ := DataW.trod_int Tryd.underlying2 g1
    obtain ⟨y2, g2⟩ := fld hxl hf 2 9 2 1 ⟨_, rfl, rfl, rfl⟩ cells_of_9
    obtain ⟨text, e2, _, w2⟩ := DataW.trod_string Tryd.underlying9 g2
    simp only [List.drop_zero, List.drop_succ_cons, List.take_succ_cons, List.take_zero, List.cons.injEq, and_true] at e0 e1 e2
    subst e0 e1 e2
    exact ⟨⟨kind, num, text⟩, rfl, int64_of w0, int64_of w1, w2⟩

theorem open_vl {fuel : Nat} {cs : List Value} {x : DataW H × List MemPlace} (h : DataW.trod enc Tryd.prog w 0 sp hd fuel 79 cs = some x) : ∃ r : VL, cs = r.cells ∧ r.In w := by
  obtain ⟨hd, xs, rfl, hr, hg⟩ := open_row V.cells V.wf Tryd.underlying79 cells_of_98 (by decide) (fun f cs x _ h => open_val h) h
  exact ⟨⟨hd, xs⟩, rfl, hr, hg⟩
set_option maxRecDepth 100000 in
theorem open_agg {fuel : Nat} {cs : List Value} {x : DataW H × List MemPlace} (h : DataW.trod enc Tryd.prog w 0 sp hd fuel 63 cs = some x) : ∃ r : Agg, cs = r.cells ∧ int64 r.fn ∧ r.arg.In w := by
  obtain ⟨xs, n, hn, _, hlen, hxl, hf⟩ := DataW.trod_struct Tryd.underlying63 h
  rw [cells_of_63] at hlen
  obtain ⟨c0, c1, c2, c3, c4, c5, c6, rfl⟩ := list7 hlen
  · skip
    obtain ⟨y0, g0⟩ := fld hxl hf 0 3 0 1 ⟨_, rfl, rfl, rfl⟩ cells_of_3
    obtain ⟨fn, e0, _, w0⟩ := DataW.trod_int Tryd.underlying3 g0
    obtain ⟨y1, g1⟩ := fld hxl hf 1 45 1 6 ⟨_, rfl, rfl, rfl⟩ cells_of_45
    obtain ⟨arg, e1, w1⟩ := open_ex _ _ _ g1
    simp only [List.drop_zero, List.drop_succ_cons, List.take_succ_cons, List.take_zero, List.cons.injEq, and_true] at e0 e1
    obtain ⟨rfl, rfl, rfl, rfl, rfl, rfl⟩ := e1
    subst e0
    exact ⟨⟨fn, arg⟩, rfl, int64_of w0, w1⟩

set_option maxRecDepth 100000 in
theorem open_qu : ∀ (fuel : Nat) (cs : List Value) (x : DataW H × List MemPlace), DataW.trod enc Tryd.prog w 0 sp hd fuel 57 cs = some x → ∃ r : Qu, cs = r.cells ∧ r.In w := by
  intro fuel
  induction fuel using Nat.strongRecOn with
  | _ fuel ih =>
  intro cs x h
  obtain ⟨xs, n, hn, _, hlen, hxl, hf⟩ := DataW.trod_struct Tryd.underlying57 h
  rw [cells_of_57] at hlen
  obtain ⟨c0, c1, c2, c3, c4, c5, c6, c7, c8, c9, c10, c11, c12, c13, c14, rfl⟩ := list15 hlen
  · skip
    obtain ⟨y0, g0⟩ := fld hxl hf 0 3 0 1 ⟨_, rfl, rfl, rfl⟩ cells_of_3
    obtain ⟨op, e0, _, w0⟩ := DataW.trod_int Tryd.underlying3 g0
    obtain ⟨y1, g1⟩ := fld hxl hf 1 9 1 1 ⟨_, rfl, rfl, rfl⟩ cells_of_9
    obtain ⟨table, e1, _, w1⟩ := DataW.trod_string Tryd.underlying9 g1
    obtain ⟨y2, g2⟩ := fld hxl hf 2 3 2 1 ⟨_, rfl, rfl, rfl⟩ cells_of_3
    obtain ⟨kind, e2, _, w2⟩ := DataW.trod_int Tryd.underlying3 g2
    obtain ⟨y3, g3⟩ := fld hxl hf 3 4 3 1 ⟨_, rfl, rfl, rfl⟩ cells_of_4
    obtain ⟨al, e3, _⟩ := DataW.trod_bool Tryd.underlying4 g3
    obtain ⟨y4, g4⟩ := fld hxl hf 4 45 4 6 ⟨_, rfl, rfl, rfl⟩ cells_of_45
    obtain ⟨cond, e4, w4⟩ := open_ex _ _ _ g4
    obtain ⟨y5, g5⟩ := fld hxl hf 5 37 10 1 ⟨_, rfl, rfl, rfl⟩ cells_of_37
    obtain ⟨exh, ex, e5, r5, w5⟩ := open_row Ex.cells (Ex.In w) Tryd.underlying37 cells_of_45 (by decide) (fun f cs x hlt h => open_ex _ _ _ h) g5
    obtain ⟨y6, g6⟩ := fld hxl hf 6 53 11 1 ⟨_, rfl, rfl, rfl⟩ cells_of_53
    obtain ⟨agh, ag, e6, r6, w6⟩ := open_row Agg.cells (fun a => int64 a.fn ∧ a.arg.In w) Tryd.underlying53 cells_of_63 (by decide) (fun f cs x hlt h => open_agg h) g6
    obtain ⟨y7, g7⟩ := fld hxl hf 7 22 12 1 ⟨_, rfl, rfl, rfl⟩ cells_of_22
    obtain ⟨ty, e7, w7⟩ := open_il g7
    obtain ⟨y8, g8⟩ := fld hxl hf 8 54 13 1 ⟨_, rfl, rfl, rfl⟩ cells_of_54
    obtain ⟨roh, ro, e8, r8, w8⟩ := open_row VL.cells (VL.In w) Tryd.underlying54 cells_of_79 (by decide) (fun f cs x hlt h => open_vl h) g8
    obtain ⟨y9, g9⟩ := fld hxl hf 9 55 14 1 ⟨_, rfl, rfl, rfl⟩ cells_of_55
    obtain ⟨kidsh, kids, e9, r9, w9⟩ := open_row Qu.cells (Qu.In w) Tryd.underlying55 cells_of_57 (by decide) (fun f cs x hlt h => ih f (by omega) cs x h) g9
    simp only [List.drop_zero, List.drop_succ_cons, List.take_succ_cons, List.take_zero, List.cons.injEq, and_true] at e0 e1 e2 e3 e4 e5 e6 e7 e8 e9
    obtain ⟨rfl, rfl, rfl, rfl, rfl, rfl⟩ := e4
    subst e0 e1 e2 e3 e5 e6 e7 e8 e9
    exact ⟨⟨op, table, kind, al, cond, exh, ex, agh, ag, ty, roh, ro, kidsh, kids⟩, rfl, ⟨_, ⟨int64_of w0, w1, int64_of w2, w4, r5, w5, r6, w6, w7, r8, w8⟩, r9, w9⟩⟩

end
end Go.Proofs.YtmnbhdhgjbgidaaDoor

/- SchemaReferences: for every list the law returns true, and the list reads as it did. The package variable expression.operations starts as the program's text lays it (the card ties that to the text). No other condition. -/
namespace Go.Proofs.YtmnbhdhgjbgidaaDoor.schemaReferences
open Go.ChangeShapes Go.WideShapes Go.ChangeAt Go.RowKit

theorem own : ownKnob Tryd.prog.godebug = none := by kernel_rfl
theorem laidOut : laidOutB Tryd.prog = true := by kernel_rfl

/-- The cells that a datum of structs, strings and integers takes. -/
def flatD : Nat → DataW Unit → List Value
  | n + 1, .agg l => l.flatMap (flatD n)
  | _ + 1, .lit (.string s) => [.string ⟨s.toArray⟩]
  | _ + 1, .lit (.int k n) => [.int k n]
  | _, _ => []
/-- A world for the witness: the settled one, the table holding what its initialiser lays. -/
noncomputable def laidWorld (os : Os) : World :=
  let w0 := World.holding Tryd.prog os ⟨#[], #[], []⟩
  let put (h : Array Obj) (g : Nat) (cs : Array Value) : Array Obj := h.modify g fun
    | .cells _ t frozen => .cells cs t frozen
    | o => o
  { w0 with heap := put w0.heap 2 (flatD 8 Rows.laid_querylab_expression_operations).toArray }
theorem laid_met (os : Os) : laidMet Tryd.prog Rows.schemaReferencesRow.laid ((laidWorld os).forCall (fun _ _ => 0) ⟨#[], #[.slice none 0 0], []⟩).memory :=
  laidMet_of_run' 8 (by kernel_rfl) (by kernel_rfl)
theorem reads (os : Os) {H : Type} (enc : TypeId × Value → H) : ∃ places, DataW.whole enc Tryd.prog ((laidWorld os).forCall (fun _ _ => 0) ⟨#[], #[.slice none 0 0], []⟩).memory Tryd.f4.params.toList Rows.schemaReferencesSpec.vars false (#[Value.slice none 0 0] : Array Value).toList 8 = some ([.nil], [], places) :=
  ⟨[], by kernel_rfl⟩

set_option maxRecDepth 100000 in
theorem contract (H : Type) (enc : TypeId × Value → H) (W : World) (base : Nat) (args : Array Value) (ds gs : List (DataW H)) (before : List MemPlace)
    (hval : ∀ (j : Nat) t v, Tryd.f4.params[j]? = some t → args[j]? = some v → Value.okWide Tryd.prog W .any base t v)
    (hW : DataW.Whole enc Tryd.prog Tryd.f4.params.toList Rows.schemaReferencesSpec.vars false W args.toList ds gs before) (hL : laidMetH Tryd.prog Rows.schemaReferencesRow.laid W) (hsh : W.ShapedOpen Tryd.prog) :
    Calls Tryd.prog 4 args W fun e W' => ∃ v, e = .returned v ∧ Rows.schemaReferencesSpec.post enc Tryd.prog Tryd.f4 false true false false W args v W' := by
  have hW' := hW
  obtain ⟨p, q, hA0, hV, rfl, hfz, hnd⟩ := hW
  have hA : DataW.TrodAll enc Tryd.prog W 0 (fun _ => true) true Tryd.f4.params.toList args.toList ds p := hA0
  rw [Tryd.params4] at hA hval
  obtain ⟨v0, vs0, d0, ds0, p0, q0, hargs, rfl, rfl, h0, r0⟩ := trodAll_cons hA
  obtain ⟨rfl, rfl, rfl⟩ := trodAll_nil r0
  obtain rfl : args = #[v0] := by cases args; simp_all
  obtain ⟨rfl, rfl⟩ := trodVars_none hV
  have k0 := h0
  have lt0 : ∀ x ∈ p0, x.block < W.heap.size := by obtain ⟨m, hm⟩ := k0; exact DataW.trod_lt m _ _ _ hm
  obtain ⟨ao0, n0, cp0, rfl⟩ := okWide_slice Tryd.underlying22 (hval 0 22 v0 rfl rfl)
  obtain ⟨a0, e0, w0⟩ : ∃ a : IL, [Value.slice ao0 n0 cp0] = a.cells ∧ a.In W := by obtain ⟨m, hm⟩ := k0; exact open_il hm
  injection e0 with e0 _
  injection e0 with x0 y0 z0
  subst x0 y0 z0
  clear hA0
  have hr : Lib.VarReads Tryd.prog W "querylab/expression.operations" Rows.laid_querylab_expression_operations := Lib.laidMet.reads (l := Rows.schemaReferencesRow.laid) hL (by simp [Rows.schemaReferencesRow])
  refine (refs_walk (hide (schema_of (hide expr_any3))) a0 W w0 (ops_of_reads hr) hsh).mono fun e W' ⟨he, bel⟩ => ?_
  subst he
  exact ⟨_, rfl, _, _, _, [], _, [], hW', trodAll_mk1 (shut_bool Tryd.underlying4 _), (trodAll_cons_mk (Below.trod laidOut (by kernel_rfl) (of_decide_eq_true (by kernel_rfl)) k0 bel lt0) trodAll_mk0), rfl, bel.frame _, fun h => by cases h⟩

set_option maxRecDepth 100000 in
theorem lifted (os : Os) (started : os.Started) (H : Type) (enc : TypeId × Value → H) (F : Stop.Interp) :
    ReturnsInHanded {} Tryd.checked os 4 .any ((OpenSpec.ofChange Rows.schemaReferencesSpec).preRow enc Tryd.prog Tryd.f4 Rows.schemaReferencesRow.domain false Rows.schemaReferencesRow.laid) (((OpenSpec.ofChange Rows.schemaReferencesSpec).at F).post enc Tryd.prog Tryd.f4 false true false false) := by
  obtain ⟨places, hx⟩ := reads os enc
  refine returnsInHanded_of_row (C := Tryd.checked) (s := OpenSpec.ofChange Rows.schemaReferencesSpec) own started (by kernel_rfl) Tryd.func4
    (witness_row_at (enc := enc) (C := Tryd.checked) false (laidWorld os) #[.slice none 0 0] rfl (by kernel_rfl) (by kernel_rfl) (by kernel_rfl)
      (OpenSpec.preRow_of_cond 8 hx (by kernel_rfl) (fun k hk => by cases hk) (by kernel_rfl) (laid_met os))) ?_
  intro W base args ds gs before hval hW _ _ _ hL hsh _
  exact contract H enc W base args ds gs before hval hW hL hsh

theorem said : Rows.SchemaReferencesSaid :=
  OpenClaim.holds_of_cond 4 Tryd.f4 rfl rfl rfl rfl rfl rfl rfl ⟨rfl, rfl, rfl, rfl, rfl⟩ rfl rfl rfl rfl rfl (by kernel_rfl) Tryd.func4 (by kernel_rfl)
    (of_decide_eq_true (by kernel_rfl)) (by unfold Func.isWrapper; first | (rw [if_pos (by decide +kernel)]; kernel_rfl) | (rw [if_neg (by decide +kernel)]; exact ⟨rfl, rfl⟩))
    (fun os started H enc _ F => by rw [OpenClaim.pre_eq_preRow]; exact lifted os started H enc F)

theorem plain (f : FuncId) (fn : Func) (hf : Tryd.pinned.checked.prog.funcNamed "querylab/querylablaw03.SchemaReferences" = some f) (hfn : Tryd.pinned.checked.prog.funcs[f]? = some fn) :
    false = Tryd.pinned.checked.prog.looks [] ∧ ∀ (j : Nat) t, fn.params[j]? = some t → Tryd.pinned.checked.prog.wantsStandIn t = false := by
  obtain rfl : f = 4 := Option.some.inj ((show Tryd.prog.funcNamed "querylab/querylablaw03.SchemaReferences" = some 4 by kernel_rfl).symm.trans hf) |>.symm
  obtain rfl : fn = Tryd.f4 := (Option.some.inj (Tryd.func4.symm.trans hfn)).symm
  refine ⟨by kernel_rfl, fun j t ht => ?_⟩
  rw [Tryd.params4] at ht
  obtain rfl : t = 22 := by simpa using Array.mem_of_getElem? ht
  exact (show Tryd.prog.wantsStandIn 22 = false by kernel_rfl)

/-- The card. -/
theorem holds : Rows.SchemaReferencesCardSaid :=
  Claim7.holds_tied_plain_at .later [] _ _ _ _ said (fun _ h => by cases h) (by kernel_rfl) (fun _ h => by cases h) schemaReferences_row_tie rfl ⟨rfl, rfl⟩ (by kernel_rfl) rfl plain (by kernel_rfl)
end Go.Proofs.YtmnbhdhgjbgidaaDoor.schemaReferences

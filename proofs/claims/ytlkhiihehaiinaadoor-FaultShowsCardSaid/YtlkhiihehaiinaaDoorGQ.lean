/- FaultShows: for every number the law returns true, and it reads as it did. The package variables expression.operations, value.null, strings.asciiSpace, unicode.White_Space and the two of unicode/utf8 start as the program's text lays them (the card ties that to the text). No other condition. -/
import Derived.Test.YtlkhiihehaiinaaDoorProg
import Derived.Test.YtlkhiihehaiinaaDoorData
import Derived.Test.YtlkhiihehaiinaaDoorGL
import Derived.Test.YtlkhiihehaiinaaDoorRows
import Derived.Test.YtlkhiihehaiinaaDoorCards
import Derived.Test.YtlkhiihehaiinaaDoorTie
import Derived.Test.YtlkhiihehaiinaaDoorLawFSK
import Derived.ProofKit
import Derived.OpenShut
import Derived.KernelRfl
import Derived.Lib.LaidTab
import Derived.Lib.LaidU8
import Derived.WalkKit
import Derived.ShutString
import Derived.ChangeOld
import Derived.Deep.DeepHandedRow
import Derived.Deep.DeepWitnessRowRef
import Derived.LaidOnce
/- What reads as a Go value is one of the trees of the data text, and lies in the world. -/
namespace Go.Proofs.YtlkhiihehaiinaaDoor
open Go.RowKit Go.ChangeShapes Go.WideShapes

section
variable {H : Type} {enc : TypeId × Value → H} {w : World} {sp : Nat → Bool} {hd : Bool}

theorem pick_list {α : Type} {p : Nat → α → Prop} : ∀ (n : Nat), (∀ i, i < n → ∃ a, p i a) → ∃ xs : List α, xs.length = n ∧ ∀ i (h : i < xs.length), p i xs[i]
  | 0, _ => ⟨[], rfl, fun i h => absurd h (by simp)⟩
  | n + 1, h => by
    obtain ⟨xs, hl, hx⟩ := pick_list n (fun i hi => h i (by omega))
    obtain ⟨a, ha⟩ := h n (by omega)
    refine ⟨xs ++ [a], by simp [hl], fun i hi => ?_⟩
    by_cases e : i < xs.length
    · rw [List.getElem_append_left e]; exact hx i e
    · have hin : i = xs.length := by simp at hi; omega
      subst hin
      rw [List.getElem_append_right (by omega)]
      simpa [hl] using ha

theorem open_row {P : Program} {α : Type} {t e : TypeId} {size fuel : Nat} {cs : List Value} {x : DataW H × List MemPlace} (cells : α → List Value) (good : α → Prop)
    (ht : P.underlying t = some (.slice e)) (hc : P.cellsOf e = size) (hpos : 0 < size)
    (hel : ∀ fuel' cs' x', fuel' < fuel → DataW.trod enc P w 0 sp hd fuel' e cs' = some x' → ∃ a : α, cs' = cells a ∧ good a)
    (h : DataW.trod enc P w 0 sp hd fuel t cs = some x) : ∃ (h : Hd) (xs : List α), cs = [.slice h.ao xs.length h.cap] ∧ Row w size cells h xs ∧ ∀ a ∈ xs, good a := by
  rcases DataW.trod_slice ht h with ⟨rfl, _⟩ | ⟨a, len, cap, elems, rest, n, hn, rfl, _, _, hl, hm, hlen, hall, _⟩
  · exact ⟨nilHd, [], rfl, Row.nil _ _ _, fun a ha => by cases ha⟩
  · rw [hc] at hall
    have key : ∀ i, i < len → ∃ b : α, (∀ j v, (cells b)[j]? = some v → w.cell? ((a.add (i * size)).add j) = some v) ∧ (cells b).length = size ∧ good b := by
      intro i hi
      have h1 := hall i hi
      rw [List.getElem?_eq_getElem (by omega)] at h1
      obtain ⟨cs', hcs, htr⟩ := Option.bind_eq_some_iff.1 h1
      obtain ⟨b, rfl, hb⟩ := hel n cs' _ (by omega) htr
      obtain ⟨_, hcl, hcell⟩ := World.cells?_some hcs
      refine ⟨b, fun j v hv => ?_, hcl, hb⟩
      have hj : j < size := by rw [← hcl]; exact (List.getElem?_eq_some_iff.1 hv).1
      rw [hcell j hj]; exact hv
    obtain ⟨xs, hxl, hx⟩ := pick_list len key
    subst hxl
    obtain ⟨b, o, spot⟩ := a
    have hspot : 0 < xs.length → spot = none ∧ b < w.heap.size := by
      intro hp
      obtain ⟨g1, g2, _⟩ := hx 0 hp
      have hv : (cells (xs[0]'hp))[0]? = some ((cells (xs[0]'hp))[0]'(by omega)) := List.getElem?_eq_getElem (by omega)
      have := g1 0 _ hv
      simp only [Nat.zero_mul] at this
      have h0 : ((⟨b, o, spot⟩ : Addr).add 0).add 0 = ⟨b, o, spot⟩ := by simp [Addr.add]
      rw [h0] at this
      have hs := World.cell?_spot this
      have hs' : spot = none := by simpa using hs
      subst hs'
      exact ⟨rfl, World.block_lt_of_cell? w ⟨b, o, none⟩ this⟩
    refine ⟨⟨some ⟨b, o, spot⟩, cap⟩, xs, rfl, ⟨hl, hm, fun hp => ?_, fun i hi j v hv => ?_⟩, fun a ha => ?_⟩
    · obtain ⟨rfl, hlt⟩ := hspot hp
      exact ⟨rfl, hlt⟩
    · obtain ⟨rfl, hlt⟩ := hspot (by omega)
      have := (hx i hi).1 j v hv
      rw [Addr.add_lit, Addr.add_lit] at this
      exact this
    · obtain ⟨i, hi, rfl⟩ := List.getElem_of_mem ha
      exact (hx i hi).2.2

theorem fld {P : Program} {n : Nat} {cs : List Value} {xs : List (DataW H × List MemPlace)} {fs : Array Field} (hxl : xs.length = fs.size)
    (hf : ∀ (i : Nat) (f : Field), fs[i]? = some f → DataW.trod enc P w 0 sp hd n f.type ((cs.drop f.offset).take (P.cellsOf f.type)) = xs[i]?) (i T off sz : Nat) (hif : ∃ f, fs[i]? = some f ∧ f.type = T ∧ f.offset = off) (hs : P.cellsOf T = sz) :
    ∃ y, DataW.trod enc P w 0 sp hd n T ((cs.drop off).take sz) = some y := by
  obtain ⟨f, hif, rfl, rfl⟩ := hif
  subst hs
  have hi : i < xs.length := by rw [hxl]; exact (Array.getElem?_eq_some_iff.1 hif).1
  exact ⟨_, (hf i f hif).trans (List.getElem?_eq_getElem hi)⟩

theorem int64_of {n : Int} (h : (Lit.int .i64 n).wf = true) : int64 n := by
  exact bounds_i64 h
theorem list1 {α : Type} {l : List α} (h : l.length = 1) : ∃ c0, l = [c0] := by
  match l, h with
  | [c0], _ => exact ⟨c0, rfl⟩
theorem list2 {α : Type} {l : List α} (h : l.length = 2) : ∃ c0 c1, l = [c0, c1] := by
  match l, h with
  | [c0, c1], _ => exact ⟨c0, c1, rfl⟩
theorem list3 {α : Type} {l : List α} (h : l.length = 3) : ∃ c0 c1 c2, l = [c0, c1, c2] := by
  match l, h with
  | [c0, c1, c2], _ => exact ⟨c0, c1, c2, rfl⟩
theorem cells_of_int : Tryd.prog.cellsOf 3 = 1 := by kernel_rfl
theorem open_il {fuel : Nat} {cs : List Value} {x : DataW H × List MemPlace} (h : DataW.trod enc Tryd.prog w 0 sp hd fuel 34 cs = some x) : ∃ r : IL, cs = r.cells ∧ r.In w := by
  obtain ⟨hd, xs, rfl, hr, hg⟩ := open_row icells int64 Tryd.underlying34 cells_of_int (by decide) (fun f cs x _ h => by obtain ⟨n, rfl, _, hw⟩ := DataW.trod_int Tryd.underlying3 h; exact ⟨n, rfl, int64_of hw⟩) h
  exact ⟨⟨hd, xs⟩, rfl, hr, hg⟩
end
end Go.Proofs.YtlkhiihehaiinaaDoor

/- What the row's list says of the package variables. -/
namespace Go.Proofs.YtlkhiihehaiinaaDoor
open Go.RowKit

theorem gOpers : Tryd.prog.globalNamed "querylab/expression.operations" = some 3 := by kernel_rfl
theorem gOpersType : (Tryd.prog.globals[3]?).map (·.type) = some 125 := by kernel_rfl
theorem cellsOper : Tryd.prog.cellsOf 95 = 4 := by kernel_rfl

section
variable {H : Type} {enc : TypeId × Value → H} {w : World} {base : Nat} {sp : Nat → Bool} {held : Bool} {fuel : Nat}
theorem oper_cells {c : List Value} {x : List UInt8} {n1 n2 n3 : Int} {d : DataW H × List MemPlace} (hd : d.1 = .agg [.lit (.string x), .lit (.int .i64 n1), .lit (.int .i64 n2), .lit (.int .i64 n3)])
    (h : DataW.trod enc Tryd.prog w base sp held fuel 95 c = some d) : c[0]? = some (.string ⟨x.toArray⟩) ∧ c[1]? = some (.int .i64 n1) ∧ c[2]? = some (.int .i64 n2) ∧ c[3]? = some (.int .i64 n3) := by
  obtain ⟨xs, m, rfl, rfl, hl, hxl, hall⟩ := DataW.trod_struct Tryd.underlying95 h
  have hd' : xs.map (·.1) = [.lit (.string x), .lit (.int .i64 n1), .lit (.int .i64 n2), .lit (.int .i64 n3)] := by simpa using hd
  have h0 := hall 0 _ rfl
  have h1 := hall 1 _ rfl
  have h2 := hall 2 _ rfl
  have h3 := hall 3 _ rfl
  obtain ⟨a0, a1, a2, a3, rfl⟩ : ∃ a0 a1 a2 a3, xs = [a0, a1, a2, a3] := by
    match xs, hxl with
    | [a0, a1, a2, a3], _ => exact ⟨a0, a1, a2, a3, rfl⟩
  simp only [List.map_cons, List.map_nil, List.cons.injEq, and_true] at hd'
  obtain ⟨e0, e1, e2, e3⟩ := hd'
  simp only [List.getElem?_cons_zero, List.getElem?_cons_succ] at h0 h1 h2 h3
  obtain ⟨s0, hc0, he0, -⟩ := DataW.trod_string Tryd.underlying9 h0
  obtain ⟨m1, hc1, he1, -⟩ := DataW.trod_int Tryd.underlying3 h1
  obtain ⟨m2, hc2, he2, -⟩ := DataW.trod_int Tryd.underlying3 h2
  obtain ⟨m3, hc3, he3, -⟩ := DataW.trod_int Tryd.underlying3 h3
  subst he0; subst he1; subst he2; subst he3
  simp only [DataW.lit.injEq, Lit.string.injEq, Lit.int.injEq, true_and] at e0 e1 e2 e3
  subst e1; subst e2; subst e3
  have g0 := congrArg (·[0]?) hc0
  have g1 := congrArg (·[0]?) hc1
  have g2 := congrArg (·[0]?) hc2
  have g3 := congrArg (·[0]?) hc3
  simp only [List.getElem?_take, List.getElem?_drop, List.getElem?_cons_zero] at g0 g1 g2 g3
  refine ⟨?_, ?_, ?_, ?_⟩
  · rw [← e0]
    have := (show _ ∧ c[0]? = some (Value.string s0) by simpa using g0).2
    simp only [Array.toArray_toList]
    exact this
  · exact (show _ ∧ c[1]? = some (Value.int .i64 m1) by simpa using g1).2
  · exact (show _ ∧ c[2]? = some (Value.int .i64 m2) by simpa using g2).2
  · exact (show _ ∧ c[3]? = some (Value.int .i64 m3) by simpa using g3).2
end

theorem ops_of_reads {W : World} (h : Lib.VarReads Tryd.prog W "querylab/expression.operations" Rows.laid_querylab_expression_operations) : OpsAt W := by
  obtain ⟨g, t, cs, fuel, p, hg, ht, hv, hr⟩ := h
  obtain rfl := Option.some.inj (gOpers.symm.trans hg)
  obtain rfl := Option.some.inj (gOpersType.symm.trans ht)
  obtain ⟨xs, m, rfl, hx, hl, hxl, hall⟩ := DataW.trod_array Tryd.underlying125 hr
  have hx' : Rows.laid_querylab_expression_operations (H := Unit) = .agg (xs.map (·.1)) := congrArg Prod.fst hx
  unfold Rows.laid_querylab_expression_operations at hx'
  injection hx' with hx'
  have key : ∀ (i : Nat) (hi : i < 29) (x : List UInt8) (n1 n2 n3 : Int), (xs.map (·.1))[i]? = some (.agg [.lit (.string x), .lit (.int .i64 n1), .lit (.int .i64 n2), .lit (.int .i64 n3)]) →
      W.cell? ⟨3, i * 4, none⟩ = some (.string ⟨x.toArray⟩) ∧ W.cell? ⟨3, i * 4 + 1, none⟩ = some (.int .i64 n1) ∧ W.cell? ⟨3, i * 4 + 2, none⟩ = some (.int .i64 n2) ∧ W.cell? ⟨3, i * 4 + 3, none⟩ = some (.int .i64 n3) := by
    intro i hi x n1 n2 n3 hd
    have h1 := hall i hi
    rw [List.getElem?_map] at hd
    obtain ⟨d, hd1, hd2⟩ := Option.map_eq_some_iff.1 hd
    rw [hd1, cellsOper] at h1
    obtain ⟨c0, c1, c2, c3⟩ := oper_cells hd2 h1
    rw [World.var?_cell gOpers hv, World.var?_cell gOpers hv, World.var?_cell gOpers hv, World.var?_cell gOpers hv]
    simp only [List.getElem?_take, List.getElem?_drop] at c0 c1 c2 c3
    refine ⟨?_, ?_, ?_, ?_⟩
    · simpa using c0
    · simpa using c1
    · simpa using c2
    · simpa using c3
  rw [← hx'] at key
  intro i hi
  have hc : i = 0 ∨ i = 1 ∨ i = 2 ∨ i = 3 ∨ i = 4 ∨ i = 5 ∨ i = 6 ∨ i = 7 ∨ i = 8 ∨ i = 9 ∨ i = 10 ∨ i = 11 ∨ i = 12 ∨ i = 13 ∨ i = 14 ∨ i = 15 ∨ i = 16 ∨ i = 17 ∨ i = 18 ∨ i = 19 ∨ i = 20 ∨ i = 21 ∨ i = 22 ∨ i = 23 ∨ i = 24 ∨ i = 25 ∨ i = 26 ∨ i = 27 ∨ i = 28 := by have := ops_len; omega
  rcases hc with rfl | rfl | rfl | rfl | rfl | rfl | rfl | rfl | rfl | rfl | rfl | rfl | rfl | rfl | rfl | rfl | rfl | rfl | rfl | rfl | rfl | rfl | rfl | rfl | rfl | rfl | rfl | rfl | rfl
  all_goals exact key _ (by decide) _ _ _ _ rfl
theorem gNull : Tryd.prog.globalNamed "querylab/value.null" = some 2 := by kernel_rfl
theorem gNullType : (Tryd.prog.globals[2]?).map (·.type) = some 24 := by kernel_rfl
theorem nul_of_reads {W : World} (h : Lib.VarReads Tryd.prog W "querylab/value.null" Rows.laid_querylab_value_null) : NulAt W := by
  obtain ⟨g, t, cs, fuel, p, hg, ht, hv, hr⟩ := h
  obtain rfl := Option.some.inj (gNull.symm.trans hg)
  obtain rfl := Option.some.inj (gNullType.symm.trans ht)
  obtain ⟨xs, m, hm, hx, hl, hxl, hall⟩ := DataW.trod_struct Tryd.underlying24 hr
  have hd' : xs.map (·.1) = [.lit (.int .i64 0), .lit (.int .i64 0), .lit (.string [])] := by
    have := congrArg Prod.fst hx
    unfold Rows.laid_querylab_value_null at this
    injection this with this
    exact this.symm
  have h0 := hall 0 _ rfl
  have h1 := hall 1 _ rfl
  have h2 := hall 2 _ rfl
  obtain ⟨a0, a1, a2, rfl⟩ : ∃ a0 a1 a2, xs = [a0, a1, a2] := by
    match xs, hxl with
    | [a0, a1, a2], _ => exact ⟨a0, a1, a2, rfl⟩
  simp only [List.map_cons, List.map_nil, List.cons.injEq, and_true] at hd'
  obtain ⟨e0, e1, e2⟩ := hd'
  simp only [List.getElem?_cons_zero, List.getElem?_cons_succ] at h0 h1 h2
  obtain ⟨m0, hc0, he0, -⟩ := DataW.trod_int Tryd.underlying3 h0
  obtain ⟨m1, hc1, he1, -⟩ := DataW.trod_int Tryd.underlying2 h1
  obtain ⟨s2, hc2, he2, -⟩ := DataW.trod_string Tryd.underlying9 h2
  subst he0; subst he1; subst he2
  simp only [DataW.lit.injEq, Lit.string.injEq, Lit.int.injEq, true_and] at e0 e1 e2
  subst e0; subst e1
  have g0 := congrArg (·[0]?) hc0
  have g1 := congrArg (·[0]?) hc1
  have g2 := congrArg (·[0]?) hc2
  simp only [List.getElem?_take, List.getElem?_drop, List.getElem?_cons_zero] at g0 g1 g2
  refine ⟨?_, ?_, ?_⟩
  · rw [World.var?_cell gNull hv]
    have := (show _ ∧ cs.toList[0]? = some (Value.int .i64 0) by simpa using g0).2
    simpa using this
  · rw [World.var?_cell gNull hv]
    have := (show _ ∧ cs.toList[1]? = some (Value.int .i64 0) by simpa using g1).2
    simpa using this
  · rw [World.var?_cell gNull hv]
    have := (show _ ∧ cs.toList[2]? = some (Value.string s2) by simpa using g2).2
    have hs2 : s2 = ⟨#[]⟩ := by
      obtain ⟨⟨l⟩⟩ := s2
      simp at e2
      subst e2
      rfl
    rw [hs2] at this
    simpa using this
theorem gAscii : Tryd.prog.globalNamed "strings.asciiSpace" = some 0 := by kernel_rfl
theorem gAsciiType : (Tryd.prog.globals[0]?).map (·.type) = some 91 := by kernel_rfl
theorem cellsU8 : Tryd.prog.cellsOf 5 = 1 := by kernel_rfl
theorem cellsTab : Tryd.prog.cellsOf 91 = 256 := by kernel_rfl
theorem asciiTab : (Rows.laid_strings_asciiSpace : DataW Unit) = Lib.tabData .u8 Lib.asciiSpaceTab := by kernel_rfl
theorem tab_of_reads {W : World} (h : Lib.VarReads Tryd.prog W "strings.asciiSpace" Rows.laid_strings_asciiSpace) : Lib.TabIs Tryd.prog W "strings.asciiSpace" .u8 Lib.asciiSpaceTab := by
  obtain ⟨g, t, cs, fuel, p, hg, ht, hv, hr⟩ := h
  obtain rfl := Option.some.inj (gAscii.symm.trans hg)
  obtain rfl := Option.some.inj (gAsciiType.symm.trans ht)
  rw [asciiTab] at hr
  unfold Lib.TabIs
  rw [hv, ← Lib.cells_of_tab Tryd.underlying91 Tryd.underlying5 cellsU8 cellsTab hr]
end Go.Proofs.YtlkhiihehaiinaaDoor

/- FaultShows: for every number the law returns true, and it reads as it did. The package variables expression.operations, value.null, strings.asciiSpace, unicode.White_Space and the two of unicode/utf8 start as the program's text lays them (the card ties that to the text). No other condition. -/
namespace Go.Proofs.YtlkhiihehaiinaaDoor.faultShows
open Go.ChangeShapes Go.WideShapes Go.ChangeAt Go.RowKit

theorem own : ownKnob Tryd.prog.godebug = none := by kernel_rfl
theorem laidOut : laidOutB Tryd.prog = true := by kernel_rfl

/-- The cells that a datum of structs, strings and integers takes. -/
def flatD : Nat → DataW Unit → List Value
  | n + 1, .agg l => l.flatMap (flatD n)
  | _ + 1, .lit (.string s) => [.string ⟨s.toArray⟩]
  | _ + 1, .lit (.int k n) => [.int k n]
  | _, _ => []
/-- A world for the witness: the settled one, the table holding what its initialiser lays. -/
noncomputable def laidWorld (os : Os) : World :=
  let N := (World.settled Tryd.prog os).heap.size
  let w0 := World.holding Tryd.prog os ⟨#[.cells ([9, 13, 1, 32, 133, 101, 160, 5760, 5600, 8192, 8202, 1, 8232, 8233, 1, 8239, 8287, 48, 12288, 12288, 1].map fun (z : Int) => Value.int .u16 z).toArray 120, .cells #[.slice (some ⟨N, 0, none⟩) 7 7, .slice none 0 0, .int .i64 2] 117], #[], []⟩
  let put (h : Array Obj) (g : Nat) (cs : Array Value) : Array Obj := h.modify g fun
    | .cells _ t frozen => .cells cs t frozen
    | o => o
  let h1 := put w0.heap 0 (flatD 8 Rows.laid_strings_asciiSpace).toArray
  let h2 := put h1 5 (flatD 8 Rows.laid_unicode_utf8_first).toArray
  let h3 := put h2 6 (flatD 8 Rows.laid_unicode_utf8_acceptRanges).toArray
  let h4 := put h3 1 #[.pointer (some ⟨N + 1, 0, none⟩)]
  let h5 := put h4 2 (flatD 8 Rows.laid_querylab_value_null).toArray
  { w0 with heap := put h5 3 (flatD 8 Rows.laid_querylab_expression_operations).toArray }
theorem laidMet_of_bits {P : Program} {w : World} {l : List (String × DataW Unit)} (fuel M : Nat)
    (h : ((DataW.laidRun P w fuel (l.map (·.1))).bind fun x => if nodupBits M x.2 0 && laidRowsB P w x.2 then some x.1 else none) = some l) : laidMet P l w := by
  obtain ⟨x, hx, d⟩ := Option.bind_eq_some_iff.1 h
  split at d
  · rename_i hb
    simp only [Bool.and_eq_true] at hb
    obtain ⟨x1, x2⟩ := x
    injection d with d
    subst d
    exact laidMet_of_run fuel hx (decide_eq_true (nodupBits_sound hb.1).1) hb.2
  · cases d
theorem laid_met (os : Os) : laidMet Tryd.prog Rows.faultShowsRow.laid ((laidWorld os).forCall (fun _ _ => 0) ⟨#[], #[.int .u8 0], []⟩).memory :=
  laidMet_of_bits 8 257 (by kernel_rfl)
theorem reads (os : Os) {H : Type} (enc : TypeId × Value → H) : ∃ places, DataW.whole enc Tryd.prog ((laidWorld os).forCall (fun _ _ => 0) ⟨#[], #[.int .u8 0], []⟩).memory Tryd.f3.params.toList Rows.faultShowsSpec.vars false (#[Value.int .u8 0] : Array Value).toList 8 = some ([.lit (.int .u8 0)], [], places) :=
  ⟨[], by kernel_rfl⟩

set_option maxRecDepth 100000 in
theorem contract (H : Type) (enc : TypeId × Value → H) (W : World) (base : Nat) (args : Array Value) (ds gs : List (DataW H)) (before : List MemPlace)
    (hval : ∀ (j : Nat) t v, Tryd.f3.params[j]? = some t → args[j]? = some v → Value.okWide Tryd.prog W .any base t v)
    (hW : DataW.Whole enc Tryd.prog Tryd.f3.params.toList Rows.faultShowsSpec.vars false W args.toList ds gs before) (hL : laidMetH Tryd.prog Rows.faultShowsRow.laid W) (hsh : W.ShapedOpen Tryd.prog) :
    Calls Tryd.prog 3 args W fun e W' => ∃ v, e = .returned v ∧ Rows.faultShowsSpec.post enc Tryd.prog Tryd.f3 false true false false W args v W' := by
  have hW' := hW
  obtain ⟨p, q, hA0, hV, rfl, hfz, hnd⟩ := hW
  have hA : DataW.TrodAll enc Tryd.prog W 0 (fun _ => true) true Tryd.f3.params.toList args.toList ds p := hA0
  rw [Tryd.params3] at hA hval
  obtain ⟨v0, vs0, d0, ds0, p0, q0, hargs, rfl, rfl, h0, r0⟩ := trodAll_cons hA
  obtain ⟨rfl, rfl, rfl⟩ := trodAll_nil r0
  obtain rfl : args = #[v0] := by cases args; simp_all
  obtain ⟨rfl, rfl⟩ := trodVars_none hV
  have k0 := h0
  have lt0 : ∀ x ∈ p0, x.block < W.heap.size := by obtain ⟨m, hm⟩ := k0; exact DataW.trod_lt m _ _ _ hm
  obtain ⟨a0, rfl, _, _, w0⟩ := open_int Tryd.underlying5 (hval 0 5 v0 rfl rfl) h0
  have b0 : 0 ≤ a0 ∧ a0 < 256 := by
    simp [Lit.wf, IntKind.min, IntKind.max, IntKind.signed, IntKind.bits] at w0
    exact ⟨by omega, by omega⟩
  clear hA0
  have hr : Lib.VarReads Tryd.prog W "querylab/expression.operations" Rows.laid_querylab_expression_operations := Lib.laidMet.reads (l := Rows.faultShowsRow.laid) hL (by simp [Rows.faultShowsRow])
  have hr2 : Lib.VarReads Tryd.prog W "querylab/value.null" Rows.laid_querylab_value_null := Lib.laidMet.reads (l := Rows.faultShowsRow.laid) hL (by simp [Rows.faultShowsRow])
  have hr3 : Lib.VarReads Tryd.prog W "strings.asciiSpace" Rows.laid_strings_asciiSpace := Lib.laidMet.reads (l := Rows.faultShowsRow.laid) hL (by simp [Rows.faultShowsRow])
  refine (shows_walk a0 b0 W ⟨⟨hsh, tab_of_reads hr3⟩, nul_of_reads hr2, ops_of_reads hr⟩).mono fun e W' ⟨he, bel⟩ => ?_
  subst he
  exact ⟨_, rfl, _, _, _, [], _, [], hW', trodAll_mk1 (shut_bool Tryd.underlying4 _), (trodAll_cons_mk (Below.trod laidOut (by kernel_rfl) (of_decide_eq_true (by kernel_rfl)) k0 bel lt0) trodAll_mk0), rfl, bel.frame _, fun h => by cases h⟩

set_option maxRecDepth 100000 in
theorem lifted (os : Os) (started : os.Started) (H : Type) (enc : TypeId × Value → H) (F : Stop.Interp) :
    ReturnsInHanded {} Tryd.checked os 3 .any ((OpenSpec.ofChange Rows.faultShowsSpec).preRow enc Tryd.prog Tryd.f3 Rows.faultShowsRow.domain false Rows.faultShowsRow.laid) (((OpenSpec.ofChange Rows.faultShowsSpec).at F).post enc Tryd.prog Tryd.f3 false true false false) := by
  obtain ⟨places, hx⟩ := reads os enc
  refine returnsInHanded_of_row (C := Tryd.checked) (s := OpenSpec.ofChange Rows.faultShowsSpec) own started (by kernel_rfl) Tryd.func3
    (witness_row_atRef (enc := enc) (C := Tryd.checked) false (laidWorld os) #[.int .u8 0] rfl (by kernel_rfl) (by kernel_rfl) (by kernel_rfl)
      (OpenSpec.preRow_of_cond 8 hx (by kernel_rfl) (fun k hk => by cases hk) (by kernel_rfl) (laid_met os))) ?_
  intro W base args ds gs before hval hW _ _ _ hL hsh _
  exact contract H enc W base args ds gs before hval hW hL hsh

theorem said : Rows.FaultShowsSaid :=
  OpenClaim.holds_of_cond 3 Tryd.f3 rfl rfl rfl rfl rfl rfl rfl ⟨rfl, rfl, rfl, rfl, rfl⟩ rfl rfl rfl rfl rfl (by kernel_rfl) Tryd.func3 (by kernel_rfl)
    (of_decide_eq_true (by kernel_rfl)) (by unfold Func.isWrapper; first | (rw [if_pos (by decide +kernel)]; kernel_rfl) | (rw [if_neg (by decide +kernel)]; exact ⟨rfl, rfl⟩))
    (fun os started H enc _ F => by rw [OpenClaim.pre_eq_preRow]; exact lifted os started H enc F)

theorem plain (f : FuncId) (fn : Func) (hf : Tryd.pinned.checked.prog.funcNamed "querylab/querylablaw36.FaultShows" = some f) (hfn : Tryd.pinned.checked.prog.funcs[f]? = some fn) :
    false = Tryd.pinned.checked.prog.looks [] ∧ ∀ (j : Nat) t, fn.params[j]? = some t → Tryd.pinned.checked.prog.wantsStandIn t = false := by
  obtain rfl : f = 3 := Option.some.inj ((show Tryd.prog.funcNamed "querylab/querylablaw36.FaultShows" = some 3 by kernel_rfl).symm.trans hf) |>.symm
  obtain rfl : fn = Tryd.f3 := (Option.some.inj (Tryd.func3.symm.trans hfn)).symm
  refine ⟨by kernel_rfl, fun j t ht => ?_⟩
  rw [Tryd.params3] at ht
  obtain rfl : t = 5 := by simpa using Array.mem_of_getElem? ht
  exact (show Tryd.prog.wantsStandIn 5 = false by kernel_rfl)

/-- The card. -/
theorem holds : Rows.FaultShowsCardSaid :=
  Claim7.holds_tied_plain_at .later [] _ _ _ _ said (fun _ h => by cases h) (by kernel_rfl) (fun _ h => by cases h) faultShows_row_tie rfl ⟨rfl, rfl⟩ (by kernel_rfl) rfl plain (by kernel_rfl)
end Go.Proofs.YtlkhiihehaiinaaDoor.faultShows

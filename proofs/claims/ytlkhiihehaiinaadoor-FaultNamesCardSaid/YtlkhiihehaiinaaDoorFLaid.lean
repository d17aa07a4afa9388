/- What the row's list says of the package variables. -/
import Derived.Test.YtlkhiihehaiinaaDoorFAwk
import Derived.Test.YtlkhiihehaiinaaDoorFOpen
import Derived.Test.YtlkhiihehaiinaaDoorRows
import Derived.Lib.LaidTab
import Derived.OpenShut
import Derived.Lib.LaidU8
namespace Go.Proofs.YtlkhiihehaiinaaDoor
open Go.RowKit

theorem gOpers : Tryd.prog.globalNamed "querylab/expression.operations" = some 3 := by kernel_rfl
theorem gOpersType : (Tryd.prog.globals[3]?).map (·.type) = some 125 := by kernel_rfl
theorem cellsOper : Tryd.prog.cellsOf 95 = 4 := by kernel_rfl

section
variable {H : Type} {enc : TypeId × Value → H} {w : World} {base : Nat} {sp : Nat → Bool} {held : Bool} {fuel : Nat}
theorem oper_cells {c : List Value} {x : List UInt8} {n1 n2 n3 : Int} {d : DataW H × List MemPlace} (hd : d.1 = .agg [.lit (.string x), .lit (.int .i64 n1), .lit (.int .i64 n2), .lit (.int .i64 n3)])
    (h : DataW.trod enc Tryd.prog w base sp held fuel 95 c = some d) : c[0]? = some (.string ⟨x.toArray⟩) ∧ c[1]? = some (.int .i64 n1) ∧ c[2]? = some (.int .i64 n2) ∧ c[3]? = some (.int .i64 n3) := by
  obtain ⟨xs, m, rfl, rfl, hl, hxl, hall⟩ := DataW.trod_struct Tryd.underlying95 h
  have hd' : xs.map (·.1) = [.lit (.string x), .lit (.int .i64 n1), .lit (.int .i64 n2), .lit (.int .i64 n3)] := by simpa using hd
  have h0 := hall 0 _ rfl
  have h1 := hall 1 _ rfl
  have h2 := hall 2 _ rfl
  have h3 := hall 3 _ rfl
  obtain ⟨a0, a1, a2, a3, rfl⟩ : ∃ a0 a1 a2 a3, xs = [a0, a1, a2, a3] := by
    match xs, hxl with
    | [a0, a1, a2, a3], _ => exact ⟨a0, a1, a2, a3, rfl⟩
  simp only [List.map_cons, List.map_nil, List.cons.injEq, and_true] at hd'
  obtain ⟨e0, e1, e2, e3⟩ := hd'
  simp only [List.getElem?_cons_zero, List.getElem?_cons_succ] at h0 h1 h2 h3
  obtain ⟨s0, hc0, he0, -⟩ := DataW.trod_string Tryd.underlying9 h0
  obtain ⟨m1, hc1, he1, -⟩ := DataW.trod_int Tryd.underlying3 h1
  obtain ⟨m2, hc2, he2, -⟩ := DataW.trod_int Tryd.underlying3 h2
  obtain ⟨m3, hc3, he3, -⟩ := DataW.trod_int Tryd.underlying3 h3
  subst he0; subst he1; subst he2; subst he3
  simp only [DataW.lit.injEq, Lit.string.injEq, Lit.int.injEq, true_and] at e0 e1 e2 e3
  subst e1; subst e2; subst e3
  have g0 := congrArg (·[0]?) hc0
  have g1 := congrArg (·[0]?) hc1
  have g2 := congrArg (·[0]?) hc2
  have g3 := congrArg (·[0]?) hc3
  simp only [List.getElem?_take, List.getElem?_drop, List.getElem?_cons_zero] at g0 g1 g2 g3
  refine ⟨?_, ?_, ?_, ?_⟩
  · rw [← e0]
    have := (show _ ∧ c[0]? = some (Value.string s0) by simpa using g0).2
    simp only [Array.toArray_toList]
    exact this
  · exact (show _ ∧ c[1]? = some (Value.int .i64 m1) by simpa using g1).2
  · exact (show _ ∧ c[2]? = some (Value.int .i64 m2) by simpa using g2).2
  · exact (show _ ∧ c[3]? = some (Value.int .i64 m3) by simpa using g3).2
end

theorem ops_of_reads {W : World} (h : Lib.VarReads Tryd.prog W "querylab/expression.operations" Rows.laid_querylab_expression_operations) : OpsAt W := by
  obtain ⟨g, t, cs, fuel, p, hg, ht, hv, hr⟩ := h
  obtain rfl := Option.some.inj (gOpers.symm.trans hg)
  obtain rfl := Option.some.inj (gOpersType.symm.trans ht)
  obtain ⟨xs, m, rfl, hx, hl, hxl, hall⟩ := DataW.trod_array Tryd.underlying125 hr
  have hx' : Rows.laid_querylab_expression_operations (H := Unit) = .agg (xs.map (·.1)) := congrArg Prod.fst hx
  unfold Rows.laid_querylab_expression_operations at hx'
  injection hx' with hx'
  have key : ∀ (i : Nat) (hi : i < 29) (x : List UInt8) (n1 n2 n3 : Int), (xs.map (·.1))[i]? = some (.agg [.lit (.string x), .lit (.int .i64 n1), .lit (.int .i64 n2), .lit (.int .i64 n3)]) →
      W.cell? ⟨3, i * 4, none⟩ = some (.string ⟨x.toArray⟩) ∧ W.cell? ⟨3, i * 4 + 1, none⟩ = some (.int .i64 n1) ∧ W.cell? ⟨3, i * 4 + 2, none⟩ = some (.int .i64 n2) ∧ W.cell? ⟨3, i * 4 + 3, none⟩ = some (.int .i64 n3) := by
    intro i hi x n1 n2 n3 hd
    have h1 := hall i hi
    rw [List.getElem?_map] at hd
    obtain ⟨d, hd1, hd2⟩ := Option.map_eq_some_iff.1 hd
    rw [hd1, cellsOper] at h1
    obtain ⟨c0, c1, c2, c3⟩ := oper_cells hd2 h1
    rw [World.var?_cell gOpers hv, World.var?_cell gOpers hv, World.var?_cell gOpers hv, World.var?_cell gOpers hv]
    simp only [List.getElem?_take, List.getElem?_drop] at c0 c1 c2 c3
    refine ⟨?_, ?_, ?_, ?_⟩
    · simpa using c0
    · simpa using c1
    · simpa using c2
    · simpa using c3
  rw [← hx'] at key
  intro i hi
  have hc : i = 0 ∨ i = 1 ∨ i = 2 ∨ i = 3 ∨ i = 4 ∨ i = 5 ∨ i = 6 ∨ i = 7 ∨ i = 8 ∨ i = 9 ∨ i = 10 ∨ i = 11 ∨ i = 12 ∨ i = 13 ∨ i = 14 ∨ i = 15 ∨ i = 16 ∨ i = 17 ∨ i = 18 ∨ i = 19 ∨ i = 20 ∨ i = 21 ∨ i = 22 ∨ i = 23 ∨ i = 24 ∨ i = 25 ∨ i = 26 ∨ i = 27 ∨ i = 28 := by have := ops_len; omega
  rcases hc with rfl | rfl | rfl | rfl | rfl | rfl | rfl | rfl | rfl | rfl | rfl | rfl | rfl | rfl | rfl | rfl | rfl | rfl | rfl | rfl | rfl | rfl | rfl | rfl | rfl | rfl | rfl | rfl | rfl
  all_goals exact key _ (by decide) _ _ _ _ rfl
theorem gNull : Tryd.prog.globalNamed "querylab/value.null" = some 2 := by kernel_rfl
theorem gNullType : (Tryd.prog.globals[2]?).map (·.type) = some 24 := by kernel_rfl
theorem nul_of_reads {W : World} (h : Lib.VarReads Tryd.prog W "querylab/value.null" Rows.laid_querylab_value_null) : NulAt W := by
  obtain ⟨g, t, cs, fuel, p, hg, ht, hv, hr⟩ := h
  obtain rfl := Option.some.inj (gNull.symm.trans hg)
  obtain rfl := Option.some.inj (gNullType.symm.trans ht)
  obtain ⟨xs, m, hm, hx, hl, hxl, hall⟩ := DataW.trod_struct Tryd.underlying24 hr
  have hd' : xs.map (·.1) = [.lit (.int .i64 0), .lit (.int .i64 0), .lit (.string [])] := by
    have := congrArg Prod.fst hx
    unfold Rows.laid_querylab_value_null at this
    injection this with this
    exact this.symm
  have h0 := hall 0 _ rfl
  have h1 := hall 1 _ rfl
  have h2 := hall 2 _ rfl
  obtain ⟨a0, a1, a2, rfl⟩ : ∃ a0 a1 a2, xs = [a0, a1, a2] := by
    match xs, hxl with
    | [a0, a1, a2], _ => exact ⟨a0, a1, a2, rfl⟩
  simp only [List.map_cons, List.map_nil, List.cons.injEq, and_true] at hd'
  obtain ⟨e0, e1, e2⟩ := hd'
  simp only [List.getElem?_cons_zero, List.getElem?_cons_succ] at h0 h1 h2
  obtain ⟨m0, hc0, he0, -⟩ := DataW.trod_int Tryd.underlying3 h0
  obtain ⟨m1, hc1, he1, -⟩ := DataW.trod_int Tryd.underlying2 h1
  obtain ⟨s2, hc2, he2, -⟩ := DataW.trod_string Tryd.underlying9 h2
  subst he0; subst he1; subst he2
  simp only [DataW.lit.injEq, Lit.string.injEq, Lit.int.injEq, true_and] at e0 e1 e2
  subst e0; subst e1
  have g0 := congrArg (·[0]?) hc0
  have g1 := congrArg (·[0]?) hc1
  have g2 := congrArg (·[0]?) hc2
  simp only [List.getElem?_take, List.getElem?_drop, List.getElem?_cons_zero] at g0 g1 g2
  refine ⟨?_, ?_, ?_⟩
  · rw [World.var?_cell gNull hv]
    have := (show _ ∧ cs.toList[0]? = some (Value.int .i64 0) by simpa using g0).2
    simpa using this
  · rw [World.var?_cell gNull hv]
    have := (show _ ∧ cs.toList[1]? = some (Value.int .i64 0) by simpa using g1).2
    simpa using this
  · rw [World.var?_cell gNull hv]
    have := (show _ ∧ cs.toList[2]? = some (Value.string s2) by simpa using g2).2
    have hs2 : s2 = ⟨#[]⟩ := by
      obtain ⟨⟨l⟩⟩ := s2
      simp at e2
      subst e2
      rfl
    rw [hs2] at this
    simpa using this
theorem gAscii : Tryd.prog.globalNamed "strings.asciiSpace" = some 0 := by kernel_rfl
theorem gAsciiType : (Tryd.prog.globals[0]?).map (·.type) = some 91 := by kernel_rfl
theorem cellsU8 : Tryd.prog.cellsOf 5 = 1 := by kernel_rfl
theorem cellsTab : Tryd.prog.cellsOf 91 = 256 := by kernel_rfl
theorem asciiTab : (Rows.laid_strings_asciiSpace : DataW Unit) = Lib.tabData .u8 Lib.asciiSpaceTab := by kernel_rfl
theorem tab_of_reads {W : World} (h : Lib.VarReads Tryd.prog W "strings.asciiSpace" Rows.laid_strings_asciiSpace) : Lib.TabIs Tryd.prog W "strings.asciiSpace" .u8 Lib.asciiSpaceTab := by
  obtain ⟨g, t, cs, fuel, p, hg, ht, hv, hr⟩ := h
  obtain rfl := Option.some.inj (gAscii.symm.trans hg)
  obtain rfl := Option.some.inj (gAsciiType.symm.trans ht)
  rw [asciiTab] at hr
  unfold Lib.TabIs
  rw [hv, ← Lib.cells_of_tab Tryd.underlying91 Tryd.underlying5 cellsU8 cellsTab hr]
end Go.Proofs.YtlkhiihehaiinaaDoor

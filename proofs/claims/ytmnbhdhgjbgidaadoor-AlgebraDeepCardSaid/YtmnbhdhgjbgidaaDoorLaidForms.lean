/- What the row's list says of algebra.forms, cell by cell. -/
import Derived.Test.YtmnbhdhgjbgidaaDoorForm
import Derived.Test.YtmnbhdhgjbgidaaDoorRows
import Derived.OpenShut
import Derived.Lib.LaidU8
namespace Go.Proofs.YtmnbhdhgjbgidaaDoor
open Go.RowKit

theorem gForms : Tryd.prog.globalNamed "querylab/algebra.forms" = some 0 := by kernel_rfl
theorem gFormsType : (Tryd.prog.globals[0]?).map (·.type) = some 125 := by kernel_rfl
theorem cellsForm : Tryd.prog.cellsOf 103 = 3 := by kernel_rfl

section
variable {H : Type} {enc : TypeId × Value → H} {w : World} {base : Nat} {sp : Nat → Bool} {held : Bool} {fuel : Nat}
theorem form_cells {c : List Value} {x y : List UInt8} {n : Int} {d : DataW H × List MemPlace} (hd : d.1 = .agg [.lit (.string x), .lit (.int .i64 n), .lit (.string y)])
    (h : DataW.trod enc Tryd.prog w base sp held fuel 103 c = some d) : c[0]? = some (.string ⟨x.toArray⟩) ∧ c[1]? = some (.int .i64 n) ∧ c[2]? = some (.string ⟨y.toArray⟩) := by
  obtain ⟨xs, m, rfl, rfl, hl, hxl, hall⟩ := DataW.trod_struct Tryd.underlying103 h
  have hd' : xs.map (·.1) = [.lit (.string x), .lit (.int .i64 n), .lit (.string y)] := by simpa using hd
  have h0 := hall 0 _ rfl
  have h1 := hall 1 _ rfl
  have h2 := hall 2 _ rfl
  obtain ⟨a0, a1, a2, rfl⟩ : ∃ a0 a1 a2, xs = [a0, a1, a2] := by
    match xs, hxl with
    | [a0, a1, a2], _ => exact ⟨a0, a1, a2, rfl⟩
  simp only [List.map_cons, List.map_nil, List.cons.injEq, and_true] at hd'
  obtain ⟨e0, e1, e2⟩ := hd'
  simp only [List.getElem?_cons_zero, List.getElem?_cons_succ] at h0 h1 h2
  obtain ⟨s0, hc0, he0, -⟩ := DataW.trod_string Tryd.underlying9 h0
  obtain ⟨n1, hc1, he1, -⟩ := DataW.trod_int Tryd.underlying3 h1
  obtain ⟨s2, hc2, he2, -⟩ := DataW.trod_string Tryd.underlying9 h2
  subst he0; subst he1; subst he2
  simp only [DataW.lit.injEq, Lit.string.injEq, Lit.int.injEq, true_and] at e0 e1 e2
  subst e1
  have g0 := congrArg (·[0]?) hc0
  have g1 := congrArg (·[0]?) hc1
  have g2 := congrArg (·[0]?) hc2
  simp only [List.getElem?_take, List.getElem?_drop, List.getElem?_cons_zero] at g0 g1 g2
  refine ⟨?_, ?_, ?_⟩
  · rw [← e0]
    have := (show _ ∧ c[0]? = some (Value.string s0) by simpa using g0).2
    simp only [Array.toArray_toList]
    exact this
  · exact (show _ ∧ c[1]? = some (Value.int .i64 n1) by simpa using g1).2
  · rw [← e2]
    have := (show _ ∧ c[2]? = some (Value.string s2) by simpa using g2).2
    simp only [Array.toArray_toList]
    exact this
end

theorem forms_of_reads {W : World} (h : Lib.VarReads Tryd.prog W "querylab/algebra.forms" Rows.laid_querylab_algebra_forms) : FormsAt W := by
  obtain ⟨g, t, cs, fuel, p, hg, ht, hv, hr⟩ := h
  obtain rfl := Option.some.inj (gForms.symm.trans hg)
  obtain rfl := Option.some.inj (gFormsType.symm.trans ht)
  obtain ⟨xs, m, rfl, hx, hl, hxl, hall⟩ := DataW.trod_array Tryd.underlying125 hr
  have hx' : Rows.laid_querylab_algebra_forms (H := Unit) = .agg (xs.map (·.1)) := congrArg Prod.fst hx
  unfold Rows.laid_querylab_algebra_forms at hx'
  injection hx' with hx'
  have key : ∀ (i : Nat) (hi : i < 11) (x y : List UInt8) (n : Int), (xs.map (·.1))[i]? = some (.agg [.lit (.string x), .lit (.int .i64 n), .lit (.string y)]) →
      W.cell? ⟨0, i * 3, none⟩ = some (.string ⟨x.toArray⟩) ∧ W.cell? ⟨0, i * 3 + 1, none⟩ = some (.int .i64 n) ∧ W.cell? ⟨0, i * 3 + 2, none⟩ = some (.string ⟨y.toArray⟩) := by
    intro i hi x y n hd
    have h1 := hall i hi
    rw [List.getElem?_map] at hd
    obtain ⟨d, hd1, hd2⟩ := Option.map_eq_some_iff.1 hd
    rw [hd1, cellsForm] at h1
    obtain ⟨c0, c1, c2⟩ := form_cells hd2 h1
    rw [World.var?_cell gForms hv, World.var?_cell gForms hv, World.var?_cell gForms hv]
    simp only [List.getElem?_take, List.getElem?_drop] at c0 c1 c2
    refine ⟨?_, ?_, ?_⟩
    · simpa using c0
    · simpa using c1
    · simpa using c2
  rw [← hx'] at key
  intro i hi
  have hc : i = 0 ∨ i = 1 ∨ i = 2 ∨ i = 3 ∨ i = 4 ∨ i = 5 ∨ i = 6 ∨ i = 7 ∨ i = 8 ∨ i = 9 ∨ i = 10 := by have := forms_len; omega
  rcases hc with rfl | rfl | rfl | rfl | rfl | rfl | rfl | rfl | rfl | rfl | rfl
  all_goals exact key _ (by decide) _ _ _ rfl
end Go.Proofs.YtmnbhdhgjbgidaaDoor

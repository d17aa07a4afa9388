/- algebra.formOf: what an operator is. -/
import Derived.Test.YtmnbhdhgjbgidaaDoorFind2
import Derived.Test.YtmnbhdhgjbgidaaDoorKit
namespace Go.Proofs.YtmnbhdhgjbgidaaDoor
open Go.RowKit

/-- The table of the operators. -/
def forms : List (ByteArray × Int × ByteArray) := [(⟨#[]⟩, 0, ⟨#[]⟩), (⟨#[115, 99, 97, 110]⟩, 0, ⟨#[116, 97, 98, 108, 101]⟩), (⟨#[118, 97, 108, 117, 101, 115]⟩, 0, ⟨#[116, 121, 112, 101, 115, 32, 114, 111, 119, 115]⟩), (⟨#[115, 101, 108, 101, 99, 116]⟩, 1, ⟨#[99, 111, 110, 100]⟩), (⟨#[112, 114, 111, 106, 101, 99, 116]⟩, 1, ⟨#[101, 120, 112, 114, 115]⟩), (⟨#[106, 111, 105, 110]⟩, 2, ⟨#[107, 105, 110, 100, 32, 99, 111, 110, 100]⟩), (⟨#[117, 110, 105, 111, 110]⟩, 2, ⟨#[97, 108, 108]⟩), (⟨#[101, 120, 99, 101, 112, 116]⟩, 2, ⟨#[97, 108, 108]⟩), (⟨#[105, 110, 116, 101, 114, 115, 101, 99, 116]⟩, 2, ⟨#[97, 108, 108]⟩), (⟨#[100, 105, 115, 116, 105, 110, 99, 116]⟩, 1, ⟨#[]⟩), (⟨#[103, 114, 111, 117, 112]⟩, 1, ⟨#[101, 120, 112, 114, 115, 32, 97, 103, 103, 115]⟩)]
theorem forms_len : forms.length = 11 := rfl
/-- The package's variable holds the table. -/
def FormsAt (w : World) : Prop := ∀ (i : Nat) (h : i < forms.length), w.cell? ⟨0, i * 3, none⟩ = some (.string forms[i].1) ∧ w.cell? ⟨0, i * 3 + 1, none⟩ = some (.int .i64 forms[i].2.1) ∧ w.cell? ⟨0, i * 3 + 2, none⟩ = some (.string forms[i].2.2)
theorem FormsAt.lt {w : World} (h : FormsAt w) : 0 < w.heap.size := World.block_lt_of_cell? w ⟨0, 0 * 3, none⟩ (h 0 (by decide)).1
theorem FormsAt.mono {w w' : World} (h : FormsAt w) (hb : Below w.heap.size w w') : FormsAt w' := fun i hi => by
  obtain ⟨h1, h2, h3⟩ := h i hi
  exact ⟨by rw [hb.cell (p := ⟨0, _, none⟩) h.lt]; exact h1, by rw [hb.cell (p := ⟨0, _, none⟩) h.lt]; exact h2, by rw [hb.cell (p := ⟨0, _, none⟩) h.lt]; exact h3⟩

set_option maxRecDepth 100000 in
set_option maxHeartbeats 800000 in
theorem formOf_hit (i : Nat) (hi : i < forms.length) (h0 : 0 < i) (w : World) (hf : FormsAt w) :
    Calls Tryd.prog 60 #[.int .i64 (i : Nat)] w fun e w' => e = .returned (.tuple #[.agg #[.string forms[i].1, .int .i64 forms[i].2.1, .string forms[i].2.2], .bool true]) ∧ Below w.heap.size w w' := by
  have hl := forms_len
  have hlt := hf.lt
  obtain ⟨c0, c1, c2⟩ := hf i hi
  have hne : (forms[i].1.toList == []) = false := by
    have h1 : ∀ j (h : j < forms.length), 0 < j → (forms[j].1.toList == []) = false := by
      intro j h hj
      have hc : j = 1 ∨ j = 2 ∨ j = 3 ∨ j = 4 ∨ j = 5 ∨ j = 6 ∨ j = 7 ∨ j = 8 ∨ j = 9 ∨ j = 10 := by omega
      rcases hc with rfl | rfl | rfl | rfl | rfl | rfl | rfl | rfl | rfl | rfl <;> simp [forms]
    exact h1 i hi h0
  have hi1 : ¬ (i : Int) < 0 := by omega
  have hi2 : ¬ (11 : Int) ≤ (i : Int) := by omega
  generalize forms[i] = f at *
  go_enter Tryd.func60, Tryd.ntmps60
  go_wp2
  exact bodyPost_ret (v := .tuple #[.agg #[.string f.1, .int .i64 f.2.1, .string f.2.2], .bool true]) (by simp [results, Tryd.results60, go_sem]) rfl ⟨rfl, belA _⟩
end Go.Proofs.YtmnbhdhgjbgidaaDoor

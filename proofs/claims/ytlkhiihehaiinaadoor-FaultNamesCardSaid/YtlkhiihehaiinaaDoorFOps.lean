/- expression.find: what an operation is. -/
import Derived.Test.YtlkhiihehaiinaaDoorData
import Derived.Test.YtlkhiihehaiinaaDoorKit
namespace Go.Proofs.YtlkhiihehaiinaaDoor
open Go.RowKit

/-- The table of the operations: word, Kids, their types, own type. -/
def ops : List (ByteArray × Int × Int × Int) := [(⟨#[]⟩, 0, 0, 0), (⟨#[110, 117, 108, 108]⟩, 0, 0, 0), (⟨#[105, 110, 116]⟩, 0, 0, 1), (⟨#[98, 111, 111, 108]⟩, 0, 0, 2), (⟨#[116, 101, 120, 116]⟩, 0, 0, 3), (⟨#[99, 111, 108, 117, 109, 110]⟩, 0, 0, 0), (⟨#[97, 100, 100]⟩, 2, 1, 1), (⟨#[115, 117, 98]⟩, 2, 1, 1), (⟨#[109, 117, 108]⟩, 2, 1, 1), (⟨#[100, 105, 118]⟩, 2, 1, 1), (⟨#[109, 111, 100]⟩, 2, 1, 1), (⟨#[110, 101, 103]⟩, 1, 1, 1), (⟨#[99, 111, 110, 99, 97, 116]⟩, 2, 2, 3), (⟨#[108, 101, 110, 103, 116, 104]⟩, 1, 2, 1), (⟨#[101, 113]⟩, 2, 4, 2), (⟨#[110, 101]⟩, 2, 4, 2), (⟨#[108, 116]⟩, 2, 4, 2), (⟨#[108, 101]⟩, 2, 4, 2), (⟨#[103, 116]⟩, 2, 4, 2), (⟨#[103, 101]⟩, 2, 4, 2), (⟨#[115, 97, 109, 101]⟩, 2, 4, 2), (⟨#[105, 115, 110, 117, 108, 108]⟩, 1, 5, 2), (⟨#[97, 110, 100]⟩, 2, 3, 2), (⟨#[111, 114]⟩, 2, 3, 2), (⟨#[110, 111, 116]⟩, 1, 3, 2), (⟨#[105, 115, 116, 114, 117, 101]⟩, 1, 3, 2), (⟨#[99, 97, 115, 101]⟩, 3, 6, 0), (⟨#[99, 111, 97, 108, 101, 115, 99, 101]⟩, 2, 4, 0), (⟨#[105, 110]⟩, 2, 4, 2)]
theorem ops_len : ops.length = 29 := rfl
def OpsAt (w : World) : Prop := ∀ (i : Nat) (h : i < ops.length), w.cell? ⟨3, i * 4, none⟩ = some (.string ops[i].1) ∧ w.cell? ⟨3, i * 4 + 1, none⟩ = some (.int .i64 ops[i].2.1) ∧ w.cell? ⟨3, i * 4 + 2, none⟩ = some (.int .i64 ops[i].2.2.1) ∧ w.cell? ⟨3, i * 4 + 3, none⟩ = some (.int .i64 ops[i].2.2.2)
theorem OpsAt.lt {w : World} (h : OpsAt w) : 3 < w.heap.size := World.block_lt_of_cell? w ⟨3, 0 * 4, none⟩ (h 0 (by decide)).1
theorem OpsAt.mono {w w' : World} (h : OpsAt w) (hb : Below w.heap.size w w') : OpsAt w' := fun i hi => by
  obtain ⟨h1, h2, h3, h4⟩ := h i hi
  exact ⟨by rw [hb.cell (p := ⟨3, _, none⟩) h.lt]; exact h1, by rw [hb.cell (p := ⟨3, _, none⟩) h.lt]; exact h2, by rw [hb.cell (p := ⟨3, _, none⟩) h.lt]; exact h3, by rw [hb.cell (p := ⟨3, _, none⟩) h.lt]; exact h4⟩

theorem ops_word (i : Nat) (hi : i < ops.length) (h0 : 0 < i) : (ops[i].1.toList == []) = false := by
  have hl := ops_len
  have hc : i = 1 ∨ i = 2 ∨ i = 3 ∨ i = 4 ∨ i = 5 ∨ i = 6 ∨ i = 7 ∨ i = 8 ∨ i = 9 ∨ i = 10 ∨ i = 11 ∨ i = 12 ∨ i = 13 ∨ i = 14 ∨ i = 15 ∨ i = 16 ∨ i = 17 ∨ i = 18 ∨ i = 19 ∨ i = 20 ∨ i = 21 ∨ i = 22 ∨ i = 23 ∨ i = 24 ∨ i = 25 ∨ i = 26 ∨ i = 27 ∨ i = 28 := by omega
  rcases hc with rfl | rfl | rfl | rfl | rfl | rfl | rfl | rfl | rfl | rfl | rfl | rfl | rfl | rfl | rfl | rfl | rfl | rfl | rfl | rfl | rfl | rfl | rfl | rfl | rfl | rfl | rfl | rfl <;> simp [ops]

set_option maxRecDepth 100000 in
set_option maxHeartbeats 800000 in
theorem find_op (i : Nat) (hi : i < ops.length) (h0 : 0 < i) (w : World) (hf : OpsAt w) :
    Calls Tryd.prog 81 #[.int .i64 (i : Nat)] w fun e w' => e = .returned (.tuple #[.agg #[.string ops[i].1, .int .i64 ops[i].2.1, .int .i64 ops[i].2.2.1, .int .i64 ops[i].2.2.2], .bool true]) ∧ Below w.heap.size w w' := by
  have hl := ops_len
  have hlt := hf.lt
  obtain ⟨c0, c1, c2, c3⟩ := hf i hi
  have hne := ops_word i hi h0
  have hi1 : ¬ (i : Int) < 0 := by omega
  have hi2 : ¬ (29 : Int) ≤ (i : Int) := by omega
  generalize ops[i] = f at *
  go_enter Tryd.func81, Tryd.ntmps81
  go_wp2
  exact bodyPost_ret (v := .tuple #[.agg #[.string f.1, .int .i64 f.2.1, .int .i64 f.2.2.1, .int .i64 f.2.2.2], .bool true]) (by simp [results, Tryd.results81, go_sem]) rfl ⟨rfl, belA _⟩

set_option maxRecDepth 100000 in
set_option maxHeartbeats 800000 in
theorem find_none (n : Int) (hn : n < 1 ∨ 28 < n) (w : World) (hf : OpsAt w) :
    Calls Tryd.prog 81 #[.int .i64 n] w fun e w' => e = .returned (.tuple #[.agg #[.string ⟨#[]⟩, .int .i64 0, .int .i64 0, .int .i64 0], .bool false]) ∧ Below w.heap.size w w' := by
  have hlt := hf.lt
  by_cases h0 : n < 0
  · go_enter Tryd.func81, Tryd.ntmps81
    go_wp2
    exact bodyPost_ret (v := .tuple #[.agg #[.string ⟨#[]⟩, .int .i64 0, .int .i64 0, .int .i64 0], .bool false]) (by simp [results, Tryd.results81, go_sem]) rfl ⟨rfl, belA _⟩
  · by_cases h29 : (29 : Int) ≤ n
    · go_enter Tryd.func81, Tryd.ntmps81
      go_wp2
      exact bodyPost_ret (v := .tuple #[.agg #[.string ⟨#[]⟩, .int .i64 0, .int .i64 0, .int .i64 0], .bool false]) (by simp [results, Tryd.results81, go_sem]) rfl ⟨rfl, belA _⟩
    · obtain rfl : n = 0 := by omega
      obtain ⟨c0, c1, c2, c3⟩ := hf 0 (by decide)
      have c0' : w.cell? ⟨3, 0, none⟩ = some (.string ⟨#[]⟩) := c0
      clear c0 c1 c2 c3
      go_enter Tryd.func81, Tryd.ntmps81
      go_wp2
      exact bodyPost_ret (v := .tuple #[.agg #[.string ⟨#[]⟩, .int .i64 0, .int .i64 0, .int .i64 0], .bool false]) (by simp [results, Tryd.results81, go_sem]) rfl ⟨rfl, belA _⟩
end Go.Proofs.YtlkhiihehaiinaaDoor

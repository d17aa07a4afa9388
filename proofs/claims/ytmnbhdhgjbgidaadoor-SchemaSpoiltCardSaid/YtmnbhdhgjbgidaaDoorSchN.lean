/- made.name at small numbers. -/
import Derived.Test.YtmnbhdhgjbgidaaDoorMade
namespace Go.Proofs.YtmnbhdhgjbgidaaDoor
open Go.RowKit

set_option maxRecDepth 100000 in
set_option maxHeartbeats 1000000 in
theorem name_1 (w : World) (s : ByteArray) (hs : s.size ≤ 100) :
    Calls Tryd.prog 18 #[.string s, .int .i64 1] w fun e w' => e = .returned (.string (s ++ ⟨#[49]⟩)) ∧ Below w.heap.size w w' := by
  have hcv : (convert 83 9 (.slice (some ⟨w.heap.size, 0, none⟩) 1 1)).run Tryd.prog (w.alloc (.cells #[.int .u8 49] 5)) = .ok (.string ⟨#[49]⟩) (w.alloc (.cells #[.int .u8 49] 5)) :=
    run_convert_bytes_back _ 83 9 5 ⟨w.heap.size, 0, none⟩ 1 [49] rfl rfl rfl (fun j hj => by
      have h0 : j = 0 := by simp at hj; omega
      subst h0
      exact new_cells 0 _ rfl)
  go_enter Tryd.func18, Tryd.ntmps18
  go_wp2
  have hsz : (s ++ (⟨#[49]⟩ : ByteArray)).size ≤ 1000 := by rw [ByteArray.size_append]; show s.size + 1 ≤ 1000; omega
  go_ret
  exact ⟨rfl, belA _⟩

set_option maxRecDepth 100000 in
set_option maxHeartbeats 1000000 in
theorem name_2 (w : World) (s : ByteArray) (hs : s.size ≤ 100) :
    Calls Tryd.prog 18 #[.string s, .int .i64 2] w fun e w' => e = .returned (.string (s ++ ⟨#[50]⟩)) ∧ Below w.heap.size w w' := by
  have hcv : (convert 83 9 (.slice (some ⟨w.heap.size, 0, none⟩) 1 1)).run Tryd.prog (w.alloc (.cells #[.int .u8 50] 5)) = .ok (.string ⟨#[50]⟩) (w.alloc (.cells #[.int .u8 50] 5)) :=
    run_convert_bytes_back _ 83 9 5 ⟨w.heap.size, 0, none⟩ 1 [50] rfl rfl rfl (fun j hj => by
      have h0 : j = 0 := by simp at hj; omega
      subst h0
      exact new_cells 0 _ rfl)
  go_enter Tryd.func18, Tryd.ntmps18
  go_wp2
  have hsz : (s ++ (⟨#[50]⟩ : ByteArray)).size ≤ 1000 := by rw [ByteArray.size_append]; show s.size + 1 ≤ 1000; omega
  go_ret
  exact ⟨rfl, belA _⟩

/-- A letter and a number. -/
theorem small_name (w : World) (s : ByteArray) (hs : s.size ≤ 10) (n : Int) (hn : 0 ≤ n ∧ n ≤ 2) :
    Calls Tryd.prog 18 #[.string s, .int .i64 n] w fun e w' => (∃ r : ByteArray, r.size ≤ 100 ∧ e = .returned (.string r)) ∧ Below w.heap.size w w' := by
  have hc : n = 0 ∨ n = 1 ∨ n = 2 := by omega
  have hsz : ∀ c : UInt8, (s ++ (⟨#[c]⟩ : ByteArray)).size ≤ 100 := fun c => by rw [ByteArray.size_append]; show s.size + 1 ≤ 100; omega
  rcases hc with rfl | rfl | rfl
  · exact (name_zero w s (by omega)).mono fun e w' ⟨h, hb⟩ => ⟨⟨_, hsz _, h⟩, hb⟩
  · exact (name_1 w s (by omega)).mono fun e w' ⟨h, hb⟩ => ⟨⟨_, hsz _, h⟩, hb⟩
  · exact (name_2 w s (by omega)).mono fun e w' ⟨h, hb⟩ => ⟨⟨_, hsz _, h⟩, hb⟩
end Go.Proofs.YtmnbhdhgjbgidaaDoor

/- querylabfield.New at any list. -/
import Derived.Test.YtlkhiihehaiinaaDoorFTape
namespace Go.Proofs.YtlkhiihehaiinaaDoor
open Go.RowKit

set_option maxRecDepth 100000 in
set_option maxHeartbeats 2000000 in
theorem fnew_any (L : IL) (w : World) (hL : L.In w) : Calls Tryd.prog 13 #[.slice L.h.ao L.l.length L.h.cap] w fun e w' => ∃ L' : IL, L'.l = L.l.take 2000 ∧ e = .returned (.pointer (some ⟨w.heap.size, 0, none⟩)) ∧ TapeIn w' w.heap.size L' 0 ∧ Below w.heap.size w w' := by
  have hl := hL.1.len
  have hcap := hL.1.2.1
  have hc := hL.1.1
  have hn : (min (L.l.length : Int) 2000).toNat = (L.l.take 2000).length := by rw [List.length_take]; omega
  have HIN := hide (show IL.In w ⟨L.h, L.l.take 2000⟩ from by
    obtain ⟨⟨h1, h2, h3, h4⟩, h5⟩ := hL
    refine ⟨⟨Nat.le_trans (by rw [List.length_take]; omega) h1, h2, fun hp => h3 (by rw [List.length_take] at hp; omega), fun i hi j v hv => ?_⟩, fun n hn => h5 n (List.mem_of_mem_take hn)⟩
    have hi2 : i < L.l.length := by rw [List.length_take] at hi; omega
    rw [List.getElem_take] at hv
    exact h4 i hi2 j v hv)
  have hlt : ∀ hp : 0 < L.l.length, L.h.b < w.heap.size := fun hp => hL.1.blk hp
  clear hL
  have hfin : ∀ W : World, W = w.alloc (.cells #[.slice L.h.ao (min (L.l.length : Int) 2000).toNat L.h.cap, .int .i64 0] 64) → TapeIn W w.heap.size ⟨L.h, L.l.take 2000⟩ 0 ∧ Below w.heap.size w W := by
    rintro W rfl
    have hb : Below w.heap.size w (w.alloc (.cells #[.slice L.h.ao (min (L.l.length : Int) 2000).toNat L.h.cap, .int .i64 0] 64)) := (Below.refl _ w).alloc (Nat.le_refl _) _
    refine ⟨⟨?_, ?_, ?_, HIN.out.mono hb, fun hp => ?_⟩, hb⟩
    · rw [World.cell?_alloc_at _ _ _ _ rfl, hn]; rfl
    · rw [World.cell?_alloc_at _ _ _ _ rfl]; rfl
    · exact World.frozen?_alloc_new w _ _ _
    · have := hlt (by rw [List.length_take] at hp; omega); show L.h.b ≠ w.heap.size; omega
  have HF := hide hfin
  clear hfin hn hlt
  by_cases h : L.l.length ≤ 2000
  · have h2 : (L.l.length : Int) ≤ 2000 := by omega
    go_enter Tryd.func13, Tryd.ntmps13
    go_wp2
    go_ret
    exact ⟨⟨L.h, L.l.take 2000⟩, rfl, rfl, HF.out _ rfl⟩
  · have h2 : ¬ (L.l.length : Int) ≤ 2000 := by omega
    go_enter Tryd.func13, Tryd.ntmps13
    go_wp2
    go_ret
    exact ⟨⟨L.h, L.l.take 2000⟩, rfl, rfl, HF.out _ rfl⟩
end Go.Proofs.YtlkhiihehaiinaaDoor

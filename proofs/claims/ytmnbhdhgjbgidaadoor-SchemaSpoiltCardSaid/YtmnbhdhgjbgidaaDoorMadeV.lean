/- made.Values, Value at any tape; made.name. -/
import Derived.Test.YtmnbhdhgjbgidaaDoorMadeL
namespace Go.Proofs.YtmnbhdhgjbgidaaDoor
open Go.RowKit

theorem row_of_box {α : Type} {w : World} {g size : Nat} {T : TypeId} {cells : α → List Value} {xs : List α} (hs : ∀ x, (cells x).length = size) (hm : xs.length ≤ maxLen) (hb : Box w g (xs.flatMap cells).toArray T) : Row w size cells ⟨some ⟨g, 0, none⟩, xs.length⟩ xs := by
  refine ⟨Nat.le_refl _, hm, fun _ => ⟨rfl, hb.lt⟩, fun i hi j v hv => ?_⟩
  have hj : j < size := by
    have := (List.getElem?_eq_some_iff.1 hv).1
    rwa [hs] at this
  show w.cell? ⟨g, 0 + i * size + j, none⟩ = some v
  rw [Nat.zero_add]
  refine hb.cell (j := i * size + j) ?_
  rw [List.getElem?_toArray, flatMap_at hs xs i j hi hj]
  exact hv
def ints12 : List Int := [0, 1, 2, -1, 5, 7, -7, 100, 1000000000000, -1000000000000, 999999999999, 1000000]
def nullV : V := ⟨0, 0, ⟨#[]⟩⟩
abbrev intV (n : Int) : V := ⟨1, n, ⟨#[]⟩⟩
abbrev txtV (s : ByteArray) : V := ⟨3, 0, s⟩
abbrev scl (s : ByteArray) : List Value := [.string s]
def txts7 : List ByteArray := [⟨#[]⟩, ⟨#[97]⟩, ⟨#[98]⟩, ⟨#[97, 98]⟩, ⟨#[48]⟩, ⟨#[32]⟩, ⟨#[97, 98, 99, 100, 101, 102, 103, 104, 105, 106, 107, 108, 109, 110, 111, 112, 113, 114, 115, 116, 117, 118, 119, 120]⟩]
theorem nullV_wf : nullV.wf := ⟨by constructor <;> decide, by constructor <;> decide, by show (0 : Nat) ≤ maxLen; omega⟩
theorem vl_of_own {w : World} {base n : Nat} {v : Value} {e : TypeId} {vs : List V} (ho : w.ownsRow base e 3 v n (vs.flatMap V.cells)) (hw : ∀ x ∈ vs, x.wf) (hp : 0 < vs.length) : ∃ l : VL, v = .slice l.h.ao l.l.length l.h.cap ∧ l.In w ∧ l.l = vs ∧ base ≤ l.h.b := by
  obtain ⟨hd, rfl, hr⟩ := own_row (size := 3) (cells := V.cells) (fun _ => rfl) (by decide) ho
  refine ⟨⟨hd, vs⟩, rfl, ⟨hr, hw⟩, rfl, ?_⟩
  have hn : n = vs.length := by
    have := ho.1
    rw [flatMap_len (cells := V.cells) (size := 3) (fun _ => rfl)] at this
    omega
  subst hn
  exact own_from ho hp

set_option maxRecDepth 100000 in
set_option maxHeartbeats 4000000 in
theorem values_int (w : World) :
    Calls Tryd.prog 90 #[.int .i64 1] w fun e w' => (∃ l : VL, e = .returned (.slice l.h.ao l.l.length l.h.cap) ∧ l.In w' ∧ l.l.length = 13 ∧ w.heap.size ≤ l.h.b) ∧ Below w.heap.size w w' := by
  obtain ⟨i0, hi, hz0, hz1, hz2⟩ := info_parts info_v
  have HI := hide (And.intro hi (And.intro hz0 (And.intro hz1 hz2)))
  clear hi hz0 hz1 hz2
  have HL := hide (show ((w.alloc (.cells #[.int .i64 0, .int .i64 0, .string ⟨#[]⟩] 98)).alloc (.cells #[.int .i64 0, .int .i64 1, .int .i64 2, .int .i64 (-1), .int .i64 5, .int .i64 7, .int .i64 (-7), .int .i64 100, .int .i64 1000000000000, .int .i64 (-1000000000000), .int .i64 999999999999, .int .i64 1000000] 2)).ownsRow w.heap.size 98 3 (.slice (some ⟨w.heap.size, 0, none⟩) 1 1) 1 [.int .i64 0, .int .i64 0, .string ⟨#[]⟩] from (World.ownsRow_lit (base := w.heap.size) (e := 98) (size := 3) w #[.int .i64 0, .int .i64 0, .string ⟨#[]⟩] 1 (Nat.le_refl _) (by decide) rfl).alloc _)
  have HBX := hide (show Box ((w.alloc (.cells #[.int .i64 0, .int .i64 0, .string ⟨#[]⟩] 98)).alloc (.cells #[.int .i64 0, .int .i64 1, .int .i64 2, .int .i64 (-1), .int .i64 5, .int .i64 7, .int .i64 (-7), .int .i64 100, .int .i64 1000000000000, .int .i64 (-1000000000000), .int .i64 999999999999, .int .i64 1000000] 2)) (w.heap.size + 1) (ints12.flatMap icells).toArray 2 from by
    have := Box.new (w.alloc (.cells #[.int .i64 0, .int .i64 0, .string ⟨#[]⟩] 98)) #[.int .i64 0, .int .i64 1, .int .i64 2, .int .i64 (-1), .int .i64 5, .int .i64 7, .int .i64 (-7), .int .i64 100, .int .i64 1000000000000, .int .i64 (-1000000000000), .int .i64 999999999999, .int .i64 1000000] 2
    rw [World.size_alloc] at this
    exact this)
  have HSZ := hide (show (Tryd.prog.info? 2).map (·.size) = some 1 by kernel_rfl)
  have HB0 := hide (belAA (w := w) (.cells #[.int .i64 0, .int .i64 0, .string ⟨#[]⟩] 98) (.cells #[.int .i64 0, .int .i64 1, .int .i64 2, .int .i64 (-1), .int .i64 5, .int .i64 7, .int .i64 (-7), .int .i64 100, .int .i64 1000000000000, .int .i64 (-1000000000000), .int .i64 999999999999, .int .i64 1000000] 2))
  go_enter Tryd.func90, Tryd.ntmps90
  go_wp2
  go_loopw [3, 5] (fun v i wr => ∃ k : Nat, k ≤ 12 ∧ i = .int .i64 k ∧ Hid (wr.ownsRow w.heap.size 98 3 v (k + 1) ((nullV :: (ints12.take k).map intV).flatMap V.cells)) ∧ Hid (Box wr (w.heap.size + 1) (ints12.flatMap icells).toArray 2) ∧ Hid (Below w.heap.size w wr)) (fun _ i _ => 12 - (intOf i).toNat)
  case atStart => exact ⟨0, Nat.zero_le _, rfl, HL.out, HBX.out, HB0.out⟩
  clear HL HBX HB0
  case round =>
    obtain ⟨k, hk, rfl, HO, HX, HB⟩ := hrel
    obtain ⟨g, cap, rfl, hge, hgl⟩ := HO.out.form (by omega)
    by_cases hlt : k < 12
    · have hrow := row_of_box (size := 1) (cells := icells) (xs := ints12) (fun _ => rfl) (by decide) HX.out
      have hix : ∀ U, (Instr.indexAt 140 (.slice (some ⟨w.heap.size + 1, 0, none⟩) 12 12) (.int .i64 (k : Int))).run Tryd.prog U = .ok (.pointer (some ⟨w.heap.size + 1, k, none⟩)) U := fun U => by
        have := hrow.ix (i := k) hlt Tryd.underlying140 HSZ.out U
        simp only [Hd.b, Hd.o, Option.getD_some, Nat.zero_add, Nat.mul_one] at this
        exact this
      have c0 : wr.cell? ⟨w.heap.size + 1, k, none⟩ = some (.int .i64 (ints12[k]'hlt)) := by
        have := hrow.2.2.2 k hlt 0 _ rfl
        simpa [Hd.b, Hd.o] using this
      have hlw := HX.out.lt
      clear hrow
      have HSN := hide (show (nullV :: (ints12.take (k + 1)).map intV).flatMap V.cells = (nullV :: (ints12.take k).map intV).flatMap V.cells ++ V.cells (intV (ints12[k]'hlt)) by
        rw [List.take_succ_eq_append_getElem hlt, List.map_append]
        simp [List.flatMap_cons, List.flatMap_append])
      have HWK := hide (own_ne HO.out HX.out (by decide))
      obtain ⟨q, hq⟩ : ∃ q, ints12[k]'hlt = q := ⟨_, rfl⟩
      rw [hq] at c0 HSN
      clear hq
      go_wp2_with (at_builtin; go_loud (refine wpList_append_lies _ rfl _ _ 79 rfl w.heap.size 98 i0 _ 3 32 Tryd.underlying79 HI.out.1 HI.out.2.1 HI.out.2.2.1 HI.out.2.2.2 rfl (by decide) (.slice (some ⟨g, 0, none⟩) (k + 1) cap) (k + 1) _ (by rfl) (HO.out.alloc _) ⟨wr.heap.size, 0, none⟩ 1 1 (V.cells (intV q)) (by rfl) (by rfl) new_cells (by intro u hu; simp only [List.mem_cons, List.not_mem_nil, or_false] at hu; rcases hu with rfl | rfl | rfl <;> rfl) (by decide) (by unfold maxLen; omega) (by omega) (by simp; omega) (wr.heap.size + 1) (by simp) ?_; intro g' cap' z hown hgr hat hltz))
      have HOZ := hide hown
      have HGZ := hide hgr
      clear hown hgr hat hltz
      go_wp2
      go_roundw
      case rel =>
        refine ⟨k + 1, by omega, by go_num, ?_, ?_, ?_⟩
        · show Hid _
          rw [HSN.out]
          exact HOZ.out
        · exact (HX.out.below (belA _)).grown HGZ.out (by have := HWK.out; simp [Value.ownBlock]; omega)
        · exact grown1 HB.out HB.out.size HGZ.out (fun b hb => by simp [Value.ownBlock] at hb; omega)
      case measure => simp [intOf]; omega
    · obtain rfl : k = 12 := by omega
      obtain ⟨l, hv, hin, hll, hlb⟩ := vl_of_own (vs := nullV :: ints12.map intV) (by have := HO.out; rw [List.take_of_length_le (by decide)] at this; exact this) (by
        intro x hx
        simp only [ints12, List.map_cons, List.map_nil, List.mem_cons, List.not_mem_nil, or_false] at hx
        rcases hx with rfl | rfl | rfl | rfl | rfl | rfl | rfl | rfl | rfl | rfl | rfl | rfl | rfl
        all_goals exact ⟨by constructor <;> decide, by constructor <;> decide, by decide⟩) (by decide)
      have HIN := hide hin
      have HLL := hide (show l.l.length = 13 by rw [hll]; rfl)
      have HLB := hide hlb
      clear hin hll hlb
      have HV := hide hv
      clear hv
      go_wp2
      go_ret
      exact ⟨⟨l, congrArg Ending.returned HV.out, HIN.out, HLL.out, HLB.out⟩, HB.out⟩

set_option maxRecDepth 100000 in
set_option maxHeartbeats 4000000 in
theorem values_txt (w : World) :
    Calls Tryd.prog 90 #[.int .i64 3] w fun e w' => (∃ l : VL, e = .returned (.slice l.h.ao l.l.length l.h.cap) ∧ l.In w' ∧ l.l.length = 8 ∧ w.heap.size ≤ l.h.b) ∧ Below w.heap.size w w' := by
  obtain ⟨i0, hi, hz0, hz1, hz2⟩ := info_parts info_v
  have HI := hide (And.intro hi (And.intro hz0 (And.intro hz1 hz2)))
  clear hi hz0 hz1 hz2
  have HL := hide (show ((w.alloc (.cells #[.int .i64 0, .int .i64 0, .string ⟨#[]⟩] 98)).alloc (.cells #[.string ⟨#[]⟩, .string ⟨#[97]⟩, .string ⟨#[98]⟩, .string ⟨#[97, 98]⟩, .string ⟨#[48]⟩, .string ⟨#[32]⟩, .string ⟨#[97, 98, 99, 100, 101, 102, 103, 104, 105, 106, 107, 108, 109, 110, 111, 112, 113, 114, 115, 116, 117, 118, 119, 120]⟩] 9)).ownsRow w.heap.size 98 3 (.slice (some ⟨w.heap.size, 0, none⟩) 1 1) 1 [.int .i64 0, .int .i64 0, .string ⟨#[]⟩] from (World.ownsRow_lit (base := w.heap.size) (e := 98) (size := 3) w #[.int .i64 0, .int .i64 0, .string ⟨#[]⟩] 1 (Nat.le_refl _) (by decide) rfl).alloc _)
  have HBX := hide (show Box ((w.alloc (.cells #[.int .i64 0, .int .i64 0, .string ⟨#[]⟩] 98)).alloc (.cells #[.string ⟨#[]⟩, .string ⟨#[97]⟩, .string ⟨#[98]⟩, .string ⟨#[97, 98]⟩, .string ⟨#[48]⟩, .string ⟨#[32]⟩, .string ⟨#[97, 98, 99, 100, 101, 102, 103, 104, 105, 106, 107, 108, 109, 110, 111, 112, 113, 114, 115, 116, 117, 118, 119, 120]⟩] 9)) (w.heap.size + 1) (txts7.flatMap scl).toArray 9 from by
    have := Box.new (w.alloc (.cells #[.int .i64 0, .int .i64 0, .string ⟨#[]⟩] 98)) #[.string ⟨#[]⟩, .string ⟨#[97]⟩, .string ⟨#[98]⟩, .string ⟨#[97, 98]⟩, .string ⟨#[48]⟩, .string ⟨#[32]⟩, .string ⟨#[97, 98, 99, 100, 101, 102, 103, 104, 105, 106, 107, 108, 109, 110, 111, 112, 113, 114, 115, 116, 117, 118, 119, 120]⟩] 9
    rw [World.size_alloc] at this
    exact this)
  have HSZ := hide (show (Tryd.prog.info? 9).map (·.size) = some 1 by kernel_rfl)
  have HB0 := hide (belAA (w := w) (.cells #[.int .i64 0, .int .i64 0, .string ⟨#[]⟩] 98) (.cells #[.string ⟨#[]⟩, .string ⟨#[97]⟩, .string ⟨#[98]⟩, .string ⟨#[97, 98]⟩, .string ⟨#[48]⟩, .string ⟨#[32]⟩, .string ⟨#[97, 98, 99, 100, 101, 102, 103, 104, 105, 106, 107, 108, 109, 110, 111, 112, 113, 114, 115, 116, 117, 118, 119, 120]⟩] 9))
  go_enter Tryd.func90, Tryd.ntmps90
  go_wp2
  go_loopw [3, 7] (fun v i wr => ∃ k : Nat, k ≤ 7 ∧ i = .int .i64 k ∧ Hid (wr.ownsRow w.heap.size 98 3 v (k + 1) ((nullV :: (txts7.take k).map txtV).flatMap V.cells)) ∧ Hid (Box wr (w.heap.size + 1) (txts7.flatMap scl).toArray 9) ∧ Hid (Below w.heap.size w wr)) (fun _ i _ => 7 - (intOf i).toNat)
  case atStart => exact ⟨0, Nat.zero_le _, rfl, HL.out, HBX.out, HB0.out⟩
  clear HL HBX HB0
  case round =>
    obtain ⟨k, hk, rfl, HO, HX, HB⟩ := hrel
    obtain ⟨g, cap, rfl, hge, hgl⟩ := HO.out.form (by omega)
    by_cases hlt : k < 7
    · have hrow := row_of_box (size := 1) (cells := scl) (xs := txts7) (fun _ => rfl) (by decide) HX.out
      have hix : ∀ U, (Instr.indexAt 94 (.slice (some ⟨w.heap.size + 1, 0, none⟩) 7 7) (.int .i64 (k : Int))).run Tryd.prog U = .ok (.pointer (some ⟨w.heap.size + 1, k, none⟩)) U := fun U => by
        have := hrow.ix (i := k) hlt Tryd.underlying94 HSZ.out U
        simp only [Hd.b, Hd.o, Option.getD_some, Nat.zero_add, Nat.mul_one] at this
        exact this
      have c0 : wr.cell? ⟨w.heap.size + 1, k, none⟩ = some (.string (txts7[k]'hlt)) := by
        have := hrow.2.2.2 k hlt 0 _ rfl
        simpa [Hd.b, Hd.o] using this
      have hlw := HX.out.lt
      clear hrow
      have HSN := hide (show (nullV :: (txts7.take (k + 1)).map txtV).flatMap V.cells = (nullV :: (txts7.take k).map txtV).flatMap V.cells ++ V.cells (txtV (txts7[k]'hlt)) by
        rw [List.take_succ_eq_append_getElem hlt, List.map_append]
        simp [List.flatMap_cons, List.flatMap_append])
      have HWK := hide (own_ne HO.out HX.out (by decide))
      obtain ⟨q, hq⟩ : ∃ q, txts7[k]'hlt = q := ⟨_, rfl⟩
      rw [hq] at c0 HSN
      clear hq
      go_wp2_with (at_builtin; go_loud (refine wpList_append_lies _ rfl _ _ 79 rfl w.heap.size 98 i0 _ 3 32 Tryd.underlying79 HI.out.1 HI.out.2.1 HI.out.2.2.1 HI.out.2.2.2 rfl (by decide) (.slice (some ⟨g, 0, none⟩) (k + 1) cap) (k + 1) _ (by rfl) (HO.out.alloc _) ⟨wr.heap.size, 0, none⟩ 1 1 (V.cells (txtV q)) (by rfl) (by rfl) new_cells (by intro u hu; simp only [List.mem_cons, List.not_mem_nil, or_false] at hu; rcases hu with rfl | rfl | rfl <;> rfl) (by decide) (by unfold maxLen; omega) (by omega) (by simp; omega) (wr.heap.size + 1) (by simp) ?_; intro g' cap' z hown hgr hat hltz))
      have HOZ := hide hown
      have HGZ := hide hgr
      clear hown hgr hat hltz
      go_wp2
      go_roundw
      case rel =>
        refine ⟨k + 1, by omega, by go_num, ?_, ?_, ?_⟩
        · show Hid _
          rw [HSN.out]
          exact HOZ.out
        · exact (HX.out.below (belA _)).grown HGZ.out (by have := HWK.out; simp [Value.ownBlock]; omega)
        · exact grown1 HB.out HB.out.size HGZ.out (fun b hb => by simp [Value.ownBlock] at hb; omega)
      case measure => simp [intOf]; omega
    · obtain rfl : k = 7 := by omega
      obtain ⟨l, hv, hin, hll, hlb⟩ := vl_of_own (vs := nullV :: txts7.map txtV) (by have := HO.out; rw [List.take_of_length_le (by decide)] at this; exact this) (by
        intro x hx
        simp only [txts7, List.map_cons, List.map_nil, List.mem_cons, List.not_mem_nil, or_false] at hx
        rcases hx with rfl | rfl | rfl | rfl | rfl | rfl | rfl | rfl
        all_goals exact ⟨by constructor <;> decide, by constructor <;> decide, by decide⟩) (by decide)
      have HIN := hide hin
      have HLL := hide (show l.l.length = 8 by rw [hll]; rfl)
      have HLB := hide hlb
      clear hin hll hlb
      have HV := hide hv
      clear hv
      go_wp2
      go_ret
      exact ⟨⟨l, congrArg Ending.returned HV.out, HIN.out, HLL.out, HLB.out⟩, HB.out⟩
end Go.Proofs.YtmnbhdhgjbgidaaDoor

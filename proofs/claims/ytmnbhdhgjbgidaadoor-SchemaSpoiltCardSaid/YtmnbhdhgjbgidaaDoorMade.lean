/- made.name, made.Values, ref02.Constant, made.Value at an empty tape. -/
import Derived.Test.YtmnbhdhgjbgidaaDoorTape
import Derived.Test.YtmnbhdhgjbgidaaDoorChain
import Derived.Deep.AppendLies
import Derived.Laws.IdiomStrings
import Derived.Laws.OwnMore
import Derived.Maps.Range
namespace Go.Proofs.YtmnbhdhgjbgidaaDoor
open Go.RowKit

/-- Block g is just these cells. -/
def Box (w : World) (g : Nat) (cs : Array Value) (T : TypeId) : Prop := w.heap[g]? = some (.cells cs T (0, 0))
theorem Box.new (w : World) (cs : Array Value) (T : TypeId) : Box (w.alloc (.cells cs T)) w.heap.size cs T := heap_alloc_new w _
theorem Box.lt {w : World} {g : Nat} {cs : Array Value} {T : TypeId} (h : Box w g cs T) : g < w.heap.size := (Array.getElem?_eq_some_iff.1 h).1
theorem Box.cell {w : World} {g : Nat} {cs : Array Value} {T : TypeId} (h : Box w g cs T) {j : Nat} {v : Value} (hv : cs[j]? = some v) : w.cell? ⟨g, j, none⟩ = some v := by
  rw [cell_of_row w g j cs T (0, 0) h]; exact hv
theorem Box.fr {w : World} {g : Nat} {cs : Array Value} {T : TypeId} (h : Box w g cs T) (j : Nat) : w.frozen? ⟨g, j, none⟩ = false := by
  unfold Box at h
  simp [World.frozen?, h]
theorem Box.below {w w' : World} {g : Nat} {cs : Array Value} {T : TypeId} (h : Box w g cs T) (hb : Below w.heap.size w w') : Box w' g cs T := (hb.block g h.lt).trans h
theorem Box.grown {w w' : World} {g : Nat} {cs : Array Value} {T : TypeId} {row : Option Nat} (h : Box w g cs T) (hb : w.grownBy w' row) (hne : some g ≠ row) : Box w' g cs T := (hb.block g h.lt hne).trans h
theorem gb_set (w : World) (g j : Nat) (u : Value) : w.grownBy (w.setCell ⟨g, j, none⟩ u) (some g) := ⟨rfl, rfl, rfl, by simp [World.setCell], fun i _ hi => Below.heap_setCell _ _ _ _ (fun e => hi (by rw [e]))⟩
theorem gb_then {a b c : World} {r : Option Nat} {g : Nat} (h : a.grownBy b r) (k : b.grownBy c (some g)) (hg : a.heap.size ≤ g) : a.grownBy c r := h.andThen k (fun j e => .inl (by cases e; exact hg))
theorem only_below {a w : World} (h : Below a.heap.size a w) (row : Option Nat) : a.grownBy w row := ⟨h.os, h.tape, h.output, h.size, fun i hi _ => h.block i hi⟩

set_option maxRecDepth 100000 in
set_option maxHeartbeats 1000000 in
theorem name_zero (w : World) (s : ByteArray) (hs : s.size ≤ 100) :
    Calls Tryd.prog 18 #[.string s, .int .i64 0] w fun e w' => e = .returned (.string (s ++ ⟨#[48]⟩)) ∧ Below w.heap.size w w' := by
  have hcv : (convert 83 9 (.slice (some ⟨w.heap.size, 0, none⟩) 1 1)).run Tryd.prog (w.alloc (.cells #[.int .u8 48] 5)) = .ok (.string ⟨#[48]⟩) (w.alloc (.cells #[.int .u8 48] 5)) :=
    run_convert_bytes_back _ 83 9 5 ⟨w.heap.size, 0, none⟩ 1 [48] rfl rfl rfl (fun j hj => by
      have h0 : j = 0 := by simp at hj; omega
      subst h0
      exact new_cells 0 _ rfl)
  go_enter Tryd.func18, Tryd.ntmps18
  go_wp2
  have hsz : (s ++ (⟨#[48]⟩ : ByteArray)).size ≤ 1000 := by rw [ByteArray.size_append]; show s.size + 1 ≤ 1000; omega
  go_ret
  exact ⟨rfl, belA _⟩

set_option maxRecDepth 100000 in
set_option maxHeartbeats 1000000 in
theorem const_null (w : World) :
    Calls Tryd.prog 78 #[.agg #[.int .i64 0, .int .i64 0, .string ⟨#[]⟩], .int .i64 2] w fun e w' => e = .returned (.agg #[.int .i64 1, .int .i64 2, .int .i64 0, .string ⟨#[]⟩, .int .i64 0, .slice none 0 0]) ∧ Below w.heap.size w w' := by
  go_enter Tryd.func78, Tryd.ntmps78
  go_wp2
  exact bodyPost_ret (v := .agg #[.int .i64 1, .int .i64 2, .int .i64 0, .string ⟨#[]⟩, .int .i64 0, .slice none 0 0]) (by simp [results, Tryd.results78, go_sem]) rfl ⟨rfl, belAA _ _⟩

set_option maxRecDepth 100000 in
set_option maxHeartbeats 1000000 in
theorem bool_zero (w : World) :
    Calls Tryd.prog 108 #[.int .i64 0] w fun e w' => e = .returned (.agg #[.int .i64 2, .int .i64 0, .string ⟨#[]⟩]) ∧ Below w.heap.size w w' := by
  go_enter Tryd.func108, Tryd.ntmps108
  go_wp2
  exact bodyPost_ret (v := .agg #[.int .i64 2, .int .i64 0, .string ⟨#[]⟩]) (by simp [results, Tryd.results108, go_sem]) rfl ⟨rfl, belA _⟩
set_option maxRecDepth 100000 in
set_option maxHeartbeats 1000000 in
theorem bool_one (w : World) :
    Calls Tryd.prog 108 #[.int .i64 1] w fun e w' => e = .returned (.agg #[.int .i64 2, .int .i64 1, .string ⟨#[]⟩]) ∧ Below w.heap.size w w' := by
  go_enter Tryd.func108, Tryd.ntmps108
  go_wp2
  exact bodyPost_ret (v := .agg #[.int .i64 2, .int .i64 1, .string ⟨#[]⟩]) (by simp [results, Tryd.results108, go_sem]) rfl ⟨rfl, belA _⟩

theorem bool_any (n : Int) (hn : n = 0 ∨ n = 1) (w : World) :
    Calls Tryd.prog 108 #[.int .i64 n] w fun e w' => e = .returned (.agg #[.int .i64 2, .int .i64 n, .string ⟨#[]⟩]) ∧ Below w.heap.size w w' := by
  rcases hn with rfl | rfl
  · exact bool_zero w
  · exact bool_one w

theorem info_v : (Tryd.prog.info? 98).map (fun i => (i.zero, i.size, i.bytes)) = some (some (.agg #[.int .i64 0, .int .i64 0, .string ⟨#[]⟩]), 3, 32) := by kernel_rfl

set_option maxRecDepth 100000 in
set_option maxHeartbeats 2000000 in
theorem values2 (w : World) :
    Calls Tryd.prog 90 #[.int .i64 2] w fun e w' => (∃ g cap, e = .returned (.slice (some ⟨g, 0, none⟩) 3 cap) ∧ w.heap.size ≤ g ∧ w'.cell? ⟨g, 0, none⟩ = some (.int .i64 0) ∧ w'.cell? ⟨g, 1, none⟩ = some (.int .i64 0) ∧ w'.cell? ⟨g, 2, none⟩ = some (.string ⟨#[]⟩)) ∧ Below w.heap.size w w' := by
  obtain ⟨i0, hi, hz0, hz1, hz2⟩ := info_parts info_v
  have HI := hide (And.intro hi (And.intro hz0 (And.intro hz1 hz2)))
  clear hi hz0 hz1 hz2
  have HB0 := hide (belA (w := w) (.cells #[.int .i64 0, .int .i64 0, .string ⟨#[]⟩] 98))
  have HL := hide (show (w.alloc (.cells #[.int .i64 0, .int .i64 0, .string ⟨#[]⟩] 98)).ownsRow w.heap.size 98 3 (.slice (some ⟨w.heap.size, 0, none⟩) 1 1) 1 [.int .i64 0, .int .i64 0, .string ⟨#[]⟩] from World.ownsRow_lit (base := w.heap.size) (e := 98) (size := 3) w #[.int .i64 0, .int .i64 0, .string ⟨#[]⟩] 1 (Nat.le_refl _) (by decide) rfl)
  go_enter Tryd.func90, Tryd.ntmps90
  go_wp2_with (first
    | (go_at_call 108; refine (bool_any _ (by decide) _).mono ?_; first | (have hh := HB1.out; rintro e w2 ⟨rfl, hb2⟩; have HB2 := hide (bel_trans hh hb2); clear hb2 hh; have hs2 := HB2.out.size; simp only [World.size_alloc] at hs2; have HO := hide ((HL.out.kept (only_below HB2.out none) (.inr (by simp [Value.ownBlock]))).alloc (.cells #[.int .i64 2, .int .i64 0, .string ⟨#[]⟩, .int .i64 2, .int .i64 1, .string ⟨#[]⟩] 98))) | (rintro e w1 ⟨rfl, hb1⟩; have HB1 := hide hb1; clear hb1))
    | (at_builtin; go_loud (refine wpList_append_lies _ rfl _ _ 79 rfl w.heap.size 98 i0 _ 3 32 Tryd.underlying79 HI.out.1 HI.out.2.1 HI.out.2.2.1 HI.out.2.2.2 rfl (by decide) (.slice (some ⟨w.heap.size, 0, none⟩) 1 1) 1 [.int .i64 0, .int .i64 0, .string ⟨#[]⟩] (by rfl) HO.out ⟨w2.heap.size, 0, none⟩ 2 2 [.int .i64 2, .int .i64 0, .string ⟨#[]⟩, .int .i64 2, .int .i64 1, .string ⟨#[]⟩] (by rfl) (by rfl) new_cells (by intro u hu; simp only [List.mem_cons, List.not_mem_nil, or_false] at hu; rcases hu with rfl | rfl | rfl | rfl | rfl | rfl <;> rfl) (by decide) (by decide) (by decide) (by simp; omega) (w2.heap.size + 1) (by simp) ?_; intro g cap w3 hown hgr hat hlt)))
  go_ret
  refine ⟨⟨g, cap, rfl, ?_, ?_, ?_, ?_⟩, ?_⟩
  · rcases hown.2 with ⟨h, -⟩ | ⟨g', _, _, h, hb, -⟩
    · cases h
    · cases h; exact hb
  · rw [hown.cellAt 0 (by decide)]; rfl
  · rw [hown.cellAt 1 (by decide)]; rfl
  · rw [hown.cellAt 2 (by decide)]; rfl
  · exact grown1 (HB0.out.trans (HB2.out.mono HB0.out.size)) (by omega) hgr (fun k hk => by simp [Value.ownBlock] at hk; omega)

/-- The empty list. -/
def E0 : IL := ⟨nilHd, []⟩
theorem next_zero (w : World) (b a : Nat) (n : Int) (ht : TapeIn w b E0 a) (ha : a ≤ 4611686018427387904) (hn1 : 1 ≤ n) (hn : int64 n) :
    Calls Tryd.prog 10 #[.pointer (some ⟨b, 0, none⟩), .int .i64 n] w fun e w' => e = .returned (.int .i64 0) ∧ TapeIn w' b E0 (a + 1) ∧ w.grownBy w' (some b) := by
  refine (next_any w b a E0 n ht ha hn1 hn).mono ?_
  rintro e w' ⟨rfl, h⟩
  exact ⟨rfl, h⟩

theorem tz {w w' : World} {b a : Nat} {row : Option Nat} (h : TapeIn w b E0 a) (hg : w.grownBy w' row) (hne : some b ≠ row) : TapeIn w' b E0 a :=
  ⟨by rw [World.cell?_of_block (hg.block b h.lt hne)]; exact h.lst, by rw [World.cell?_of_block (hg.block b h.lt hne)]; exact h.pos, by rw [World.frozen?_of_block (hg.block b h.lt hne)]; exact h.fr, ⟨Row.nil _ _ _, fun n h => by cases h⟩, fun h => by cases h⟩

set_option maxRecDepth 100000 in
set_option maxHeartbeats 2000000 in
theorem value_zero (w : World) (b a : Nat) (ht : TapeIn w b E0 a) (ha : a ≤ 4611686018427387904) :
    Calls Tryd.prog 57 #[.pointer (some ⟨b, 0, none⟩), .int .i64 2, .bool true] w fun e w' => e = .returned (.agg #[.int .i64 0, .int .i64 0, .string ⟨#[]⟩]) ∧ TapeIn w' b E0 (a + 1) ∧ w.grownBy w' (some b) := by
  have hbl := ht.lt
  have HB0 := hide (belA (w := w) (.cells #[.int .i64 0, .int .i64 0, .string ⟨#[]⟩] 98))
  have HK := hide (Box.new w #[.int .i64 0, .int .i64 0, .string ⟨#[]⟩] 98)
  have HT := hide ht
  clear ht
  go_enter Tryd.func57, Tryd.ntmps57
  go_wp2_with (first
    | (go_at_call 90; refine (values2 _).mono ?_; rintro e w1 ⟨⟨g, cap, rfl, hg, c0, c1, c2⟩, hb1⟩; have HB1 := hide hb1; simp only [World.size_alloc] at hg; have HC := hide (And.intro c0 (And.intro c1 c2)); clear c0 c1 c2 hb1; have hgl := World.block_lt_of_cell? w1 ⟨g, 0, none⟩ HC.out.1)
    | (go_at_call 10; refine (next_zero _ b a _ ((HT.out.mono HB0.out).mono HB1.out) ha (by decide) ⟨by decide, by decide⟩).mono ?_; rintro e w2 ⟨rfl, ht2, hg2⟩; have HT2 := hide ht2; have HG2 := hide hg2; have hgb := hg2.block g hgl (by simp; omega); have d0 := (World.cell?_of_block (a := ⟨g, 0, none⟩) hgb).trans HC.out.1; have d1 := (World.cell?_of_block (a := ⟨g, 1, none⟩) hgb).trans HC.out.2.1; have d2 := (World.cell?_of_block (a := ⟨g, 2, none⟩) hgb).trans HC.out.2.2; have hkb := (HK.out.below HB1.out).grown hg2 (by simp; omega); have e0 := hkb.cell (j := 0) rfl; have e1 := hkb.cell (j := 1) rfl; have e2 := hkb.cell (j := 2) rfl; have f0 := hkb.fr 0; have f1 := hkb.fr 1; have f2 := hkb.fr 2; clear hgb ht2 hg2 hkb))
  have h01 : w.grownBy w1 (some b) := only_below (HB0.out.trans (HB1.out.mono HB0.out.size)) _
  have h02 : w.grownBy w2 (some b) := h01.trans HG2.out
  have hne : some b ≠ some w.heap.size := by simp; omega
  exact bodyPost_ret (v := .agg #[.int .i64 0, .int .i64 0, .string ⟨#[]⟩]) (by simp [results, Tryd.results57, go_sem, e0, e1, e2]) rfl
    ⟨rfl, tz (tz (tz HT2.out (gb_set _ _ _ _) hne) (gb_set _ _ _ _) hne) (gb_set _ _ _ _) hne, gb_then (gb_then (gb_then h02 (gb_set _ _ _ _) (Nat.le_refl _)) (gb_set _ _ _ _) (Nat.le_refl _)) (gb_set _ _ _ _) (Nat.le_refl _)⟩
end Go.Proofs.YtmnbhdhgjbgidaaDoor

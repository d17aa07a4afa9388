/- made.pick, made.Expr at an empty tape: the null of type Bool. -/
import Derived.Test.YtmnbhdhgjbgidaaDoorMade
import Derived.Test.YtmnbhdhgjbgidaaDoorTypesN
namespace Go.Proofs.YtmnbhdhgjbgidaaDoor
open Go.RowKit

theorem set6 (w : World) (g : Nat) (a b c d e f : Value) : w.grownBy ((((((w.setCell ⟨g, 0, none⟩ a).setCell ⟨g, 1, none⟩ b).setCell ⟨g, 2, none⟩ c).setCell ⟨g, 3, none⟩ d).setCell ⟨g, 4, none⟩ e).setCell ⟨g, 5, none⟩ f) (some g) :=
  (((((gb_set _ _ _ _).trans (gb_set _ _ _ _)).trans (gb_set _ _ _ _)).trans (gb_set _ _ _ _)).trans (gb_set _ _ _ _)).trans (gb_set _ _ _ _)
theorem gb_below {a b c : World} {r : Option Nat} (h : Below a.heap.size a b) (k : b.grownBy c r) : a.grownBy c r := (only_below h r).trans k

set_option maxRecDepth 100000 in
set_option maxHeartbeats 2000000 in
theorem pick_zero (w : World) (b a : Nat) (r : IL) (ht : TapeIn w b E0 a) (ha : a ≤ 4611686018427387000) (hr : r.In w) (hr2 : ∀ n ∈ r.l, n ≠ 2) :
    Calls Tryd.prog 41 #[.pointer (some ⟨b, 0, none⟩), .slice r.h.ao r.l.length r.h.cap, .int .i64 2] w fun e w' => e = .returned (.agg #[.int .i64 1, .int .i64 2, .int .i64 0, .string ⟨#[]⟩, .int .i64 0, .slice none 0 0]) ∧ TapeIn w' b E0 (a + 2) ∧ w.grownBy w' (some b) := by
  have hbl := ht.lt
  have hn := hr.1.len
  have HB0 := hide (belA (w := w) (.cells #[.int .i64 0, .int .i64 0, .int .i64 0, .string ⟨#[]⟩, .int .i64 0, .slice none 0 0] 45))
  have HK := hide (Box.new w #[.int .i64 0, .int .i64 0, .int .i64 0, .string ⟨#[]⟩, .int .i64 0, .slice none 0 0] 45)
  have HT := hide (ht.mono HB0.out)
  have HR := hide (hr.mono HB0.out)
  have HR2 := hide hr2
  clear ht hr hr2
  go_enter Tryd.func41, Tryd.ntmps41
  go_wp2
  go_loopw [7, 8] (fun l i wr => l = .slice none 0 0 ∧ (∃ j : Nat, i = .int .i64 j ∧ j ≤ r.l.length) ∧ Hid (wr = w.alloc (.cells #[.int .i64 0, .int .i64 0, .int .i64 0, .string ⟨#[]⟩, .int .i64 0, .slice none 0 0] 45))) (fun _ i _ => r.l.length - (intOf i).toNat)
  case atStart => exact ⟨rfl, ⟨0, rfl, Nat.zero_le _⟩, rfl⟩
  case round =>
    obtain ⟨rfl, ⟨j, rfl, hj⟩, hw⟩ := hrel
    have hw' := hw.out
    clear hw
    subst hw'
    by_cases hlt : j < r.l.length
    · have hix := IL.ix HR.out hlt
      have c0 := int_at HR.out.1 hlt
      have hne := HR2.out r.l[j] (List.getElem_mem hlt)
      go_wp2
      go_roundw
      case rel => exact ⟨rfl, ⟨j + 1, by go_num, by omega⟩, trivial⟩
      case measure => simp [intOf]; omega
    · go_wp2_with (first
        | (go_at_call 10; refine (next_zero _ b a _ HT.out (by omega) (by decide) ⟨by decide, by decide⟩).mono ?_; rintro e w2 ⟨rfl, ht2, hg2⟩; have HT2 := hide ht2; have HG2 := hide hg2; clear ht2 hg2)
        | (go_at_call 57; refine (value_zero _ b (a + 1) HT2.out (by omega)).mono ?_; rintro e w3 ⟨rfl, ht3, hg3⟩; have HT3 := hide ht3; have HG3 := hide (HG2.out.trans hg3); clear ht3 hg3)
        | (go_at_call 78; refine (const_null _).mono ?_; rintro e w4 ⟨rfl, hb4⟩; have HT4 := hide (HT3.out.mono hb4); have HG4 := hide (HG3.out.trans (only_below hb4 _)); clear hb4; have hkb := HK.out.grown HG4.out (by simp; omega); have e0 := hkb.cell (j := 0) rfl; have e1 := hkb.cell (j := 1) rfl; have e2 := hkb.cell (j := 2) rfl; have e3 := hkb.cell (j := 3) rfl; have e4 := hkb.cell (j := 4) rfl; have e5 := hkb.cell (j := 5) rfl; have f0 := hkb.fr 0; have f1 := hkb.fr 1; have f2 := hkb.fr 2; have f3 := hkb.fr 3; have f4 := hkb.fr 4; have f5 := hkb.fr 5; clear hkb))
      have hne : some b ≠ some w.heap.size := by simp; omega
      have hset : w4.grownBy ((((((w4.setCell ⟨w.heap.size, 0, none⟩ (.int .i64 1)).setCell ⟨w.heap.size, 1, none⟩ (.int .i64 2)).setCell ⟨w.heap.size, 2, none⟩ (.int .i64 0)).setCell ⟨w.heap.size, 3, none⟩ (.string ⟨#[]⟩)).setCell ⟨w.heap.size, 4, none⟩ (.int .i64 0)).setCell ⟨w.heap.size, 5, none⟩ (.slice none 0 0)) (some w.heap.size) := set6 _ _ _ _ _ _ _ _
      exact bodyPost_ret (v := .agg #[.int .i64 1, .int .i64 2, .int .i64 0, .string ⟨#[]⟩, .int .i64 0, .slice none 0 0]) (by simp [results, Tryd.results41, go_sem, e0, e1, e2, e3, e4, e5]) rfl
        ⟨rfl, tz HT4.out hset hne, gb_then (gb_below HB0.out HG4.out) hset (Nat.le_refl _)⟩

set_option maxRecDepth 100000 in
set_option maxHeartbeats 2000000 in
theorem expr_zero (w : World) (b a : Nat) (r : IL) (ht : TapeIn w b E0 a) (ha : a ≤ 4611686018427380000) (hr : r.In w) (hr2 : ∀ n ∈ r.l, n ≠ 2) (hrb : 0 < r.l.length → r.h.b ≠ b) :
    Calls Tryd.prog 19 #[.pointer (some ⟨b, 0, none⟩), .slice r.h.ao r.l.length r.h.cap, .int .i64 2, .int .i64 3] w fun e w' => e = .returned (.agg #[.int .i64 1, .int .i64 2, .int .i64 0, .string ⟨#[]⟩, .int .i64 0, .slice none 0 0]) ∧ TapeIn w' b E0 (a + 3) ∧ w.grownBy w' (some b) := by
  have hbl := ht.lt
  have hn := hr.1.len
  have HBW := hide (((belAA (w := w) (.cells #[.pointer (some ⟨b, 0, none⟩)] 23) (.cells #[.slice r.h.ao r.l.length r.h.cap] 22)).alloc (by simp only [World.size_alloc]; omega) (.cells #[.int .i64 3] 3)).alloc (by simp only [World.size_alloc]; omega) (.cells #[.int .i64 0, .int .i64 0, .int .i64 0, .string ⟨#[]⟩, .int .i64 0, .slice none 0 0] 45))
  have B0 := hide ((((Box.new w #[.pointer (some ⟨b, 0, none⟩)] 23).below (belA (.cells #[.slice r.h.ao r.l.length r.h.cap] 22))).below (belA (.cells #[.int .i64 3] 3))).below (belA (.cells #[.int .i64 0, .int .i64 0, .int .i64 0, .string ⟨#[]⟩, .int .i64 0, .slice none 0 0] 45)))
  have B1 := hide ((((Box.new (w.alloc (.cells #[.pointer (some ⟨b, 0, none⟩)] 23)) #[.slice r.h.ao r.l.length r.h.cap] 22)).below (belA (.cells #[.int .i64 3] 3))).below (belA (.cells #[.int .i64 0, .int .i64 0, .int .i64 0, .string ⟨#[]⟩, .int .i64 0, .slice none 0 0] 45)))
  have B2 := hide (((Box.new ((w.alloc (.cells #[.pointer (some ⟨b, 0, none⟩)] 23)).alloc (.cells #[.slice r.h.ao r.l.length r.h.cap] 22)) #[.int .i64 3] 3)).below (belA (.cells #[.int .i64 0, .int .i64 0, .int .i64 0, .string ⟨#[]⟩, .int .i64 0, .slice none 0 0] 45)))
  have B3 := hide (Box.new (((w.alloc (.cells #[.pointer (some ⟨b, 0, none⟩)] 23)).alloc (.cells #[.slice r.h.ao r.l.length r.h.cap] 22)).alloc (.cells #[.int .i64 3] 3)) #[.int .i64 0, .int .i64 0, .int .i64 0, .string ⟨#[]⟩, .int .i64 0, .slice none 0 0] 45)
  simp only [World.size_alloc] at B0 B1 B2 B3
  have HT := hide (ht.mono HBW.out)
  have HR := hide (hr.mono HBW.out)
  have HR2 := hide hr2
  clear ht hr hr2
  go_enter Tryd.func19, Tryd.ntmps19
  go_upto_region 1 with (fail)
  generalize (((w.alloc (.cells #[.pointer (some ⟨b, 0, none⟩)] 23)).alloc (.cells #[.slice r.h.ao r.l.length r.h.cap] 22)).alloc (.cells #[.int .i64 3] 3)).alloc (.cells #[.int .i64 0, .int .i64 0, .int .i64 0, .string ⟨#[]⟩, .int .i64 0, .slice none 0 0] 45) = W at *
  have x2 := B2.out.cell (j := 0) rfl
  have x0 := B0.out.cell (j := 0) rfl
  go_wp2_with (first
    | (go_at_call 10; refine (next_zero _ b a _ HT.out (by omega) (by decide) ⟨by decide, by decide⟩).mono ?_; rintro e w2 ⟨rfl, ht2, hg2⟩; have HT2 := hide ht2; have HG2 := hide hg2; clear ht2 hg2; have y0 := (B0.out.grown HG2.out (by simp; omega)).cell (j := 0) rfl; have y1 := (B1.out.grown HG2.out (by simp; omega)).cell (j := 0) rfl)
    | (go_at_call 41; refine (pick_zero _ b (a + 1) r HT2.out (by omega) ⟨row_grown HR.out.1 HG2.out hrb, HR.out.2⟩ HR2.out).mono ?_; rintro e w4 ⟨rfl, ht3, hg3⟩; have HT4 := hide ht3; have HG4 := hide (HG2.out.trans hg3); clear ht3 hg3; have hkb := B3.out.grown HG4.out (by simp; omega); have e0 := hkb.cell (j := 0) rfl; have e1 := hkb.cell (j := 1) rfl; have e2 := hkb.cell (j := 2) rfl; have e3 := hkb.cell (j := 3) rfl; have e4 := hkb.cell (j := 4) rfl; have e5 := hkb.cell (j := 5) rfl; have f0 := hkb.fr 0; have f1 := hkb.fr 1; have f2 := hkb.fr 2; have f3 := hkb.fr 3; have f4 := hkb.fr 4; have f5 := hkb.fr 5; clear hkb))
  have hne : some b ≠ some (w.heap.size + 1 + 1 + 1) := by simp; omega
  exact bodyPost_ret (v := .agg #[.int .i64 1, .int .i64 2, .int .i64 0, .string ⟨#[]⟩, .int .i64 0, .slice none 0 0]) (by simp [results, Tryd.results19, go_sem, e0, e1, e2, e3, e4, e5]) rfl
    ⟨rfl, tz HT4.out (set6 _ _ _ _ _ _ _ _) hne, gb_then (gb_below HBW.out HG4.out) (set6 _ _ _ _ _ _ _ _) (by omega)⟩
end Go.Proofs.YtmnbhdhgjbgidaaDoor

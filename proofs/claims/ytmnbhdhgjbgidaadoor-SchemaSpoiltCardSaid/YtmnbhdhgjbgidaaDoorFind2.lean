/- schema.Find and Column, Target. -/
import Derived.Test.YtmnbhdhgjbgidaaDoorFind
namespace Go.Proofs.YtmnbhdhgjbgidaaDoor
open Go.RowKit

theorem fi_of_fx {α : Type} {p : α → Bool} {xs : List α} : (fx p xs < 0 → fi p xs = 0 ∧ decide (0 ≤ fx p xs) = fok p xs) ∧ (0 ≤ fx p xs → fx p xs = fi p xs ∧ true = fok p xs) := by
  unfold fx fok fi
  cases xs.findIdx? p with
  | none => simp
  | some k => simp; omega

set_option maxHeartbeats 400000 in
theorem find_any (s : Sch) (t : ByteArray) (w : World) (hin : s.In w) :
    Calls Tryd.prog 22 #[.agg #[.slice s.th.ao s.tabs.length s.th.cap], .string t] w fun e w' => e = .returned (.tuple #[.int .i64 (fi (named t) s.tabs), .bool (fok (named t) s.tabs)]) ∧ Below w.heap.size w w' := by
  have hx := fx_lt (p := named t) (xs := s.tabs)
  have hn := hin.rt.len
  have hin2 := hin.mono (belAA (.cells #[.slice s.th.ao s.tabs.length s.th.cap] 28) (.cells #[.string t] 9))
  have HF := hide (fi_of_fx (p := named t) (xs := s.tabs))
  generalize hz : fx (named t) s.tabs = z at *
  have HZ := hide hz
  clear hz
  go_enter Tryd.func22, Tryd.ntmps22
  go_wp2_with (go_at_call 45; refine (tindex_any s t _ _ hin2 (by simp [go_sem])).mono ?_; rintro e w1 ⟨rfl, hb1⟩; rw [HZ.out])
  · go_ret2
    exact ⟨ret2 ⟨(HF.out.1 (by omega)).1.symm, (HF.out.1 (by omega)).2⟩, bel2 hb1⟩
  · go_ret2
    exact ⟨ret2 (HF.out.2 (by omega)), bel2 hb1⟩

/-! ### Columns -/
set_option maxHeartbeats 400000 in
theorem cclo_any (x : Col) (t : ByteArray) (c : Nat) (w : World) (hc : w.cell? ⟨c, 0, none⟩ = some (.string t)) :
    Calls Tryd.prog 81 #[.agg #[.string x.name, .int .i64 x.typ, .bool x.nul], .pointer (some ⟨c, 0, none⟩)] w
      fun e w' => e = .returned (.bool (cnamed t x)) ∧ Below w.heap.size w w' := by
  have hlt : c < w.heap.size := World.block_lt_of_cell? w ⟨c, 0, none⟩ hc
  go_enter Tryd.func81, Tryd.ntmps81
  go_wp2
  go_ret
  exact ⟨rfl, belA _⟩

set_option maxHeartbeats 400000 in
theorem cindex_any (ch : Hd) (cs : List Col) (t : ByteArray) (c : Nat) (w : World) (hin : Row w 3 Col.cells ch cs) (hc : w.cell? ⟨c, 0, none⟩ = some (.string t)) :
    Calls Tryd.prog 80 #[.slice ch.ao cs.length ch.cap, .func (.func 81) #[] #[.pointer (some ⟨c, 0, none⟩)]] w
      fun e w' => e = .returned (.int .i64 (fx (cnamed t) cs)) ∧ Below w.heap.size w w' := by
  have hlc : c < w.heap.size := World.block_lt_of_cell? w ⟨c, 0, none⟩ hc
  have hn := hin.len
  go_enter Tryd.func80, Tryd.ntmps80
  go_wp2
  go_loopw [5, 8] (fun _ i wr => ∃ k : Nat, k ≤ cs.length ∧ i = .int .i64 k ∧ (∀ j (hj : j < cs.length), j < k → cnamed t cs[j] = false) ∧ Below w.heap.size w wr) (fun _ i _ => cs.length - (intOf i).toNat)
  case atStart => exact ⟨0, Nat.zero_le _, rfl, fun j _ h => absurd h (by omega), Below.refl _ _⟩
  case round =>
    obtain ⟨k, hk, rfl, hno, hbw⟩ := hrel
    have HN := hide hno
    have HB := hide hbw
    have hin' := hin.mono hbw
    have hc' : wr.cell? ⟨c, 0, none⟩ = some (.string t) := by rw [hbw.cell hlc]; exact hc
    clear hno hbw hc
    by_cases hlt : k < cs.length
    · have hix := hin'.ix hlt Tryd.underlying34 sz30
      obtain ⟨c0, c1, c2⟩ := col_at hin' hlt
      cases hp : cnamed t cs[k]
      all_goals
        have HP := hide hp
        clear hp
        go_wp2_with (go_at_call 81; refine (cclo_any cs[k] t c _ hc').mono ?_; rintro e w1 ⟨rfl, hb1⟩; rw [HP.out])
      · go_roundw
        case rel =>
          refine ⟨k + 1, by omega, by go_num, fun j hj h => ?_, HB.out.trans (hb1.mono HB.out.size)⟩
          by_cases e : j = k
          · subst e; exact HP.out
          · exact HN.out j hj (by omega)
        case measure => simp [intOf]; omega
      · go_ret
        exact ⟨ret1 (fx_hit hlt HP.out (fun j hj h => HN.out j hj h)).symm, HB.out.trans (hb1.mono HB.out.size)⟩
    · go_wp2
      go_ret
      exact ⟨ret1 (fx_miss (fun j hj => HN.out j hj (by omega))).symm, HB.out⟩

set_option maxHeartbeats 400000 in
theorem column_any (x : Tab) (t : ByteArray) (w : World) (hin : x.In w) :
    Calls Tryd.prog 47 #[.agg #[.string x.name, .slice x.ch.ao x.cols.length x.ch.cap, .slice x.prim.h.ao x.prim.l.length x.prim.h.cap, .slice x.uh.ao x.uniqs.length x.uh.cap, .slice x.fh.ao x.fors.length x.fh.cap, .slice x.kh.ao x.checks.length x.kh.cap], .string t] w
      fun e w' => e = .returned (.tuple #[.int .i64 (fi (cnamed t) x.cols), .bool (fok (cnamed t) x.cols)]) ∧ Below w.heap.size w w' := by
  have hx := fx_lt (p := cnamed t) (xs := x.cols)
  have hn := hin.rc.len
  have hin2 := hin.rc.mono (belAA (.cells #[.string x.name, .slice x.ch.ao x.cols.length x.ch.cap, .slice x.prim.h.ao x.prim.l.length x.prim.h.cap, .slice x.uh.ao x.uniqs.length x.uh.cap, .slice x.fh.ao x.fors.length x.fh.cap, .slice x.kh.ao x.checks.length x.kh.cap] 39) (.cells #[.string t] 9))
  have HF := hide (fi_of_fx (p := cnamed t) (xs := x.cols))
  generalize hz : fx (cnamed t) x.cols = z at *
  have HZ := hide hz
  clear hz
  go_enter Tryd.func47, Tryd.ntmps47
  go_wp2_with (go_at_call 80; refine (cindex_any x.ch x.cols t _ _ hin2 (by simp [go_sem])).mono ?_; rintro e w1 ⟨rfl, hb1⟩; rw [HZ.out])
  · go_ret2
    exact ⟨ret2 ⟨(HF.out.1 (by omega)).1.symm, (HF.out.1 (by omega)).2⟩, bel2 hb1⟩
  · go_ret2
    exact ⟨ret2 (HF.out.2 (by omega)), bel2 hb1⟩

set_option maxHeartbeats 400000 in
theorem rcolumn_any (x : Tab) (t : ByteArray) (w : World) (hin : x.In w) :
    Calls Tryd.prog 54 #[.agg #[.string x.name, .slice x.ch.ao x.cols.length x.ch.cap, .slice x.prim.h.ao x.prim.l.length x.prim.h.cap, .slice x.uh.ao x.uniqs.length x.uh.cap, .slice x.fh.ao x.fors.length x.fh.cap, .slice x.kh.ao x.checks.length x.kh.cap], .string t] w
      fun e w' => e = .returned (.tuple #[.int .i64 (fi (cnamed t) x.cols), .bool (fok (cnamed t) x.cols)]) ∧ Below w.heap.size w w' := by
  have hn := hin.rc.len
  go_enter Tryd.func54, Tryd.ntmps54
  go_wp2
  go_loop [6] (fun i => ∃ k : Nat, k ≤ x.cols.length ∧ i = .int .i64 k ∧ ∀ j (hj : j < x.cols.length), j < k → cnamed t x.cols[j] = false) (fun i => x.cols.length - (intOf i).toNat)
  case atStart => exact ⟨0, Nat.zero_le _, rfl, fun j _ h => absurd h (by omega)⟩
  case round =>
    obtain ⟨k, hk, rfl, hno⟩ := hrel
    have HN := hide hno
    clear hno
    by_cases hlt : k < x.cols.length
    · have hix := hin.rc.ix hlt Tryd.underlying34 sz30
      have hb := hin.rc.blk hlt
      obtain ⟨c0, _⟩ := col_at hin.rc hlt
      by_cases hp : (x.cols[k].name.toList == t.toList) = true
      · go_wp2
        go_ret2
        exact ⟨ret2 ⟨(fi_hit hlt hp (fun j hj h => HN.out j hj h)).1.symm, (fi_hit hlt hp (fun j hj h => HN.out j hj h)).2.symm⟩, belA _⟩
      · have hp' : (x.cols[k].name.toList == t.toList) = false := by simpa using hp
        clear hp
        go_wp2
        go_round
        case rel =>
          refine ⟨k + 1, by omega, by go_num, fun j hj h => ?_⟩
          by_cases e : j = k
          · subst e; exact hp'
          · exact HN.out j hj (by omega)
        case measure => simp [intOf]; omega
    · go_wp2
      go_ret2
      exact ⟨ret2 ⟨(fi_miss (fun j hj => HN.out j hj (by omega))).1.symm, (fi_miss (fun j hj => HN.out j hj (by omega))).2.symm⟩, belA _⟩

end Go.Proofs.YtmnbhdhgjbgidaaDoor

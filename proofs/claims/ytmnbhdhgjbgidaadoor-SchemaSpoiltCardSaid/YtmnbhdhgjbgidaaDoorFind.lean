/- schema.Find, ref03.Find, schema.Column, ref03.Column, Target: what they return, for any schema that lies in the world. -/
import Derived.Test.YtmnbhdhgjbgidaaDoorProg
import Derived.Test.YtmnbhdhgjbgidaaDoorData
import Derived.WalkLawsBesides
import Derived.KernelRfl
namespace Go.Proofs.YtmnbhdhgjbgidaaDoor
open Go.RowKit

/-- The first place whose element passes. -/
def fi {α : Type} (p : α → Bool) (xs : List α) : Int := ((xs.findIdx? p).getD 0 : Nat)
def fok {α : Type} (p : α → Bool) (xs : List α) : Bool := (xs.findIdx? p).isSome
theorem findIdx_hit {α : Type} {p : α → Bool} {xs : List α} {k : Nat} (hk : k < xs.length) (hp : p xs[k] = true) (hn : ∀ j (hj : j < xs.length), j < k → p xs[j] = false) : xs.findIdx? p = some k := by
  rw [List.findIdx?_eq_some_iff_getElem]
  exact ⟨hk, hp, fun j hj => by rw [hn j (by omega) hj]; simp⟩
theorem findIdx_miss {α : Type} {p : α → Bool} {xs : List α} (hn : ∀ j (hj : j < xs.length), p xs[j] = false) : xs.findIdx? p = none := by
  rw [List.findIdx?_eq_none_iff]
  intro x hx
  obtain ⟨i, hi, rfl⟩ := List.getElem_of_mem hx
  rw [hn i hi]
theorem fi_hit {α : Type} {p : α → Bool} {xs : List α} {k : Nat} (hk : k < xs.length) (hp : p xs[k] = true) (hn : ∀ j (hj : j < xs.length), j < k → p xs[j] = false) : fi p xs = k ∧ fok p xs = true := by
  unfold fi fok; rw [findIdx_hit hk hp hn]; simp
theorem fi_miss {α : Type} {p : α → Bool} {xs : List α} (hn : ∀ j (hj : j < xs.length), p xs[j] = false) : fi p xs = 0 ∧ fok p xs = false := by
  unfold fi fok; rw [findIdx_miss hn]; simp

def named (t : ByteArray) (x : Tab) : Bool := x.name.toList == t.toList
def cnamed (t : ByteArray) (x : Col) : Bool := x.name.toList == t.toList

theorem sz22 : (Tryd.prog.info? 39).map (·.size) = some 6 := by kernel_rfl
theorem sz30 : (Tryd.prog.info? 41).map (·.size) = some 3 := by kernel_rfl

set_option maxHeartbeats 400000 in
theorem rfind_any (s : Sch) (t : ByteArray) (w : World) (hin : s.In w) :
    Calls Tryd.prog 26 #[.agg #[.slice s.th.ao s.tabs.length s.th.cap], .string t] w fun e w' => e = .returned (.tuple #[.int .i64 (fi (named t) s.tabs), .bool (fok (named t) s.tabs)]) ∧ Below w.heap.size w w' := by
  have hn := hin.rt.len
  go_enter Tryd.func26, Tryd.ntmps26
  go_wp2
  go_loop [6] (fun i => ∃ k : Nat, k ≤ s.tabs.length ∧ i = .int .i64 k ∧ ∀ j (hj : j < s.tabs.length), j < k → named t s.tabs[j] = false) (fun i => s.tabs.length - (intOf i).toNat)
  case atStart => exact ⟨0, Nat.zero_le _, rfl, fun j _ h => absurd h (by omega)⟩
  case round =>
    obtain ⟨k, hk, rfl, hno⟩ := hrel
    have HN := hide hno
    clear hno
    by_cases hlt : k < s.tabs.length
    · have hix := hin.rt.ix hlt Tryd.underlying26 sz22
      have hb := hin.rt.blk hlt
      obtain ⟨c0, _⟩ := tab_at hin.rt hlt
      by_cases hp : (s.tabs[k].name.toList == t.toList) = true
      · go_wp2
        go_ret2
        exact ⟨ret2 ⟨(fi_hit hlt hp (fun j hj h => HN.out j hj h)).1.symm, (fi_hit hlt hp (fun j hj h => HN.out j hj h)).2.symm⟩, (Below.refl _ _).alloc (Nat.le_refl _) _⟩
      · have hp' : (s.tabs[k].name.toList == t.toList) = false := by simpa using hp
        clear hp
        go_wp2
        go_round
        case rel =>
          refine ⟨k + 1, by omega, by go_num, fun j hj h => ?_⟩
          by_cases e : j = k
          · subst e; exact hp'
          · exact HN.out j hj (by omega)
        case measure => simp [intOf]; omega
    · go_wp2
      go_ret2
      exact ⟨ret2 ⟨(fi_miss (fun j hj => HN.out j hj (by omega))).1.symm, (fi_miss (fun j hj => HN.out j hj (by omega))).2.symm⟩, (Below.refl _ _).alloc (Nat.le_refl _) _⟩


/-- The place, or -1. -/
def fx {α : Type} (p : α → Bool) (xs : List α) : Int := if fok p xs then fi p xs else -1
theorem fx_hit {α : Type} {p : α → Bool} {xs : List α} {k : Nat} (hk : k < xs.length) (hp : p xs[k] = true) (hn : ∀ j (hj : j < xs.length), j < k → p xs[j] = false) : fx p xs = k := by
  unfold fx; rw [if_pos (fi_hit hk hp hn).2, (fi_hit hk hp hn).1]
theorem fx_miss {α : Type} {p : α → Bool} {xs : List α} (hn : ∀ j (hj : j < xs.length), p xs[j] = false) : fx p xs = -1 := by
  unfold fx; rw [if_neg (by rw [(fi_miss hn).2]; simp)]
theorem fx_lt {α : Type} {p : α → Bool} {xs : List α} : -1 ≤ fx p xs ∧ fx p xs < xs.length ∨ fx p xs = -1 := by
  by_cases h : ∀ j (hj : j < xs.length), p xs[j] = false
  · exact .inr (fx_miss h)
  · left
    unfold fx fok fi
    cases hf : xs.findIdx? p with
    | none => simp; omega
    | some k =>
      have := (List.findIdx?_eq_some_iff_getElem.1 hf).1
      simp; omega

set_option maxHeartbeats 400000 in
theorem tclo_any (x : Tab) (t : ByteArray) (c : Nat) (w : World) (hc : w.cell? ⟨c, 0, none⟩ = some (.string t)) :
    Calls Tryd.prog 46 #[.agg #[.string x.name, .slice x.ch.ao x.cols.length x.ch.cap, .slice x.prim.h.ao x.prim.l.length x.prim.h.cap, .slice x.uh.ao x.uniqs.length x.uh.cap, .slice x.fh.ao x.fors.length x.fh.cap, .slice x.kh.ao x.checks.length x.kh.cap], .pointer (some ⟨c, 0, none⟩)] w
      fun e w' => e = .returned (.bool (named t x)) ∧ Below w.heap.size w w' := by
  have hlt : c < w.heap.size := World.block_lt_of_cell? w ⟨c, 0, none⟩ hc
  go_enter Tryd.func46, Tryd.ntmps46
  go_wp2
  go_ret
  exact ⟨rfl, (Below.refl _ _).alloc (Nat.le_refl _) _⟩

set_option maxHeartbeats 400000 in
theorem tindex_any (s : Sch) (t : ByteArray) (c : Nat) (w : World) (hin : s.In w) (hc : w.cell? ⟨c, 0, none⟩ = some (.string t)) :
    Calls Tryd.prog 45 #[.slice s.th.ao s.tabs.length s.th.cap, .func (.func 46) #[] #[.pointer (some ⟨c, 0, none⟩)]] w
      fun e w' => e = .returned (.int .i64 (fx (named t) s.tabs)) ∧ Below w.heap.size w w' := by
  have hlc : c < w.heap.size := World.block_lt_of_cell? w ⟨c, 0, none⟩ hc
  have hn := hin.rt.len
  go_enter Tryd.func45, Tryd.ntmps45
  go_wp2
  go_loopw [5, 8] (fun _ i wr => ∃ k : Nat, k ≤ s.tabs.length ∧ i = .int .i64 k ∧ (∀ j (hj : j < s.tabs.length), j < k → named t s.tabs[j] = false) ∧ Below w.heap.size w wr) (fun _ i _ => s.tabs.length - (intOf i).toNat)
  case atStart => exact ⟨0, Nat.zero_le _, rfl, fun j _ h => absurd h (by omega), Below.refl _ _⟩
  case round =>
    obtain ⟨k, hk, rfl, hno, hbw⟩ := hrel
    have HN := hide hno
    have HB := hide hbw
    have hin' := hin.mono hbw
    have hc' : wr.cell? ⟨c, 0, none⟩ = some (.string t) := by rw [hbw.cell hlc]; exact hc
    clear hno hbw hc
    by_cases hlt : k < s.tabs.length
    · have hix := hin'.rt.ix hlt Tryd.underlying26 sz22
      obtain ⟨c0, c1, c2, c3, c4, c5⟩ := tab_at hin'.rt hlt
      cases hp : named t s.tabs[k]
      all_goals
        have HP := hide hp
        clear hp
        go_wp2_with (go_at_call 46; refine (tclo_any s.tabs[k] t c _ hc').mono ?_; rintro e w1 ⟨rfl, hb1⟩; rw [HP.out])
      · go_roundw
        case rel =>
          refine ⟨k + 1, by omega, by go_num, fun j hj h => ?_, HB.out.trans (hb1.mono HB.out.size)⟩
          by_cases e : j = k
          · subst e; exact HP.out
          · exact HN.out j hj (by omega)
        case measure => simp [intOf]; omega
      · go_ret
        exact ⟨ret1 (fx_hit hlt HP.out (fun j hj h => HN.out j hj h)).symm, HB.out.trans (hb1.mono HB.out.size)⟩
    · go_wp2
      go_ret
      exact ⟨ret1 (fx_miss (fun j hj => HN.out j hj (by omega))).symm, HB.out⟩

end Go.Proofs.YtmnbhdhgjbgidaaDoor

/- expression.fit: whether types are those that an operation asks for. -/
import Derived.Test.YtmnbhdhgjbgidaaDoorEClean
import Derived.Test.YtmnbhdhgjbgidaaDoorTypes
import Derived.Deep.QuietTactic
import Derived.BigQuiet
namespace Go.Proofs.YtmnbhdhgjbgidaaDoor
open Go.RowKit

def alla (t : Int) (l : List Int) : Bool := l.all (· == t)
def neT (t : Int) (x : Int) : Bool := x != t
theorem any_neT (t : Int) (l : List Int) : (!(l.any (neT t))) = alla t l := by
  unfold alla neT
  induction l with
  | nil => rfl
  | cons x l ih => simp only [List.any_cons, List.all_cons, Bool.not_or, ih]; cases h : (x == t) <;> simp_all
theorem fx_any {α : Type} (p : α → Bool) (l : List α) : decide (0 ≤ fx p l) = l.any p := by
  unfold fx fi fok
  rw [List.findIdx?_isSome]
  cases h : l.any p with
  | true => simp
  | false => simp

set_option maxHeartbeats 400000 in
theorem fclo_any (x t : Int) (c : Nat) (w : World) (hc : w.cell? ⟨c, 0, none⟩ = some (.int .i64 t)) :
    Calls Tryd.prog 120 #[.int .i64 x, .pointer (some ⟨c, 0, none⟩)] w
      fun e w' => e = .returned (.bool (neT t x)) ∧ Below w.heap.size w w' := by
  go_enter Tryd.func120, Tryd.ntmps120
  go_wp2
  go_ret
  exact ⟨rfl, Below.refl _ _⟩

set_option maxHeartbeats 400000 in
theorem findex_any (l : IL) (t : Int) (c : Nat) (w : World) (hin : l.In w) (hc : w.cell? ⟨c, 0, none⟩ = some (.int .i64 t)) :
    Calls Tryd.prog 100 #[.slice l.h.ao l.l.length l.h.cap, .func (.func 120) #[] #[.pointer (some ⟨c, 0, none⟩)]] w
      fun e w' => e = .returned (.int .i64 (fx (neT t) l.l)) ∧ Below w.heap.size w w' := by
  have hlc : c < w.heap.size := World.block_lt_of_cell? w ⟨c, 0, none⟩ hc
  have hn := hin.1.len
  go_enter Tryd.func100, Tryd.ntmps100
  go_wp2
  go_loopw [5, 8] (fun _ i wr => ∃ k : Nat, k ≤ l.l.length ∧ i = .int .i64 k ∧ (∀ j (hj : j < l.l.length), j < k → neT t l.l[j] = false) ∧ Below w.heap.size w wr) (fun _ i _ => l.l.length - (intOf i).toNat)
  case atStart => exact ⟨0, Nat.zero_le _, rfl, fun j _ h => absurd h (by omega), Below.refl _ _⟩
  case round =>
    obtain ⟨k, hk, rfl, hno, hbw⟩ := hrel
    have HN := hide hno
    have HB := hide hbw
    have hin' := hin.mono hbw
    have hc' : wr.cell? ⟨c, 0, none⟩ = some (.int .i64 t) := by rw [hbw.cell hlc]; exact hc
    clear hno hbw hc
    by_cases hlt : k < l.l.length
    · have hix := IL.ix hin' hlt
      have c0 := int_at hin'.1 hlt
      cases hp : neT t l.l[k]
      all_goals
        have HP := hide hp
        clear hp
        go_wp2_with (go_at_call 120; refine (fclo_any l.l[k] t c _ hc').mono ?_; rintro e w1 ⟨rfl, hb1⟩; rw [HP.out])
      · go_roundw
        case rel =>
          refine ⟨k + 1, by omega, by go_num, fun j hj h => ?_, HB.out.trans (hb1.mono HB.out.size)⟩
          by_cases e : j = k
          · subst e; exact HP.out
          · exact HN.out j hj (by omega)
        case measure => simp [intOf]; omega
      · go_ret
        exact ⟨ret1 (fx_hit hlt HP.out (fun j hj h => HN.out j hj h)).symm, HB.out.trans (hb1.mono HB.out.size)⟩
    · go_wp2
      go_ret
      exact ⟨ret1 (fx_miss (fun j hj => HN.out j hj (by omega))).symm, HB.out⟩

set_option maxHeartbeats 400000 in
theorem fcont_any (l : IL) (t : Int) (c : Nat) (w : World) (hin : l.In w) (hc : w.cell? ⟨c, 0, none⟩ = some (.int .i64 t)) :
    Calls Tryd.prog 83 #[.slice l.h.ao l.l.length l.h.cap, .func (.func 120) #[] #[.pointer (some ⟨c, 0, none⟩)]] w
      fun e w' => e = .returned (.bool (l.l.any (neT t))) ∧ Below w.heap.size w w' := by
  have HA := hide (fx_any (neT t) l.l)
  go_enter Tryd.func83, Tryd.ntmps83
  go_wp2_with (go_at_call 100; refine (findex_any l t c _ hin hc).mono ?_; rintro e w1 ⟨rfl, hb1⟩)
  go_ret
  exact ⟨by rw [← HA.out]; rfl, hb1⟩

set_option maxHeartbeats 400000 in
theorem every_any (l : IL) (t : Int) (w : World) (hin : l.In w) :
    Calls Tryd.prog 119 #[.int .i64 t, .slice l.h.ao l.l.length l.h.cap] w
      fun e w' => e = .returned (.bool (alla t l.l)) ∧ Below w.heap.size w w' := by
  have HA := hide (any_neT t l.l)
  have HI := hide (hin.mono (belA (.cells #[.int .i64 t] 3)))
  go_enter Tryd.func119, Tryd.ntmps119
  go_wp2_with (go_at_call 83; refine (fcont_any l t w.heap.size _ HI.out (by simp [go_sem])).mono ?_; rintro e w1 ⟨rfl, hb1⟩)
  go_ret
  exact ⟨by rw [← HA.out]; rfl, bel1 hb1⟩

/-- What 'fit' answers. -/
def fitB (ty : Int) (l : List Int) : Bool :=
  if ty = 1 then alla 1 l else if ty = 2 then alla 3 l else if ty = 3 then alla 2 l else if ty = 4 then alla (l.getD 0 0) l else if ty = 6 then (l.getD 0 0 == 2) && (l.getD 1 0 == l.getD 2 0) else true

set_option maxRecDepth 100000 in
set_option maxHeartbeats 1000000 in
theorem fit_any (nm : ByteArray) (kd ty ow : Int) (l : IL) (w : World) (hin : l.In w) (h4 : ty = 4 → 0 < l.l.length) (h6 : ty = 6 → 3 ≤ l.l.length) :
    Calls Tryd.prog 104 #[.agg #[.string nm, .int .i64 kd, .int .i64 ty, .int .i64 ow], .slice l.h.ao l.l.length l.h.cap] w
      fun e w' => e = .returned (.bool (fitB ty l.l)) ∧ Below w.heap.size w w' := by
  have HI := hide (hin.mono (belA (.cells #[.string nm, .int .i64 kd, .int .i64 ty, .int .i64 ow] 135)))
  unfold fitB
  by_cases e1 : ty = 1
  · subst e1
    go_enter Tryd.func104, Tryd.ntmps104
    go_wp2_with (go_at_call 119; refine (every_any l 1 _ HI.out).mono ?_; rintro e w1 ⟨rfl, hb1⟩)
    go_ret
    exact ⟨rfl, bel1 hb1⟩
  by_cases e2 : ty = 2
  · subst e2
    go_enter Tryd.func104, Tryd.ntmps104
    go_wp2_with (go_at_call 119; refine (every_any l 3 _ HI.out).mono ?_; rintro e w1 ⟨rfl, hb1⟩)
    go_ret
    exact ⟨rfl, bel1 hb1⟩
  by_cases e3 : ty = 3
  · subst e3
    go_enter Tryd.func104, Tryd.ntmps104
    go_wp2_with (go_at_call 119; refine (every_any l 2 _ HI.out).mono ?_; rintro e w1 ⟨rfl, hb1⟩)
    go_ret
    exact ⟨rfl, bel1 hb1⟩
  by_cases e4 : ty = 4
  · subst e4
    have hp := h4 rfl
    have HIX := HI.out
    have hix0 : ∀ U, (Instr.indexAt 22 (.slice l.h.ao l.l.length l.h.cap) (.int .i64 0)).run Tryd.prog U = .ok (.pointer (some ⟨l.h.b, l.h.o, none⟩)) U := fun U => by simpa using IL.ix HIX hp U
    have c0 : (w.alloc (.cells #[.string nm, .int .i64 kd, .int .i64 4, .int .i64 ow] 135)).cell? ⟨l.h.b, l.h.o, none⟩ = some (.int .i64 l.l[0]) := by simpa only [Nat.add_zero] using int_at HIX.1 hp
    have hbk := HIX.1.blk hp
    have hlen := hin.1.len
    have hgd : l.l.getD 0 0 = l.l[0] := by simp [List.getD, hp]
    rw [hgd]
    clear HIX
    go_enter Tryd.func104, Tryd.ntmps104
    go_wp2_with (go_at_call 119; refine (every_any l l.l[0] _ HI.out).mono ?_; rintro e w1 ⟨rfl, hb1⟩)
    go_ret
    exact ⟨rfl, bel1 hb1⟩
  by_cases e6 : ty = 6
  · subst e6
    have hp := h6 rfl
    have HIX := HI.out
    have p0 : 0 < l.l.length := by omega
    have p1 : 1 < l.l.length := by omega
    have p2 : 2 < l.l.length := by omega
    have hix0 : ∀ U, (Instr.indexAt 22 (.slice l.h.ao l.l.length l.h.cap) (.int .i64 0)).run Tryd.prog U = .ok (.pointer (some ⟨l.h.b, l.h.o, none⟩)) U := fun U => by simpa using IL.ix HIX p0 U
    have hix1 : ∀ U, (Instr.indexAt 22 (.slice l.h.ao l.l.length l.h.cap) (.int .i64 1)).run Tryd.prog U = .ok (.pointer (some ⟨l.h.b, l.h.o + 1, none⟩)) U := fun U => by simpa using IL.ix HIX p1 U
    have hix2 : ∀ U, (Instr.indexAt 22 (.slice l.h.ao l.l.length l.h.cap) (.int .i64 2)).run Tryd.prog U = .ok (.pointer (some ⟨l.h.b, l.h.o + 2, none⟩)) U := fun U => by simpa using IL.ix HIX p2 U
    have c0 : (w.alloc (.cells #[.string nm, .int .i64 kd, .int .i64 6, .int .i64 ow] 135)).cell? ⟨l.h.b, l.h.o, none⟩ = some (.int .i64 l.l[0]) := by simpa only [Nat.add_zero] using int_at HIX.1 p0
    have hbk := HIX.1.blk p0
    have c1 : (w.alloc (.cells #[.string nm, .int .i64 kd, .int .i64 6, .int .i64 ow] 135)).cell? ⟨l.h.b, l.h.o + 1, none⟩ = some (.int .i64 l.l[1]) := by simpa only [Nat.add_zero] using int_at HIX.1 p1
    have c2 : (w.alloc (.cells #[.string nm, .int .i64 kd, .int .i64 6, .int .i64 ow] 135)).cell? ⟨l.h.b, l.h.o + 2, none⟩ = some (.int .i64 l.l[2]) := by simpa only [Nat.add_zero] using int_at HIX.1 p2
    have hg0 : l.l.getD 0 0 = l.l[0] := by simp [List.getD, p0]
    have hg1 : l.l.getD 1 0 = l.l[1] := by simp [List.getD, p1]
    have hg2 : l.l.getD 2 0 = l.l[2] := by simp [List.getD, p2]
    rw [hg0, hg1, hg2]
    clear HIX hg0 hg1 hg2
    have hd : ∃ b, (l.l[0] == 2) = b := ⟨_, rfl⟩
    obtain ⟨b, hb⟩ := hd
    rw [hb]
    cases b
    · go_enter Tryd.func104, Tryd.ntmps104
      go_wp2
      go_quiet (fail)
      go_wp2
      go_ret
      exact ⟨rfl, below_drewN (belA _) _⟩
    · go_enter Tryd.func104, Tryd.ntmps104
      go_wp2
      go_quiet (fail)
      go_wp2
      go_ret
      exact ⟨rfl, below_drewN (belA _) _⟩
  · have e1' : (ty == 1) = false := by simpa using e1
    have e2' : (ty == 2) = false := by simpa using e2
    have e3' : (ty == 3) = false := by simpa using e3
    have e4' : (ty == 4) = false := by simpa using e4
    have e6' : (ty == 6) = false := by simpa using e6
    rw [if_neg e1, if_neg e2, if_neg e3, if_neg e4, if_neg e6]
    go_enter Tryd.func104, Tryd.ntmps104
    go_wp2
    go_ret
    exact ⟨rfl, belA _⟩
end Go.Proofs.YtmnbhdhgjbgidaaDoor

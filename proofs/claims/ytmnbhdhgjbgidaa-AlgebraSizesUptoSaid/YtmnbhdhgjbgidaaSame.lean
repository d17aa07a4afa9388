/- law03.same: whether two lists of numbers are equal. -/
import Derived.Test.YtmnbhdhgjbgidaaKit
namespace Go.Proofs.Ytmnbhdhgjbgidaa
open Go.RowKit

theorem szint : (Try.prog.info? 3).map (·.size) = some 1 := by kernel_rfl
theorem eq_of_all {α : Type} {a b : List α} (hl : a.length = b.length) (h : ∀ j (ha : j < a.length) (hb : j < b.length), a[j] = b[j]) : a = b := List.ext_getElem hl h
theorem ne_of_at {α : Type} {a b : List α} {j : Nat} (ha : j < a.length) (hb : j < b.length) (h : a[j] ≠ b[j]) : a ≠ b := fun e => h (by subst e; rfl)
theorem IL.ix {w : World} {x : IL} (hx : x.In w) {i : Nat} (hi : i < x.l.length) : ∀ W, (Instr.indexAt 31 (.slice x.h.ao x.l.length x.h.cap) (.int .i64 (i : Int))).run Try.prog W = .ok (.pointer (some ⟨x.h.b, x.h.o + i, none⟩)) W := by
  have := hx.1.ix hi Try.underlying31 szint
  simpa using this

set_option maxHeartbeats 400000 in
theorem same_any (a b : IL) (w : World) (ha : a.In w) (hb : b.In w) :
    Calls Try.prog 15 #[.slice a.h.ao a.l.length a.h.cap, .slice b.h.ao b.l.length b.h.cap] w fun e w' => e = .returned (.bool (decide (a.l = b.l))) ∧ Below w.heap.size w w' := by
  have hna := ha.1.len
  have hnb := hb.1.len
  by_cases hl : a.l.length = b.l.length
  · have hl' : (((a.l.length : Nat) : Int) != ((b.l.length : Nat) : Int)) = false := by simp [hl]
    have HL := hide hl
    clear hl
    go_enter Try.func15, Try.ntmps15
    go_wp2
    clear hl'
    go_loopw [5] (fun i wr => ∃ k : Nat, k ≤ a.l.length ∧ i = .int .i64 k ∧ (∀ j (ha : j < a.l.length) (hb : j < b.l.length), j < k → a.l[j] = b.l[j]) ∧ Below w.heap.size w wr) (fun i _ => a.l.length - (intOf i).toNat)
    case atStart => exact ⟨0, Nat.zero_le _, rfl, fun j _ _ h => absurd h (by omega), Below.refl _ _⟩
    case round =>
      obtain ⟨k, hk, rfl, hno, hbw⟩ := hrel
      have HN := hide hno
      have HB := hide hbw
      have ha' := ha.mono hbw
      have hb' := hb.mono hbw
      clear hno hbw
      by_cases hlt : k < a.l.length
      · have hltb : k < b.l.length := by rw [← HL.out]; exact hlt
        have hix := IL.ix ha' hlt
        have hjx := IL.ix hb' hltb
        have c0 := int_at ha'.1 hlt
        have d0 := int_at hb'.1 hltb
        by_cases hp : a.l[k] = b.l[k]
        · have hp' : (a.l[k] != b.l[k]) = false := by simp [hp]
          have HP := hide hp
          clear hp
          go_wp2
          go_quiet (fail)
          go_wp2
          go_roundw
          case rel =>
            refine ⟨k + 1, by omega, by go_num, fun j hj hj2 h => ?_, below_drewN HB.out _⟩
            by_cases e : j = k
            · subst e; exact HP.out
            · exact HN.out j hj hj2 (by omega)
          case measure => simp [intOf]; omega
        · have hp' : (a.l[k] != b.l[k]) = true := by simpa using hp
          have HP := hide hp
          clear hp
          go_wp2
          go_quiet (fail)
          go_wp2
          go_ret
          exact ⟨retb (decide_eq_false (ne_of_at hlt hltb HP.out)).symm, below_drewN HB.out _⟩
      · go_wp2
        go_ret
        exact ⟨retb (decide_eq_true (eq_of_all HL.out (fun j h1 h2 => HN.out j h1 h2 (by omega)))).symm, HB.out⟩
  · have hl' : (((a.l.length : Nat) : Int) != ((b.l.length : Nat) : Int)) = true := by simp; omega
    have HL := hide hl
    clear hl
    go_enter Try.func15, Try.ntmps15
    go_wp2
    go_ret
    exact ⟨retb (decide_eq_false (fun e => HL.out (by rw [e]))).symm, Below.refl _ _⟩

end Go.Proofs.Ytmnbhdhgjbgidaa

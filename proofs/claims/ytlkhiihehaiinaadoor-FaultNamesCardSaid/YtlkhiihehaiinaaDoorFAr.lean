/- value.numbers, value.Arith. -/
import Derived.Test.YtlkhiihehaiinaaDoorFVb
namespace Go.Proofs.YtlkhiihehaiinaaDoor
open Go.RowKit

/-- What is reckoned of two numbers in their range. -/
def numP (op a b : Int) : Option Int :=
  if op = 6 then some (a + b) else if op = 7 then some (a - b)
  else if op = 8 then (if a ≠ 0 ∧ b ≠ 0 ∧ (1000000000000 : Int) / max b (-b) < max a (-a) then none else some (a * b))
  else if op = 9 then (if b ≠ 0 then some (a.tdiv b) else none)
  else if op = 10 then (if b ≠ 0 then some (a.tmod b) else none) else none
def rng (a : Int) : Prop := -1000000000000 ≤ a ∧ a ≤ 1000000000000
theorem mul_rng {a b : Int} (h : ¬ (a ≠ 0 ∧ b ≠ 0 ∧ (1000000000000 : Int) / max b (-b) < max a (-a))) : rng (a * b) := by
  by_cases ha : a = 0
  · subst ha; simp [rng]
  by_cases hb : b = 0
  · subst hb; simp [rng]
  have h2 : max a (-a) ≤ 1000000000000 / max b (-b) := by
    have := fun h3 => h ⟨ha, hb, h3⟩
    omega
  have hB : 0 < max b (-b) := by omega
  have h3 : max a (-a) * max b (-b) ≤ 1000000000000 := by
    have h4 := Int.mul_le_mul_of_nonneg_right h2 (Int.le_of_lt hB)
    have h5 := Int.ediv_mul_le (1000000000000 : Int) (show max b (-b) ≠ 0 by omega)
    omega
  have h0 : 0 ≤ max a (-a) * max b (-b) := Int.mul_nonneg (by omega) (by omega)
  have h6 : a * b = max a (-a) * max b (-b) ∨ a * b = -(max a (-a) * max b (-b)) := by
    rcases Int.le_total 0 a with ha2 | ha2 <;> rcases Int.le_total 0 b with hb2 | hb2
    · left; rw [show max a (-a) = a by omega, show max b (-b) = b by omega]
    · right; rw [show max a (-a) = a by omega, show max b (-b) = -b by omega, Int.mul_neg, Int.neg_neg]
    · right; rw [show max a (-a) = -a by omega, show max b (-b) = b by omega, Int.neg_mul, Int.neg_neg]
    · left; rw [show max a (-a) = -a by omega, show max b (-b) = -b by omega, Int.neg_mul_neg]
  unfold rng
  rcases h6 with h6 | h6 <;> rw [h6] <;> omega
theorem div_rng {a b : Int} (ha : rng a) (_hb : b ≠ 0) : rng (a.tdiv b) := by
  unfold rng at *
  have h : (a.tdiv b).natAbs ≤ a.natAbs := by rw [Int.natAbs_tdiv]; exact Nat.div_le_self _ _
  omega
theorem mod_rng {a b : Int} (hb : rng b) (h0 : b ≠ 0) : rng (a.tmod b) := by
  unfold rng at *
  have h : (a.tmod b).natAbs < b.natAbs := by rw [Int.natAbs_tmod]; exact Nat.mod_lt _ (by omega)
  omega
theorem num_64 {op a b n : Int} (ha : rng a) (hb : rng b) (h : numP op a b = some n) : -2000000000000 ≤ n ∧ n ≤ 2000000000000 := by
  unfold numP at h
  split at h
  · injection h with h; unfold rng at *; omega
  split at h
  · injection h with h; unfold rng at *; omega
  split at h
  · split at h
    · cases h
    · rename_i h2; injection h with h; have := mul_rng h2; unfold rng at *; omega
  split at h
  · split at h
    · rename_i h2; injection h with h; have := div_rng ha h2; unfold rng at *; omega
    · cases h
  split at h
  · split at h
    · rename_i h2; injection h with h; have := mod_rng (a := a) hb h2; unfold rng at *; omega
    · cases h
  · cases h

set_option maxRecDepth 100000 in
set_option maxHeartbeats 2000000 in
theorem vnum_any (op a b : Int) (w : World) (ha : rng a) (hb : rng b) : Calls Tryd.prog 90 #[.int .i64 op, .int .i64 a, .int .i64 b] w fun e w' => e = .returned (.tuple #[.int .i64 ((numP op a b).getD 0), .bool (numP op a b).isSome]) ∧ Below w.heap.size w w' := by
  unfold rng at ha hb
  by_cases h6 : op = 6
  · subst h6
    have hw : IntKind.i64.wrap (a + b) = a + b := by rw [IntKind.wrap_i64]; omega
    rw [show numP 6 a b = some (a + b) from rfl]
    go_enter Tryd.func90, Tryd.ntmps90
    go_wp2
    go_ret2
    exact ⟨rfl, Below.refl _ _⟩
  by_cases h7 : op = 7
  · subst h7
    have hw : IntKind.i64.wrap (a - b) = a - b := by rw [IntKind.wrap_i64]; omega
    rw [show numP 7 a b = some (a - b) from rfl]
    clear h6
    go_enter Tryd.func90, Tryd.ntmps90
    go_wp2
    go_ret2
    exact ⟨rfl, Below.refl _ _⟩
  by_cases h8 : op = 8
  · subst h8
    clear h6 h7
    by_cases ha0 : a = 0
    · subst ha0
      go_enter Tryd.func90, Tryd.ntmps90
      go_wp2
      go_ret2
      exact ⟨by simp [numP], Below.refl _ _⟩
    by_cases hb0 : b = 0
    · subst hb0
      have h1 : (a != 0) = true := bne_iff_ne.2 ha0
      clear ha0
      go_enter Tryd.func90, Tryd.ntmps90
      go_wp2
      go_ret2
      exact ⟨by simp [numP], Below.refl _ _⟩
    have h1 : (a != 0) = true := bne_iff_ne.2 ha0
    have h2 : (b != 0) = true := bne_iff_ne.2 hb0
    have w1 : IntKind.i64.wrap (-a) = -a := by rw [IntKind.wrap_i64]; omega
    have w2 : IntKind.i64.wrap (-b) = -b := by rw [IntKind.wrap_i64]; omega
    have hB : 0 < max b (-b) := by omega
    by_cases hg : (1000000000000 : Int) / max b (-b) < max a (-a)
    · have hr : numP 8 a b = none := by unfold numP; rw [if_neg (by decide), if_neg (by decide), if_pos rfl, if_pos ⟨ha0, hb0, hg⟩]
      rw [hr]
      clear hr ha0 hb0
      go_enter Tryd.func90, Tryd.ntmps90
      go_wp2
      go_ret2
      exact ⟨rfl, Below.refl _ _⟩
    · have hm := mul_rng (a := a) (b := b) (fun h => hg h.2.2)
      have hr : numP 8 a b = some (a * b) := by unfold numP; rw [if_neg (by decide), if_neg (by decide), if_pos rfl, if_neg (fun h => hg h.2.2)]
      rw [hr]
      obtain ⟨p, hp⟩ : ∃ p, a * b = p := ⟨_, rfl⟩
      rw [hp] at hm ⊢
      have hw : IntKind.i64.wrap (a * b) = p := by rw [hp, IntKind.wrap_i64]; unfold rng at hm; omega
      clear hr ha0 hb0 hp
      go_enter Tryd.func90, Tryd.ntmps90
      go_wp2
      go_ret2
      exact ⟨rfl, Below.refl _ _⟩
  have b6 : (op == 6) = false := beq_eq_false_iff_ne.2 h6
  have b7 : (op == 7) = false := beq_eq_false_iff_ne.2 h7
  have b8 : (op == 8) = false := beq_eq_false_iff_ne.2 h8
  by_cases h9 : op = 9
  · subst h9
    clear h6 h7 h8
    by_cases hb0 : b = 0
    · subst hb0
      go_enter Tryd.func90, Tryd.ntmps90
      go_wp2
      go_ret2
      exact ⟨by simp [numP], Below.refl _ _⟩
    · have hr : numP 9 a b = some (a.tdiv b) := by unfold numP; rw [if_neg (by decide), if_neg (by decide), if_neg (by decide), if_pos rfl, if_pos hb0]
      have hd := div_rng (a := a) (b := b) ⟨ha.1, ha.2⟩ hb0
      have h2 : (b != 0) = true := bne_iff_ne.2 hb0
      have h3 : (b == 0) = false := beq_eq_false_iff_ne.2 hb0
      rw [hr]
      obtain ⟨p, hp⟩ : ∃ p, a.tdiv b = p := ⟨_, rfl⟩
      rw [hp] at hd ⊢
      have hw : IntKind.i64.wrap (a.tdiv b) = p := by rw [hp, IntKind.wrap_i64]; unfold rng at hd; omega
      clear hr hp
      go_enter Tryd.func90, Tryd.ntmps90
      go_wp2
      go_ret2
      exact ⟨rfl, Below.refl _ _⟩
  have b9 : (op == 9) = false := beq_eq_false_iff_ne.2 h9
  by_cases h10 : op = 10
  · subst h10
    clear h6 h7 h8 h9
    by_cases hb0 : b = 0
    · subst hb0
      go_enter Tryd.func90, Tryd.ntmps90
      go_wp2
      go_ret2
      exact ⟨by simp [numP], Below.refl _ _⟩
    · have hr : numP 10 a b = some (a.tmod b) := by unfold numP; rw [if_neg (by decide), if_neg (by decide), if_neg (by decide), if_neg (by decide), if_pos rfl, if_pos hb0]
      have hd := mod_rng (a := a) (b := b) ⟨hb.1, hb.2⟩ hb0
      have h2 : (b != 0) = true := bne_iff_ne.2 hb0
      have h3 : (b == 0) = false := beq_eq_false_iff_ne.2 hb0
      rw [hr]
      obtain ⟨p, hp⟩ : ∃ p, a.tmod b = p := ⟨_, rfl⟩
      rw [hp] at hd ⊢
      clear hr
      go_enter Tryd.func90, Tryd.ntmps90
      go_wp2
      go_ret2
      exact ⟨rfl, Below.refl _ _⟩
  · have b10 : (op == 10) = false := beq_eq_false_iff_ne.2 h10
    have hr : numP op a b = none := by unfold numP; rw [if_neg h6, if_neg h7, if_neg h8, if_neg h9, if_neg h10]
    rw [hr]
    clear hr h6 h7 h8 h9 h10
    go_enter Tryd.func90, Tryd.ntmps90
    go_wp2
    go_ret2
    exact ⟨rfl, Below.refl _ _⟩
end Go.Proofs.YtlkhiihehaiinaaDoor

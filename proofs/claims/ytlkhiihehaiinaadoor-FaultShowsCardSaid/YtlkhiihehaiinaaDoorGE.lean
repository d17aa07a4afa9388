/- value.numbers, value.Arith. -/
import Derived.Test.YtlkhiihehaiinaaDoorFVbK
namespace Go.Proofs.YtlkhiihehaiinaaDoor
open Go.RowKit

/-- What is reckoned of two numbers in their range. -/
def numP (op a b : Int) : Option Int :=
  if op = 6 then some (a + b) else if op = 7 then some (a - b)
  else if op = 8 then (if a ≠ 0 ∧ b ≠ 0 ∧ (1000000000000 : Int) / max b (-b) < max a (-a) then none else some (a * b))
  else if op = 9 then (if b ≠ 0 then some (a.tdiv b) else none)
  else if op = 10 then (if b ≠ 0 then some (a.tmod b) else none) else none
def rng (a : Int) : Prop := -1000000000000 ≤ a ∧ a ≤ 1000000000000
theorem mul_rng {a b : Int} (h : ¬ (a ≠ 0 ∧ b ≠ 0 ∧ (1000000000000 : Int) / max b (-b) < max a (-a))) : rng (a * b) := by
  by_cases ha : a = 0
  · subst ha; simp [rng]
  by_cases hb : b = 0
  · subst hb; simp [rng]
  have h2 : max a (-a) ≤ 1000000000000 / max b (-b) := by
    have := fun h3 => h ⟨ha, hb, h3⟩
    omega
  have hB : 0 < max b (-b) := by omega
  have h3 : max a (-a) * max b (-b) ≤ 1000000000000 := by
    have h4 := Int.mul_le_mul_of_nonneg_right h2 (Int.le_of_lt hB)
    have h5 := Int.ediv_mul_le (1000000000000 : Int) (show max b (-b) ≠ 0 by omega)
    omega
  have h0 : 0 ≤ max a (-a) * max b (-b) := Int.mul_nonneg (by omega) (by omega)
  have h6 : a * b = max a (-a) * max b (-b) ∨ a * b = -(max a (-a) * max b (-b)) := by
    rcases Int.le_total 0 a with ha2 | ha2 <;> rcases Int.le_total 0 b with hb2 | hb2
    · left; rw [show max a (-a) = a by omega, show max b (-b) = b by omega]
    · right; rw [show max a (-a) = a by omega, show max b (-b) = -b by omega, Int.mul_neg, Int.neg_neg]
    · right; rw [show max a (-a) = -a by omega, show max b (-b) = b by omega, Int.neg_mul, Int.neg_neg]
    · left; rw [show max a (-a) = -a by omega, show max b (-b) = -b by omega, Int.neg_mul_neg]
  unfold rng
  rcases h6 with h6 | h6 <;> rw [h6] <;> omega
theorem div_rng {a b : Int} (ha : rng a) (_hb : b ≠ 0) : rng (a.tdiv b) := by
  unfold rng at *
  have h : (a.tdiv b).natAbs ≤ a.natAbs := by rw [Int.natAbs_tdiv]; exact Nat.div_le_self _ _
  omega
theorem mod_rng {a b : Int} (hb : rng b) (h0 : b ≠ 0) : rng (a.tmod b) := by
  unfold rng at *
  have h : (a.tmod b).natAbs < b.natAbs := by rw [Int.natAbs_tmod]; exact Nat.mod_lt _ (by omega)
  omega
theorem num_64 {op a b n : Int} (ha : rng a) (hb : rng b) (h : numP op a b = some n) : -2000000000000 ≤ n ∧ n ≤ 2000000000000 := by
  unfold numP at h
  split at h
  · injection h with h; unfold rng at *; omega
  split at h
  · injection h with h; unfold rng at *; omega
  split at h
  · split at h
    · cases h
    · rename_i h2; injection h with h; have := mul_rng h2; unfold rng at *; omega
  split at h
  · split at h
    · rename_i h2; injection h with h; have := div_rng ha h2; unfold rng at *; omega
    · cases h
  split at h
  · split at h
    · rename_i h2; injection h with h; have := mod_rng (a := a) hb h2; unfold rng at *; omega
    · cases h
  · cases h

set_option maxRecDepth 100000 in
set_option maxHeartbeats 2000000 in
theorem vnum_any (op a b : Int) (w : World) (ha : rng a) (hb : rng b) : Calls Tryd.prog 90 #[.int .i64 op, .int .i64 a, .int .i64 b] w fun e w' => e = .returned (.tuple #[.int .i64 ((numP op a b).getD 0), .bool (numP op a b).isSome]) ∧ Below w.heap.size w w' := by
  unfold rng at ha hb
  by_cases h6 : op = 6
  · subst h6
    have hw : IntKind.i64.wrap (a + b) = a + b := by rw [IntKind.wrap_i64]; omega
    rw [show numP 6 a b = some (a + b) from rfl]
    go_enter Tryd.func90, Tryd.ntmps90
    go_wp2
    go_ret2
    exact ⟨rfl, Below.refl _ _⟩
  by_cases h7 : op = 7
  · subst h7
    have hw : IntKind.i64.wrap (a - b) = a - b := by rw [IntKind.wrap_i64]; omega
    rw [show numP 7 a b = some (a - b) from rfl]
    clear h6
    go_enter Tryd.func90, Tryd.ntmps90
    go_wp2
    go_ret2
    exact ⟨rfl, Below.refl _ _⟩
  by_cases h8 : op = 8
  · subst h8
    clear h6 h7
    by_cases ha0 : a = 0
    · subst ha0
      go_enter Tryd.func90, Tryd.ntmps90
      go_wp2
      go_ret2
      exact ⟨by simp [numP], Below.refl _ _⟩
    by_cases hb0 : b = 0
    · subst hb0
      have h1 : (a != 0) = true := bne_iff_ne.2 ha0
      clear ha0
      go_enter Tryd.func90, Tryd.ntmps90
      go_wp2
      go_ret2
      exact ⟨by simp [numP], Below.refl _ _⟩
    have h1 : (a != 0) = true := bne_iff_ne.2 ha0
    have h2 : (b != 0) = true := bne_iff_ne.2 hb0
    have w1 : IntKind.i64.wrap (-a) = -a := by rw [IntKind.wrap_i64]; omega
    have w2 : IntKind.i64.wrap (-b) = -b := by rw [IntKind.wrap_i64]; omega
    have hB : 0 < max b (-b) := by omega
    by_cases hg : (1000000000000 : Int) / max b (-b) < max a (-a)
    · have hr : numP 8 a b = none := by unfold numP; rw [if_neg (by decide), if_neg (by decide), if_pos rfl, if_pos ⟨ha0, hb0, hg⟩]
      rw [hr]
      clear hr ha0 hb0
      go_enter Tryd.func90, Tryd.ntmps90
      go_wp2
      go_ret2
      exact ⟨rfl, Below.refl _ _⟩
    · have hm := mul_rng (a := a) (b := b) (fun h => hg h.2.2)
      have hr : numP 8 a b = some (a * b) := by unfold numP; rw [if_neg (by decide), if_neg (by decide), if_pos rfl, if_neg (fun h => hg h.2.2)]
      rw [hr]
      obtain ⟨p, hp⟩ : ∃ p, a * b = p := ⟨_, rfl⟩
      rw [hp] at hm ⊢
      have hw : IntKind.i64.wrap (a * b) = p := by rw [hp, IntKind.wrap_i64]; unfold rng at hm; omega
      clear hr ha0 hb0 hp
      go_enter Tryd.func90, Tryd.ntmps90
      go_wp2
      go_ret2
      exact ⟨rfl, Below.refl _ _⟩
  have b6 : (op == 6) = false := beq_eq_false_iff_ne.2 h6
  have b7 : (op == 7) = false := beq_eq_false_iff_ne.2 h7
  have b8 : (op == 8) = false := beq_eq_false_iff_ne.2 h8
  by_cases h9 : op = 9
  · subst h9
    clear h6 h7 h8
    by_cases hb0 : b = 0
    · subst hb0
      go_enter Tryd.func90, Tryd.ntmps90
      go_wp2
      go_ret2
      exact ⟨by simp [numP], Below.refl _ _⟩
    · have hr : numP 9 a b = some (a.tdiv b) := by unfold numP; rw [if_neg (by decide), if_neg (by decide), if_neg (by decide), if_pos rfl, if_pos hb0]
      have hd := div_rng (a := a) (b := b) ⟨ha.1, ha.2⟩ hb0
      have h2 : (b != 0) = true := bne_iff_ne.2 hb0
      have h3 : (b == 0) = false := beq_eq_false_iff_ne.2 hb0
      rw [hr]
      obtain ⟨p, hp⟩ : ∃ p, a.tdiv b = p := ⟨_, rfl⟩
      rw [hp] at hd ⊢
      have hw : IntKind.i64.wrap (a.tdiv b) = p := by rw [hp, IntKind.wrap_i64]; unfold rng at hd; omega
      clear hr hp
      go_enter Tryd.func90, Tryd.ntmps90
      go_wp2
      go_ret2
      exact ⟨rfl, Below.refl _ _⟩
  have b9 : (op == 9) = false := beq_eq_false_iff_ne.2 h9
  by_cases h10 : op = 10
  · subst h10
    clear h6 h7 h8 h9
    by_cases hb0 : b = 0
    · subst hb0
      go_enter Tryd.func90, Tryd.ntmps90
      go_wp2
      go_ret2
      exact ⟨by simp [numP], Below.refl _ _⟩
    · have hr : numP 10 a b = some (a.tmod b) := by unfold numP; rw [if_neg (by decide), if_neg (by decide), if_neg (by decide), if_neg (by decide), if_pos rfl, if_pos hb0]
      have hd := mod_rng (a := a) (b := b) ⟨hb.1, hb.2⟩ hb0
      have h2 : (b != 0) = true := bne_iff_ne.2 hb0
      have h3 : (b == 0) = false := beq_eq_false_iff_ne.2 hb0
      rw [hr]
      obtain ⟨p, hp⟩ : ∃ p, a.tmod b = p := ⟨_, rfl⟩
      rw [hp] at hd ⊢
      clear hr
      go_enter Tryd.func90, Tryd.ntmps90
      go_wp2
      go_ret2
      exact ⟨rfl, Below.refl _ _⟩
  · have b10 : (op == 10) = false := beq_eq_false_iff_ne.2 h10
    have hr : numP op a b = none := by unfold numP; rw [if_neg h6, if_neg h7, if_neg h8, if_neg h9, if_neg h10]
    rw [hr]
    clear hr h6 h7 h8 h9 h10
    go_enter Tryd.func90, Tryd.ntmps90
    go_wp2
    go_ret2
    exact ⟨rfl, Below.refl _ _⟩
end Go.Proofs.YtlkhiihehaiinaaDoor

/- value.Arith. -/
namespace Go.Proofs.YtlkhiihehaiinaaDoor
open Go.RowKit

noncomputable def arithV (op : Int) (a b : V) : V :=
  if validV a = false ∨ validV b = false ∨ a.kind ≠ b.kind then nulV
  else if a.kind = 1 then (match numP op a.num b.num with | some n => if inR n then numV n else nulV | none => nulV)
  else if a.kind = 3 ∧ op = 12 then (if txt (a.text ++ b.text) then txtV (a.text ++ b.text) else nulV) else nulV
theorem nul0 {w : World} (h : NulAt w) : w.cell? ⟨2, 0, none⟩ = some (.int .i64 0) := h.1
theorem nul1 {w : World} (h : NulAt w) : w.cell? ⟨2, 1, none⟩ = some (.int .i64 0) := h.2.1
theorem nul2 {w : World} (h : NulAt w) : w.cell? ⟨2, 2, none⟩ = some (.string ⟨#[]⟩) := h.2.2
theorem boxs3 {w : World} {g : Nat} {T : TypeId} {p q r : Value} (h : Box w g #[p, q, r] T) (a b c : Value) : Box (((w.setCell ⟨g, 0, none⟩ a).setCell ⟨g, 1, none⟩ b).setCell ⟨g, 2, none⟩ c) g #[a, b, c] T := by
  have := ((h.set 0 a).set 1 b).set 2 c
  simpa only [List.setIfInBounds_toArray, List.set_cons_zero, List.set_cons_succ] using this
theorem valid_rng {a : V} (h : validV a = true) (hk : a.kind = 1) : rng a.num := by
  unfold validV at h
  rw [hk] at h
  rw [if_neg (by decide), if_pos rfl] at h
  have := of_decide_eq_true (Bool.and_eq_true _ _ ▸ h : inR a.num = true ∧ _).1
  exact this
theorem valid_txt {a : V} (h : validV a = true) (hk : a.kind = 3) : a.text.size ≤ 24 := by
  unfold validV at h
  rw [hk] at h
  rw [if_neg (by decide), if_neg (by decide), if_neg (by decide), if_pos rfl, Bool.and_eq_true] at h
  cases ht : txt a.text with
  | false => rw [ht] at h; cases h.2
  | true =>
    by_cases hx : TxtOk a.text
    · exact hx.1
    · rw [txt_no hx] at ht; cases ht


set_option maxRecDepth 100000 in
set_option maxHeartbeats 4000000 in
theorem ar_1 (op ak an : Int) (av : ByteArray) (bk bn : Int) (bv : ByteArray) (w : World) (hw : NulAt w) (HVA : Hid (∀ W, Calls Tryd.prog 89 #[.agg #[.int .i64 ak, .int .i64 an, .string av]] W fun e w' => e = .returned (.bool false) ∧ Below W.heap.size W w')) :
    Calls Tryd.prog 76 #[.int .i64 op, .agg #[.int .i64 ak, .int .i64 an, .string av], .agg #[.int .i64 bk, .int .i64 bn, .string bv]] w fun e w' => e = .returned (.agg #[.int .i64 0, .int .i64 0, .string ⟨#[]⟩]) ∧ Below w.heap.size w w' := by
  have HW := hide (hw.mono (bel3 (Below.refl _ (((w.alloc (.cells #[.int .i64 ak, .int .i64 an, .string av] 24)).alloc (.cells #[.int .i64 bk, .int .i64 bn, .string bv] 24)).alloc (.cells #[.int .i64 0, .int .i64 0, .string ⟨#[]⟩] 24)))))
  clear hw
  go_enter Tryd.func76, Tryd.ntmps76
  go_wp2_with (go_at_call 89; with_reducible refine (HVA.out _).mono ?_; rintro e x1 ⟨rfl, hx⟩; have HX1 := hide hx; clear hx; obtain ⟨q0, q1, q2, _⟩ := boxes3 HX1.out; have k0 := q0.cell (j := 0) rfl; have k1 := q0.cell (j := 1) rfl; have k2 := q0.cell (j := 2) rfl; have l0 := q1.cell (j := 0) rfl; have l1 := q1.cell (j := 1) rfl; have l2 := q1.cell (j := 2) rfl; have e0 := q2.cell (j := 0) rfl; have e1 := q2.cell (j := 1) rfl; have e2 := q2.cell (j := 2) rfl; have f0 := q2.fr 0; have f1 := q2.fr 1; have f2 := q2.fr 2; clear q0 q1 q2; have nn := HW.out.mono HX1.out; have n0 := nul0 nn; have n1 := nul1 nn; have n2 := nul2 nn; clear nn)
  exact bodyPost_ret (v := .agg #[.int .i64 0, .int .i64 0, .string ⟨#[]⟩]) (by simp [results, Tryd.results76, go_sem, e0, e1, e2]) rfl ⟨rfl, belset3 (bel3 HX1.out) (Nat.le_refl _) (by omega) _ _ _⟩

set_option maxRecDepth 100000 in
set_option maxHeartbeats 4000000 in
theorem ar_2 (op ak an : Int) (av : ByteArray) (bk bn : Int) (bv : ByteArray) (w : World) (hw : NulAt w) (HVA : Hid (∀ W, Calls Tryd.prog 89 #[.agg #[.int .i64 ak, .int .i64 an, .string av]] W fun e w' => e = .returned (.bool true) ∧ Below W.heap.size W w')) (HVB : Hid (∀ W, Calls Tryd.prog 89 #[.agg #[.int .i64 bk, .int .i64 bn, .string bv]] W fun e w' => e = .returned (.bool false) ∧ Below W.heap.size W w')) :
    Calls Tryd.prog 76 #[.int .i64 op, .agg #[.int .i64 ak, .int .i64 an, .string av], .agg #[.int .i64 bk, .int .i64 bn, .string bv]] w fun e w' => e = .returned (.agg #[.int .i64 0, .int .i64 0, .string ⟨#[]⟩]) ∧ Below w.heap.size w w' := by
  have HW := hide (hw.mono (bel3 (Below.refl _ (((w.alloc (.cells #[.int .i64 ak, .int .i64 an, .string av] 24)).alloc (.cells #[.int .i64 bk, .int .i64 bn, .string bv] 24)).alloc (.cells #[.int .i64 0, .int .i64 0, .string ⟨#[]⟩] 24)))))
  clear hw
  go_enter Tryd.func76, Tryd.ntmps76
  go_wp2_with (first
    | (go_at_call 89; with_reducible refine (HVA.out _).mono ?_; rintro e x1 ⟨rfl, hx⟩; have HX1 := hide hx; clear hx; obtain ⟨q0, q1, q2, _⟩ := boxes3 HX1.out; have k0 := q0.cell (j := 0) rfl; have k1 := q0.cell (j := 1) rfl; have k2 := q0.cell (j := 2) rfl; have l0 := q1.cell (j := 0) rfl; have l1 := q1.cell (j := 1) rfl; have l2 := q1.cell (j := 2) rfl; have e0 := q2.cell (j := 0) rfl; have e1 := q2.cell (j := 1) rfl; have e2 := q2.cell (j := 2) rfl; have f0 := q2.fr 0; have f1 := q2.fr 1; have f2 := q2.fr 2; clear q0 q1 q2)
    | (go_at_call 89; with_reducible refine (HVB.out _).mono ?_; rintro e x2 ⟨rfl, hx⟩; have HX2 := hide (bel_trans HX1.out hx); clear hx; clear k0 k1 k2 l0 l1 l2 e0 e1 e2 f0 f1 f2; obtain ⟨q0, q1, q2, _⟩ := boxes3 HX2.out; have k0 := q0.cell (j := 0) rfl; have k1 := q0.cell (j := 1) rfl; have k2 := q0.cell (j := 2) rfl; have l0 := q1.cell (j := 0) rfl; have l1 := q1.cell (j := 1) rfl; have l2 := q1.cell (j := 2) rfl; have e0 := q2.cell (j := 0) rfl; have e1 := q2.cell (j := 1) rfl; have e2 := q2.cell (j := 2) rfl; have f0 := q2.fr 0; have f1 := q2.fr 1; have f2 := q2.fr 2; clear q0 q1 q2; have nn := HW.out.mono HX2.out; have n0 := nul0 nn; have n1 := nul1 nn; have n2 := nul2 nn; clear nn))
  exact bodyPost_ret (v := .agg #[.int .i64 0, .int .i64 0, .string ⟨#[]⟩]) (by simp [results, Tryd.results76, go_sem, e0, e1, e2]) rfl ⟨rfl, belset3 (bel3 HX2.out) (Nat.le_refl _) (by omega) _ _ _⟩

set_option maxRecDepth 100000 in
set_option maxHeartbeats 4000000 in
theorem ar_3 (op ak an : Int) (av : ByteArray) (bk bn : Int) (bv : ByteArray) (w : World) (hw : NulAt w) (HVA : Hid (∀ W, Calls Tryd.prog 89 #[.agg #[.int .i64 ak, .int .i64 an, .string av]] W fun e w' => e = .returned (.bool true) ∧ Below W.heap.size W w')) (HVB : Hid (∀ W, Calls Tryd.prog 89 #[.agg #[.int .i64 bk, .int .i64 bn, .string bv]] W fun e w' => e = .returned (.bool true) ∧ Below W.heap.size W w')) (hk : (ak != bk) = true) :
    Calls Tryd.prog 76 #[.int .i64 op, .agg #[.int .i64 ak, .int .i64 an, .string av], .agg #[.int .i64 bk, .int .i64 bn, .string bv]] w fun e w' => e = .returned (.agg #[.int .i64 0, .int .i64 0, .string ⟨#[]⟩]) ∧ Below w.heap.size w w' := by
  have HW := hide (hw.mono (bel3 (Below.refl _ (((w.alloc (.cells #[.int .i64 ak, .int .i64 an, .string av] 24)).alloc (.cells #[.int .i64 bk, .int .i64 bn, .string bv] 24)).alloc (.cells #[.int .i64 0, .int .i64 0, .string ⟨#[]⟩] 24)))))
  clear hw
  go_enter Tryd.func76, Tryd.ntmps76
  go_wp2_with (first
    | (go_at_call 89; with_reducible refine (HVA.out _).mono ?_; rintro e x1 ⟨rfl, hx⟩; have HX1 := hide hx; clear hx; obtain ⟨q0, q1, q2, _⟩ := boxes3 HX1.out; have k0 := q0.cell (j := 0) rfl; have k1 := q0.cell (j := 1) rfl; have k2 := q0.cell (j := 2) rfl; have l0 := q1.cell (j := 0) rfl; have l1 := q1.cell (j := 1) rfl; have l2 := q1.cell (j := 2) rfl; have e0 := q2.cell (j := 0) rfl; have e1 := q2.cell (j := 1) rfl; have e2 := q2.cell (j := 2) rfl; have f0 := q2.fr 0; have f1 := q2.fr 1; have f2 := q2.fr 2; clear q0 q1 q2)
    | (go_at_call 89; with_reducible refine (HVB.out _).mono ?_; rintro e x2 ⟨rfl, hx⟩; have HX2 := hide (bel_trans HX1.out hx); clear hx; clear k0 k1 k2 l0 l1 l2 e0 e1 e2 f0 f1 f2; obtain ⟨q0, q1, q2, _⟩ := boxes3 HX2.out; have k0 := q0.cell (j := 0) rfl; have k1 := q0.cell (j := 1) rfl; have k2 := q0.cell (j := 2) rfl; have l0 := q1.cell (j := 0) rfl; have l1 := q1.cell (j := 1) rfl; have l2 := q1.cell (j := 2) rfl; have e0 := q2.cell (j := 0) rfl; have e1 := q2.cell (j := 1) rfl; have e2 := q2.cell (j := 2) rfl; have f0 := q2.fr 0; have f1 := q2.fr 1; have f2 := q2.fr 2; clear q0 q1 q2; have nn := HW.out.mono HX2.out; have n0 := nul0 nn; have n1 := nul1 nn; have n2 := nul2 nn; clear nn))
  exact bodyPost_ret (v := .agg #[.int .i64 0, .int .i64 0, .string ⟨#[]⟩]) (by simp [results, Tryd.results76, go_sem, e0, e1, e2]) rfl ⟨rfl, belset3 (bel3 HX2.out) (Nat.le_refl _) (by omega) _ _ _⟩
theorem szs {w x : World} {c0 c1 c2 : Array Value} {T U V : TypeId} (hb : Below (((w.alloc (.cells c0 T)).alloc (.cells c1 U)).alloc (.cells c2 V)).heap.size (((w.alloc (.cells c0 T)).alloc (.cells c1 U)).alloc (.cells c2 V)) x) : w.heap.size < x.heap.size ∧ w.heap.size + 1 < x.heap.size ∧ w.heap.size + 2 < x.heap.size := by
  have := hb.size
  simp only [World.size_alloc] at this
  omega


set_option maxRecDepth 100000 in
set_option maxHeartbeats 4000000 in
theorem ar_4 (op an : Int) (av : ByteArray) (bn : Int) (bv : ByteArray) (w : World) (hw : NulAt w) (HVA : Hid (∀ W, Calls Tryd.prog 89 #[.agg #[.int .i64 1, .int .i64 an, .string av]] W fun e w' => e = .returned (.bool true) ∧ Below W.heap.size W w')) (HVB : Hid (∀ W, Calls Tryd.prog 89 #[.agg #[.int .i64 1, .int .i64 bn, .string bv]] W fun e w' => e = .returned (.bool true) ∧ Below W.heap.size W w')) (HVN : Hid (∀ W, Calls Tryd.prog 90 #[.int .i64 op, .int .i64 an, .int .i64 bn] W fun e w' => e = .returned (.tuple #[.int .i64 0, .bool false]) ∧ Below W.heap.size W w')) :
    Calls Tryd.prog 76 #[.int .i64 op, .agg #[.int .i64 1, .int .i64 an, .string av], .agg #[.int .i64 1, .int .i64 bn, .string bv]] w fun e w' => e = .returned (.agg #[.int .i64 0, .int .i64 0, .string ⟨#[]⟩]) ∧ Below w.heap.size w w' := by
  have HW := hide (hw.mono (bel3 (Below.refl _ (((w.alloc (.cells #[.int .i64 1, .int .i64 an, .string av] 24)).alloc (.cells #[.int .i64 1, .int .i64 bn, .string bv] 24)).alloc (.cells #[.int .i64 0, .int .i64 0, .string ⟨#[]⟩] 24)))))
  clear hw
  go_enter Tryd.func76, Tryd.ntmps76
  go_wp2_with (first
    | (go_at_call 89; with_reducible refine (HVA.out _).mono ?_; rintro e x1 ⟨rfl, hx⟩; have HX1 := hide hx; clear hx; obtain ⟨q0, q1, q2, _⟩ := boxes3 HX1.out; have k0 := q0.cell (j := 0) rfl; have k1 := q0.cell (j := 1) rfl; have k2 := q0.cell (j := 2) rfl; have l0 := q1.cell (j := 0) rfl; have l1 := q1.cell (j := 1) rfl; have l2 := q1.cell (j := 2) rfl; have e0 := q2.cell (j := 0) rfl; have e1 := q2.cell (j := 1) rfl; have e2 := q2.cell (j := 2) rfl; have f0 := q2.fr 0; have f1 := q2.fr 1; have f2 := q2.fr 2; clear q0 q1 q2)
    | (go_at_call 89; with_reducible refine (HVB.out _).mono ?_; rintro e x2 ⟨rfl, hx⟩; have HX2 := hide (bel_trans HX1.out hx); clear hx; clear k0 k1 k2 l0 l1 l2 e0 e1 e2 f0 f1 f2; obtain ⟨q0, q1, q2, _⟩ := boxes3 HX2.out; have k0 := q0.cell (j := 0) rfl; have k1 := q0.cell (j := 1) rfl; have k2 := q0.cell (j := 2) rfl; have l0 := q1.cell (j := 0) rfl; have l1 := q1.cell (j := 1) rfl; have l2 := q1.cell (j := 2) rfl; have e0 := q2.cell (j := 0) rfl; have e1 := q2.cell (j := 1) rfl; have e2 := q2.cell (j := 2) rfl; have f0 := q2.fr 0; have f1 := q2.fr 1; have f2 := q2.fr 2; clear q0 q1 q2; obtain ⟨s0, s1, s2⟩ := szs HX2.out)
    | (go_at_call 90; with_reducible refine (HVN.out _).mono ?_; rintro e x3 ⟨rfl, hx⟩; have HX3 := hide hx; clear hx; have HX3w := hide (HX2.out.trans (((belA _).trans (HX3.out.mono (by simp))).mono HX2.out.size)); clear k0 k1 k2 l0 l1 l2 e0 e1 e2 f0 f1 f2; obtain ⟨q0, q1, q2, _⟩ := boxes3 HX3w.out; have e0 := q2.cell (j := 0) rfl; have e1 := q2.cell (j := 1) rfl; have e2 := q2.cell (j := 2) rfl; have f0 := q2.fr 0; have f1 := q2.fr 1; have f2 := q2.fr 2; have qo := ((Box.new _ _ _).below HX3.out); have o0 := qo.cell (j := 0) rfl; have o1 := qo.cell (j := 1) rfl; have o2 := qo.cell (j := 2) rfl; have p0 := qo.fr 0; have p1 := qo.fr 1; have p2 := qo.fr 2; clear q0 q1 q2 qo; have nn := HW.out.mono HX3w.out; have n0 := nul0 nn; have n1 := nul1 nn; have n2 := nul2 nn; clear nn))
  exact bodyPost_ret (v := .agg #[.int .i64 0, .int .i64 0, .string ⟨#[]⟩]) (by simp [results, Tryd.results76, go_sem, e0, e1, e2]) rfl ⟨rfl, belset3 (bel3 HX3w.out) (Nat.le_refl _) (by omega) _ _ _⟩
theorem bel_out {W x2 x3 x4 : World} {g : Nat} {a b c : Value} (h2 : Below W.heap.size W x2) (h3 : Below W.heap.size W x3) (hg : W.heap.size ≤ g) (h4 : Below (((x3.setCell ⟨g, 0, none⟩ a).setCell ⟨g, 1, none⟩ b).setCell ⟨g, 2, none⟩ c).heap.size (((x3.setCell ⟨g, 0, none⟩ a).setCell ⟨g, 1, none⟩ b).setCell ⟨g, 2, none⟩ c) x4) : Below W.heap.size W x4 := by
  have h5 := belset3 h3 (Nat.le_refl _) hg a b c
  exact h5.trans (h4.mono h5.size)


set_option maxRecDepth 100000 in
set_option maxHeartbeats 4000000 in
theorem ar_5 (op an : Int) (av : ByteArray) (bn : Int) (bv : ByteArray) (w : World) (hw : NulAt w) (n : Int) (HVA : Hid (∀ W, Calls Tryd.prog 89 #[.agg #[.int .i64 1, .int .i64 an, .string av]] W fun e w' => e = .returned (.bool true) ∧ Below W.heap.size W w')) (HVB : Hid (∀ W, Calls Tryd.prog 89 #[.agg #[.int .i64 1, .int .i64 bn, .string bv]] W fun e w' => e = .returned (.bool true) ∧ Below W.heap.size W w')) (HVN : Hid (∀ W, Calls Tryd.prog 90 #[.int .i64 op, .int .i64 an, .int .i64 bn] W fun e w' => e = .returned (.tuple #[.int .i64 n, .bool true]) ∧ Below W.heap.size W w')) (HVO : Hid (∀ W, Calls Tryd.prog 89 #[.agg #[.int .i64 1, .int .i64 n, .string ⟨#[]⟩]] W fun e w' => e = .returned (.bool true) ∧ Below W.heap.size W w')) :
    Calls Tryd.prog 76 #[.int .i64 op, .agg #[.int .i64 1, .int .i64 an, .string av], .agg #[.int .i64 1, .int .i64 bn, .string bv]] w fun e w' => e = .returned (.agg #[.int .i64 1, .int .i64 n, .string ⟨#[]⟩]) ∧ Below w.heap.size w w' := by
  have HW := hide (hw.mono (bel3 (Below.refl _ (((w.alloc (.cells #[.int .i64 1, .int .i64 an, .string av] 24)).alloc (.cells #[.int .i64 1, .int .i64 bn, .string bv] 24)).alloc (.cells #[.int .i64 0, .int .i64 0, .string ⟨#[]⟩] 24)))))
  clear hw
  go_enter Tryd.func76, Tryd.ntmps76
  go_wp2_with (first
    | (go_at_call 89; with_reducible refine (HVA.out _).mono ?_; rintro e x1 ⟨rfl, hx⟩; have HX1 := hide hx; clear hx; obtain ⟨q0, q1, q2, _⟩ := boxes3 HX1.out; have k0 := q0.cell (j := 0) rfl; have k1 := q0.cell (j := 1) rfl; have k2 := q0.cell (j := 2) rfl; have l0 := q1.cell (j := 0) rfl; have l1 := q1.cell (j := 1) rfl; have l2 := q1.cell (j := 2) rfl; have e0 := q2.cell (j := 0) rfl; have e1 := q2.cell (j := 1) rfl; have e2 := q2.cell (j := 2) rfl; have f0 := q2.fr 0; have f1 := q2.fr 1; have f2 := q2.fr 2; clear q0 q1 q2)
    | (go_at_call 89; with_reducible refine (HVB.out _).mono ?_; rintro e x2 ⟨rfl, hx⟩; have HX2 := hide (bel_trans HX1.out hx); clear hx; clear k0 k1 k2 l0 l1 l2 e0 e1 e2 f0 f1 f2; obtain ⟨q0, q1, q2, _⟩ := boxes3 HX2.out; have k0 := q0.cell (j := 0) rfl; have k1 := q0.cell (j := 1) rfl; have k2 := q0.cell (j := 2) rfl; have l0 := q1.cell (j := 0) rfl; have l1 := q1.cell (j := 1) rfl; have l2 := q1.cell (j := 2) rfl; have e0 := q2.cell (j := 0) rfl; have e1 := q2.cell (j := 1) rfl; have e2 := q2.cell (j := 2) rfl; have f0 := q2.fr 0; have f1 := q2.fr 1; have f2 := q2.fr 2; clear q0 q1 q2; obtain ⟨s0, s1, s2⟩ := szs HX2.out)
    | (go_at_call 90; with_reducible refine (HVN.out _).mono ?_; rintro e x3 ⟨rfl, hx⟩; have HX3 := hide hx; clear hx; have HX3w := hide (HX2.out.trans (((belA _).trans (HX3.out.mono (by simp))).mono HX2.out.size)); clear k0 k1 k2 l0 l1 l2 e0 e1 e2 f0 f1 f2; obtain ⟨q0, q1, q2, _⟩ := boxes3 HX3w.out; have e0 := q2.cell (j := 0) rfl; have e1 := q2.cell (j := 1) rfl; have e2 := q2.cell (j := 2) rfl; have f0 := q2.fr 0; have f1 := q2.fr 1; have f2 := q2.fr 2; have qo := ((Box.new _ _ _).below HX3.out); have o0 := qo.cell (j := 0) rfl; have o1 := qo.cell (j := 1) rfl; have o2 := qo.cell (j := 2) rfl; have p0 := qo.fr 0; have p1 := qo.fr 1; have p2 := qo.fr 2; clear q0 q1 q2 qo)
    | (go_at_call 89; with_reducible refine (HVO.out _).mono ?_; rintro e x4 ⟨rfl, hx⟩; have HX4 := hide hx; clear hx; have hbo := (boxs3 ((Box.new _ _ _).below HX3.out) _ _ _).below HX4.out; have hbl := bel_out HX2.out HX3w.out (by have := HX2.out.size; omega) HX4.out; obtain ⟨q0, q1, q2, _⟩ := boxes3 hbl; clear e0 e1 e2 f0 f1 f2; clear o0 o1 o2 p0 p1 p2; have HBL := hide hbl; have e0 := q2.cell (j := 0) rfl; have e1 := q2.cell (j := 1) rfl; have e2 := q2.cell (j := 2) rfl; have f0 := q2.fr 0; have f1 := q2.fr 1; have f2 := q2.fr 2; have o0 := hbo.cell (j := 0) rfl; have o1 := hbo.cell (j := 1) rfl; have o2 := hbo.cell (j := 2) rfl; clear q0 q1 q2 hbo hbl))
  exact bodyPost_ret (v := .agg #[.int .i64 1, .int .i64 n, .string ⟨#[]⟩]) (by simp [results, Tryd.results76, go_sem, e0, e1, e2]) rfl ⟨rfl, belset3 (bel3 HBL.out) (Nat.le_refl _) (by omega) _ _ _⟩

set_option maxRecDepth 100000 in
set_option maxHeartbeats 4000000 in
theorem ar_6 (op an : Int) (av : ByteArray) (bn : Int) (bv : ByteArray) (w : World) (hw : NulAt w) (n : Int) (HVA : Hid (∀ W, Calls Tryd.prog 89 #[.agg #[.int .i64 1, .int .i64 an, .string av]] W fun e w' => e = .returned (.bool true) ∧ Below W.heap.size W w')) (HVB : Hid (∀ W, Calls Tryd.prog 89 #[.agg #[.int .i64 1, .int .i64 bn, .string bv]] W fun e w' => e = .returned (.bool true) ∧ Below W.heap.size W w')) (HVN : Hid (∀ W, Calls Tryd.prog 90 #[.int .i64 op, .int .i64 an, .int .i64 bn] W fun e w' => e = .returned (.tuple #[.int .i64 n, .bool true]) ∧ Below W.heap.size W w')) (HVO : Hid (∀ W, Calls Tryd.prog 89 #[.agg #[.int .i64 1, .int .i64 n, .string ⟨#[]⟩]] W fun e w' => e = .returned (.bool false) ∧ Below W.heap.size W w')) :
    Calls Tryd.prog 76 #[.int .i64 op, .agg #[.int .i64 1, .int .i64 an, .string av], .agg #[.int .i64 1, .int .i64 bn, .string bv]] w fun e w' => e = .returned (.agg #[.int .i64 0, .int .i64 0, .string ⟨#[]⟩]) ∧ Below w.heap.size w w' := by
  have HW := hide (hw.mono (bel3 (Below.refl _ (((w.alloc (.cells #[.int .i64 1, .int .i64 an, .string av] 24)).alloc (.cells #[.int .i64 1, .int .i64 bn, .string bv] 24)).alloc (.cells #[.int .i64 0, .int .i64 0, .string ⟨#[]⟩] 24)))))
  clear hw
  go_enter Tryd.func76, Tryd.ntmps76
  go_wp2_with (first
    | (go_at_call 89; with_reducible refine (HVA.out _).mono ?_; rintro e x1 ⟨rfl, hx⟩; have HX1 := hide hx; clear hx; obtain ⟨q0, q1, q2, _⟩ := boxes3 HX1.out; have k0 := q0.cell (j := 0) rfl; have k1 := q0.cell (j := 1) rfl; have k2 := q0.cell (j := 2) rfl; have l0 := q1.cell (j := 0) rfl; have l1 := q1.cell (j := 1) rfl; have l2 := q1.cell (j := 2) rfl; have e0 := q2.cell (j := 0) rfl; have e1 := q2.cell (j := 1) rfl; have e2 := q2.cell (j := 2) rfl; have f0 := q2.fr 0; have f1 := q2.fr 1; have f2 := q2.fr 2; clear q0 q1 q2)
    | (go_at_call 89; with_reducible refine (HVB.out _).mono ?_; rintro e x2 ⟨rfl, hx⟩; have HX2 := hide (bel_trans HX1.out hx); clear hx; clear k0 k1 k2 l0 l1 l2 e0 e1 e2 f0 f1 f2; obtain ⟨q0, q1, q2, _⟩ := boxes3 HX2.out; have k0 := q0.cell (j := 0) rfl; have k1 := q0.cell (j := 1) rfl; have k2 := q0.cell (j := 2) rfl; have l0 := q1.cell (j := 0) rfl; have l1 := q1.cell (j := 1) rfl; have l2 := q1.cell (j := 2) rfl; have e0 := q2.cell (j := 0) rfl; have e1 := q2.cell (j := 1) rfl; have e2 := q2.cell (j := 2) rfl; have f0 := q2.fr 0; have f1 := q2.fr 1; have f2 := q2.fr 2; clear q0 q1 q2; obtain ⟨s0, s1, s2⟩ := szs HX2.out)
    | (go_at_call 90; with_reducible refine (HVN.out _).mono ?_; rintro e x3 ⟨rfl, hx⟩; have HX3 := hide hx; clear hx; have HX3w := hide (HX2.out.trans (((belA _).trans (HX3.out.mono (by simp))).mono HX2.out.size)); clear k0 k1 k2 l0 l1 l2 e0 e1 e2 f0 f1 f2; obtain ⟨q0, q1, q2, _⟩ := boxes3 HX3w.out; have e0 := q2.cell (j := 0) rfl; have e1 := q2.cell (j := 1) rfl; have e2 := q2.cell (j := 2) rfl; have f0 := q2.fr 0; have f1 := q2.fr 1; have f2 := q2.fr 2; have qo := ((Box.new _ _ _).below HX3.out); have o0 := qo.cell (j := 0) rfl; have o1 := qo.cell (j := 1) rfl; have o2 := qo.cell (j := 2) rfl; have p0 := qo.fr 0; have p1 := qo.fr 1; have p2 := qo.fr 2; clear q0 q1 q2 qo)
    | (go_at_call 89; with_reducible refine (HVO.out _).mono ?_; rintro e x4 ⟨rfl, hx⟩; have HX4 := hide hx; clear hx; have hbo := (boxs3 ((Box.new _ _ _).below HX3.out) _ _ _).below HX4.out; have hbl := bel_out HX2.out HX3w.out (by have := HX2.out.size; omega) HX4.out; obtain ⟨q0, q1, q2, _⟩ := boxes3 hbl; clear e0 e1 e2 f0 f1 f2; clear o0 o1 o2 p0 p1 p2; have HBL := hide hbl; have e0 := q2.cell (j := 0) rfl; have e1 := q2.cell (j := 1) rfl; have e2 := q2.cell (j := 2) rfl; have f0 := q2.fr 0; have f1 := q2.fr 1; have f2 := q2.fr 2; have o0 := hbo.cell (j := 0) rfl; have o1 := hbo.cell (j := 1) rfl; have o2 := hbo.cell (j := 2) rfl; clear q0 q1 q2 hbo hbl; have nn := HW.out.mono HBL.out; have n0 := nul0 nn; have n1 := nul1 nn; have n2 := nul2 nn; clear nn))
  exact bodyPost_ret (v := .agg #[.int .i64 0, .int .i64 0, .string ⟨#[]⟩]) (by simp [results, Tryd.results76, go_sem, e0, e1, e2]) rfl ⟨rfl, belset3 (bel3 HBL.out) (Nat.le_refl _) (by omega) _ _ _⟩

set_option maxRecDepth 100000 in
set_option maxHeartbeats 4000000 in
theorem ar_7 (an : Int) (av : ByteArray) (bn : Int) (bv : ByteArray) (w : World) (hw : NulAt w) (s : ByteArray) (hs : av ++ bv = s) (hsz : ¬ 9223372036854775807 < av.size + bv.size) (HVA : Hid (∀ W, Calls Tryd.prog 89 #[.agg #[.int .i64 3, .int .i64 an, .string av]] W fun e w' => e = .returned (.bool true) ∧ Below W.heap.size W w')) (HVB : Hid (∀ W, Calls Tryd.prog 89 #[.agg #[.int .i64 3, .int .i64 bn, .string bv]] W fun e w' => e = .returned (.bool true) ∧ Below W.heap.size W w')) (HVO : Hid (∀ W, Calls Tryd.prog 89 #[.agg #[.int .i64 3, .int .i64 0, .string s]] W fun e w' => e = .returned (.bool true) ∧ Below W.heap.size W w')) :
    Calls Tryd.prog 76 #[.int .i64 12, .agg #[.int .i64 3, .int .i64 an, .string av], .agg #[.int .i64 3, .int .i64 bn, .string bv]] w fun e w' => e = .returned (.agg #[.int .i64 3, .int .i64 0, .string s]) ∧ Below w.heap.size w w' := by
  have HW := hide (hw.mono (bel3 (Below.refl _ (((w.alloc (.cells #[.int .i64 3, .int .i64 an, .string av] 24)).alloc (.cells #[.int .i64 3, .int .i64 bn, .string bv] 24)).alloc (.cells #[.int .i64 0, .int .i64 0, .string ⟨#[]⟩] 24)))))
  clear hw
  go_enter Tryd.func76, Tryd.ntmps76
  go_wp2_with (first
    | (go_at_call 89; with_reducible refine (HVA.out _).mono ?_; rintro e x1 ⟨rfl, hx⟩; have HX1 := hide hx; clear hx; obtain ⟨q0, q1, q2, _⟩ := boxes3 HX1.out; have k0 := q0.cell (j := 0) rfl; have k1 := q0.cell (j := 1) rfl; have k2 := q0.cell (j := 2) rfl; have l0 := q1.cell (j := 0) rfl; have l1 := q1.cell (j := 1) rfl; have l2 := q1.cell (j := 2) rfl; have e0 := q2.cell (j := 0) rfl; have e1 := q2.cell (j := 1) rfl; have e2 := q2.cell (j := 2) rfl; have f0 := q2.fr 0; have f1 := q2.fr 1; have f2 := q2.fr 2; clear q0 q1 q2)
    | (go_at_call 89; with_reducible refine (HVB.out _).mono ?_; rintro e x2 ⟨rfl, hx⟩; have HX2 := hide (bel_trans HX1.out hx); clear hx; clear k0 k1 k2 l0 l1 l2 e0 e1 e2 f0 f1 f2; obtain ⟨q0, q1, q2, _⟩ := boxes3 HX2.out; have k0 := q0.cell (j := 0) rfl; have k1 := q0.cell (j := 1) rfl; have k2 := q0.cell (j := 2) rfl; have l0 := q1.cell (j := 0) rfl; have l1 := q1.cell (j := 1) rfl; have l2 := q1.cell (j := 2) rfl; have e0 := q2.cell (j := 0) rfl; have e1 := q2.cell (j := 1) rfl; have e2 := q2.cell (j := 2) rfl; have f0 := q2.fr 0; have f1 := q2.fr 1; have f2 := q2.fr 2; clear q0 q1 q2; obtain ⟨s0, s1, s2⟩ := szs HX2.out)
    | (go_at_call 89; with_reducible refine (HVO.out _).mono ?_; rintro e x4 ⟨rfl, hx⟩; have HX4 := hide hx; clear hx; have hbo := (Box.new _ _ _).below HX4.out; have hbl := HX2.out.trans ((bel1 HX4.out).mono HX2.out.size); obtain ⟨q0, q1, q2, _⟩ := boxes3 hbl; clear e0 e1 e2 f0 f1 f2 k0 k1 k2 l0 l1 l2; have HBL := hide hbl; have e0 := q2.cell (j := 0) rfl; have e1 := q2.cell (j := 1) rfl; have e2 := q2.cell (j := 2) rfl; have f0 := q2.fr 0; have f1 := q2.fr 1; have f2 := q2.fr 2; have o0 := hbo.cell (j := 0) rfl; have o1 := hbo.cell (j := 1) rfl; have o2 := hbo.cell (j := 2) rfl; clear q0 q1 q2 hbo hbl))
  exact bodyPost_ret (v := .agg #[.int .i64 3, .int .i64 0, .string s]) (by simp [results, Tryd.results76, go_sem, e0, e1, e2]) rfl ⟨rfl, belset3 (bel3 HBL.out) (Nat.le_refl _) (by omega) _ _ _⟩

set_option maxRecDepth 100000 in
set_option maxHeartbeats 4000000 in
theorem ar_8 (an : Int) (av : ByteArray) (bn : Int) (bv : ByteArray) (w : World) (hw : NulAt w) (s : ByteArray) (hs : av ++ bv = s) (hsz : ¬ 9223372036854775807 < av.size + bv.size) (HVA : Hid (∀ W, Calls Tryd.prog 89 #[.agg #[.int .i64 3, .int .i64 an, .string av]] W fun e w' => e = .returned (.bool true) ∧ Below W.heap.size W w')) (HVB : Hid (∀ W, Calls Tryd.prog 89 #[.agg #[.int .i64 3, .int .i64 bn, .string bv]] W fun e w' => e = .returned (.bool true) ∧ Below W.heap.size W w')) (HVO : Hid (∀ W, Calls Tryd.prog 89 #[.agg #[.int .i64 3, .int .i64 0, .string s]] W fun e w' => e = .returned (.bool false) ∧ Below W.heap.size W w')) :
    Calls Tryd.prog 76 #[.int .i64 12, .agg #[.int .i64 3, .int .i64 an, .string av], .agg #[.int .i64 3, .int .i64 bn, .string bv]] w fun e w' => e = .returned (.agg #[.int .i64 0, .int .i64 0, .string ⟨#[]⟩]) ∧ Below w.heap.size w w' := by
  have HW := hide (hw.mono (bel3 (Below.refl _ (((w.alloc (.cells #[.int .i64 3, .int .i64 an, .string av] 24)).alloc (.cells #[.int .i64 3, .int .i64 bn, .string bv] 24)).alloc (.cells #[.int .i64 0, .int .i64 0, .string ⟨#[]⟩] 24)))))
  clear hw
  go_enter Tryd.func76, Tryd.ntmps76
  go_wp2_with (first
    | (go_at_call 89; with_reducible refine (HVA.out _).mono ?_; rintro e x1 ⟨rfl, hx⟩; have HX1 := hide hx; clear hx; obtain ⟨q0, q1, q2, _⟩ := boxes3 HX1.out; have k0 := q0.cell (j := 0) rfl; have k1 := q0.cell (j := 1) rfl; have k2 := q0.cell (j := 2) rfl; have l0 := q1.cell (j := 0) rfl; have l1 := q1.cell (j := 1) rfl; have l2 := q1.cell (j := 2) rfl; have e0 := q2.cell (j := 0) rfl; have e1 := q2.cell (j := 1) rfl; have e2 := q2.cell (j := 2) rfl; have f0 := q2.fr 0; have f1 := q2.fr 1; have f2 := q2.fr 2; clear q0 q1 q2)
    | (go_at_call 89; with_reducible refine (HVB.out _).mono ?_; rintro e x2 ⟨rfl, hx⟩; have HX2 := hide (bel_trans HX1.out hx); clear hx; clear k0 k1 k2 l0 l1 l2 e0 e1 e2 f0 f1 f2; obtain ⟨q0, q1, q2, _⟩ := boxes3 HX2.out; have k0 := q0.cell (j := 0) rfl; have k1 := q0.cell (j := 1) rfl; have k2 := q0.cell (j := 2) rfl; have l0 := q1.cell (j := 0) rfl; have l1 := q1.cell (j := 1) rfl; have l2 := q1.cell (j := 2) rfl; have e0 := q2.cell (j := 0) rfl; have e1 := q2.cell (j := 1) rfl; have e2 := q2.cell (j := 2) rfl; have f0 := q2.fr 0; have f1 := q2.fr 1; have f2 := q2.fr 2; clear q0 q1 q2; obtain ⟨s0, s1, s2⟩ := szs HX2.out)
    | (go_at_call 89; with_reducible refine (HVO.out _).mono ?_; rintro e x4 ⟨rfl, hx⟩; have HX4 := hide hx; clear hx; have hbo := (Box.new _ _ _).below HX4.out; have hbl := HX2.out.trans ((bel1 HX4.out).mono HX2.out.size); obtain ⟨q0, q1, q2, _⟩ := boxes3 hbl; clear e0 e1 e2 f0 f1 f2 k0 k1 k2 l0 l1 l2; have HBL := hide hbl; have e0 := q2.cell (j := 0) rfl; have e1 := q2.cell (j := 1) rfl; have e2 := q2.cell (j := 2) rfl; have f0 := q2.fr 0; have f1 := q2.fr 1; have f2 := q2.fr 2; have o0 := hbo.cell (j := 0) rfl; have o1 := hbo.cell (j := 1) rfl; have o2 := hbo.cell (j := 2) rfl; clear q0 q1 q2 hbo hbl; have nn := HW.out.mono HBL.out; have n0 := nul0 nn; have n1 := nul1 nn; have n2 := nul2 nn; clear nn))
  exact bodyPost_ret (v := .agg #[.int .i64 0, .int .i64 0, .string ⟨#[]⟩]) (by simp [results, Tryd.results76, go_sem, e0, e1, e2]) rfl ⟨rfl, belset3 (bel3 HBL.out) (Nat.le_refl _) (by omega) _ _ _⟩

set_option maxRecDepth 100000 in
set_option maxHeartbeats 4000000 in
theorem ar_9 (op k an : Int) (av : ByteArray) (bn : Int) (bv : ByteArray) (w : World) (hw : NulAt w) (hk1 : (k == 1) = false) (hk3 : (k == 3) = false ∨ (op == 12) = false) (HVA : Hid (∀ W, Calls Tryd.prog 89 #[.agg #[.int .i64 k, .int .i64 an, .string av]] W fun e w' => e = .returned (.bool true) ∧ Below W.heap.size W w')) (HVB : Hid (∀ W, Calls Tryd.prog 89 #[.agg #[.int .i64 k, .int .i64 bn, .string bv]] W fun e w' => e = .returned (.bool true) ∧ Below W.heap.size W w')) (HVO : Hid (∀ W, Calls Tryd.prog 89 #[.agg #[.int .i64 0, .int .i64 0, .string ⟨#[]⟩]] W fun e w' => e = .returned (.bool true) ∧ Below W.heap.size W w')) :
    Calls Tryd.prog 76 #[.int .i64 op, .agg #[.int .i64 k, .int .i64 an, .string av], .agg #[.int .i64 k, .int .i64 bn, .string bv]] w fun e w' => e = .returned (.agg #[.int .i64 0, .int .i64 0, .string ⟨#[]⟩]) ∧ Below w.heap.size w w' := by
  have HW := hide (hw.mono (bel3 (Below.refl _ (((w.alloc (.cells #[.int .i64 k, .int .i64 an, .string av] 24)).alloc (.cells #[.int .i64 k, .int .i64 bn, .string bv] 24)).alloc (.cells #[.int .i64 0, .int .i64 0, .string ⟨#[]⟩] 24)))))
  clear hw
  cases hb3 : (k == 3) with
  | false =>
    clear hk3
    go_enter Tryd.func76, Tryd.ntmps76
    go_wp2_with (first
      | (go_at_call 89; with_reducible refine (HVA.out _).mono ?_; rintro e x1 ⟨rfl, hx⟩; have HX1 := hide hx; clear hx; obtain ⟨q0, q1, q2, _⟩ := boxes3 HX1.out; have k0 := q0.cell (j := 0) rfl; have k1 := q0.cell (j := 1) rfl; have k2 := q0.cell (j := 2) rfl; have l0 := q1.cell (j := 0) rfl; have l1 := q1.cell (j := 1) rfl; have l2 := q1.cell (j := 2) rfl; have e0 := q2.cell (j := 0) rfl; have e1 := q2.cell (j := 1) rfl; have e2 := q2.cell (j := 2) rfl; have f0 := q2.fr 0; have f1 := q2.fr 1; have f2 := q2.fr 2; clear q0 q1 q2)
      | (go_at_call 89; with_reducible refine (HVB.out _).mono ?_; rintro e x2 ⟨rfl, hx⟩; have HX2 := hide (bel_trans HX1.out hx); clear hx; clear k0 k1 k2 l0 l1 l2 e0 e1 e2 f0 f1 f2; obtain ⟨q0, q1, q2, _⟩ := boxes3 HX2.out; have k0 := q0.cell (j := 0) rfl; have k1 := q0.cell (j := 1) rfl; have k2 := q0.cell (j := 2) rfl; have l0 := q1.cell (j := 0) rfl; have l1 := q1.cell (j := 1) rfl; have l2 := q1.cell (j := 2) rfl; have e0 := q2.cell (j := 0) rfl; have e1 := q2.cell (j := 1) rfl; have e2 := q2.cell (j := 2) rfl; have f0 := q2.fr 0; have f1 := q2.fr 1; have f2 := q2.fr 2; clear q0 q1 q2; obtain ⟨s0, s1, s2⟩ := szs HX2.out)
      | (go_at_call 89; with_reducible refine (HVO.out _).mono ?_; rintro e x4 ⟨rfl, hx⟩; have HX4 := hide hx; clear hx; have hbo := (Box.new _ _ _).below HX4.out; have hbl := HX2.out.trans ((bel1 HX4.out).mono HX2.out.size); obtain ⟨q0, q1, q2, _⟩ := boxes3 hbl; clear e0 e1 e2 f0 f1 f2 k0 k1 k2 l0 l1 l2; have HBL := hide hbl; have e0 := q2.cell (j := 0) rfl; have e1 := q2.cell (j := 1) rfl; have e2 := q2.cell (j := 2) rfl; have f0 := q2.fr 0; have f1 := q2.fr 1; have f2 := q2.fr 2; have o0 := hbo.cell (j := 0) rfl; have o1 := hbo.cell (j := 1) rfl; have o2 := hbo.cell (j := 2) rfl; clear q0 q1 q2 hbo hbl))
    exact bodyPost_ret (v := .agg #[.int .i64 0, .int .i64 0, .string ⟨#[]⟩]) (by simp [results, Tryd.results76, go_sem, e0, e1, e2]) rfl ⟨rfl, belset3 (bel3 HBL.out) (Nat.le_refl _) (by omega) _ _ _⟩
  | true =>
    have h12 : (op == 12) = false := hk3.elim (fun h => by rw [h] at hb3; cases hb3) id
    have hk3e : k = 3 := by simpa using hb3
    clear hk3 hb3
    subst hk3e
    go_enter Tryd.func76, Tryd.ntmps76
    go_wp2_with (first
      | (go_at_call 89; with_reducible refine (HVA.out _).mono ?_; rintro e x1 ⟨rfl, hx⟩; have HX1 := hide hx; clear hx; obtain ⟨q0, q1, q2, _⟩ := boxes3 HX1.out; have k0 := q0.cell (j := 0) rfl; have k1 := q0.cell (j := 1) rfl; have k2 := q0.cell (j := 2) rfl; have l0 := q1.cell (j := 0) rfl; have l1 := q1.cell (j := 1) rfl; have l2 := q1.cell (j := 2) rfl; have e0 := q2.cell (j := 0) rfl; have e1 := q2.cell (j := 1) rfl; have e2 := q2.cell (j := 2) rfl; have f0 := q2.fr 0; have f1 := q2.fr 1; have f2 := q2.fr 2; clear q0 q1 q2)
      | (go_at_call 89; with_reducible refine (HVB.out _).mono ?_; rintro e x2 ⟨rfl, hx⟩; have HX2 := hide (bel_trans HX1.out hx); clear hx; clear k0 k1 k2 l0 l1 l2 e0 e1 e2 f0 f1 f2; obtain ⟨q0, q1, q2, _⟩ := boxes3 HX2.out; have k0 := q0.cell (j := 0) rfl; have k1 := q0.cell (j := 1) rfl; have k2 := q0.cell (j := 2) rfl; have l0 := q1.cell (j := 0) rfl; have l1 := q1.cell (j := 1) rfl; have l2 := q1.cell (j := 2) rfl; have e0 := q2.cell (j := 0) rfl; have e1 := q2.cell (j := 1) rfl; have e2 := q2.cell (j := 2) rfl; have f0 := q2.fr 0; have f1 := q2.fr 1; have f2 := q2.fr 2; clear q0 q1 q2; obtain ⟨s0, s1, s2⟩ := szs HX2.out)
      | (go_at_call 89; with_reducible refine (HVO.out _).mono ?_; rintro e x4 ⟨rfl, hx⟩; have HX4 := hide hx; clear hx; have hbo := (Box.new _ _ _).below HX4.out; have hbl := HX2.out.trans ((bel1 HX4.out).mono HX2.out.size); obtain ⟨q0, q1, q2, _⟩ := boxes3 hbl; clear e0 e1 e2 f0 f1 f2 k0 k1 k2 l0 l1 l2; have HBL := hide hbl; have e0 := q2.cell (j := 0) rfl; have e1 := q2.cell (j := 1) rfl; have e2 := q2.cell (j := 2) rfl; have f0 := q2.fr 0; have f1 := q2.fr 1; have f2 := q2.fr 2; have o0 := hbo.cell (j := 0) rfl; have o1 := hbo.cell (j := 1) rfl; have o2 := hbo.cell (j := 2) rfl; clear q0 q1 q2 hbo hbl))
    exact bodyPost_ret (v := .agg #[.int .i64 0, .int .i64 0, .string ⟨#[]⟩]) (by simp [results, Tryd.results76, go_sem, e0, e1, e2]) rfl ⟨rfl, belset3 (bel3 HBL.out) (Nat.le_refl _) (by omega) _ _ _⟩

theorem i64_lit {n : Int} (h : decide (-9223372036854775808 ≤ n ∧ n ≤ 9223372036854775807) = true) : int64 n := ⟨(of_decide_eq_true h).1, (of_decide_eq_true h).2⟩
theorem nul_wf : nulV.wf := ⟨i64_lit rfl, i64_lit rfl, Nat.zero_le _⟩
theorem numV_wf {n : Int} (h : int64 n) : (numV n).wf := ⟨i64_lit rfl, h, Nat.zero_le _⟩
theorem txtV_wf {s : ByteArray} (h : s.size ≤ maxLen) : (txtV s).wf := ⟨i64_lit rfl, i64_lit rfl, h⟩
theorem varith_any (op : Int) (a b : V) (ha : a.wf) (hb : b.wf) (w : World) (hw : NulAt w) : Calls Tryd.prog 76 #[.int .i64 op, .agg #[.int .i64 a.kind, .int .i64 a.num, .string a.text], .agg #[.int .i64 b.kind, .int .i64 b.num, .string b.text]] w
    fun e w' => e = .returned (.agg #[.int .i64 (arithV op a b).kind, .int .i64 (arithV op a b).num, .string (arithV op a b).text]) ∧ Below w.heap.size w w' := by
  have hva := fun W => vval_any a ha W
  have hvb := fun W => vval_any b hb W
  cases h1 : validV a with
  | false =>
    rw [h1] at hva
    rw [show arithV op a b = nulV from if_pos (.inl h1)]
    exact ar_1 op _ _ _ _ _ _ w hw (hide hva)
  | true =>
    rw [h1] at hva
    cases h2 : validV b with
    | false =>
      rw [h2] at hvb
      rw [show arithV op a b = nulV from if_pos (.inr (.inl h2))]
      exact ar_2 op _ _ _ _ _ _ w hw (hide hva) (hide hvb)
    | true =>
      rw [h2] at hvb
      by_cases hk : a.kind = b.kind
      · have he : arithV op a b = if a.kind = 1 then (match numP op a.num b.num with | some n => if inR n then numV n else nulV | none => nulV) else if a.kind = 3 ∧ op = 12 then (if txt (a.text ++ b.text) then txtV (a.text ++ b.text) else nulV) else nulV := by
          unfold arithV
          rw [if_neg (by rw [h1, h2]; simp [hk])]
        by_cases hk1 : a.kind = 1
        · rw [if_pos hk1] at he
          have r1 := valid_rng h1 hk1
          have r2 := valid_rng h2 (hk ▸ hk1)
          have hvn := fun W => vnum_any op a.num b.num W r1 r2
          rw [← hk]
          obtain ⟨ak, an, av⟩ := a
          obtain ⟨bk, bn, bv⟩ := b
          dsimp only at *
          subst hk1
          subst hk
          cases hn : numP op an bn with
          | none =>
            rw [hn] at hvn
            rw [hn] at he
            dsimp only at he
            rw [he]
            exact ar_4 op an av bn bv w hw (hide hva) (hide hvb) (hide hvn)
          | some n =>
            have h64 := num_64 r1 r2 hn
            rw [hn] at hvn
            rw [hn] at he
            dsimp only at he
            have hvo := fun W => vval_any (numV n) (numV_wf (by unfold int64; omega)) W
            have hvv : validV (numV n) = inR n := by simp [validV, numV]
            rw [hvv] at hvo
            cases hi : inR n with
            | true =>
              rw [hi] at hvo
              rw [hi, if_pos rfl] at he
              rw [he]
              exact ar_5 op an av bn bv w hw n (hide hva) (hide hvb) (hide hvn) (hide hvo)
            | false =>
              rw [hi] at hvo
              rw [hi, if_neg (by decide)] at he
              rw [he]
              exact ar_6 op an av bn bv w hw n (hide hva) (hide hvb) (hide hvn) (hide hvo)
        · rw [if_neg hk1] at he
          by_cases h3 : a.kind = 3 ∧ op = 12
          · rw [if_pos h3] at he
            have r1 := valid_txt h1 h3.1
            have r2 := valid_txt h2 (hk ▸ h3.1)
            obtain ⟨h3, rfl⟩ := h3
            obtain ⟨ak, an, av⟩ := a
            obtain ⟨bk, bn, bv⟩ := b
            dsimp only at *
            subst h3
            subst hk
            have hsz : (av ++ bv).size ≤ maxLen := by rw [ByteArray.size_append]; unfold maxLen; omega
            have hvo := fun W => vval_any (txtV (av ++ bv)) (txtV_wf hsz) W
            have hvv : validV (txtV (av ++ bv)) = txt (av ++ bv) := by simp [validV, txtV]
            rw [hvv] at hvo
            cases hi : txt (av ++ bv) with
            | true =>
              rw [hi] at hvo
              rw [hi, if_pos rfl] at he
              rw [he]
              exact ar_7 an av bn bv w hw _ rfl (by omega) (hide hva) (hide hvb) (hide hvo)
            | false =>
              rw [hi] at hvo
              rw [hi, if_neg (by decide)] at he
              rw [he]
              exact ar_8 an av bn bv w hw _ rfl (by omega) (hide hva) (hide hvb) (hide hvo)
          · rw [if_neg h3] at he
            rw [he]
            have hvo := fun W => vval_any nulV nul_wf W
            rw [show validV nulV = true from by simp [validV, nulV]] at hvo
            rw [← hk]
            rw [← hk] at hvb
            refine ar_9 op a.kind a.num a.text b.num b.text w hw (beq_eq_false_iff_ne.2 hk1) ?_ (hide hva) (hide hvb) (hide hvo)
            by_cases h4 : a.kind = 3
            · exact .inr (beq_eq_false_iff_ne.2 (fun h => h3 ⟨h4, h⟩))
            · exact .inl (beq_eq_false_iff_ne.2 h4)
      · rw [show arithV op a b = nulV from if_pos (.inr (.inr hk))]
        exact ar_3 op _ _ _ _ _ _ w hw (hide hva) (hide hvb) (bne_iff_ne.2 hk)
theorem arith_wf (op : Int) {a b : V} : (arithV op a b).wf := by
  unfold arithV
  split
  · exact nul_wf
  rename_i h0
  split
  · cases hn : numP op a.num b.num with
    | none => exact nul_wf
    | some n =>
      dsimp only
      split
      · rename_i hk hr
        have h := of_decide_eq_true (hr : inR n = true)
        exact numV_wf (by unfold int64; omega)
      · exact nul_wf
  split
  · split
    · rename_i ht
      have h1 : (a.text ++ b.text).size ≤ 24 := by
        by_cases hx : TxtOk (a.text ++ b.text)
        · exact hx.1
        · rw [txt_no hx] at ht; cases ht
      exact txtV_wf (by unfold maxLen; omega)
    · exact nul_wf
  · exact nul_wf
end Go.Proofs.YtlkhiihehaiinaaDoor

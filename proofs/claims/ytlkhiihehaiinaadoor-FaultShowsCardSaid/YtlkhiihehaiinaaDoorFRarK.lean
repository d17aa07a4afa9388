/- ref01.valid, product, Arith. -/
import Derived.Test.YtlkhiihehaiinaaDoorFRbK
namespace Go.Proofs.YtlkhiihehaiinaaDoor
open Go.RowKit

set_option maxRecDepth 100000 in
theorem rvld_any (v : V) (hv : v.wf) (w : World) : Calls Tryd.prog 58 #[.agg #[.int .i64 v.kind, .int .i64 v.num, .string v.text]] w
    fun e w' => e = .returned (.agg #[.int .i64 (if validV v = true then v else nulV).kind, .int .i64 (if validV v = true then v else nulV).num, .string (if validV v = true then v else nulV).text]) ∧ Below w.heap.size w w' := by
  have HV := hide (fun W => rval_any v hv W)
  clear hv
  cases h : validV v with
  | true =>
    rw [h] at HV
    rw [if_pos rfl]
    obtain ⟨k, n, s⟩ := v
    clear h
    go_enter Tryd.func58, Tryd.ntmps58
    go_wp2_with (go_at_call 57; refine (HV.out _).mono ?_; rintro e x ⟨rfl, hb⟩; have HX := hide hb; clear hb; obtain ⟨q0, q1, _⟩ := boxes2 HX.out; have k0 := q0.cell (j := 0) rfl; have k1 := q0.cell (j := 1) rfl; have k2 := q0.cell (j := 2) rfl; have e0 := q1.cell (j := 0) rfl; have e1 := q1.cell (j := 1) rfl; have e2 := q1.cell (j := 2) rfl; have f0 := q1.fr 0; have f1 := q1.fr 1; have f2 := q1.fr 2; clear q0 q1)
    exact bodyPost_ret (v := .agg #[.int .i64 k, .int .i64 n, .string s]) (by simp [results, Tryd.results58, go_sem, e0, e1, e2]) rfl ⟨rfl, belset3 (bel2 HX.out) (Nat.le_refl _) (by omega) _ _ _⟩
  | false =>
    rw [h] at HV
    rw [if_neg (by decide)]
    obtain ⟨k, n, s⟩ := v
    clear h
    go_enter Tryd.func58, Tryd.ntmps58
    go_wp2_with (go_at_call 57; refine (HV.out _).mono ?_; rintro e x ⟨rfl, hb⟩; have HX := hide hb; clear hb; obtain ⟨q0, q1, _⟩ := boxes2 HX.out; have e0 := q1.cell (j := 0) rfl; have e1 := q1.cell (j := 1) rfl; have e2 := q1.cell (j := 2) rfl; have f0 := q1.fr 0; have f1 := q1.fr 1; have f2 := q1.fr 2; clear q0 q1)
    exact bodyPost_ret (v := .agg #[.int .i64 0, .int .i64 0, .string ⟨#[]⟩]) (by simp [results, Tryd.results58, go_sem, e0, e1, e2]) rfl ⟨rfl, belset3 (bel2 HX.out) (Nat.le_refl _) (by omega) _ _ _⟩

set_option maxRecDepth 100000 in
set_option maxHeartbeats 2000000 in
theorem rprod_any (a b : Int) (w : World) (ha : rng a) (hb : rng b) : Calls Tryd.prog 59 #[.int .i64 a, .int .i64 b] w fun e w' => e = .returned (.tuple #[.int .i64 ((numP 8 a b).getD 0), .bool (numP 8 a b).isSome]) ∧ Below w.heap.size w w' := by
  unfold rng at ha hb
  by_cases ha0 : a = 0
  · subst ha0
    rw [show numP 8 0 b = some 0 by simp [numP]]
    go_enter Tryd.func59, Tryd.ntmps59
    go_wp2
    go_ret2
    exact ⟨rfl, Below.refl _ _⟩
  by_cases hb0 : b = 0
  · subst hb0
    rw [show numP 8 a 0 = some 0 by simp [numP]]
    have h1 : (a == 0) = false := beq_eq_false_iff_ne.2 ha0
    clear ha0
    go_enter Tryd.func59, Tryd.ntmps59
    go_wp2
    go_ret2
    exact ⟨rfl, Below.refl _ _⟩
  have h1 : (a == 0) = false := beq_eq_false_iff_ne.2 ha0
  have h2 : (b == 0) = false := beq_eq_false_iff_ne.2 hb0
  have w1 : IntKind.i64.wrap (-a) = -a := by rw [IntKind.wrap_i64]; omega
  have w2 : IntKind.i64.wrap (-b) = -b := by rw [IntKind.wrap_i64]; omega
  by_cases hg : (1000000000000 : Int) / max b (-b) < max a (-a)
  · have hr : numP 8 a b = none := by unfold numP; rw [if_neg (by decide), if_neg (by decide), if_pos rfl, if_pos ⟨ha0, hb0, hg⟩]
    rw [hr]
    clear hr
    by_cases sa : a < 0 <;> by_cases sb : b < 0
    · have hq : 0 < -b := by omega
      have hc : (1000000000000 : Int) / (-b) < -a := by rw [show max b (-b) = -b by omega, show max a (-a) = -a by omega] at hg; exact hg
      obtain ⟨q, hqd⟩ : ∃ q, (1000000000000 : Int) / (-b) = q := ⟨_, rfl⟩
      have hqe : wrap64 (-Int.tdiv 1000000000000 b) = q := by
        have h1 : -Int.tdiv 1000000000000 b = q := by rw [← Int.tdiv_neg, Int.tdiv_eq_ediv_of_nonneg (by decide), hqd]
        have h2 : 0 ≤ q := by rw [← hqd]; exact Int.ediv_nonneg (by decide) (by omega)
        have h3 : q ≤ 1000000000000 := by rw [← hqd]; exact Int.ediv_le_self _ (by decide)
        unfold wrap64; rw [h1]; omega
      rw [hqd] at hc
      clear hqd
      clear hg ha0 hb0
      go_enter Tryd.func59, Tryd.ntmps59
      go_wp2
      go_ret2
      exact ⟨rfl, Below.refl _ _⟩
    · have hq : 0 < b := by omega
      have hc : (1000000000000 : Int) / (b) < -a := by rw [show max b (-b) = b by omega, show max a (-a) = -a by omega] at hg; exact hg
      clear hg ha0 hb0
      go_enter Tryd.func59, Tryd.ntmps59
      go_wp2
      go_ret2
      exact ⟨rfl, Below.refl _ _⟩
    · have hq : 0 < -b := by omega
      have hc : (1000000000000 : Int) / (-b) < a := by rw [show max b (-b) = -b by omega, show max a (-a) = a by omega] at hg; exact hg
      obtain ⟨q, hqd⟩ : ∃ q, (1000000000000 : Int) / (-b) = q := ⟨_, rfl⟩
      have hqe : wrap64 (-Int.tdiv 1000000000000 b) = q := by
        have h1 : -Int.tdiv 1000000000000 b = q := by rw [← Int.tdiv_neg, Int.tdiv_eq_ediv_of_nonneg (by decide), hqd]
        have h2 : 0 ≤ q := by rw [← hqd]; exact Int.ediv_nonneg (by decide) (by omega)
        have h3 : q ≤ 1000000000000 := by rw [← hqd]; exact Int.ediv_le_self _ (by decide)
        unfold wrap64; rw [h1]; omega
      rw [hqd] at hc
      clear hqd
      clear hg ha0 hb0
      go_enter Tryd.func59, Tryd.ntmps59
      go_wp2
      go_ret2
      exact ⟨rfl, Below.refl _ _⟩
    · have hq : 0 < b := by omega
      have hc : (1000000000000 : Int) / (b) < a := by rw [show max b (-b) = b by omega, show max a (-a) = a by omega] at hg; exact hg
      clear hg ha0 hb0
      go_enter Tryd.func59, Tryd.ntmps59
      go_wp2
      go_ret2
      exact ⟨rfl, Below.refl _ _⟩
  · have hm := mul_rng (a := a) (b := b) (fun h => hg h.2.2)
    have hr : numP 8 a b = some (a * b) := by unfold numP; rw [if_neg (by decide), if_neg (by decide), if_pos rfl, if_neg (fun h => hg h.2.2)]
    rw [hr]
    obtain ⟨p, hp⟩ : ∃ p, a * b = p := ⟨_, rfl⟩
    rw [hp] at hm ⊢
    have hw : IntKind.i64.wrap (a * b) = p := by rw [hp, IntKind.wrap_i64]; unfold rng at hm; omega
    clear hr hp
    by_cases sa : a < 0 <;> by_cases sb : b < 0
    · have hq : 0 < -b := by omega
      have hc : ¬ (1000000000000 : Int) / (-b) < -a := by rw [show max b (-b) = -b by omega, show max a (-a) = -a by omega] at hg; exact hg
      obtain ⟨q, hqd⟩ : ∃ q, (1000000000000 : Int) / (-b) = q := ⟨_, rfl⟩
      have hqe : wrap64 (-Int.tdiv 1000000000000 b) = q := by
        have h1 : -Int.tdiv 1000000000000 b = q := by rw [← Int.tdiv_neg, Int.tdiv_eq_ediv_of_nonneg (by decide), hqd]
        have h2 : 0 ≤ q := by rw [← hqd]; exact Int.ediv_nonneg (by decide) (by omega)
        have h3 : q ≤ 1000000000000 := by rw [← hqd]; exact Int.ediv_le_self _ (by decide)
        unfold wrap64; rw [h1]; omega
      rw [hqd] at hc
      clear hqd
      clear hg ha0 hb0
      go_enter Tryd.func59, Tryd.ntmps59
      go_wp2
      go_ret2
      exact ⟨rfl, Below.refl _ _⟩
    · have hq : 0 < b := by omega
      have hc : ¬ (1000000000000 : Int) / (b) < -a := by rw [show max b (-b) = b by omega, show max a (-a) = -a by omega] at hg; exact hg
      clear hg ha0 hb0
      go_enter Tryd.func59, Tryd.ntmps59
      go_wp2
      go_ret2
      exact ⟨rfl, Below.refl _ _⟩
    · have hq : 0 < -b := by omega
      have hc : ¬ (1000000000000 : Int) / (-b) < a := by rw [show max b (-b) = -b by omega, show max a (-a) = a by omega] at hg; exact hg
      obtain ⟨q, hqd⟩ : ∃ q, (1000000000000 : Int) / (-b) = q := ⟨_, rfl⟩
      have hqe : wrap64 (-Int.tdiv 1000000000000 b) = q := by
        have h1 : -Int.tdiv 1000000000000 b = q := by rw [← Int.tdiv_neg, Int.tdiv_eq_ediv_of_nonneg (by decide), hqd]
        have h2 : 0 ≤ q := by rw [← hqd]; exact Int.ediv_nonneg (by decide) (by omega)
        have h3 : q ≤ 1000000000000 := by rw [← hqd]; exact Int.ediv_le_self _ (by decide)
        unfold wrap64; rw [h1]; omega
      rw [hqd] at hc
      clear hqd
      clear hg ha0 hb0
      go_enter Tryd.func59, Tryd.ntmps59
      go_wp2
      go_ret2
      exact ⟨rfl, Below.refl _ _⟩
    · have hq : 0 < b := by omega
      have hc : ¬ (1000000000000 : Int) / (b) < a := by rw [show max b (-b) = b by omega, show max a (-a) = a by omega] at hg; exact hg
      clear hg ha0 hb0
      go_enter Tryd.func59, Tryd.ntmps59
      go_wp2
      go_ret2
      exact ⟨rfl, Below.refl _ _⟩

set_option maxRecDepth 100000 in
set_option maxHeartbeats 4000000 in
theorem rr_1 (op : Int) (ak an : Int) (av : ByteArray) (bk bn : Int) (bv : ByteArray) (w : World) (HVA : Hid (∀ W, Calls Tryd.prog 57 #[.agg #[.int .i64 ak, .int .i64 an, .string av]] W fun e w' => e = .returned (.bool false) ∧ Below W.heap.size W w')) :
    Calls Tryd.prog 29 #[.int .i64 op, .agg #[.int .i64 ak, .int .i64 an, .string av], .agg #[.int .i64 bk, .int .i64 bn, .string bv]] w fun e w' => e = .returned (.agg #[.int .i64 0, .int .i64 0, .string ⟨#[]⟩]) ∧ Below w.heap.size w w' := by
  go_enter Tryd.func29, Tryd.ntmps29
  go_wp2_with (first
    | (go_at_call 57; with_reducible refine (HVA.out _).mono ?_; rintro e x1 ⟨rfl, hx⟩; have HX1 := hide hx; clear hx; obtain ⟨q0, q1, q2, _⟩ := boxes3 HX1.out; have k0 := q0.cell (j := 0) rfl; have k1 := q0.cell (j := 1) rfl; have k2 := q0.cell (j := 2) rfl; have l0 := q1.cell (j := 0) rfl; have l1 := q1.cell (j := 1) rfl; have l2 := q1.cell (j := 2) rfl; have e0 := q2.cell (j := 0) rfl; have e1 := q2.cell (j := 1) rfl; have e2 := q2.cell (j := 2) rfl; have f0 := q2.fr 0; have f1 := q2.fr 1; have f2 := q2.fr 2; clear q0 q1 q2))
  exact bodyPost_ret (v := .agg #[.int .i64 0, .int .i64 0, .string ⟨#[]⟩]) (by simp [results, Tryd.results29, go_sem, e0, e1, e2]) rfl ⟨rfl, belset3 (bel3 HX1.out) (Nat.le_refl _) (by omega) _ _ _⟩

set_option maxRecDepth 100000 in
set_option maxHeartbeats 4000000 in
theorem rr_2 (op : Int) (ak an : Int) (av : ByteArray) (bk bn : Int) (bv : ByteArray) (w : World) (HVA : Hid (∀ W, Calls Tryd.prog 57 #[.agg #[.int .i64 ak, .int .i64 an, .string av]] W fun e w' => e = .returned (.bool true) ∧ Below W.heap.size W w')) (HVB : Hid (∀ W, Calls Tryd.prog 57 #[.agg #[.int .i64 bk, .int .i64 bn, .string bv]] W fun e w' => e = .returned (.bool false) ∧ Below W.heap.size W w')) :
    Calls Tryd.prog 29 #[.int .i64 op, .agg #[.int .i64 ak, .int .i64 an, .string av], .agg #[.int .i64 bk, .int .i64 bn, .string bv]] w fun e w' => e = .returned (.agg #[.int .i64 0, .int .i64 0, .string ⟨#[]⟩]) ∧ Below w.heap.size w w' := by
  go_enter Tryd.func29, Tryd.ntmps29
  go_wp2_with (first
    | (go_at_call 57; with_reducible refine (HVA.out _).mono ?_; rintro e x1 ⟨rfl, hx⟩; have HX1 := hide hx; clear hx; obtain ⟨q0, q1, q2, _⟩ := boxes3 HX1.out; have k0 := q0.cell (j := 0) rfl; have k1 := q0.cell (j := 1) rfl; have k2 := q0.cell (j := 2) rfl; have l0 := q1.cell (j := 0) rfl; have l1 := q1.cell (j := 1) rfl; have l2 := q1.cell (j := 2) rfl; have e0 := q2.cell (j := 0) rfl; have e1 := q2.cell (j := 1) rfl; have e2 := q2.cell (j := 2) rfl; have f0 := q2.fr 0; have f1 := q2.fr 1; have f2 := q2.fr 2; clear q0 q1 q2)
    | (go_at_call 57; with_reducible refine (HVB.out _).mono ?_; rintro e x2 ⟨rfl, hx⟩; have HX2 := hide (bel_trans HX1.out hx); clear hx; clear k0 k1 k2 l0 l1 l2 e0 e1 e2 f0 f1 f2; obtain ⟨q0, q1, q2, _⟩ := boxes3 HX2.out; have k0 := q0.cell (j := 0) rfl; have k1 := q0.cell (j := 1) rfl; have k2 := q0.cell (j := 2) rfl; have l0 := q1.cell (j := 0) rfl; have l1 := q1.cell (j := 1) rfl; have l2 := q1.cell (j := 2) rfl; have e0 := q2.cell (j := 0) rfl; have e1 := q2.cell (j := 1) rfl; have e2 := q2.cell (j := 2) rfl; have f0 := q2.fr 0; have f1 := q2.fr 1; have f2 := q2.fr 2; clear q0 q1 q2))
  exact bodyPost_ret (v := .agg #[.int .i64 0, .int .i64 0, .string ⟨#[]⟩]) (by simp [results, Tryd.results29, go_sem, e0, e1, e2]) rfl ⟨rfl, belset3 (bel3 HX2.out) (Nat.le_refl _) (by omega) _ _ _⟩

set_option maxRecDepth 100000 in
set_option maxHeartbeats 4000000 in
theorem rr_3 (op : Int) (ak an : Int) (av : ByteArray) (bk bn : Int) (bv : ByteArray) (w : World) (HVA : Hid (∀ W, Calls Tryd.prog 57 #[.agg #[.int .i64 ak, .int .i64 an, .string av]] W fun e w' => e = .returned (.bool true) ∧ Below W.heap.size W w')) (HVB : Hid (∀ W, Calls Tryd.prog 57 #[.agg #[.int .i64 bk, .int .i64 bn, .string bv]] W fun e w' => e = .returned (.bool true) ∧ Below W.heap.size W w')) (ho : (op == 12) = false) (hk : (ak != 1) = true) :
    Calls Tryd.prog 29 #[.int .i64 op, .agg #[.int .i64 ak, .int .i64 an, .string av], .agg #[.int .i64 bk, .int .i64 bn, .string bv]] w fun e w' => e = .returned (.agg #[.int .i64 0, .int .i64 0, .string ⟨#[]⟩]) ∧ Below w.heap.size w w' := by
  go_enter Tryd.func29, Tryd.ntmps29
  go_wp2_with (first
    | (go_at_call 57; with_reducible refine (HVA.out _).mono ?_; rintro e x1 ⟨rfl, hx⟩; have HX1 := hide hx; clear hx; obtain ⟨q0, q1, q2, _⟩ := boxes3 HX1.out; have k0 := q0.cell (j := 0) rfl; have k1 := q0.cell (j := 1) rfl; have k2 := q0.cell (j := 2) rfl; have l0 := q1.cell (j := 0) rfl; have l1 := q1.cell (j := 1) rfl; have l2 := q1.cell (j := 2) rfl; have e0 := q2.cell (j := 0) rfl; have e1 := q2.cell (j := 1) rfl; have e2 := q2.cell (j := 2) rfl; have f0 := q2.fr 0; have f1 := q2.fr 1; have f2 := q2.fr 2; clear q0 q1 q2)
    | (go_at_call 57; with_reducible refine (HVB.out _).mono ?_; rintro e x2 ⟨rfl, hx⟩; have HX2 := hide (bel_trans HX1.out hx); clear hx; clear k0 k1 k2 l0 l1 l2 e0 e1 e2 f0 f1 f2; obtain ⟨q0, q1, q2, _⟩ := boxes3 HX2.out; have k0 := q0.cell (j := 0) rfl; have k1 := q0.cell (j := 1) rfl; have k2 := q0.cell (j := 2) rfl; have l0 := q1.cell (j := 0) rfl; have l1 := q1.cell (j := 1) rfl; have l2 := q1.cell (j := 2) rfl; have e0 := q2.cell (j := 0) rfl; have e1 := q2.cell (j := 1) rfl; have e2 := q2.cell (j := 2) rfl; have f0 := q2.fr 0; have f1 := q2.fr 1; have f2 := q2.fr 2; clear q0 q1 q2))
  exact bodyPost_ret (v := .agg #[.int .i64 0, .int .i64 0, .string ⟨#[]⟩]) (by simp [results, Tryd.results29, go_sem, e0, e1, e2]) rfl ⟨rfl, belset3 (bel3 HX2.out) (Nat.le_refl _) (by omega) _ _ _⟩

set_option maxRecDepth 100000 in
set_option maxHeartbeats 4000000 in
theorem rr_4 (op : Int) (an : Int) (av : ByteArray) (bk bn : Int) (bv : ByteArray) (w : World) (HVA : Hid (∀ W, Calls Tryd.prog 57 #[.agg #[.int .i64 1, .int .i64 an, .string av]] W fun e w' => e = .returned (.bool true) ∧ Below W.heap.size W w')) (HVB : Hid (∀ W, Calls Tryd.prog 57 #[.agg #[.int .i64 bk, .int .i64 bn, .string bv]] W fun e w' => e = .returned (.bool true) ∧ Below W.heap.size W w')) (ho : (op == 12) = false) (hk : (bk != 1) = true) :
    Calls Tryd.prog 29 #[.int .i64 op, .agg #[.int .i64 1, .int .i64 an, .string av], .agg #[.int .i64 bk, .int .i64 bn, .string bv]] w fun e w' => e = .returned (.agg #[.int .i64 0, .int .i64 0, .string ⟨#[]⟩]) ∧ Below w.heap.size w w' := by
  go_enter Tryd.func29, Tryd.ntmps29
  go_wp2_with (first
    | (go_at_call 57; with_reducible refine (HVA.out _).mono ?_; rintro e x1 ⟨rfl, hx⟩; have HX1 := hide hx; clear hx; obtain ⟨q0, q1, q2, _⟩ := boxes3 HX1.out; have k0 := q0.cell (j := 0) rfl; have k1 := q0.cell (j := 1) rfl; have k2 := q0.cell (j := 2) rfl; have l0 := q1.cell (j := 0) rfl; have l1 := q1.cell (j := 1) rfl; have l2 := q1.cell (j := 2) rfl; have e0 := q2.cell (j := 0) rfl; have e1 := q2.cell (j := 1) rfl; have e2 := q2.cell (j := 2) rfl; have f0 := q2.fr 0; have f1 := q2.fr 1; have f2 := q2.fr 2; clear q0 q1 q2)
    | (go_at_call 57; with_reducible refine (HVB.out _).mono ?_; rintro e x2 ⟨rfl, hx⟩; have HX2 := hide (bel_trans HX1.out hx); clear hx; clear k0 k1 k2 l0 l1 l2 e0 e1 e2 f0 f1 f2; obtain ⟨q0, q1, q2, _⟩ := boxes3 HX2.out; have k0 := q0.cell (j := 0) rfl; have k1 := q0.cell (j := 1) rfl; have k2 := q0.cell (j := 2) rfl; have l0 := q1.cell (j := 0) rfl; have l1 := q1.cell (j := 1) rfl; have l2 := q1.cell (j := 2) rfl; have e0 := q2.cell (j := 0) rfl; have e1 := q2.cell (j := 1) rfl; have e2 := q2.cell (j := 2) rfl; have f0 := q2.fr 0; have f1 := q2.fr 1; have f2 := q2.fr 2; clear q0 q1 q2))
  exact bodyPost_ret (v := .agg #[.int .i64 0, .int .i64 0, .string ⟨#[]⟩]) (by simp [results, Tryd.results29, go_sem, e0, e1, e2]) rfl ⟨rfl, belset3 (bel3 HX2.out) (Nat.le_refl _) (by omega) _ _ _⟩

set_option maxRecDepth 100000 in
set_option maxHeartbeats 4000000 in
theorem rr_5 (ak an : Int) (av : ByteArray) (bk bn : Int) (bv : ByteArray) (w : World) (HVA : Hid (∀ W, Calls Tryd.prog 57 #[.agg #[.int .i64 ak, .int .i64 an, .string av]] W fun e w' => e = .returned (.bool true) ∧ Below W.heap.size W w')) (HVB : Hid (∀ W, Calls Tryd.prog 57 #[.agg #[.int .i64 bk, .int .i64 bn, .string bv]] W fun e w' => e = .returned (.bool true) ∧ Below W.heap.size W w')) (hk : (ak != 3) = true) :
    Calls Tryd.prog 29 #[.int .i64 12, .agg #[.int .i64 ak, .int .i64 an, .string av], .agg #[.int .i64 bk, .int .i64 bn, .string bv]] w fun e w' => e = .returned (.agg #[.int .i64 0, .int .i64 0, .string ⟨#[]⟩]) ∧ Below w.heap.size w w' := by
  go_enter Tryd.func29, Tryd.ntmps29
  go_wp2_with (first
    | (go_at_call 57; with_reducible refine (HVA.out _).mono ?_; rintro e x1 ⟨rfl, hx⟩; have HX1 := hide hx; clear hx; obtain ⟨q0, q1, q2, _⟩ := boxes3 HX1.out; have k0 := q0.cell (j := 0) rfl; have k1 := q0.cell (j := 1) rfl; have k2 := q0.cell (j := 2) rfl; have l0 := q1.cell (j := 0) rfl; have l1 := q1.cell (j := 1) rfl; have l2 := q1.cell (j := 2) rfl; have e0 := q2.cell (j := 0) rfl; have e1 := q2.cell (j := 1) rfl; have e2 := q2.cell (j := 2) rfl; have f0 := q2.fr 0; have f1 := q2.fr 1; have f2 := q2.fr 2; clear q0 q1 q2)
    | (go_at_call 57; with_reducible refine (HVB.out _).mono ?_; rintro e x2 ⟨rfl, hx⟩; have HX2 := hide (bel_trans HX1.out hx); clear hx; clear k0 k1 k2 l0 l1 l2 e0 e1 e2 f0 f1 f2; obtain ⟨q0, q1, q2, _⟩ := boxes3 HX2.out; have k0 := q0.cell (j := 0) rfl; have k1 := q0.cell (j := 1) rfl; have k2 := q0.cell (j := 2) rfl; have l0 := q1.cell (j := 0) rfl; have l1 := q1.cell (j := 1) rfl; have l2 := q1.cell (j := 2) rfl; have e0 := q2.cell (j := 0) rfl; have e1 := q2.cell (j := 1) rfl; have e2 := q2.cell (j := 2) rfl; have f0 := q2.fr 0; have f1 := q2.fr 1; have f2 := q2.fr 2; clear q0 q1 q2))
  exact bodyPost_ret (v := .agg #[.int .i64 0, .int .i64 0, .string ⟨#[]⟩]) (by simp [results, Tryd.results29, go_sem, e0, e1, e2]) rfl ⟨rfl, belset3 (bel3 HX2.out) (Nat.le_refl _) (by omega) _ _ _⟩

set_option maxRecDepth 100000 in
set_option maxHeartbeats 4000000 in
theorem rr_6 (an : Int) (av : ByteArray) (bk bn : Int) (bv : ByteArray) (w : World) (HVA : Hid (∀ W, Calls Tryd.prog 57 #[.agg #[.int .i64 3, .int .i64 an, .string av]] W fun e w' => e = .returned (.bool true) ∧ Below W.heap.size W w')) (HVB : Hid (∀ W, Calls Tryd.prog 57 #[.agg #[.int .i64 bk, .int .i64 bn, .string bv]] W fun e w' => e = .returned (.bool true) ∧ Below W.heap.size W w')) (hk : (bk != 3) = true) :
    Calls Tryd.prog 29 #[.int .i64 12, .agg #[.int .i64 3, .int .i64 an, .string av], .agg #[.int .i64 bk, .int .i64 bn, .string bv]] w fun e w' => e = .returned (.agg #[.int .i64 0, .int .i64 0, .string ⟨#[]⟩]) ∧ Below w.heap.size w w' := by
  go_enter Tryd.func29, Tryd.ntmps29
  go_wp2_with (first
    | (go_at_call 57; with_reducible refine (HVA.out _).mono ?_; rintro e x1 ⟨rfl, hx⟩; have HX1 := hide hx; clear hx; obtain ⟨q0, q1, q2, _⟩ := boxes3 HX1.out; have k0 := q0.cell (j := 0) rfl; have k1 := q0.cell (j := 1) rfl; have k2 := q0.cell (j := 2) rfl; have l0 := q1.cell (j := 0) rfl; have l1 := q1.cell (j := 1) rfl; have l2 := q1.cell (j := 2) rfl; have e0 := q2.cell (j := 0) rfl; have e1 := q2.cell (j := 1) rfl; have e2 := q2.cell (j := 2) rfl; have f0 := q2.fr 0; have f1 := q2.fr 1; have f2 := q2.fr 2; clear q0 q1 q2)
    | (go_at_call 57; with_reducible refine (HVB.out _).mono ?_; rintro e x2 ⟨rfl, hx⟩; have HX2 := hide (bel_trans HX1.out hx); clear hx; clear k0 k1 k2 l0 l1 l2 e0 e1 e2 f0 f1 f2; obtain ⟨q0, q1, q2, _⟩ := boxes3 HX2.out; have k0 := q0.cell (j := 0) rfl; have k1 := q0.cell (j := 1) rfl; have k2 := q0.cell (j := 2) rfl; have l0 := q1.cell (j := 0) rfl; have l1 := q1.cell (j := 1) rfl; have l2 := q1.cell (j := 2) rfl; have e0 := q2.cell (j := 0) rfl; have e1 := q2.cell (j := 1) rfl; have e2 := q2.cell (j := 2) rfl; have f0 := q2.fr 0; have f1 := q2.fr 1; have f2 := q2.fr 2; clear q0 q1 q2))
  exact bodyPost_ret (v := .agg #[.int .i64 0, .int .i64 0, .string ⟨#[]⟩]) (by simp [results, Tryd.results29, go_sem, e0, e1, e2]) rfl ⟨rfl, belset3 (bel3 HX2.out) (Nat.le_refl _) (by omega) _ _ _⟩

set_option maxRecDepth 100000 in
set_option maxHeartbeats 4000000 in
theorem rr_cat (an : Int) (av : ByteArray) (bn : Int) (bv : ByteArray) (rk rn : Int) (rs : ByteArray) (s : ByteArray) (w : World) (HVA : Hid (∀ W, Calls Tryd.prog 57 #[.agg #[.int .i64 3, .int .i64 an, .string av]] W fun e w' => e = .returned (.bool true) ∧ Below W.heap.size W w')) (HVB : Hid (∀ W, Calls Tryd.prog 57 #[.agg #[.int .i64 3, .int .i64 bn, .string bv]] W fun e w' => e = .returned (.bool true) ∧ Below W.heap.size W w')) (hs : av ++ bv = s) (hsz : ¬ 9223372036854775807 < av.size + bv.size) (HVO : Hid (∀ W, Calls Tryd.prog 58 #[.agg #[.int .i64 3, .int .i64 0, .string s]] W fun e w' => e = .returned (.agg #[.int .i64 rk, .int .i64 rn, .string rs]) ∧ Below W.heap.size W w')) :
    Calls Tryd.prog 29 #[.int .i64 12, .agg #[.int .i64 3, .int .i64 an, .string av], .agg #[.int .i64 3, .int .i64 bn, .string bv]] w fun e w' => e = .returned (.agg #[.int .i64 rk, .int .i64 rn, .string rs]) ∧ Below w.heap.size w w' := by
  go_enter Tryd.func29, Tryd.ntmps29
  go_wp2_with (first
    | (go_at_call 57; with_reducible refine (HVA.out _).mono ?_; rintro e x1 ⟨rfl, hx⟩; have HX1 := hide hx; clear hx; obtain ⟨q0, q1, q2, _⟩ := boxes3 HX1.out; have k0 := q0.cell (j := 0) rfl; have k1 := q0.cell (j := 1) rfl; have k2 := q0.cell (j := 2) rfl; have l0 := q1.cell (j := 0) rfl; have l1 := q1.cell (j := 1) rfl; have l2 := q1.cell (j := 2) rfl; have e0 := q2.cell (j := 0) rfl; have e1 := q2.cell (j := 1) rfl; have e2 := q2.cell (j := 2) rfl; have f0 := q2.fr 0; have f1 := q2.fr 1; have f2 := q2.fr 2; clear q0 q1 q2)
    | (go_at_call 57; with_reducible refine (HVB.out _).mono ?_; rintro e x2 ⟨rfl, hx⟩; have HX2 := hide (bel_trans HX1.out hx); clear hx; clear k0 k1 k2 l0 l1 l2 e0 e1 e2 f0 f1 f2; obtain ⟨q0, q1, q2, _⟩ := boxes3 HX2.out; have k0 := q0.cell (j := 0) rfl; have k1 := q0.cell (j := 1) rfl; have k2 := q0.cell (j := 2) rfl; have l0 := q1.cell (j := 0) rfl; have l1 := q1.cell (j := 1) rfl; have l2 := q1.cell (j := 2) rfl; have e0 := q2.cell (j := 0) rfl; have e1 := q2.cell (j := 1) rfl; have e2 := q2.cell (j := 2) rfl; have f0 := q2.fr 0; have f1 := q2.fr 1; have f2 := q2.fr 2; clear q0 q1 q2)
    | (go_at_call 58; with_reducible refine (HVO.out _).mono ?_; rintro e x3 ⟨rfl, hx⟩; have HX3 := hide (bel_trans HX2.out hx); clear hx; clear k0 k1 k2 l0 l1 l2 e0 e1 e2 f0 f1 f2; obtain ⟨q0, q1, q2, _⟩ := boxes3 HX3.out; have e0 := q2.cell (j := 0) rfl; have e1 := q2.cell (j := 1) rfl; have e2 := q2.cell (j := 2) rfl; have f0 := q2.fr 0; have f1 := q2.fr 1; have f2 := q2.fr 2; clear q0 q1 q2))
  exact bodyPost_ret (v := .agg #[.int .i64 rk, .int .i64 rn, .string rs]) (by simp [results, Tryd.results29, go_sem, e0, e1, e2]) rfl ⟨rfl, belset3 (bel3 HX3.out) (Nat.le_refl _) (by omega) _ _ _⟩

set_option maxRecDepth 100000 in
set_option maxHeartbeats 4000000 in
theorem rr_add (an : Int) (av : ByteArray) (bn : Int) (bv : ByteArray) (rk rn : Int) (rs : ByteArray) (w : World) (HVA : Hid (∀ W, Calls Tryd.prog 57 #[.agg #[.int .i64 1, .int .i64 an, .string av]] W fun e w' => e = .returned (.bool true) ∧ Below W.heap.size W w')) (HVB : Hid (∀ W, Calls Tryd.prog 57 #[.agg #[.int .i64 1, .int .i64 bn, .string bv]] W fun e w' => e = .returned (.bool true) ∧ Below W.heap.size W w')) (hw : IntKind.i64.wrap (an + bn) = an + bn) (HVO : Hid (∀ W, Calls Tryd.prog 58 #[.agg #[.int .i64 1, .int .i64 (an + bn), .string ⟨#[]⟩]] W fun e w' => e = .returned (.agg #[.int .i64 rk, .int .i64 rn, .string rs]) ∧ Below W.heap.size W w')) :
    Calls Tryd.prog 29 #[.int .i64 6, .agg #[.int .i64 1, .int .i64 an, .string av], .agg #[.int .i64 1, .int .i64 bn, .string bv]] w fun e w' => e = .returned (.agg #[.int .i64 rk, .int .i64 rn, .string rs]) ∧ Below w.heap.size w w' := by
  go_enter Tryd.func29, Tryd.ntmps29
  go_wp2_with (first
    | (go_at_call 57; with_reducible refine (HVA.out _).mono ?_; rintro e x1 ⟨rfl, hx⟩; have HX1 := hide hx; clear hx; obtain ⟨q0, q1, q2, _⟩ := boxes3 HX1.out; have k0 := q0.cell (j := 0) rfl; have k1 := q0.cell (j := 1) rfl; have k2 := q0.cell (j := 2) rfl; have l0 := q1.cell (j := 0) rfl; have l1 := q1.cell (j := 1) rfl; have l2 := q1.cell (j := 2) rfl; have e0 := q2.cell (j := 0) rfl; have e1 := q2.cell (j := 1) rfl; have e2 := q2.cell (j := 2) rfl; have f0 := q2.fr 0; have f1 := q2.fr 1; have f2 := q2.fr 2; clear q0 q1 q2)
    | (go_at_call 57; with_reducible refine (HVB.out _).mono ?_; rintro e x2 ⟨rfl, hx⟩; have HX2 := hide (bel_trans HX1.out hx); clear hx; clear k0 k1 k2 l0 l1 l2 e0 e1 e2 f0 f1 f2; obtain ⟨q0, q1, q2, _⟩ := boxes3 HX2.out; have k0 := q0.cell (j := 0) rfl; have k1 := q0.cell (j := 1) rfl; have k2 := q0.cell (j := 2) rfl; have l0 := q1.cell (j := 0) rfl; have l1 := q1.cell (j := 1) rfl; have l2 := q1.cell (j := 2) rfl; have e0 := q2.cell (j := 0) rfl; have e1 := q2.cell (j := 1) rfl; have e2 := q2.cell (j := 2) rfl; have f0 := q2.fr 0; have f1 := q2.fr 1; have f2 := q2.fr 2; clear q0 q1 q2)
    | (go_at_call 58; with_reducible refine (HVO.out _).mono ?_; rintro e x3 ⟨rfl, hx⟩; have HX3 := hide (bel_trans HX2.out hx); clear hx; clear k0 k1 k2 l0 l1 l2 e0 e1 e2 f0 f1 f2; obtain ⟨q0, q1, q2, _⟩ := boxes3 HX3.out; have e0 := q2.cell (j := 0) rfl; have e1 := q2.cell (j := 1) rfl; have e2 := q2.cell (j := 2) rfl; have f0 := q2.fr 0; have f1 := q2.fr 1; have f2 := q2.fr 2; clear q0 q1 q2))
  exact bodyPost_ret (v := .agg #[.int .i64 rk, .int .i64 rn, .string rs]) (by simp [results, Tryd.results29, go_sem, e0, e1, e2]) rfl ⟨rfl, belset3 (bel3 HX3.out) (Nat.le_refl _) (by omega) _ _ _⟩

set_option maxRecDepth 100000 in
set_option maxHeartbeats 4000000 in
theorem rr_sub (an : Int) (av : ByteArray) (bn : Int) (bv : ByteArray) (rk rn : Int) (rs : ByteArray) (w : World) (HVA : Hid (∀ W, Calls Tryd.prog 57 #[.agg #[.int .i64 1, .int .i64 an, .string av]] W fun e w' => e = .returned (.bool true) ∧ Below W.heap.size W w')) (HVB : Hid (∀ W, Calls Tryd.prog 57 #[.agg #[.int .i64 1, .int .i64 bn, .string bv]] W fun e w' => e = .returned (.bool true) ∧ Below W.heap.size W w')) (hw : IntKind.i64.wrap (an - bn) = an - bn) (HVO : Hid (∀ W, Calls Tryd.prog 58 #[.agg #[.int .i64 1, .int .i64 (an - bn), .string ⟨#[]⟩]] W fun e w' => e = .returned (.agg #[.int .i64 rk, .int .i64 rn, .string rs]) ∧ Below W.heap.size W w')) :
    Calls Tryd.prog 29 #[.int .i64 7, .agg #[.int .i64 1, .int .i64 an, .string av], .agg #[.int .i64 1, .int .i64 bn, .string bv]] w fun e w' => e = .returned (.agg #[.int .i64 rk, .int .i64 rn, .string rs]) ∧ Below w.heap.size w w' := by
  go_enter Tryd.func29, Tryd.ntmps29
  go_wp2_with (first
    | (go_at_call 57; with_reducible refine (HVA.out _).mono ?_; rintro e x1 ⟨rfl, hx⟩; have HX1 := hide hx; clear hx; obtain ⟨q0, q1, q2, _⟩ := boxes3 HX1.out; have k0 := q0.cell (j := 0) rfl; have k1 := q0.cell (j := 1) rfl; have k2 := q0.cell (j := 2) rfl; have l0 := q1.cell (j := 0) rfl; have l1 := q1.cell (j := 1) rfl; have l2 := q1.cell (j := 2) rfl; have e0 := q2.cell (j := 0) rfl; have e1 := q2.cell (j := 1) rfl; have e2 := q2.cell (j := 2) rfl; have f0 := q2.fr 0; have f1 := q2.fr 1; have f2 := q2.fr 2; clear q0 q1 q2)
    | (go_at_call 57; with_reducible refine (HVB.out _).mono ?_; rintro e x2 ⟨rfl, hx⟩; have HX2 := hide (bel_trans HX1.out hx); clear hx; clear k0 k1 k2 l0 l1 l2 e0 e1 e2 f0 f1 f2; obtain ⟨q0, q1, q2, _⟩ := boxes3 HX2.out; have k0 := q0.cell (j := 0) rfl; have k1 := q0.cell (j := 1) rfl; have k2 := q0.cell (j := 2) rfl; have l0 := q1.cell (j := 0) rfl; have l1 := q1.cell (j := 1) rfl; have l2 := q1.cell (j := 2) rfl; have e0 := q2.cell (j := 0) rfl; have e1 := q2.cell (j := 1) rfl; have e2 := q2.cell (j := 2) rfl; have f0 := q2.fr 0; have f1 := q2.fr 1; have f2 := q2.fr 2; clear q0 q1 q2)
    | (go_at_call 58; with_reducible refine (HVO.out _).mono ?_; rintro e x3 ⟨rfl, hx⟩; have HX3 := hide (bel_trans HX2.out hx); clear hx; clear k0 k1 k2 l0 l1 l2 e0 e1 e2 f0 f1 f2; obtain ⟨q0, q1, q2, _⟩ := boxes3 HX3.out; have e0 := q2.cell (j := 0) rfl; have e1 := q2.cell (j := 1) rfl; have e2 := q2.cell (j := 2) rfl; have f0 := q2.fr 0; have f1 := q2.fr 1; have f2 := q2.fr 2; clear q0 q1 q2))
  exact bodyPost_ret (v := .agg #[.int .i64 rk, .int .i64 rn, .string rs]) (by simp [results, Tryd.results29, go_sem, e0, e1, e2]) rfl ⟨rfl, belset3 (bel3 HX3.out) (Nat.le_refl _) (by omega) _ _ _⟩

set_option maxRecDepth 100000 in
set_option maxHeartbeats 4000000 in
theorem rr_mul (an : Int) (av : ByteArray) (bn : Int) (bv : ByteArray) (n : Int) (w : World) (HVA : Hid (∀ W, Calls Tryd.prog 57 #[.agg #[.int .i64 1, .int .i64 an, .string av]] W fun e w' => e = .returned (.bool true) ∧ Below W.heap.size W w')) (HVB : Hid (∀ W, Calls Tryd.prog 57 #[.agg #[.int .i64 1, .int .i64 bn, .string bv]] W fun e w' => e = .returned (.bool true) ∧ Below W.heap.size W w')) (HVP : Hid (∀ W, Calls Tryd.prog 59 #[.int .i64 an, .int .i64 bn] W fun e w' => e = .returned (.tuple #[.int .i64 n, .bool true]) ∧ Below W.heap.size W w')) :
    Calls Tryd.prog 29 #[.int .i64 8, .agg #[.int .i64 1, .int .i64 an, .string av], .agg #[.int .i64 1, .int .i64 bn, .string bv]] w fun e w' => e = .returned (.agg #[.int .i64 1, .int .i64 n, .string ⟨#[]⟩]) ∧ Below w.heap.size w w' := by
  go_enter Tryd.func29, Tryd.ntmps29
  go_wp2_with (first
    | (go_at_call 57; with_reducible refine (HVA.out _).mono ?_; rintro e x1 ⟨rfl, hx⟩; have HX1 := hide hx; clear hx; obtain ⟨q0, q1, q2, _⟩ := boxes3 HX1.out; have k0 := q0.cell (j := 0) rfl; have k1 := q0.cell (j := 1) rfl; have k2 := q0.cell (j := 2) rfl; have l0 := q1.cell (j := 0) rfl; have l1 := q1.cell (j := 1) rfl; have l2 := q1.cell (j := 2) rfl; have e0 := q2.cell (j := 0) rfl; have e1 := q2.cell (j := 1) rfl; have e2 := q2.cell (j := 2) rfl; have f0 := q2.fr 0; have f1 := q2.fr 1; have f2 := q2.fr 2; clear q0 q1 q2)
    | (go_at_call 57; with_reducible refine (HVB.out _).mono ?_; rintro e x2 ⟨rfl, hx⟩; have HX2 := hide (bel_trans HX1.out hx); clear hx; clear k0 k1 k2 l0 l1 l2 e0 e1 e2 f0 f1 f2; obtain ⟨q0, q1, q2, _⟩ := boxes3 HX2.out; have k0 := q0.cell (j := 0) rfl; have k1 := q0.cell (j := 1) rfl; have k2 := q0.cell (j := 2) rfl; have l0 := q1.cell (j := 0) rfl; have l1 := q1.cell (j := 1) rfl; have l2 := q1.cell (j := 2) rfl; have e0 := q2.cell (j := 0) rfl; have e1 := q2.cell (j := 1) rfl; have e2 := q2.cell (j := 2) rfl; have f0 := q2.fr 0; have f1 := q2.fr 1; have f2 := q2.fr 2; clear q0 q1 q2)
    | (go_at_call 59; with_reducible refine (HVP.out _).mono ?_; rintro e x3 ⟨rfl, hx⟩; have HX3 := hide (bel_trans HX2.out hx); clear hx; clear k0 k1 k2 l0 l1 l2 e0 e1 e2 f0 f1 f2; obtain ⟨q0, q1, q2, _⟩ := boxes3 HX3.out; have e0 := q2.cell (j := 0) rfl; have e1 := q2.cell (j := 1) rfl; have e2 := q2.cell (j := 2) rfl; have f0 := q2.fr 0; have f1 := q2.fr 1; have f2 := q2.fr 2; clear q0 q1 q2))
  exact bodyPost_ret (v := .agg #[.int .i64 1, .int .i64 n, .string ⟨#[]⟩]) (by simp [results, Tryd.results29, go_sem, e0, e1, e2]) rfl ⟨rfl, belset3 (bel3 HX3.out) (Nat.le_refl _) (by omega) _ _ _⟩

set_option maxRecDepth 100000 in
set_option maxHeartbeats 4000000 in
theorem rr_mul0 (an : Int) (av : ByteArray) (bn : Int) (bv : ByteArray) (w : World) (HVA : Hid (∀ W, Calls Tryd.prog 57 #[.agg #[.int .i64 1, .int .i64 an, .string av]] W fun e w' => e = .returned (.bool true) ∧ Below W.heap.size W w')) (HVB : Hid (∀ W, Calls Tryd.prog 57 #[.agg #[.int .i64 1, .int .i64 bn, .string bv]] W fun e w' => e = .returned (.bool true) ∧ Below W.heap.size W w')) (HVP : Hid (∀ W, Calls Tryd.prog 59 #[.int .i64 an, .int .i64 bn] W fun e w' => e = .returned (.tuple #[.int .i64 0, .bool false]) ∧ Below W.heap.size W w')) :
    Calls Tryd.prog 29 #[.int .i64 8, .agg #[.int .i64 1, .int .i64 an, .string av], .agg #[.int .i64 1, .int .i64 bn, .string bv]] w fun e w' => e = .returned (.agg #[.int .i64 0, .int .i64 0, .string ⟨#[]⟩]) ∧ Below w.heap.size w w' := by
  go_enter Tryd.func29, Tryd.ntmps29
  go_wp2_with (first
    | (go_at_call 57; with_reducible refine (HVA.out _).mono ?_; rintro e x1 ⟨rfl, hx⟩; have HX1 := hide hx; clear hx; obtain ⟨q0, q1, q2, _⟩ := boxes3 HX1.out; have k0 := q0.cell (j := 0) rfl; have k1 := q0.cell (j := 1) rfl; have k2 := q0.cell (j := 2) rfl; have l0 := q1.cell (j := 0) rfl; have l1 := q1.cell (j := 1) rfl; have l2 := q1.cell (j := 2) rfl; have e0 := q2.cell (j := 0) rfl; have e1 := q2.cell (j := 1) rfl; have e2 := q2.cell (j := 2) rfl; have f0 := q2.fr 0; have f1 := q2.fr 1; have f2 := q2.fr 2; clear q0 q1 q2)
    | (go_at_call 57; with_reducible refine (HVB.out _).mono ?_; rintro e x2 ⟨rfl, hx⟩; have HX2 := hide (bel_trans HX1.out hx); clear hx; clear k0 k1 k2 l0 l1 l2 e0 e1 e2 f0 f1 f2; obtain ⟨q0, q1, q2, _⟩ := boxes3 HX2.out; have k0 := q0.cell (j := 0) rfl; have k1 := q0.cell (j := 1) rfl; have k2 := q0.cell (j := 2) rfl; have l0 := q1.cell (j := 0) rfl; have l1 := q1.cell (j := 1) rfl; have l2 := q1.cell (j := 2) rfl; have e0 := q2.cell (j := 0) rfl; have e1 := q2.cell (j := 1) rfl; have e2 := q2.cell (j := 2) rfl; have f0 := q2.fr 0; have f1 := q2.fr 1; have f2 := q2.fr 2; clear q0 q1 q2)
    | (go_at_call 59; with_reducible refine (HVP.out _).mono ?_; rintro e x3 ⟨rfl, hx⟩; have HX3 := hide (bel_trans HX2.out hx); clear hx; clear k0 k1 k2 l0 l1 l2 e0 e1 e2 f0 f1 f2; obtain ⟨q0, q1, q2, _⟩ := boxes3 HX3.out; have e0 := q2.cell (j := 0) rfl; have e1 := q2.cell (j := 1) rfl; have e2 := q2.cell (j := 2) rfl; have f0 := q2.fr 0; have f1 := q2.fr 1; have f2 := q2.fr 2; clear q0 q1 q2))
  exact bodyPost_ret (v := .agg #[.int .i64 0, .int .i64 0, .string ⟨#[]⟩]) (by simp [results, Tryd.results29, go_sem, e0, e1, e2]) rfl ⟨rfl, belset3 (bel3 HX3.out) (Nat.le_refl _) (by omega) _ _ _⟩

set_option maxRecDepth 100000 in
set_option maxHeartbeats 4000000 in
theorem rr_div (an : Int) (av : ByteArray) (bn : Int) (bv : ByteArray) (n : Int) (w : World) (HVA : Hid (∀ W, Calls Tryd.prog 57 #[.agg #[.int .i64 1, .int .i64 an, .string av]] W fun e w' => e = .returned (.bool true) ∧ Below W.heap.size W w')) (HVB : Hid (∀ W, Calls Tryd.prog 57 #[.agg #[.int .i64 1, .int .i64 bn, .string bv]] W fun e w' => e = .returned (.bool true) ∧ Below W.heap.size W w')) (h2 : (bn != 0) = true) (_h3 : (bn == 0) = false) (_h4 : ¬ bn = 0) (hw : IntKind.i64.wrap (an.tdiv bn) = n) :
    Calls Tryd.prog 29 #[.int .i64 9, .agg #[.int .i64 1, .int .i64 an, .string av], .agg #[.int .i64 1, .int .i64 bn, .string bv]] w fun e w' => e = .returned (.agg #[.int .i64 1, .int .i64 n, .string ⟨#[]⟩]) ∧ Below w.heap.size w w' := by
  go_enter Tryd.func29, Tryd.ntmps29
  go_wp2_with (first
    | (go_at_call 57; with_reducible refine (HVA.out _).mono ?_; rintro e x1 ⟨rfl, hx⟩; have HX1 := hide hx; clear hx; obtain ⟨q0, q1, q2, _⟩ := boxes3 HX1.out; have k0 := q0.cell (j := 0) rfl; have k1 := q0.cell (j := 1) rfl; have k2 := q0.cell (j := 2) rfl; have l0 := q1.cell (j := 0) rfl; have l1 := q1.cell (j := 1) rfl; have l2 := q1.cell (j := 2) rfl; have e0 := q2.cell (j := 0) rfl; have e1 := q2.cell (j := 1) rfl; have e2 := q2.cell (j := 2) rfl; have f0 := q2.fr 0; have f1 := q2.fr 1; have f2 := q2.fr 2; clear q0 q1 q2)
    | (go_at_call 57; with_reducible refine (HVB.out _).mono ?_; rintro e x2 ⟨rfl, hx⟩; have HX2 := hide (bel_trans HX1.out hx); clear hx; clear k0 k1 k2 l0 l1 l2 e0 e1 e2 f0 f1 f2; obtain ⟨q0, q1, q2, _⟩ := boxes3 HX2.out; have k0 := q0.cell (j := 0) rfl; have k1 := q0.cell (j := 1) rfl; have k2 := q0.cell (j := 2) rfl; have l0 := q1.cell (j := 0) rfl; have l1 := q1.cell (j := 1) rfl; have l2 := q1.cell (j := 2) rfl; have e0 := q2.cell (j := 0) rfl; have e1 := q2.cell (j := 1) rfl; have e2 := q2.cell (j := 2) rfl; have f0 := q2.fr 0; have f1 := q2.fr 1; have f2 := q2.fr 2; clear q0 q1 q2))
  exact bodyPost_ret (v := .agg #[.int .i64 1, .int .i64 n, .string ⟨#[]⟩]) (by simp [results, Tryd.results29, go_sem, e0, e1, e2]) rfl ⟨rfl, belset3 (bel3 HX2.out) (Nat.le_refl _) (by omega) _ _ _⟩

set_option maxRecDepth 100000 in
set_option maxHeartbeats 4000000 in
theorem rr_div0 (an : Int) (av bv : ByteArray) (w : World) (HVA : Hid (∀ W, Calls Tryd.prog 57 #[.agg #[.int .i64 1, .int .i64 an, .string av]] W fun e w' => e = .returned (.bool true) ∧ Below W.heap.size W w')) (HVB : Hid (∀ W, Calls Tryd.prog 57 #[.agg #[.int .i64 1, .int .i64 0, .string bv]] W fun e w' => e = .returned (.bool true) ∧ Below W.heap.size W w')) :
    Calls Tryd.prog 29 #[.int .i64 9, .agg #[.int .i64 1, .int .i64 an, .string av], .agg #[.int .i64 1, .int .i64 0, .string bv]] w fun e w' => e = .returned (.agg #[.int .i64 0, .int .i64 0, .string ⟨#[]⟩]) ∧ Below w.heap.size w w' := by
  go_enter Tryd.func29, Tryd.ntmps29
  go_wp2_with (first
    | (go_at_call 57; with_reducible refine (HVA.out _).mono ?_; rintro e x1 ⟨rfl, hx⟩; have HX1 := hide hx; clear hx; obtain ⟨q0, q1, q2, _⟩ := boxes3 HX1.out; have k0 := q0.cell (j := 0) rfl; have k1 := q0.cell (j := 1) rfl; have k2 := q0.cell (j := 2) rfl; have l0 := q1.cell (j := 0) rfl; have l1 := q1.cell (j := 1) rfl; have l2 := q1.cell (j := 2) rfl; have e0 := q2.cell (j := 0) rfl; have e1 := q2.cell (j := 1) rfl; have e2 := q2.cell (j := 2) rfl; have f0 := q2.fr 0; have f1 := q2.fr 1; have f2 := q2.fr 2; clear q0 q1 q2)
    | (go_at_call 57; with_reducible refine (HVB.out _).mono ?_; rintro e x2 ⟨rfl, hx⟩; have HX2 := hide (bel_trans HX1.out hx); clear hx; clear k0 k1 k2 l0 l1 l2 e0 e1 e2 f0 f1 f2; obtain ⟨q0, q1, q2, _⟩ := boxes3 HX2.out; have k0 := q0.cell (j := 0) rfl; have k1 := q0.cell (j := 1) rfl; have k2 := q0.cell (j := 2) rfl; have l0 := q1.cell (j := 0) rfl; have l1 := q1.cell (j := 1) rfl; have l2 := q1.cell (j := 2) rfl; have e0 := q2.cell (j := 0) rfl; have e1 := q2.cell (j := 1) rfl; have e2 := q2.cell (j := 2) rfl; have f0 := q2.fr 0; have f1 := q2.fr 1; have f2 := q2.fr 2; clear q0 q1 q2))
  exact bodyPost_ret (v := .agg #[.int .i64 0, .int .i64 0, .string ⟨#[]⟩]) (by simp [results, Tryd.results29, go_sem, e0, e1, e2]) rfl ⟨rfl, belset3 (bel3 HX2.out) (Nat.le_refl _) (by omega) _ _ _⟩

set_option maxRecDepth 100000 in
set_option maxHeartbeats 4000000 in
theorem rr_mod (an : Int) (av : ByteArray) (bn : Int) (bv : ByteArray) (n : Int) (w : World) (HVA : Hid (∀ W, Calls Tryd.prog 57 #[.agg #[.int .i64 1, .int .i64 an, .string av]] W fun e w' => e = .returned (.bool true) ∧ Below W.heap.size W w')) (HVB : Hid (∀ W, Calls Tryd.prog 57 #[.agg #[.int .i64 1, .int .i64 bn, .string bv]] W fun e w' => e = .returned (.bool true) ∧ Below W.heap.size W w')) (h2 : (bn != 0) = true) (_h3 : (bn == 0) = false) (_h4 : ¬ bn = 0) (hw : an.tmod bn = n) :
    Calls Tryd.prog 29 #[.int .i64 10, .agg #[.int .i64 1, .int .i64 an, .string av], .agg #[.int .i64 1, .int .i64 bn, .string bv]] w fun e w' => e = .returned (.agg #[.int .i64 1, .int .i64 n, .string ⟨#[]⟩]) ∧ Below w.heap.size w w' := by
  go_enter Tryd.func29, Tryd.ntmps29
  go_wp2_with (first
    | (go_at_call 57; with_reducible refine (HVA.out _).mono ?_; rintro e x1 ⟨rfl, hx⟩; have HX1 := hide hx; clear hx; obtain ⟨q0, q1, q2, _⟩ := boxes3 HX1.out; have k0 := q0.cell (j := 0) rfl; have k1 := q0.cell (j := 1) rfl; have k2 := q0.cell (j := 2) rfl; have l0 := q1.cell (j := 0) rfl; have l1 := q1.cell (j := 1) rfl; have l2 := q1.cell (j := 2) rfl; have e0 := q2.cell (j := 0) rfl; have e1 := q2.cell (j := 1) rfl; have e2 := q2.cell (j := 2) rfl; have f0 := q2.fr 0; have f1 := q2.fr 1; have f2 := q2.fr 2; clear q0 q1 q2)
    | (go_at_call 57; with_reducible refine (HVB.out _).mono ?_; rintro e x2 ⟨rfl, hx⟩; have HX2 := hide (bel_trans HX1.out hx); clear hx; clear k0 k1 k2 l0 l1 l2 e0 e1 e2 f0 f1 f2; obtain ⟨q0, q1, q2, _⟩ := boxes3 HX2.out; have k0 := q0.cell (j := 0) rfl; have k1 := q0.cell (j := 1) rfl; have k2 := q0.cell (j := 2) rfl; have l0 := q1.cell (j := 0) rfl; have l1 := q1.cell (j := 1) rfl; have l2 := q1.cell (j := 2) rfl; have e0 := q2.cell (j := 0) rfl; have e1 := q2.cell (j := 1) rfl; have e2 := q2.cell (j := 2) rfl; have f0 := q2.fr 0; have f1 := q2.fr 1; have f2 := q2.fr 2; clear q0 q1 q2))
  exact bodyPost_ret (v := .agg #[.int .i64 1, .int .i64 n, .string ⟨#[]⟩]) (by simp [results, Tryd.results29, go_sem, e0, e1, e2]) rfl ⟨rfl, belset3 (bel3 HX2.out) (Nat.le_refl _) (by omega) _ _ _⟩

set_option maxRecDepth 100000 in
set_option maxHeartbeats 4000000 in
theorem rr_mod0 (an : Int) (av bv : ByteArray) (w : World) (HVA : Hid (∀ W, Calls Tryd.prog 57 #[.agg #[.int .i64 1, .int .i64 an, .string av]] W fun e w' => e = .returned (.bool true) ∧ Below W.heap.size W w')) (HVB : Hid (∀ W, Calls Tryd.prog 57 #[.agg #[.int .i64 1, .int .i64 0, .string bv]] W fun e w' => e = .returned (.bool true) ∧ Below W.heap.size W w')) :
    Calls Tryd.prog 29 #[.int .i64 10, .agg #[.int .i64 1, .int .i64 an, .string av], .agg #[.int .i64 1, .int .i64 0, .string bv]] w fun e w' => e = .returned (.agg #[.int .i64 0, .int .i64 0, .string ⟨#[]⟩]) ∧ Below w.heap.size w w' := by
  go_enter Tryd.func29, Tryd.ntmps29
  go_wp2_with (first
    | (go_at_call 57; with_reducible refine (HVA.out _).mono ?_; rintro e x1 ⟨rfl, hx⟩; have HX1 := hide hx; clear hx; obtain ⟨q0, q1, q2, _⟩ := boxes3 HX1.out; have k0 := q0.cell (j := 0) rfl; have k1 := q0.cell (j := 1) rfl; have k2 := q0.cell (j := 2) rfl; have l0 := q1.cell (j := 0) rfl; have l1 := q1.cell (j := 1) rfl; have l2 := q1.cell (j := 2) rfl; have e0 := q2.cell (j := 0) rfl; have e1 := q2.cell (j := 1) rfl; have e2 := q2.cell (j := 2) rfl; have f0 := q2.fr 0; have f1 := q2.fr 1; have f2 := q2.fr 2; clear q0 q1 q2)
    | (go_at_call 57; with_reducible refine (HVB.out _).mono ?_; rintro e x2 ⟨rfl, hx⟩; have HX2 := hide (bel_trans HX1.out hx); clear hx; clear k0 k1 k2 l0 l1 l2 e0 e1 e2 f0 f1 f2; obtain ⟨q0, q1, q2, _⟩ := boxes3 HX2.out; have k0 := q0.cell (j := 0) rfl; have k1 := q0.cell (j := 1) rfl; have k2 := q0.cell (j := 2) rfl; have l0 := q1.cell (j := 0) rfl; have l1 := q1.cell (j := 1) rfl; have l2 := q1.cell (j := 2) rfl; have e0 := q2.cell (j := 0) rfl; have e1 := q2.cell (j := 1) rfl; have e2 := q2.cell (j := 2) rfl; have f0 := q2.fr 0; have f1 := q2.fr 1; have f2 := q2.fr 2; clear q0 q1 q2))
  exact bodyPost_ret (v := .agg #[.int .i64 0, .int .i64 0, .string ⟨#[]⟩]) (by simp [results, Tryd.results29, go_sem, e0, e1, e2]) rfl ⟨rfl, belset3 (bel3 HX2.out) (Nat.le_refl _) (by omega) _ _ _⟩

theorem ar_nul12 {a b : V} (h : ¬ (a.kind = 3 ∧ b.kind = 3)) : arithV 12 a b = nulV := by
  unfold arithV
  split
  · rfl
  rename_i h0
  have hk : a.kind = b.kind := Classical.byContradiction (fun hk => h0 (.inr (.inr hk)))
  split
  · rfl
  split
  · rename_i h3; exact absurd ⟨h3.1, hk ▸ h3.1⟩ h
  · rfl
theorem ar_nuln {op : Int} {a b : V} (ho : op ≠ 12) (h : ¬ (a.kind = 1 ∧ b.kind = 1)) : arithV op a b = nulV := by
  unfold arithV
  split
  · rfl
  rename_i h0
  have hk : a.kind = b.kind := Classical.byContradiction (fun hk => h0 (.inr (.inr hk)))
  split
  · rename_i h1; exact absurd ⟨h1, hk ▸ h1⟩ h
  split
  · rename_i h3; exact absurd h3.2 ho
  · rfl
theorem rarith_any (op : Int) (a b : V) (ha : a.wf) (hb : b.wf) (hop : op = 6 ∨ op = 7 ∨ op = 8 ∨ op = 9 ∨ op = 10 ∨ op = 12) (w : World) : Calls Tryd.prog 29 #[.int .i64 op, .agg #[.int .i64 a.kind, .int .i64 a.num, .string a.text], .agg #[.int .i64 b.kind, .int .i64 b.num, .string b.text]] w
    fun e w' => e = .returned (.agg #[.int .i64 (arithV op a b).kind, .int .i64 (arithV op a b).num, .string (arithV op a b).text]) ∧ Below w.heap.size w w' := by
  have hva := fun W => rval_any a ha W
  have hvb := fun W => rval_any b hb W
  cases h1 : validV a with
  | false =>
    rw [h1] at hva
    rw [show arithV op a b = nulV from if_pos (.inl h1)]
    exact rr_1 op _ _ _ _ _ _ w (hide hva)
  | true =>
    rw [h1] at hva
    cases h2 : validV b with
    | false =>
      rw [h2] at hvb
      rw [show arithV op a b = nulV from if_pos (.inr (.inl h2))]
      exact rr_2 op _ _ _ _ _ _ w (hide hva) (hide hvb)
    | true =>
      rw [h2] at hvb
      by_cases ho : op = 12
      · subst ho
        by_cases ka : a.kind = 3
        · by_cases kb : b.kind = 3
          · have he : arithV 12 a b = if txt (a.text ++ b.text) = true then txtV (a.text ++ b.text) else nulV := by
              unfold arithV
              rw [if_neg (by rw [h1, h2, ka, kb]; simp), if_neg (by rw [ka]; decide), if_pos ⟨ka, rfl⟩]
            have r1 := valid_txt h1 ka
            have r2 := valid_txt h2 kb
            obtain ⟨ak, an, av⟩ := a
            obtain ⟨bk, bn, bv⟩ := b
            dsimp only at *
            subst ka kb
            have hsz : (av ++ bv).size ≤ maxLen := by rw [ByteArray.size_append]; unfold maxLen; omega
            have hvo := fun W => rvld_any (txtV (av ++ bv)) (txtV_wf hsz) W
            have hvv : validV (txtV (av ++ bv)) = txt (av ++ bv) := by simp [validV, txtV]
            rw [hvv] at hvo
            rw [he]
            exact rr_cat an av bn bv _ _ _ _ w (hide hva) (hide hvb) rfl (by omega) (hide hvo)
          · rw [ar_nul12 (fun h => kb h.2)]
            obtain ⟨ak, an, av⟩ := a
            dsimp only at *
            subst ka
            exact rr_6 an av _ _ _ w (hide hva) (hide hvb) (bne_iff_ne.2 kb)
        · rw [ar_nul12 (fun h => ka h.1)]
          exact rr_5 _ _ _ _ _ _ w (hide hva) (hide hvb) (bne_iff_ne.2 ka)
      · have hob : (op == 12) = false := beq_eq_false_iff_ne.2 ho
        by_cases ka : a.kind = 1
        · by_cases kb : b.kind = 1
          · have he : arithV op a b = (match numP op a.num b.num with | some n => if inR n = true then numV n else nulV | none => nulV) := by
              unfold arithV
              rw [if_neg (fun h => by rw [h1, h2, ka, kb] at h; simp at h), if_pos ka]
              rfl
            have r1 := valid_rng h1 ka
            have r2 := valid_rng h2 kb
            obtain ⟨ak, an, av⟩ := a
            obtain ⟨bk, bn, bv⟩ := b
            dsimp only at *
            subst ka kb
            have r3 := r1
            have r4 := r2
            unfold rng at r3 r4
            have hvv : ∀ n, validV (numV n) = inR n := fun n => by simp [validV, numV]
            rw [he]
            rcases hop with rfl | rfl | rfl | rfl | rfl | rfl
            · have hvo := fun W => rvld_any (numV (an + bn)) (numV_wf (by unfold int64; omega)) W
              rw [hvv] at hvo
              exact rr_add an av bn bv _ _ _ w (hide hva) (hide hvb) (by rw [IntKind.wrap_i64]; omega) (hide hvo)
            · have hvo := fun W => rvld_any (numV (an - bn)) (numV_wf (by unfold int64; omega)) W
              rw [hvv] at hvo
              exact rr_sub an av bn bv _ _ _ w (hide hva) (hide hvb) (by rw [IntKind.wrap_i64]; omega) (hide hvo)
            · have hvp := fun W => rprod_any an bn W r1 r2
              cases hn : numP 8 an bn with
              | none =>
                rw [hn] at hvp
                exact rr_mul0 an av bn bv w (hide hva) (hide hvb) (hide hvp)
              | some n =>
                rw [hn] at hvp
                have hin : inR n = true := by
                  unfold numP at hn
                  rw [if_neg (by decide), if_neg (by decide), if_pos rfl] at hn
                  split at hn
                  · cases hn
                  · rename_i hh; injection hn with hn; rw [← hn]; exact decide_eq_true (mul_rng hh)
                dsimp only
                rw [if_pos hin]
                exact rr_mul an av bn bv n w (hide hva) (hide hvb) (hide hvp)
            · by_cases hb0 : bn = 0
              · subst hb0
                exact rr_div0 an av bv w (hide hva) (hide hvb)
              · have hd := div_rng r1 hb0
                rw [show numP 9 an bn = some (an.tdiv bn) by unfold numP; rw [if_neg (by decide), if_neg (by decide), if_neg (by decide), if_pos rfl, if_pos hb0]]
                dsimp only
                rw [if_pos (show inR _ = true from decide_eq_true (by unfold rng at hd; exact hd))]
                exact rr_div an av bn bv (an.tdiv bn) w (hide hva) (hide hvb) (bne_iff_ne.2 hb0) (beq_eq_false_iff_ne.2 hb0) hb0 (by rw [IntKind.wrap_i64]; unfold rng at hd; omega)
            · by_cases hb0 : bn = 0
              · subst hb0
                exact rr_mod0 an av bv w (hide hva) (hide hvb)
              · have hd := mod_rng (a := an) r2 hb0
                rw [show numP 10 an bn = some (an.tmod bn) by unfold numP; rw [if_neg (by decide), if_neg (by decide), if_neg (by decide), if_neg (by decide), if_pos rfl, if_pos hb0]]
                dsimp only
                rw [if_pos (show inR _ = true from decide_eq_true (by unfold rng at hd; exact hd))]
                exact rr_mod an av bn bv (an.tmod bn) w (hide hva) (hide hvb) (bne_iff_ne.2 hb0) (beq_eq_false_iff_ne.2 hb0) hb0 rfl
            · exact absurd rfl ho
          · rw [ar_nuln ho (fun h => kb h.2)]
            obtain ⟨ak, an, av⟩ := a
            dsimp only at *
            subst ka
            exact rr_4 op an av _ _ _ w (hide hva) (hide hvb) hob (bne_iff_ne.2 kb)
        · rw [ar_nuln ho (fun h => ka h.1)]
          exact rr_3 op _ _ _ _ _ _ w (hide hva) (hide hvb) hob (bne_iff_ne.2 ka)
end Go.Proofs.YtlkhiihehaiinaaDoor

/- fault.fits, fault.inverted, fault.applied. -/
import Derived.Test.YtlkhiihehaiinaaDoorFEv
import Derived.Test.YtlkhiihehaiinaaDoorFOnA
namespace Go.Proofs.YtlkhiihehaiinaaDoor
open Go.RowKit

def fitsB (op : Int) (n : Nat) : Bool :=
  if op = 11 ∨ op = 13 ∨ op = 21 ∨ op = 24 ∨ op = 25 then decide (n = 1) else if op = 26 then decide (n = 3) else if op = 28 then decide (2 ≤ n) else decide (6 ≤ op ∧ op ≤ 28 ∧ n = 2)
theorem cast_beq (n k : Nat) : (((n : Int) == (k : Int)) : Bool) = decide (n = k) := by
  by_cases h : n = k
  · rw [decide_eq_true h, h]; simp
  · rw [decide_eq_false h]; exact beq_eq_false_iff_ne.2 (by omega)

set_option maxRecDepth 100000 in
set_option maxHeartbeats 1000000 in
theorem fits_11 (typ num : Int) (text : ByteArray) (col : Int) (ko : Option Addr) (n kc : Nat) (w : World) : Calls Tryd.prog 49 #[.agg #[.int .i64 11, .int .i64 typ, .int .i64 num, .string text, .int .i64 col, .slice ko n kc]] w fun e w' => e = .returned (.bool ((n : Int) == 1)) ∧ Below w.heap.size w w' := by
  go_enter Tryd.func49, Tryd.ntmps49
  go_wp2
  all_goals go_ret
  all_goals exact ⟨retb (by simp [*]; try omega), belA _⟩

set_option maxRecDepth 100000 in
set_option maxHeartbeats 1000000 in
theorem fits_13 (typ num : Int) (text : ByteArray) (col : Int) (ko : Option Addr) (n kc : Nat) (w : World) : Calls Tryd.prog 49 #[.agg #[.int .i64 13, .int .i64 typ, .int .i64 num, .string text, .int .i64 col, .slice ko n kc]] w fun e w' => e = .returned (.bool ((n : Int) == 1)) ∧ Below w.heap.size w w' := by
  go_enter Tryd.func49, Tryd.ntmps49
  go_wp2
  all_goals go_ret
  all_goals exact ⟨retb (by simp [*]; try omega), belA _⟩

set_option maxRecDepth 100000 in
set_option maxHeartbeats 1000000 in
theorem fits_21 (typ num : Int) (text : ByteArray) (col : Int) (ko : Option Addr) (n kc : Nat) (w : World) : Calls Tryd.prog 49 #[.agg #[.int .i64 21, .int .i64 typ, .int .i64 num, .string text, .int .i64 col, .slice ko n kc]] w fun e w' => e = .returned (.bool ((n : Int) == 1)) ∧ Below w.heap.size w w' := by
  go_enter Tryd.func49, Tryd.ntmps49
  go_wp2
  all_goals go_ret
  all_goals exact ⟨retb (by simp [*]; try omega), belA _⟩

set_option maxRecDepth 100000 in
set_option maxHeartbeats 1000000 in
theorem fits_24 (typ num : Int) (text : ByteArray) (col : Int) (ko : Option Addr) (n kc : Nat) (w : World) : Calls Tryd.prog 49 #[.agg #[.int .i64 24, .int .i64 typ, .int .i64 num, .string text, .int .i64 col, .slice ko n kc]] w fun e w' => e = .returned (.bool ((n : Int) == 1)) ∧ Below w.heap.size w w' := by
  go_enter Tryd.func49, Tryd.ntmps49
  go_wp2
  all_goals go_ret
  all_goals exact ⟨retb (by simp [*]; try omega), belA _⟩

set_option maxRecDepth 100000 in
set_option maxHeartbeats 1000000 in
theorem fits_25 (typ num : Int) (text : ByteArray) (col : Int) (ko : Option Addr) (n kc : Nat) (w : World) : Calls Tryd.prog 49 #[.agg #[.int .i64 25, .int .i64 typ, .int .i64 num, .string text, .int .i64 col, .slice ko n kc]] w fun e w' => e = .returned (.bool ((n : Int) == 1)) ∧ Below w.heap.size w w' := by
  go_enter Tryd.func49, Tryd.ntmps49
  go_wp2
  all_goals go_ret
  all_goals exact ⟨retb (by simp [*]; try omega), belA _⟩

set_option maxRecDepth 100000 in
set_option maxHeartbeats 1000000 in
theorem fits_26 (typ num : Int) (text : ByteArray) (col : Int) (ko : Option Addr) (n kc : Nat) (w : World) : Calls Tryd.prog 49 #[.agg #[.int .i64 26, .int .i64 typ, .int .i64 num, .string text, .int .i64 col, .slice ko n kc]] w fun e w' => e = .returned (.bool ((n : Int) == 3)) ∧ Below w.heap.size w w' := by
  go_enter Tryd.func49, Tryd.ntmps49
  go_wp2
  all_goals go_ret
  all_goals exact ⟨retb (by simp [*]; try omega), belA _⟩

set_option maxRecDepth 100000 in
set_option maxHeartbeats 1000000 in
theorem fits_28 (typ num : Int) (text : ByteArray) (col : Int) (ko : Option Addr) (n kc : Nat) (w : World) : Calls Tryd.prog 49 #[.agg #[.int .i64 28, .int .i64 typ, .int .i64 num, .string text, .int .i64 col, .slice ko n kc]] w fun e w' => e = .returned (.bool (decide ((2 : Int) ≤ n))) ∧ Below w.heap.size w w' := by
  go_enter Tryd.func49, Tryd.ntmps49
  go_wp2
  all_goals go_ret
  all_goals exact ⟨retb (by simp [*]; try omega), belA _⟩

set_option maxRecDepth 100000 in
set_option maxHeartbeats 1000000 in
theorem fits_lo (op typ num : Int) (text : ByteArray) (col : Int) (ko : Option Addr) (n kc : Nat) (w : World) (h : ¬ (6 : Int) ≤ op) (b11 : (op == 11) = false) (b13 : (op == 13) = false) (b21 : (op == 21) = false) (b24 : (op == 24) = false) (b25 : (op == 25) = false) (b26 : (op == 26) = false) (b28 : (op == 28) = false): Calls Tryd.prog 49 #[.agg #[.int .i64 op, .int .i64 typ, .int .i64 num, .string text, .int .i64 col, .slice ko n kc]] w fun e w' => e = .returned (.bool false) ∧ Below w.heap.size w w' := by
  go_enter Tryd.func49, Tryd.ntmps49
  go_wp2
  all_goals go_ret
  all_goals exact ⟨retb (by simp [*]; try omega), belA _⟩

set_option maxRecDepth 100000 in
set_option maxHeartbeats 1000000 in
theorem fits_hi (op typ num : Int) (text : ByteArray) (col : Int) (ko : Option Addr) (n kc : Nat) (w : World) (h1 : (6 : Int) ≤ op) (h : ¬ op ≤ 28) (b11 : (op == 11) = false) (b13 : (op == 13) = false) (b21 : (op == 21) = false) (b24 : (op == 24) = false) (b25 : (op == 25) = false) (b26 : (op == 26) = false) (b28 : (op == 28) = false): Calls Tryd.prog 49 #[.agg #[.int .i64 op, .int .i64 typ, .int .i64 num, .string text, .int .i64 col, .slice ko n kc]] w fun e w' => e = .returned (.bool false) ∧ Below w.heap.size w w' := by
  go_enter Tryd.func49, Tryd.ntmps49
  go_wp2
  all_goals go_ret
  all_goals exact ⟨retb (by simp [*]; try omega), belA _⟩

set_option maxRecDepth 100000 in
set_option maxHeartbeats 1000000 in
theorem fits_in (op typ num : Int) (text : ByteArray) (col : Int) (ko : Option Addr) (n kc : Nat) (w : World) (h1 : (6 : Int) ≤ op) (h : op ≤ 28) (b11 : (op == 11) = false) (b13 : (op == 13) = false) (b21 : (op == 21) = false) (b24 : (op == 24) = false) (b25 : (op == 25) = false) (b26 : (op == 26) = false) (b28 : (op == 28) = false): Calls Tryd.prog 49 #[.agg #[.int .i64 op, .int .i64 typ, .int .i64 num, .string text, .int .i64 col, .slice ko n kc]] w fun e w' => e = .returned (.bool ((n : Int) == 2)) ∧ Below w.heap.size w w' := by
  go_enter Tryd.func49, Tryd.ntmps49
  go_wp2
  all_goals go_ret
  all_goals exact ⟨retb (by simp [*]; try omega), belA _⟩

theorem fits_any (op typ num : Int) (text : ByteArray) (col : Int) (ko : Option Addr) (n kc : Nat) (w : World) : Calls Tryd.prog 49 #[.agg #[.int .i64 op, .int .i64 typ, .int .i64 num, .string text, .int .i64 col, .slice ko n kc]] w fun e w' => e = .returned (.bool (fitsB op n)) ∧ Below w.heap.size w w' := by
  unfold fitsB
  by_cases h11 : op = 11
  · subst h11
    rw [if_pos (by omega), ← cast_beq]
    exact fits_11 typ num text col ko n kc w
  by_cases h13 : op = 13
  · subst h13
    rw [if_pos (by omega), ← cast_beq]
    exact fits_13 typ num text col ko n kc w
  by_cases h21 : op = 21
  · subst h21
    rw [if_pos (by omega), ← cast_beq]
    exact fits_21 typ num text col ko n kc w
  by_cases h24 : op = 24
  · subst h24
    rw [if_pos (by omega), ← cast_beq]
    exact fits_24 typ num text col ko n kc w
  by_cases h25 : op = 25
  · subst h25
    rw [if_pos (by omega), ← cast_beq]
    exact fits_25 typ num text col ko n kc w
  rw [if_neg (by omega)]
  by_cases h26 : op = 26
  · subst h26
    rw [if_pos rfl, ← cast_beq]
    exact fits_26 typ num text col ko n kc w
  rw [if_neg h26]
  by_cases h28 : op = 28
  · subst h28
    rw [if_pos rfl]
    refine (fits_28 typ num text col ko n kc w).mono ?_
    rintro e w' ⟨rfl, hb⟩
    refine ⟨?_, hb⟩
    by_cases h2 : 2 ≤ n
    · rw [decide_eq_true h2, decide_eq_true (by omega)]
    · rw [decide_eq_false h2, decide_eq_false (by omega)]
  rw [if_neg h28]
  have c11 := beq_eq_false_iff_ne.2 h11
  have c13 := beq_eq_false_iff_ne.2 h13
  have c21 := beq_eq_false_iff_ne.2 h21
  have c24 := beq_eq_false_iff_ne.2 h24
  have c25 := beq_eq_false_iff_ne.2 h25
  have c26 := beq_eq_false_iff_ne.2 h26
  have c28 := beq_eq_false_iff_ne.2 h28
  by_cases h6 : 6 ≤ op
  · by_cases h29 : op ≤ 28
    · have e1 : decide (6 ≤ op ∧ op ≤ 28 ∧ n = 2) = decide (n = 2) := by simp [h6, h29]
      rw [e1, ← cast_beq]
      exact fits_in op typ num text col ko n kc w h6 h29 c11 c13 c21 c24 c25 c26 c28
    · rw [decide_eq_false (by omega)]
      exact fits_hi op typ num text col ko n kc w h6 h29 c11 c13 c21 c24 c25 c26 c28
  · rw [decide_eq_false (by omega)]
    exact fits_lo op typ num text col ko n kc w h6 c11 c13 c21 c24 c25 c26 c28

noncomputable def invV (v : V) : V := if v.kind = 2 then notV v else if v.kind = 1 then arithV 6 v ⟨1, 1, ⟨#[]⟩⟩ else if v.kind = 3 then arithV 12 v ⟨3, 0, ⟨#[33]⟩⟩ else v
theorem inv_wf {v : V} (h : v.wf) : (invV v).wf := ite_wf (not_wf _) (ite_wf (arith_wf _) (ite_wf (arith_wf _) h))

set_option maxRecDepth 100000 in
set_option maxHeartbeats 2000000 in
theorem inv_any (v : V) (hv : v.wf) (w : World) (hw : NulAt w) : Calls Tryd.prog 56 #[.agg #[.int .i64 v.kind, .int .i64 v.num, .string v.text]] w fun e w' => e = .returned (.agg #[.int .i64 (invV v).kind, .int .i64 (invV v).num, .string (invV v).text]) ∧ Below w.heap.size w w' := by
  have HV := hide hv
  obtain ⟨k, n, s⟩ := v
  have HW := hide (hw.mono (belAA (w := w) (.cells #[.int .i64 k, .int .i64 n, .string s] 24) (.cells #[.int .i64 0, .int .i64 0, .string ⟨#[]⟩] 24)))
  clear hw hv
  by_cases h2 : k = 2
  · subst h2
    rw [show invV ⟨2, n, s⟩ = notV ⟨2, n, s⟩ from rfl]
    go_enter Tryd.func56, Tryd.ntmps56
    go_wp2_with (go_at_call 75; refine (vnot_any ⟨2, n, s⟩ _ HW.out).mono ?_; rintro e x ⟨rfl, hb⟩; have HB := hide hb; have hq := (boxes2 HB.out).2.1; have e0 := hq.cell (j := 0) rfl; have f0 := hq.fr 0; have e1 := hq.cell (j := 1) rfl; have f1 := hq.fr 1; have e2 := hq.cell (j := 2) rfl; have f2 := hq.fr 2; clear hb hq)
    exact bodyPost_ret (v := .agg #[.int .i64 (notV ⟨2, n, s⟩).kind, .int .i64 (notV ⟨2, n, s⟩).num, .string (notV ⟨2, n, s⟩).text]) (by simp [results, Tryd.results56, go_sem, e0, e1, e2]) rfl ⟨rfl, belset3 (bel2 HB.out) (Nat.le_refl _) (Nat.le_succ _) _ _ _⟩
  by_cases h1 : k = 1
  · subst h1
    rw [show invV ⟨1, n, s⟩ = arithV 6 ⟨1, n, s⟩ ⟨1, 1, ⟨#[]⟩⟩ from rfl]
    go_enter Tryd.func56, Tryd.ntmps56
    go_wp2_with (go_at_call 76; refine (varith_any 6 ⟨1, n, s⟩ ⟨1, 1, ⟨#[]⟩⟩ HV.out (numV_wf (i64_lit rfl)) _ HW.out).mono ?_; rintro e x ⟨rfl, hb⟩; have HB := hide hb; have hq := (boxes2 HB.out).2.1; have e0 := hq.cell (j := 0) rfl; have f0 := hq.fr 0; have e1 := hq.cell (j := 1) rfl; have f1 := hq.fr 1; have e2 := hq.cell (j := 2) rfl; have f2 := hq.fr 2; clear hb hq)
    exact bodyPost_ret (v := .agg #[.int .i64 (arithV 6 ⟨1, n, s⟩ ⟨1, 1, ⟨#[]⟩⟩).kind, .int .i64 (arithV 6 ⟨1, n, s⟩ ⟨1, 1, ⟨#[]⟩⟩).num, .string (arithV 6 ⟨1, n, s⟩ ⟨1, 1, ⟨#[]⟩⟩).text]) (by simp [results, Tryd.results56, go_sem, e0, e1, e2]) rfl ⟨rfl, belset3 (bel2 HB.out) (Nat.le_refl _) (Nat.le_succ _) _ _ _⟩
  by_cases h3 : k = 3
  · subst h3
    rw [show invV ⟨3, n, s⟩ = arithV 12 ⟨3, n, s⟩ ⟨3, 0, ⟨#[33]⟩⟩ from rfl]
    go_enter Tryd.func56, Tryd.ntmps56
    go_wp2_with (go_at_call 76; refine (varith_any 12 ⟨3, n, s⟩ ⟨3, 0, ⟨#[33]⟩⟩ HV.out (txtV_wf (by decide)) _ HW.out).mono ?_; rintro e x ⟨rfl, hb⟩; have HB := hide hb; have hq := (boxes2 HB.out).2.1; have e0 := hq.cell (j := 0) rfl; have f0 := hq.fr 0; have e1 := hq.cell (j := 1) rfl; have f1 := hq.fr 1; have e2 := hq.cell (j := 2) rfl; have f2 := hq.fr 2; clear hb hq)
    exact bodyPost_ret (v := .agg #[.int .i64 (arithV 12 ⟨3, n, s⟩ ⟨3, 0, ⟨#[33]⟩⟩).kind, .int .i64 (arithV 12 ⟨3, n, s⟩ ⟨3, 0, ⟨#[33]⟩⟩).num, .string (arithV 12 ⟨3, n, s⟩ ⟨3, 0, ⟨#[33]⟩⟩).text]) (by simp [results, Tryd.results56, go_sem, e0, e1, e2]) rfl ⟨rfl, belset3 (bel2 HB.out) (Nat.le_refl _) (Nat.le_succ _) _ _ _⟩
  · rw [show invV ⟨k, n, s⟩ = ⟨k, n, s⟩ from by unfold invV; rw [if_neg h2, if_neg h1, if_neg h3]]
    have c1 := beq_eq_false_iff_ne.2 h1
    have c2 := beq_eq_false_iff_ne.2 h2
    have c3 := beq_eq_false_iff_ne.2 h3
    clear h1 h2 h3
    go_enter Tryd.func56, Tryd.ntmps56
    go_wp2
    exact bodyPost_ret (v := .agg #[.int .i64 k, .int .i64 n, .string s]) (by simp [results, Tryd.results56, go_sem]) rfl ⟨rfl, belAA _ _⟩
end Go.Proofs.YtlkhiihehaiinaaDoor

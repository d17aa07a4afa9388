/- value.Valid, ref01.Valid at any value. -/
import Derived.Test.YtlkhiihehaiinaaDoorText
namespace Go.Proofs.YtlkhiihehaiinaaDoor
open Go.RowKit

/-- A value is valid. -/
noncomputable def validV (v : V) : Bool := if v.kind = 0 then (v.num == 0) && (v.text.toList == []) else if v.kind = 1 then inR v.num && (v.text.toList == []) else if v.kind = 2 then in01 v.num && (v.text.toList == []) else if v.kind = 3 then (v.num == 0) && txt v.text else false

set_option maxRecDepth 100000 in
set_option maxHeartbeats 2000000 in
theorem vval_0 (n : Int) (s : ByteArray) (w : World) :
    Calls Tryd.prog 89 #[.agg #[.int .i64 0, .int .i64 n, .string s]] w fun e w' => e = .returned (.bool ((n == 0) && (s.toList == []))) ∧ Below w.heap.size w w' := by
  go_enter Tryd.func89, Tryd.ntmps89
  go_wp2
  all_goals go_ret
  all_goals first
    | exact ⟨retb (by simp [*]; try omega), belA _⟩
    | exact ⟨retb (by simp [*]; try omega), belAA _ _⟩
    | exact ⟨retb (by simp [*]; try omega), Below.refl _ _⟩
    | trace_state

set_option maxRecDepth 100000 in
set_option maxHeartbeats 2000000 in
theorem vval_1 (n : Int) (s : ByteArray) (w : World) :
    Calls Tryd.prog 89 #[.agg #[.int .i64 1, .int .i64 n, .string s]] w fun e w' => e = .returned (.bool (inR n && (s.toList == []))) ∧ Below w.heap.size w w' := by
  go_enter Tryd.func89, Tryd.ntmps89
  go_wp2
  all_goals go_ret
  all_goals first
    | exact ⟨retb (by simp [*, inR]; try omega), belA _⟩
    | exact ⟨retb (by simp [*, inR]; try omega), belAA _ _⟩
    | exact ⟨retb (by simp [*, inR]; try omega), Below.refl _ _⟩
    | trace_state

set_option maxRecDepth 100000 in
set_option maxHeartbeats 2000000 in
theorem vval_2 (n : Int) (s : ByteArray) (w : World) :
    Calls Tryd.prog 89 #[.agg #[.int .i64 2, .int .i64 n, .string s]] w fun e w' => e = .returned (.bool (in01 n && (s.toList == []))) ∧ Below w.heap.size w w' := by
  by_cases h0 : n = 0
  · subst h0
    rw [show in01 0 = true from rfl]
    go_enter Tryd.func89, Tryd.ntmps89
    go_wp2
    all_goals go_ret
    all_goals first
      | exact ⟨retb (by simp [*]; try omega), belA _⟩
      | exact ⟨retb (by simp [*]; try omega), belAA _ _⟩
      | exact ⟨retb (by simp [*]; try omega), Below.refl _ _⟩
      | trace_state
  by_cases h1 : n = 1
  · subst h1
    rw [show in01 1 = true from rfl]
    go_enter Tryd.func89, Tryd.ntmps89
    go_wp2
    all_goals go_ret
    all_goals first
      | exact ⟨retb (by simp [*]; try omega), belA _⟩
      | exact ⟨retb (by simp [*]; try omega), belAA _ _⟩
      | exact ⟨retb (by simp [*]; try omega), Below.refl _ _⟩
      | trace_state
  · have b0 : (n == 0) = false := beq_eq_false_iff_ne.2 h0
    have b1 : (n == 1) = false := beq_eq_false_iff_ne.2 h1
    have c0 : (n != 0) = true := bne_iff_ne.2 h0
    have c1 : (n != 1) = true := bne_iff_ne.2 h1
    rw [show in01 n = false from decide_eq_false (by omega)]
    clear h0 h1
    go_enter Tryd.func89, Tryd.ntmps89
    go_wp2
    all_goals go_ret
    all_goals first
      | exact ⟨retb (by simp [*]; try omega), belA _⟩
      | exact ⟨retb (by simp [*]; try omega), belAA _ _⟩
      | exact ⟨retb (by simp [*]; try omega), Below.refl _ _⟩
      | trace_state

set_option maxRecDepth 100000 in
set_option maxHeartbeats 2000000 in
theorem vval_3 (n : Int) (s : ByteArray) (w : World) (hs : s.size ≤ maxLen) :
    Calls Tryd.prog 89 #[.agg #[.int .i64 3, .int .i64 n, .string s]] w fun e w' => e = .returned (.bool ((n == 0) && txt s)) ∧ Below w.heap.size w w' := by
  by_cases h0 : n = 0
  · subst h0
    exact (vvalid_text s w hs).mono fun e w' ⟨h, hb⟩ => ⟨by rw [h]; rfl, hb⟩
  · have b0 : (n == 0) = false := beq_eq_false_iff_ne.2 h0
    have c0 : (n != 0) = true := bne_iff_ne.2 h0
    clear h0
    go_enter Tryd.func89, Tryd.ntmps89
    go_wp2
    all_goals go_ret
    all_goals first
      | exact ⟨retb (by simp [*]; try omega), belA _⟩
      | exact ⟨retb (by simp [*]; try omega), belAA _ _⟩
      | exact ⟨retb (by simp [*]; try omega), Below.refl _ _⟩
      | trace_state

set_option maxRecDepth 100000 in
set_option maxHeartbeats 2000000 in
theorem vval_no (k n : Int) (s : ByteArray) (w : World) (h0 : k ≠ 0) (h1 : k ≠ 1) (h2 : k ≠ 2) (h3 : k ≠ 3) :
    Calls Tryd.prog 89 #[.agg #[.int .i64 k, .int .i64 n, .string s]] w fun e w' => e = .returned (.bool false) ∧ Below w.heap.size w w' := by
  have b0 : (k == 0) = false := beq_eq_false_iff_ne.2 h0
  have b1 : (k == 1) = false := beq_eq_false_iff_ne.2 h1
  have b2 : (k == 2) = false := beq_eq_false_iff_ne.2 h2
  have b3 : (k == 3) = false := beq_eq_false_iff_ne.2 h3
  go_enter Tryd.func89, Tryd.ntmps89
  go_wp2
  all_goals go_ret
  all_goals first
    | exact ⟨retb (by simp [*]; try omega), belA _⟩
    | exact ⟨retb (by simp [*]; try omega), belAA _ _⟩
    | exact ⟨retb (by simp [*]; try omega), Below.refl _ _⟩
    | trace_state

theorem vval_any (v : V) (hv : v.wf) (w : World) :
    Calls Tryd.prog 89 #[.agg #[.int .i64 v.kind, .int .i64 v.num, .string v.text]] w fun e w' => e = .returned (.bool (validV v)) ∧ Below w.heap.size w w' := by
  obtain ⟨k, n, s⟩ := v
  have hs : s.size ≤ maxLen := hv.2.2
  by_cases h0 : k = 0
  · subst h0; exact vval_0 n s w
  by_cases h1 : k = 1
  · subst h1; exact vval_1 n s w
  by_cases h2 : k = 2
  · subst h2; exact vval_2 n s w
  by_cases h3 : k = 3
  · subst h3; exact vval_3 n s w hs
  · have e : validV ⟨k, n, s⟩ = false := by unfold validV; rw [if_neg h0, if_neg h1, if_neg h2, if_neg h3]
    rw [e]
    exact vval_no k n s w h0 h1 h2 h3

set_option maxRecDepth 100000 in
set_option maxHeartbeats 2000000 in
theorem rval_0 (n : Int) (s : ByteArray) (w : World) :
    Calls Tryd.prog 57 #[.agg #[.int .i64 0, .int .i64 n, .string s]] w fun e w' => e = .returned (.bool ((n == 0) && (s.toList == []))) ∧ Below w.heap.size w w' := by
  go_enter Tryd.func57, Tryd.ntmps57
  go_wp2
  all_goals go_ret
  all_goals first
    | exact ⟨retb (by simp [*]; try omega), belA _⟩
    | exact ⟨retb (by simp [*]; try omega), belAA _ _⟩
    | exact ⟨retb (by simp [*]; try omega), Below.refl _ _⟩
    | trace_state

set_option maxRecDepth 100000 in
set_option maxHeartbeats 2000000 in
theorem rval_1 (n : Int) (s : ByteArray) (w : World) :
    Calls Tryd.prog 57 #[.agg #[.int .i64 1, .int .i64 n, .string s]] w fun e w' => e = .returned (.bool (inR n && (s.toList == []))) ∧ Below w.heap.size w w' := by
  go_enter Tryd.func57, Tryd.ntmps57
  go_wp2
  all_goals go_ret
  all_goals first
    | exact ⟨retb (by simp [*, inR]; try omega), belA _⟩
    | exact ⟨retb (by simp [*, inR]; try omega), belAA _ _⟩
    | exact ⟨retb (by simp [*, inR]; try omega), Below.refl _ _⟩
    | trace_state

set_option maxRecDepth 100000 in
set_option maxHeartbeats 2000000 in
theorem rval_2 (n : Int) (s : ByteArray) (w : World) :
    Calls Tryd.prog 57 #[.agg #[.int .i64 2, .int .i64 n, .string s]] w fun e w' => e = .returned (.bool (in01 n && (s.toList == []))) ∧ Below w.heap.size w w' := by
  by_cases h0 : n = 0
  · subst h0
    rw [show in01 0 = true from rfl]
    go_enter Tryd.func57, Tryd.ntmps57
    go_wp2
    all_goals go_ret
    all_goals first
      | exact ⟨retb (by simp [*]; try omega), belA _⟩
      | exact ⟨retb (by simp [*]; try omega), belAA _ _⟩
      | exact ⟨retb (by simp [*]; try omega), Below.refl _ _⟩
      | trace_state
  by_cases h1 : n = 1
  · subst h1
    rw [show in01 1 = true from rfl]
    go_enter Tryd.func57, Tryd.ntmps57
    go_wp2
    all_goals go_ret
    all_goals first
      | exact ⟨retb (by simp [*]; try omega), belA _⟩
      | exact ⟨retb (by simp [*]; try omega), belAA _ _⟩
      | exact ⟨retb (by simp [*]; try omega), Below.refl _ _⟩
      | trace_state
  · have b0 : (n == 0) = false := beq_eq_false_iff_ne.2 h0
    have b1 : (n == 1) = false := beq_eq_false_iff_ne.2 h1
    have c0 : (n != 0) = true := bne_iff_ne.2 h0
    have c1 : (n != 1) = true := bne_iff_ne.2 h1
    rw [show in01 n = false from decide_eq_false (by omega)]
    clear h0 h1
    go_enter Tryd.func57, Tryd.ntmps57
    go_wp2
    all_goals go_ret
    all_goals first
      | exact ⟨retb (by simp [*]; try omega), belA _⟩
      | exact ⟨retb (by simp [*]; try omega), belAA _ _⟩
      | exact ⟨retb (by simp [*]; try omega), Below.refl _ _⟩
      | trace_state

set_option maxRecDepth 100000 in
set_option maxHeartbeats 2000000 in
theorem rval_3 (n : Int) (s : ByteArray) (w : World) (hs : s.size ≤ maxLen) :
    Calls Tryd.prog 57 #[.agg #[.int .i64 3, .int .i64 n, .string s]] w fun e w' => e = .returned (.bool ((n == 0) && txt s)) ∧ Below w.heap.size w w' := by
  by_cases h0 : n = 0
  · subst h0
    exact (rvalid_text s w hs).mono fun e w' ⟨h, hb⟩ => ⟨by rw [h]; rfl, hb⟩
  · have b0 : (n == 0) = false := beq_eq_false_iff_ne.2 h0
    have c0 : (n != 0) = true := bne_iff_ne.2 h0
    clear h0
    go_enter Tryd.func57, Tryd.ntmps57
    go_wp2
    all_goals go_ret
    all_goals first
      | exact ⟨retb (by simp [*]; try omega), belA _⟩
      | exact ⟨retb (by simp [*]; try omega), belAA _ _⟩
      | exact ⟨retb (by simp [*]; try omega), Below.refl _ _⟩
      | trace_state

set_option maxRecDepth 100000 in
set_option maxHeartbeats 2000000 in
theorem rval_no (k n : Int) (s : ByteArray) (w : World) (h0 : k ≠ 0) (h1 : k ≠ 1) (h2 : k ≠ 2) (h3 : k ≠ 3) :
    Calls Tryd.prog 57 #[.agg #[.int .i64 k, .int .i64 n, .string s]] w fun e w' => e = .returned (.bool false) ∧ Below w.heap.size w w' := by
  have b0 : (k == 0) = false := beq_eq_false_iff_ne.2 h0
  have b1 : (k == 1) = false := beq_eq_false_iff_ne.2 h1
  have b2 : (k == 2) = false := beq_eq_false_iff_ne.2 h2
  have b3 : (k == 3) = false := beq_eq_false_iff_ne.2 h3
  go_enter Tryd.func57, Tryd.ntmps57
  go_wp2
  all_goals go_ret
  all_goals first
    | exact ⟨retb (by simp [*]; try omega), belA _⟩
    | exact ⟨retb (by simp [*]; try omega), belAA _ _⟩
    | exact ⟨retb (by simp [*]; try omega), Below.refl _ _⟩
    | trace_state

theorem rval_any (v : V) (hv : v.wf) (w : World) :
    Calls Tryd.prog 57 #[.agg #[.int .i64 v.kind, .int .i64 v.num, .string v.text]] w fun e w' => e = .returned (.bool (validV v)) ∧ Below w.heap.size w w' := by
  obtain ⟨k, n, s⟩ := v
  have hs : s.size ≤ maxLen := hv.2.2
  by_cases h0 : k = 0
  · subst h0; exact rval_0 n s w
  by_cases h1 : k = 1
  · subst h1; exact rval_1 n s w
  by_cases h2 : k = 2
  · subst h2; exact rval_2 n s w
  by_cases h3 : k = 3
  · subst h3; exact rval_3 n s w hs
  · have e : validV ⟨k, n, s⟩ = false := by unfold validV; rw [if_neg h0, if_neg h1, if_neg h2, if_neg h3]
    rw [e]
    exact rval_no k n s w h0 h1 h2 h3

end Go.Proofs.YtlkhiihehaiinaaDoor

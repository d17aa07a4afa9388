/- fault.fits, fault.inverted, fault.applied. -/
import Derived.Test.YtlkhiihehaiinaaDoorFEvK
import Derived.Test.YtlkhiihehaiinaaDoorGJ
import Derived.Deep.QuietTactic
import Derived.BigQuiet
import Derived.Deep.RegionHeld3
namespace Go.Proofs.YtlkhiihehaiinaaDoor
open Go.RowKit

def fitsB (op : Int) (n : Nat) : Bool :=
  if op = 11 ∨ op = 13 ∨ op = 21 ∨ op = 24 ∨ op = 25 then decide (n = 1) else if op = 26 then decide (n = 3) else if op = 28 then decide (2 ≤ n) else decide (6 ≤ op ∧ op ≤ 28 ∧ n = 2)
theorem cast_beq (n k : Nat) : (((n : Int) == (k : Int)) : Bool) = decide (n = k) := by
  by_cases h : n = k
  · rw [decide_eq_true h, h]; simp
  · rw [decide_eq_false h]; exact beq_eq_false_iff_ne.2 (by omega)

set_option maxRecDepth 100000 in
set_option maxHeartbeats 1000000 in
theorem fits_11 (typ num : Int) (text : ByteArray) (col : Int) (ko : Option Addr) (n kc : Nat) (w : World) : Calls Tryd.prog 49 #[.agg #[.int .i64 11, .int .i64 typ, .int .i64 num, .string text, .int .i64 col, .slice ko n kc]] w fun e w' => e = .returned (.bool ((n : Int) == 1)) ∧ Below w.heap.size w w' := by
  go_enter Tryd.func49, Tryd.ntmps49
  go_wp2
  all_goals go_ret
  all_goals exact ⟨retb (by simp [*]; try omega), belA _⟩

set_option maxRecDepth 100000 in
set_option maxHeartbeats 1000000 in
theorem fits_13 (typ num : Int) (text : ByteArray) (col : Int) (ko : Option Addr) (n kc : Nat) (w : World) : Calls Tryd.prog 49 #[.agg #[.int .i64 13, .int .i64 typ, .int .i64 num, .string text, .int .i64 col, .slice ko n kc]] w fun e w' => e = .returned (.bool ((n : Int) == 1)) ∧ Below w.heap.size w w' := by
  go_enter Tryd.func49, Tryd.ntmps49
  go_wp2
  all_goals go_ret
  all_goals exact ⟨retb (by simp [*]; try omega), belA _⟩

set_option maxRecDepth 100000 in
set_option maxHeartbeats 1000000 in
theorem fits_21 (typ num : Int) (text : ByteArray) (col : Int) (ko : Option Addr) (n kc : Nat) (w : World) : Calls Tryd.prog 49 #[.agg #[.int .i64 21, .int .i64 typ, .int .i64 num, .string text, .int .i64 col, .slice ko n kc]] w fun e w' => e = .returned (.bool ((n : Int) == 1)) ∧ Below w.heap.size w w' := by
  go_enter Tryd.func49, Tryd.ntmps49
  go_wp2
  all_goals go_ret
  all_goals exact ⟨retb (by simp [*]; try omega), belA _⟩

set_option maxRecDepth 100000 in
set_option maxHeartbeats 1000000 in
theorem fits_24 (typ num : Int) (text : ByteArray) (col : Int) (ko : Option Addr) (n kc : Nat) (w : World) : Calls Tryd.prog 49 #[.agg #[.int .i64 24, .int .i64 typ, .int .i64 num, .string text, .int .i64 col, .slice ko n kc]] w fun e w' => e = .returned (.bool ((n : Int) == 1)) ∧ Below w.heap.size w w' := by
  go_enter Tryd.func49, Tryd.ntmps49
  go_wp2
  all_goals go_ret
  all_goals exact ⟨retb (by simp [*]; try omega), belA _⟩

set_option maxRecDepth 100000 in
set_option maxHeartbeats 1000000 in
theorem fits_25 (typ num : Int) (text : ByteArray) (col : Int) (ko : Option Addr) (n kc : Nat) (w : World) : Calls Tryd.prog 49 #[.agg #[.int .i64 25, .int .i64 typ, .int .i64 num, .string text, .int .i64 col, .slice ko n kc]] w fun e w' => e = .returned (.bool ((n : Int) == 1)) ∧ Below w.heap.size w w' := by
  go_enter Tryd.func49, Tryd.ntmps49
  go_wp2
  all_goals go_ret
  all_goals exact ⟨retb (by simp [*]; try omega), belA _⟩

set_option maxRecDepth 100000 in
set_option maxHeartbeats 1000000 in
theorem fits_26 (typ num : Int) (text : ByteArray) (col : Int) (ko : Option Addr) (n kc : Nat) (w : World) : Calls Tryd.prog 49 #[.agg #[.int .i64 26, .int .i64 typ, .int .i64 num, .string text, .int .i64 col, .slice ko n kc]] w fun e w' => e = .returned (.bool ((n : Int) == 3)) ∧ Below w.heap.size w w' := by
  go_enter Tryd.func49, Tryd.ntmps49
  go_wp2
  all_goals go_ret
  all_goals exact ⟨retb (by simp [*]; try omega), belA _⟩

set_option maxRecDepth 100000 in
set_option maxHeartbeats 1000000 in
theorem fits_28 (typ num : Int) (text : ByteArray) (col : Int) (ko : Option Addr) (n kc : Nat) (w : World) : Calls Tryd.prog 49 #[.agg #[.int .i64 28, .int .i64 typ, .int .i64 num, .string text, .int .i64 col, .slice ko n kc]] w fun e w' => e = .returned (.bool (decide ((2 : Int) ≤ n))) ∧ Below w.heap.size w w' := by
  go_enter Tryd.func49, Tryd.ntmps49
  go_wp2
  all_goals go_ret
  all_goals exact ⟨retb (by simp [*]; try omega), belA _⟩

set_option maxRecDepth 100000 in
set_option maxHeartbeats 1000000 in
theorem fits_lo (op typ num : Int) (text : ByteArray) (col : Int) (ko : Option Addr) (n kc : Nat) (w : World) (h : ¬ (6 : Int) ≤ op) (b11 : (op == 11) = false) (b13 : (op == 13) = false) (b21 : (op == 21) = false) (b24 : (op == 24) = false) (b25 : (op == 25) = false) (b26 : (op == 26) = false) (b28 : (op == 28) = false): Calls Tryd.prog 49 #[.agg #[.int .i64 op, .int .i64 typ, .int .i64 num, .string text, .int .i64 col, .slice ko n kc]] w fun e w' => e = .returned (.bool false) ∧ Below w.heap.size w w' := by
  go_enter Tryd.func49, Tryd.ntmps49
  go_wp2
  all_goals go_ret
  all_goals exact ⟨retb (by simp [*]; try omega), belA _⟩

set_option maxRecDepth 100000 in
set_option maxHeartbeats 1000000 in
theorem fits_hi (op typ num : Int) (text : ByteArray) (col : Int) (ko : Option Addr) (n kc : Nat) (w : World) (h1 : (6 : Int) ≤ op) (h : ¬ op ≤ 28) (b11 : (op == 11) = false) (b13 : (op == 13) = false) (b21 : (op == 21) = false) (b24 : (op == 24) = false) (b25 : (op == 25) = false) (b26 : (op == 26) = false) (b28 : (op == 28) = false): Calls Tryd.prog 49 #[.agg #[.int .i64 op, .int .i64 typ, .int .i64 num, .string text, .int .i64 col, .slice ko n kc]] w fun e w' => e = .returned (.bool false) ∧ Below w.heap.size w w' := by
  go_enter Tryd.func49, Tryd.ntmps49
  go_wp2
  all_goals go_ret
  all_goals exact ⟨retb (by simp [*]; try omega), belA _⟩

set_option maxRecDepth 100000 in
set_option maxHeartbeats 1000000 in
theorem fits_in (op typ num : Int) (text : ByteArray) (col : Int) (ko : Option Addr) (n kc : Nat) (w : World) (h1 : (6 : Int) ≤ op) (h : op ≤ 28) (b11 : (op == 11) = false) (b13 : (op == 13) = false) (b21 : (op == 21) = false) (b24 : (op == 24) = false) (b25 : (op == 25) = false) (b26 : (op == 26) = false) (b28 : (op == 28) = false): Calls Tryd.prog 49 #[.agg #[.int .i64 op, .int .i64 typ, .int .i64 num, .string text, .int .i64 col, .slice ko n kc]] w fun e w' => e = .returned (.bool ((n : Int) == 2)) ∧ Below w.heap.size w w' := by
  go_enter Tryd.func49, Tryd.ntmps49
  go_wp2
  all_goals go_ret
  all_goals exact ⟨retb (by simp [*]; try omega), belA _⟩

theorem fits_any (op typ num : Int) (text : ByteArray) (col : Int) (ko : Option Addr) (n kc : Nat) (w : World) : Calls Tryd.prog 49 #[.agg #[.int .i64 op, .int .i64 typ, .int .i64 num, .string text, .int .i64 col, .slice ko n kc]] w fun e w' => e = .returned (.bool (fitsB op n)) ∧ Below w.heap.size w w' := by
  unfold fitsB
  by_cases h11 : op = 11
  · subst h11
    rw [if_pos (by omega), ← cast_beq]
    exact fits_11 typ num text col ko n kc w
  by_cases h13 : op = 13
  · subst h13
    rw [if_pos (by omega), ← cast_beq]
    exact fits_13 typ num text col ko n kc w
  by_cases h21 : op = 21
  · subst h21
    rw [if_pos (by omega), ← cast_beq]
    exact fits_21 typ num text col ko n kc w
  by_cases h24 : op = 24
  · subst h24
    rw [if_pos (by omega), ← cast_beq]
    exact fits_24 typ num text col ko n kc w
  by_cases h25 : op = 25
  · subst h25
    rw [if_pos (by omega), ← cast_beq]
    exact fits_25 typ num text col ko n kc w
  rw [if_neg (by omega)]
  by_cases h26 : op = 26
  · subst h26
    rw [if_pos rfl, ← cast_beq]
    exact fits_26 typ num text col ko n kc w
  rw [if_neg h26]
  by_cases h28 : op = 28
  · subst h28
    rw [if_pos rfl]
    refine (fits_28 typ num text col ko n kc w).mono ?_
    rintro e w' ⟨rfl, hb⟩
    refine ⟨?_, hb⟩
    by_cases h2 : 2 ≤ n
    · rw [decide_eq_true h2, decide_eq_true (by omega)]
    · rw [decide_eq_false h2, decide_eq_false (by omega)]
  rw [if_neg h28]
  have c11 := beq_eq_false_iff_ne.2 h11
  have c13 := beq_eq_false_iff_ne.2 h13
  have c21 := beq_eq_false_iff_ne.2 h21
  have c24 := beq_eq_false_iff_ne.2 h24
  have c25 := beq_eq_false_iff_ne.2 h25
  have c26 := beq_eq_false_iff_ne.2 h26
  have c28 := beq_eq_false_iff_ne.2 h28
  by_cases h6 : 6 ≤ op
  · by_cases h29 : op ≤ 28
    · have e1 : decide (6 ≤ op ∧ op ≤ 28 ∧ n = 2) = decide (n = 2) := by simp [h6, h29]
      rw [e1, ← cast_beq]
      exact fits_in op typ num text col ko n kc w h6 h29 c11 c13 c21 c24 c25 c26 c28
    · rw [decide_eq_false (by omega)]
      exact fits_hi op typ num text col ko n kc w h6 h29 c11 c13 c21 c24 c25 c26 c28
  · rw [decide_eq_false (by omega)]
    exact fits_lo op typ num text col ko n kc w h6 c11 c13 c21 c24 c25 c26 c28

noncomputable def invV (v : V) : V := if v.kind = 2 then notV v else if v.kind = 1 then arithV 6 v ⟨1, 1, ⟨#[]⟩⟩ else if v.kind = 3 then arithV 12 v ⟨3, 0, ⟨#[33]⟩⟩ else v
theorem inv_wf {v : V} (h : v.wf) : (invV v).wf := ite_wf (not_wf _) (ite_wf (arith_wf _) (ite_wf (arith_wf _) h))

set_option maxRecDepth 100000 in
set_option maxHeartbeats 2000000 in
theorem inv_any (v : V) (hv : v.wf) (w : World) (hw : NulAt w) : Calls Tryd.prog 56 #[.agg #[.int .i64 v.kind, .int .i64 v.num, .string v.text]] w fun e w' => e = .returned (.agg #[.int .i64 (invV v).kind, .int .i64 (invV v).num, .string (invV v).text]) ∧ Below w.heap.size w w' := by
  have HV := hide hv
  obtain ⟨k, n, s⟩ := v
  have HW := hide (hw.mono (belAA (w := w) (.cells #[.int .i64 k, .int .i64 n, .string s] 24) (.cells #[.int .i64 0, .int .i64 0, .string ⟨#[]⟩] 24)))
  clear hw hv
  by_cases h2 : k = 2
  · subst h2
    rw [show invV ⟨2, n, s⟩ = notV ⟨2, n, s⟩ from rfl]
    go_enter Tryd.func56, Tryd.ntmps56
    go_wp2_with (go_at_call 75; refine (vnot_any ⟨2, n, s⟩ _ HW.out).mono ?_; rintro e x ⟨rfl, hb⟩; have HB := hide hb; have hq := (boxes2 HB.out).2.1; have e0 := hq.cell (j := 0) rfl; have f0 := hq.fr 0; have e1 := hq.cell (j := 1) rfl; have f1 := hq.fr 1; have e2 := hq.cell (j := 2) rfl; have f2 := hq.fr 2; clear hb hq)
    exact bodyPost_ret (v := .agg #[.int .i64 (notV ⟨2, n, s⟩).kind, .int .i64 (notV ⟨2, n, s⟩).num, .string (notV ⟨2, n, s⟩).text]) (by simp [results, Tryd.results56, go_sem, e0, e1, e2]) rfl ⟨rfl, belset3 (bel2 HB.out) (Nat.le_refl _) (Nat.le_succ _) _ _ _⟩
  by_cases h1 : k = 1
  · subst h1
    rw [show invV ⟨1, n, s⟩ = arithV 6 ⟨1, n, s⟩ ⟨1, 1, ⟨#[]⟩⟩ from rfl]
    go_enter Tryd.func56, Tryd.ntmps56
    go_wp2_with (go_at_call 76; refine (varith_any 6 ⟨1, n, s⟩ ⟨1, 1, ⟨#[]⟩⟩ HV.out (numV_wf (i64_lit rfl)) _ HW.out).mono ?_; rintro e x ⟨rfl, hb⟩; have HB := hide hb; have hq := (boxes2 HB.out).2.1; have e0 := hq.cell (j := 0) rfl; have f0 := hq.fr 0; have e1 := hq.cell (j := 1) rfl; have f1 := hq.fr 1; have e2 := hq.cell (j := 2) rfl; have f2 := hq.fr 2; clear hb hq)
    exact bodyPost_ret (v := .agg #[.int .i64 (arithV 6 ⟨1, n, s⟩ ⟨1, 1, ⟨#[]⟩⟩).kind, .int .i64 (arithV 6 ⟨1, n, s⟩ ⟨1, 1, ⟨#[]⟩⟩).num, .string (arithV 6 ⟨1, n, s⟩ ⟨1, 1, ⟨#[]⟩⟩).text]) (by simp [results, Tryd.results56, go_sem, e0, e1, e2]) rfl ⟨rfl, belset3 (bel2 HB.out) (Nat.le_refl _) (Nat.le_succ _) _ _ _⟩
  by_cases h3 : k = 3
  · subst h3
    rw [show invV ⟨3, n, s⟩ = arithV 12 ⟨3, n, s⟩ ⟨3, 0, ⟨#[33]⟩⟩ from rfl]
    go_enter Tryd.func56, Tryd.ntmps56
    go_wp2_with (go_at_call 76; refine (varith_any 12 ⟨3, n, s⟩ ⟨3, 0, ⟨#[33]⟩⟩ HV.out (txtV_wf (by decide)) _ HW.out).mono ?_; rintro e x ⟨rfl, hb⟩; have HB := hide hb; have hq := (boxes2 HB.out).2.1; have e0 := hq.cell (j := 0) rfl; have f0 := hq.fr 0; have e1 := hq.cell (j := 1) rfl; have f1 := hq.fr 1; have e2 := hq.cell (j := 2) rfl; have f2 := hq.fr 2; clear hb hq)
    exact bodyPost_ret (v := .agg #[.int .i64 (arithV 12 ⟨3, n, s⟩ ⟨3, 0, ⟨#[33]⟩⟩).kind, .int .i64 (arithV 12 ⟨3, n, s⟩ ⟨3, 0, ⟨#[33]⟩⟩).num, .string (arithV 12 ⟨3, n, s⟩ ⟨3, 0, ⟨#[33]⟩⟩).text]) (by simp [results, Tryd.results56, go_sem, e0, e1, e2]) rfl ⟨rfl, belset3 (bel2 HB.out) (Nat.le_refl _) (Nat.le_succ _) _ _ _⟩
  · rw [show invV ⟨k, n, s⟩ = ⟨k, n, s⟩ from by unfold invV; rw [if_neg h2, if_neg h1, if_neg h3]]
    have c1 := beq_eq_false_iff_ne.2 h1
    have c2 := beq_eq_false_iff_ne.2 h2
    have c3 := beq_eq_false_iff_ne.2 h3
    clear h1 h2 h3
    go_enter Tryd.func56, Tryd.ntmps56
    go_wp2
    exact bodyPost_ret (v := .agg #[.int .i64 k, .int .i64 n, .string s]) (by simp [results, Tryd.results56, go_sem]) rfl ⟨rfl, belAA _ _⟩
end Go.Proofs.YtlkhiihehaiinaaDoor

/- fault.applied: an operation on values. -/
namespace Go.Proofs.YtlkhiihehaiinaaDoor
open Go.RowKit

theorem info_ex : (Tryd.prog.info? 31).map (fun i => (i.zero, i.size, i.bytes)) = some (some (.agg #[.int .i64 0, .int .i64 0, .int .i64 0, .string ByteArray.empty, .int .i64 0, .slice none 0 0]), 6, 72) := by kernel_rfl
def colE (i : Nat) : Ex := ⟨5, 0, 0, ⟨#[]⟩, i, nilHd, []⟩
noncomputable def appV (op : Int) (row : List V) : V := topV op 0 ⟨#[]⟩ 0 row row
theorem col_in {w : World} {i : Nat} (hi : i ≤ 1000000) : (colE i).In w := by
  refine ⟨colE i, ⟨i64_lit rfl, i64_lit rfl, i64_lit rfl, Nat.zero_le _, ?_⟩, Row.nil _ _ _, fun k hk => by cases hk⟩
  show int64 (i : Int)
  constructor <;> omega
theorem col_va (row : List V) {i : Nat} (hi : i < row.length) : (colE i).va row = row[i] := by
  rw [Ex.va_eq]
  show topV 5 0 _ (i : Int) row [] = _
  unfold topV
  rw [if_neg (by simp [knownB, kidsOk]), if_neg (by decide), if_neg (by decide), if_neg (by decide), if_pos rfl, if_pos ⟨by omega, by omega⟩, Int.toNat_natCast]
  exact getD_of hi rfl
theorem cols_va (row : List V) : ((List.range row.length).map colE).map (Ex.va row) = row := by
  apply List.ext_getElem?
  intro i
  rw [List.map_map, List.getElem?_map]
  by_cases hi : i < row.length
  · rw [List.getElem?_range hi, List.getElem?_eq_getElem hi]
    exact congrArg some (col_va row hi)
  · rw [List.getElem?_eq_none (by simp; omega), List.getElem?_eq_none (by omega)]; rfl
theorem cols_snoc (k : Nat) : ((List.range (k + 1)).map colE).flatMap Ex.cells = ((List.range k).map colE).flatMap Ex.cells ++ [.int .i64 5, .int .i64 0, .int .i64 0, .string ⟨#[]⟩, .int .i64 k, .slice none 0 0] := by
  rw [List.range_succ, List.map_append, List.flatMap_append]
  rfl
/-- While the expression is made: its box, the result's, its Kids. -/
structure AP (w : World) (op : Int) (k : Nat) (u : Value) (x : World) : Prop where
  bel : Below w.heap.size w x
  br : Box x w.heap.size #[.int .i64 0, .int .i64 0, .string ⟨#[]⟩] 24
  be : Box x (w.heap.size + 1) #[.int .i64 op, .int .i64 0, .int .i64 0, .string ⟨#[]⟩, .int .i64 0, u] 31
  own : x.ownsRow (w.heap.size + 2) 31 6 u k (((List.range k).map colE).flatMap Ex.cells)
theorem ex_one (i : Nat) : ∀ u ∈ ([.int .i64 5, .int .i64 0, .int .i64 0, .string ⟨#[]⟩, .int .i64 i, .slice none 0 0] : List Value), u.oneCell' = true := by
  intro u hu; simp only [List.mem_cons, List.not_mem_nil, or_false] at hu; rcases hu with rfl | rfl | rfl | rfl | rfl | rfl <;> rfl
theorem ap_set {w x : World} {op : Int} {k k' : Nat} {u v : Value} (hb : Below w.heap.size w x) (hr : Box x w.heap.size #[.int .i64 0, .int .i64 0, .string ⟨#[]⟩] 24) (he : Box x (w.heap.size + 1) #[.int .i64 op, .int .i64 0, .int .i64 0, .string ⟨#[]⟩, .int .i64 0, u] 31)
    (ho : x.ownsRow (w.heap.size + 2) 31 6 v k' (((List.range k').map colE).flatMap Ex.cells)) : AP w op k' v (x.setCell ⟨w.heap.size + 1, 5, none⟩ v) := by
  refine ⟨hb.grown (gb_set _ _ _ _) hb.size (fun j hj => by injection hj with hj; omega), hr.grown (gb_set _ _ _ _) (by simp), ?_, ho.kept (gb_set _ _ _ _) (.inr (fun e => ?_))⟩
  · have := he.set 5 v
    simpa only [List.setIfInBounds_toArray, List.set_cons_zero, List.set_cons_succ] using this
  · have := (ho.lt _ e).1; omega

set_option maxRecDepth 100000 in
set_option maxHeartbeats 4000000 in
theorem applied_any (op : Int) (hop : int64 op) (r : VL) (w : World) (hr : r.In w) (hsm : r.l.length ≤ 1000000) (hn : NulAt w) (hf : OpsAt w) : Calls Tryd.prog 54 #[.int .i64 op, .slice r.h.ao r.l.length r.h.cap] w
    fun e w' => e = .returned (.agg #[.int .i64 (appV op r.l).kind, .int .i64 (appV op r.l).num, .string (appV op r.l).text]) ∧ Below w.heap.size w w' := by
  obtain ⟨i0, hi, hz0, hz1, hz2⟩ := info_parts info_ex
  have HI := hide (And.intro hi (And.intro hz0 (And.intro hz1 hz2)))
  have HR := hide hr
  have HN := hide hn
  have HF := hide hf
  have HOP := hide hop
  have hlen := hr.1.len
  clear hi hz0 hz1 hz2 hr hn hf hop
  have HA0 := hide (show AP w op 0 (.slice none 0 0) ((w.alloc (.cells #[.int .i64 0, .int .i64 0, .string ⟨#[]⟩] 24)).alloc (.cells #[.int .i64 op, .int .i64 0, .int .i64 0, .string ⟨#[]⟩, .int .i64 0, .slice none 0 0] 31)) from
    ⟨belAA _ _, (Box.new _ _ _).below (belA _), by have h := Box.new (w.alloc (.cells #[.int .i64 0, .int .i64 0, .string ⟨#[]⟩] 24)) #[.int .i64 op, .int .i64 0, .int .i64 0, .string ⟨#[]⟩, .int .i64 0, .slice none 0 0] 31; simpa only [World.size_alloc] using h, World.ownsRow_nil _ _ _ _⟩)
  go_enter Tryd.func54, Tryd.ntmps54
  go_wp2
  go_loopw [11] (fun i wr => ∃ (k : Nat) (u : Value), k ≤ r.l.length ∧ i = .int .i64 k ∧ Hid (AP w op k u wr)) (fun i _ => r.l.length - (intOf i).toNat)
  case atStart => exact ⟨0, _, Nat.zero_le _, rfl, HA0⟩
  case round =>
    obtain ⟨k, u, hk, rfl, HA⟩ := hrel
    have k0 := HA.out.be.cell (j := 0) rfl
    have k1 := HA.out.be.cell (j := 1) rfl
    have k2 := HA.out.be.cell (j := 2) rfl
    have k3 := HA.out.be.cell (j := 3) rfl
    have k4 := HA.out.be.cell (j := 4) rfl
    have k5 := HA.out.be.cell (j := 5) rfl
    have hlt1 := HA.out.be.lt
    by_cases hlt : k < r.l.length
    · have hlti : (k : Int) < r.l.length := by omega
      have HLO := hide HA.out.own.lt
      go_wp2_with (at_builtin; refine wpList_append_own _ rfl _ _ 29 rfl (w.heap.size + 2) 31 i0 (.agg #[.int .i64 0, .int .i64 0, .int .i64 0, .string ByteArray.empty, .int .i64 0, .slice none 0 0]) 6 72 Tryd.underlying29 HI.out.1 HI.out.2.1 HI.out.2.2.1 HI.out.2.2.2 rfl (by decide) _ _ _ rfl (HA.out.own.alloc _) ⟨wr.heap.size, 0, none⟩ 1 1 [.int .i64 5, .int .i64 0, .int .i64 0, .string ⟨#[]⟩, .int .i64 k, .slice none 0 0] rfl rfl (new_cells (l := [.int .i64 5, .int .i64 0, .int .i64 0, .string ⟨#[]⟩, .int .i64 k, .slice none 0 0])) (ex_one k) (by unfold maxLen; omega) (by omega) (by have := HA.out.be.lt; simp; omega) ?_; intro v' x4 hown' hgrow _; obtain ⟨g4, cap4, rfl⟩ := ownsRow_succ hown'; have HO4 := hide (show x4.ownsRow (w.heap.size + 2) 31 6 (.slice (some ⟨g4, 0, none⟩) (k + 1) cap4) (k + 1) (((List.range (k + 1)).map colE).flatMap Ex.cells) from by rw [cols_snoc]; exact hown'); have HG4 := hide hgrow; clear hown' hgrow; have hbe := (HA.out.be.below (belA (.cells #[.int .i64 5, .int .i64 0, .int .i64 0, .string ⟨#[]⟩, .int .i64 k, .slice none 0 0] 31))).grown HG4.out (fun e => by have := (HLO.out _ e.symm).1; omega); have HBE := hide hbe; have g5 := hbe.cell (j := 5) rfl; have h5 := hbe.fr 5; clear hbe)
      have HA2 := hide (ap_set (k := k) ((HA.out.bel.trans ((belA (.cells #[.int .i64 5, .int .i64 0, .int .i64 0, .string ⟨#[]⟩, .int .i64 k, .slice none 0 0] 31)).mono HA.out.bel.size)).grown HG4.out (by have := HA.out.bel.size; simp; omega) (fun j hj => by have := (HLO.out j hj).1; omega)) ((HA.out.br.below (belA _)).grown HG4.out (fun e => by have := (HLO.out _ e.symm).1; omega)) HBE.out HO4.out)
      clear k0 k1 k2 k3 k4 k5 g5 h5
      go_roundw
      case rel => exact ⟨k + 1, _, by omega, by go_num, HA2⟩
      case measure => simp [intOf]; omega
    · have hke : k = r.l.length := by omega
      have hlti : ¬ (k : Int) < r.l.length := by omega
      obtain ⟨hd, hu, hrow⟩ := own_row (size := 6) (cells := Ex.cells) (fun _ => rfl) (by decide) HA.out.own
      have hel : ((List.range k).map colE).length = k := by simp
      have HEX := hide (show Ex.In wr ⟨op, 0, 0, ⟨#[]⟩, 0, hd, (List.range k).map colE⟩ from ⟨_, ⟨HOP.out, i64_lit rfl, i64_lit rfl, Nat.zero_le _, i64_lit rfl⟩, hrow, fun q hq => by obtain ⟨i, hi, rfl⟩ := List.mem_map.1 hq; exact col_in (by have := List.mem_range.1 hi; omega)⟩)
      have HLW := hide (show Ex.Low ⟨op, 0, 0, ⟨#[]⟩, 0, hd, (List.range k).map colE⟩ from ⟨_, by show ((List.range k).map colE).length ≤ _; rw [hel]; omega, fun q hq => by obtain ⟨i, hi, rfl⟩ := List.mem_map.1 hq; exact ⟨_, Nat.zero_le _, fun q hq => by cases hq⟩⟩)
      have HVA := hide (show Ex.va r.l ⟨op, 0, 0, ⟨#[]⟩, 0, hd, (List.range k).map colE⟩ = appV op r.l from by rw [Ex.va_eq]; show topV op 0 _ 0 r.l (((List.range k).map colE).map (Ex.va r.l)) = _; rw [hke, cols_va]; rfl)
      have HEV := hide (eeval_any _ HLW.out r wr HEX.out (HR.out.mono HA.out.bel) (HN.out.mono HA.out.bel) (HF.out.mono HA.out.bel))
      dsimp only at HEV
      rw [hel] at hu HEV
      rw [HVA.out] at HEV
      subst hu
      clear hrow hel HVA hke
      go_wp2_with (go_at_call 50; with_reducible refine HEV.out.mono ?_; rintro e x5 ⟨rfl, hb⟩; have HB5 := hide hb; have hq := HA.out.br.below hb; clear hb; have e0 := hq.cell (j := 0) rfl; have e1 := hq.cell (j := 1) rfl; have e2 := hq.cell (j := 2) rfl; have f0 := hq.fr 0; have f1 := hq.fr 1; have f2 := hq.fr 2; clear hq)
      exact bodyPost_ret (v := .agg #[.int .i64 (appV op r.l).kind, .int .i64 (appV op r.l).num, .string (appV op r.l).text]) (by simp [results, Tryd.results54, go_sem, e0, e1, e2]) rfl ⟨rfl, belset3 (bel_trans HA.out.bel (HB5.out.mono (Nat.le_refl _))) (Nat.le_refl _) (Nat.le_refl _) _ _ _⟩
end Go.Proofs.YtlkhiihehaiinaaDoor

/- (*fault.switches).eval: at leaves; at an operation over leaves whose only fault may be 'inverted'. -/
namespace Go.Proofs.YtlkhiihehaiinaaDoor
open Go.RowKit

/-- What eval wants of a world: the switches and their texts; the variables. -/
structure SwW (w : World) (g m : Nat) (F S) : Prop where
  sw : Sw w g m F
  tx : Texts w m S true
  nn : NulAt w
  op : OpsAt w
theorem SwW.below {w x : World} {g m : Nat} {F : Nat → Bool} {S : ByteArray → Bool} (h : SwW w g m F S) (hb : Below w.heap.size w x) : SwW x g m F S := ⟨h.sw.below hb, h.tx.below hb, h.nn.mono hb, h.op.mono hb⟩
set_option maxRecDepth 100000 in
set_option maxHeartbeats 4000000 in
theorem fleaf (g m : Nat) (F : Nat → Bool) (S : ByteArray → Bool) (e : Ex) (r : VL) (w : World) (hs : SwW w g m F S) (he : e.In w) (hl : e.Low) (hr : r.In w) (hfit : fitsB e.op e.kids.length = false) :
    Calls Tryd.prog 27 #[.pointer (some ⟨g, 0, none⟩), .agg #[.int .i64 e.op, .int .i64 e.typ, .int .i64 e.num, .string e.text, .int .i64 e.col, .slice e.kh.ao e.kids.length e.kh.cap], .slice r.h.ao r.l.length r.h.cap] w
      fun e' w' => e' = .returned (.agg #[.int .i64 (e.va r.l).kind, .int .i64 (e.va r.l).num, .string (e.va r.l).text]) ∧ Below w.heap.size w w' := by
  have HE := hide he
  have HEV := hide (eeval_any e hl)
  have HR := hide hr
  have HSW := hide hs
  obtain ⟨v, hv⟩ : ∃ v, e.va r.l = v := ⟨_, rfl⟩
  have HV := hide hv
  rw [hv]
  obtain ⟨op, typ, num, text, col, kh, kids⟩ := e
  dsimp only at HEV hfit ⊢
  have HFT := hide (fun W => fits_any op typ num text col kh.ao kids.length kh.cap W)
  rw [hfit] at HFT
  clear he hl hr hs hv hfit
  have HB0 := hide (belAA (w := w) (.cells #[.int .i64 op, .int .i64 typ, .int .i64 num, .string text, .int .i64 col, .slice kh.ao kids.length kh.cap] 31) (.cells #[.int .i64 0, .int .i64 0, .string ⟨#[]⟩] 24))
  have hp := (HSW.out.below HB0.out).sw.ptr
  have hgl := HSW.out.sw.lt
  obtain ⟨n, D, hn, hown, hat, hsz⟩ := (HSW.out.below HB0.out).tx
  have HOWN := hide hown
  have hD : ((Maps.size D : Int) == 0) = false := beq_eq_false_iff_ne.2 (fun h => by have h2 := hsz.1 (by omega); cases h2)
  clear hn hown hat hsz
  have HS0 := hide (SE.start (w := w) (cs := #[.int .i64 op, .int .i64 typ, .int .i64 num, .string text, .int .i64 col, .slice kh.ao kids.length kh.cap]) (Below.refl _ _))
  go_enter Tryd.func27, Tryd.ntmps27
  go_wp2_with (first
    | (at_len; refine wpList_len_own _ rfl _ 71 rfl 9 4 Tryd.underlying71 (plainElem (H := Unit) Tryd.prog 4) m n D rfl HOWN.out ?_)
    | (go_at_call 49; refine (HFT.out _).mono ?_; rintro e x1 ⟨rfl, hb⟩; have HS1 := hide (HS0.out.call hb); clear hb; obtain ⟨sl0, sl1⟩ := HS1.out.lt; have k0 := HS1.out.be.cell (j := 0) rfl; have k1 := HS1.out.be.cell (j := 1) rfl; have k2 := HS1.out.be.cell (j := 2) rfl; have k3 := HS1.out.be.cell (j := 3) rfl; have k4 := HS1.out.be.cell (j := 4) rfl; have k5 := HS1.out.be.cell (j := 5) rfl)
    | (go_at_call 50; refine (HEV.out r _ (HE.out.mono HS1.out.bel) (HR.out.mono HS1.out.bel) (HSW.out.nn.mono HS1.out.bel) (HSW.out.op.mono HS1.out.bel)).mono ?_; rintro e x2 ⟨rfl, hb⟩; rw [HV.out]; have HS2 := hide (HS1.out.call hb); clear hb; clear k0 k1 k2 k3 k4 k5; have e0 := HS2.out.br.cell (j := 0) rfl; have e1 := HS2.out.br.cell (j := 1) rfl; have e2 := HS2.out.br.cell (j := 2) rfl; have f0 := HS2.out.br.fr 0; have f1 := HS2.out.br.fr 1; have f2 := HS2.out.br.fr 2))
  exact bodyPost_ret (v := .agg #[.int .i64 v.kind, .int .i64 v.num, .string v.text]) (by simp [results, Tryd.results27, go_sem, e0, e1, e2]) rfl ⟨rfl, HS2.out.fin _ _ _⟩

theorem bit_0 {x : World} {g m : Nat} {F : Nat → Bool} (h : Sw x g m F) {o : Nat} (ho : o < 29) {b : Bool} (hb : F (0 + o) = b) : x.cell? ⟨g, 1 + o, none⟩ = some (.bool b) := by have := h.bit (j := 0 + o) (by omega); rw [hb, show 1 + (0 + o) = 1 + o by omega] at this; exact this
theorem bit_1 {x : World} {g m : Nat} {F : Nat → Bool} (h : Sw x g m F) {o : Nat} (ho : o < 29) {b : Bool} (hb : F (29 + o) = b) : x.cell? ⟨g, 30 + o, none⟩ = some (.bool b) := by have := h.bit (j := 29 + o) (by omega); rw [hb, show 1 + (29 + o) = 30 + o by omega] at this; exact this
theorem bit_2 {x : World} {g m : Nat} {F : Nat → Bool} (h : Sw x g m F) {o : Nat} (ho : o < 29) {b : Bool} (hb : F (58 + o) = b) : x.cell? ⟨g, 59 + o, none⟩ = some (.bool b) := by have := h.bit (j := 58 + o) (by omega); rw [hb, show 1 + (58 + o) = 59 + o by omega] at this; exact this
theorem bit_3 {x : World} {g m : Nat} {F : Nat → Bool} (h : Sw x g m F) {o : Nat} (ho : o < 29) {b : Bool} (hb : F (87 + o) = b) : x.cell? ⟨g, 88 + o, none⟩ = some (.bool b) := by have := h.bit (j := 87 + o) (by omega); rw [hb, show 1 + (87 + o) = 88 + o by omega] at this; exact this
theorem bit_4 {x : World} {g m : Nat} {F : Nat → Bool} (h : Sw x g m F) {o : Nat} (ho : o < 29) {b : Bool} (hb : F (116 + o) = b) : x.cell? ⟨g, 117 + o, none⟩ = some (.bool b) := by have := h.bit (j := 116 + o) (by omega); rw [hb, show 1 + (116 + o) = 117 + o by omega] at this; exact this
theorem ix_row (g : Nat) : (∀ U, (Instr.indexAt 73 (.pointer (some ⟨g, 1, none⟩)) (.int .i64 0)).run Tryd.prog U = .ok (.pointer (some ⟨g, 1, none⟩)) U) ∧ (∀ U, (Instr.indexAt 73 (.pointer (some ⟨g, 1, none⟩)) (.int .i64 1)).run Tryd.prog U = .ok (.pointer (some ⟨g, 30, none⟩)) U) ∧
    (∀ U, (Instr.indexAt 73 (.pointer (some ⟨g, 1, none⟩)) (.int .i64 2)).run Tryd.prog U = .ok (.pointer (some ⟨g, 59, none⟩)) U) ∧ (∀ U, (Instr.indexAt 73 (.pointer (some ⟨g, 1, none⟩)) (.int .i64 3)).run Tryd.prog U = .ok (.pointer (some ⟨g, 88, none⟩)) U) ∧
    (∀ U, (Instr.indexAt 73 (.pointer (some ⟨g, 1, none⟩)) (.int .i64 4)).run Tryd.prog U = .ok (.pointer (some ⟨g, 117, none⟩)) U) :=
  ⟨ix_fam g 0 (by omega), ix_fam g 1 (by omega), ix_fam g 2 (by omega), ix_fam g 3 (by omega), ix_fam g 4 (by omega)⟩

set_option maxRecDepth 100000 in
set_option maxHeartbeats 16000000 in
theorem fnode (g m : Nat) (F : Nat → Bool) (S : ByteArray → Bool) (o : Nat) (typ num : Int) (text : ByteArray) (col : Int) (kh : Hd) (kids : List Ex) (r : VL) (w : World) (hs : SwW w g m F S) (he : Ex.In w ⟨o, typ, num, text, col, kh, kids⟩) (hl : Ex.Low ⟨o, typ, num, text, col, kh, kids⟩) (hr : r.In w)
    (ho : o < 29) (hfit : fitsB o kids.length = true) (hkf : ∀ k ∈ kids, fitsB k.op k.kids.length = false) (hb4 : F (116 + o) = false) (hb3 : F (87 + o) = false) (hb2 : F (58 + o) = false) (hb1 : F (29 + o) = false) (hb0 : F (0 + o) = true) :
    Calls Tryd.prog 27 #[.pointer (some ⟨g, 0, none⟩), .agg #[.int .i64 (o : Nat), .int .i64 typ, .int .i64 num, .string text, .int .i64 col, .slice kh.ao kids.length kh.cap], .slice r.h.ao r.l.length r.h.cap] w
      fun e' w' => e' = .returned (.agg #[.int .i64 (invV (appV o (kids.map (Ex.va r.l)))).kind, .int .i64 (invV (appV o (kids.map (Ex.va r.l)))).num, .string (invV (appV o (kids.map (Ex.va r.l)))).text]) ∧ Below w.heap.size w w' := by
  have HE := hide he
  have HL := hide hl
  have HR := hide hr
  have HSW := hide hs
  have HKF := hide hkf
  have hrow := he.row
  dsimp only at hrow
  have hkn := hl.len
  dsimp only at hkn
  obtain ⟨v, hv⟩ : ∃ v, invV (appV o (kids.map (Ex.va r.l))) = v := ⟨_, rfl⟩
  have HV := hide hv
  rw [hv]
  have HFT := hide (fun W => fits_any o typ num text col kh.ao kids.length kh.cap W)
  rw [hfit] at HFT
  obtain ⟨i0, hi, hz0, hz1, hz2⟩ := info_parts info_val
  have HI := hide (And.intro hi (And.intro hz0 (And.intro hz1 hz2)))
  clear hi hz0 hz1 hz2 he hl hr hs hv hfit hkf
  have HB0 := hide (belAA (w := w) (.cells #[.int .i64 (o : Nat), .int .i64 typ, .int .i64 num, .string text, .int .i64 col, .slice kh.ao kids.length kh.cap] 31) (.cells #[.int .i64 0, .int .i64 0, .string ⟨#[]⟩] 24))
  have hp := (HSW.out.below HB0.out).sw.ptr
  have hgl := HSW.out.sw.lt
  obtain ⟨n, D, hn, hown, hat, hsz⟩ := (HSW.out.below HB0.out).tx
  have HOWN := hide hown
  have hD : ((Maps.size D : Int) == 0) = false := beq_eq_false_iff_ne.2 (fun h => by have h2 := hsz.1 (by omega); cases h2)
  clear hn hown hat hsz
  have HS0 := hide (SE.start (w := w) (cs := #[.int .i64 (o : Nat), .int .i64 typ, .int .i64 num, .string text, .int .i64 col, .slice kh.ao kids.length kh.cap]) (Below.refl _ _))
  go_enter Tryd.func27, Tryd.ntmps27
  go_wp2_with (first
    | (at_len; refine wpList_len_own _ rfl _ 71 rfl 9 4 Tryd.underlying71 (plainElem (H := Unit) Tryd.prog 4) m n D rfl HOWN.out ?_)
    | (go_at_call 49; refine (HFT.out _).mono ?_; rintro e x1 ⟨rfl, hb⟩; have HS1 := hide (HS0.out.call hb); clear hb; obtain ⟨sl0, sl1⟩ := HS1.out.lt; have k0 := HS1.out.be.cell (j := 0) rfl; have k1 := HS1.out.be.cell (j := 1) rfl; have k2 := HS1.out.be.cell (j := 2) rfl; have k3 := HS1.out.be.cell (j := 3) rfl; have k4 := HS1.out.be.cell (j := 4) rfl; have k5 := HS1.out.be.cell (j := 5) rfl))
  clear hp hD
  go_loopw [33, 7] (fun i v wr => ∃ (k : Nat) (u : Value), u = v ∧ k ≤ kids.length ∧ i = .int .i64 k ∧ wr.ownsRow (w.heap.size + 2) 24 3 v k ((kids.take k).flatMap (fun k => V.cells (k.va r.l))) ∧ Hid (SE w #[.int .i64 (o : Nat), .int .i64 typ, .int .i64 num, .string text, .int .i64 col, .slice kh.ao kids.length kh.cap] wr)) (fun i _ _ => kids.length - (intOf i).toNat)
  case atStart => exact ⟨0, _, rfl, Nat.zero_le _, rfl, World.ownsRow_nil _ _ _ _, HS1⟩
  case round =>
    clear sl0 sl1 k0 k1 k2 k3 k4 k5
    obtain ⟨k, u, rfl, hk, rfl, hown, HS2⟩ := hrel
    have HO := hide hown
    clear hown
    by_cases hlt : k < kids.length
    · have hlti : (k : Int) < kids.length := by omega
      obtain ⟨y, hy⟩ : ∃ y, kids[k] = y := ⟨_, rfl⟩
      obtain ⟨p, hix, KC⟩ := kid_at hrow k hlt k rfl hy
      obtain ⟨kb, a0, a1, a2, a3, a4, a5⟩ := KC _ HS2.out.bel
      have HYI := hide (hy ▸ HE.out.kid _ (List.getElem_mem hlt) : y.In w)
      have HYL := hide (hy ▸ HL.out.kid _ (List.getElem_mem hlt) : y.Low)
      have HYF := hide (hy ▸ HKF.out _ (List.getElem_mem hlt) : fitsB y.op y.kids.length = false)
      have HTK := hide (show (kids.take (k + 1)).flatMap (fun k => V.cells (k.va r.l)) = (kids.take k).flatMap (fun k => V.cells (k.va r.l)) ++ V.cells (y.va r.l) from by rw [take_snoc kids hlt, List.flatMap_append, hy]; simp)
      have sl := HS2.out.lt
      clear KC hy
      go_wp2_with (first
        | (go_at_call 27; refine (fleaf g m F S y r _ (HSW.out.below (HS2.out.call (belA _)).bel) (HYI.out.mono (HS2.out.call (belA _)).bel) HYL.out (HR.out.mono (HS2.out.call (belA _)).bel) HYF.out).mono ?_; rintro e x3 ⟨rfl, hb⟩; have HB3 := hide (bel1 hb); have HS3 := hide (HS2.out.call HB3.out); clear hb)
        | (at_builtin; refine wpList_append_own _ rfl _ _ 28 rfl (w.heap.size + 2) 24 i0 (.agg #[.int .i64 0, .int .i64 0, .string ByteArray.empty]) 3 32 Tryd.underlying28 HI.out.1 HI.out.2.1 HI.out.2.2.1 HI.out.2.2.2 rfl (by decide) _ _ _ rfl ((HO.out.kept (only_below HB3.out none) (Classical.em _)).alloc _) ⟨x3.heap.size, 0, none⟩ 1 1 (V.cells (y.va r.l)) rfl rfl (new_cells (l := V.cells (y.va r.l))) (v_one _) (by unfold maxLen; omega) (by omega) (by have := HS3.out.lt; simp; omega) ?_; intro v' x4 hown' hgrow _; have HO4 := hide (show x4.ownsRow (w.heap.size + 2) 24 3 v' (k + 1) ((kids.take (k + 1)).flatMap (fun k => V.cells (k.va r.l))) from by rw [HTK.out]; exact hown'); have HG4 := hide hgrow; clear hown' hgrow))
      go_roundw
      case rel =>
        refine ⟨k + 1, _, rfl, by omega, by go_num, HO4.out, hide ?_⟩
        have hg := HG4.out
        have h1 := HS3.out.call (belA (.cells (V.cells (y.va r.l)).toArray 24))
        have hlo := HO.out.lt
        exact ⟨h1.bel.grown hg h1.bel.size (fun j hj => by have := (hlo j hj).1; omega), h1.be.grown hg (fun e => by have := (hlo _ e.symm).1; omega), h1.br.grown hg (fun e => by have := (hlo _ e.symm).1; omega)⟩
      case measure => simp [intOf]; omega
    · have hke : k = kids.length := by omega
      have hlti : ¬ (k : Int) < kids.length := by omega
      have hoo := HO.out
      rw [hke, List.take_length, ← flat_map] at hoo
      obtain ⟨q, hvq, hq, hqin⟩ := vl_mk hoo (fun x hx => by obtain ⟨z, hz, rfl⟩ := List.mem_map.1 hx; exact Ex.va_wf HR.out.2 (HE.out.kid z hz))
      have HQI := hide hqin
      have hqn : q.l.length ≤ 1000000 := by rw [hq, List.length_map]; exact hkn
      have HQ := hide hq
      subst hvq
      clear hoo hqin hq HO hke
      have HW2 := hide (HSW.out.below HS2.out.bel)
      have k0 := HS2.out.be.cell (j := 0) rfl
      have b4 := bit_4 HW2.out.sw ho hb4
      have b3 := bit_3 HW2.out.sw ho hb3
      have b2 := bit_2 HW2.out.sw ho hb2
      have b1 := bit_1 HW2.out.sw ho hb1
      obtain ⟨r0, r1, r2, r3, r4⟩ := ix_row g
      have o4 := ix_op g 117 o ho
      have o3 := ix_op g 88 o ho
      have o2 := ix_op g 59 o ho
      have o1 := ix_op g 30 o ho
      have o0 := ix_op g 1 o ho
      go_wp2
      go_quiet (fail)
      generalize nq = n1
      go_wp2
      go_quiet (fail)
      generalize nq = n2
      go_wp2
      go_quiet (fail)
      clear b4 b3 b2 b1 o4 o3 o2 k0
      generalize hZ : (wr.drewN (n1 + n2)).drewN nq = Z
      have HZ := hide (show Below wr.heap.size wr Z from by rw [← hZ]; exact below_drewN (below_drewN (Below.refl _ _) _) _)
      clear hZ
      have HS3 := hide (HS2.out.call HZ.out)
      have HQ3 := hide (HQI.out.mono HZ.out)
      have HW3 := hide (HSW.out.below HS3.out.bel)
      have HAP := hide (applied_any o (by constructor <;> omega) q Z HQ3.out hqn HW3.out.nn HW3.out.op)
      have k0 := HS3.out.be.cell (j := 0) rfl
      go_wp2_with (go_at_call 54; refine HAP.out.mono ?_; rintro e x5 ⟨rfl, hb⟩; rw [HQ.out]; have HS5 := hide (HS3.out.call hb); clear hb; clear k0; obtain ⟨sl0, sl1⟩ := HS5.out.lt; have k0 := HS5.out.be.cell (j := 0) rfl; have b1 := bit_1 (HSW.out.below HS5.out.bel).sw ho hb1; have b0 := bit_0 (HSW.out.below HS5.out.bel).sw ho hb0; have gl5 := (HSW.out.below HS5.out.bel).sw.lt)
      obtain ⟨av, hav⟩ : ∃ av, appV o (kids.map (Ex.va r.l)) = av := ⟨_, rfl⟩
      have HAW := hide (show av.wf from by
        rw [← hav]
        have h : ∀ x ∈ kids.map (Ex.va r.l), x.wf := fun x hx => by obtain ⟨z, hz, rfl⟩ := List.mem_map.1 hx; exact Ex.va_wf HR.out.2 (HE.out.kid z hz)
        exact top_wf (i64_lit rfl) (Nat.zero_le _) h h)
      have HIV := hide (show invV av = v from by rw [← hav]; exact HV.out)
      rw [hav]
      clear hav
      have HXB := hide (belA (w := x5) (.cells #[.int .i64 av.kind, .int .i64 av.num, .string av.text] 24))
      go_quiet (fail)
      generalize nq = n3
      go_wp2
      go_quiet (fail)
      clear b1 b0 k0 r0 r1 r2 r3 r4 o1 o0
      generalize hZ2 : ((x5.alloc (.cells #[.int .i64 av.kind, .int .i64 av.num, .string av.text] 24)).drewN n3).drewN nq = Z2
      have HZ2 := hide (show Below (x5.alloc (.cells #[.int .i64 av.kind, .int .i64 av.num, .string av.text] 24)).heap.size (x5.alloc (.cells #[.int .i64 av.kind, .int .i64 av.num, .string av.text] 24)) Z2 from by rw [← hZ2]; exact below_drewN (below_drewN (Below.refl _ _) _) _)
      clear hZ2
      have hq7 := (Box.new x5 #[.int .i64 av.kind, .int .i64 av.num, .string av.text] 24).below HZ2.out
      have v0 := hq7.cell (j := 0) rfl
      have v1 := hq7.cell (j := 1) rfl
      have v2 := hq7.cell (j := 2) rfl
      have HS7 := hide ((HS5.out.call HXB.out).call HZ2.out)
      have HQ7 := hide hq7
      clear hq7
      go_wp2_with (go_at_call 56; refine (inv_any av HAW.out _ (HSW.out.below HS7.out.bel).nn).mono ?_; rintro e x8 ⟨rfl, hb⟩; rw [HIV.out]; have HS8 := hide (HS7.out.call hb); have HQ8 := hide (HQ7.out.below hb); clear hb; clear v0 v1 v2; have v0 := HQ8.out.cell (j := 0) rfl; have v1 := HQ8.out.cell (j := 1) rfl; have v2 := HQ8.out.cell (j := 2) rfl; have w0 := HQ8.out.fr 0; have w1 := HQ8.out.fr 1; have w2 := HQ8.out.fr 2; have e0 := HS8.out.br.cell (j := 0) rfl; have e1 := HS8.out.br.cell (j := 1) rfl; have e2 := HS8.out.br.cell (j := 2) rfl; have f0 := HS8.out.br.fr 0; have f1 := HS8.out.br.fr 1; have f2 := HS8.out.br.fr 2; have sl8 := HS8.out.lt)
      have hx5 := HS5.out.bel.size
      have hq := boxs3 ((HS8.out.br).grown (set3 x8 x5.heap.size (.int .i64 v.kind) (.int .i64 v.num) (.string v.text)) (by have := HS5.out.lt; simp; omega)) (.int .i64 v.kind) (.int .i64 v.num) (.string v.text)
      have z0 := hq.cell (j := 0) rfl
      have z1 := hq.cell (j := 1) rfl
      have z2 := hq.cell (j := 2) rfl
      exact bodyPost_ret (v := .agg #[.int .i64 v.kind, .int .i64 v.num, .string v.text]) (by simp [results, Tryd.results27, go_sem, z0, z1, z2]) rfl ⟨rfl, belset3 (belset3 HS8.out.bel (Nat.le_refl _) hx5 _ _ _) (Nat.le_refl _) (Nat.le_succ _) _ _ _⟩

end Go.Proofs.YtlkhiihehaiinaaDoor

/- fault.Eval: one operation over leaves, inverted. field.Num, Do, Int. -/
namespace Go.Proofs.YtlkhiihehaiinaaDoor
open Go.RowKit

/-- The expression's box and, behind it, a value's. -/
def SV (w : World) (cs : Array Value) (x : World) : Prop := Below w.heap.size w x ∧ Box x w.heap.size cs 31 ∧ ∃ v0 v1 v2, Box x (w.heap.size + 1) #[v0, v1, v2] 24
theorem SV.drew {w x : World} {cs : Array Value} (h : SV w cs x) : SV w cs x.drew := ⟨h.1.drew, h.2.1, by obtain ⟨v0, v1, v2, hb⟩ := h.2.2; exact ⟨v0, v1, v2, hb⟩⟩
theorem SV.call {w x y : World} {cs : Array Value} (h : SV w cs x) (hb : Below x.heap.size x y) : SV w cs y := ⟨bel_trans h.1 (hb.mono (Nat.le_refl _)), h.2.1.below hb, by obtain ⟨v0, v1, v2, hq⟩ := h.2.2; exact ⟨v0, v1, v2, hq.below hb⟩⟩
theorem SV.below {w x : World} {cs : Array Value} (h : SV w cs x) : Below w.heap.size w x := h.1
theorem SV.set {w x : World} {cs : Array Value} (h : SV w cs x) (a b c : Value) : SV w cs (((x.setCell ⟨w.heap.size + 1, 0, none⟩ a).setCell ⟨w.heap.size + 1, 1, none⟩ b).setCell ⟨w.heap.size + 1, 2, none⟩ c) := by
  obtain ⟨h1, h2, v0, v1, v2, hq⟩ := h
  exact ⟨belset3 h1 (Nat.le_refl _) (Nat.le_succ _) _ _ _, h2.grown (set3 _ _ _ _ _) (by simp), a, b, c, boxs3 hq _ _ _⟩
theorem FW.below2 {w x : World} (h : FW w) (hb : Below w.heap.size w x) : FW x := h.below hb
set_option maxRecDepth 100000 in
set_option maxHeartbeats 8000000 in
theorem feval_inv (l : IL) (o : Nat) (typ num : Int) (text : ByteArray) (col : Int) (kh : Hd) (kids : List Ex) (r : VL) (w : World) (hfw : FW w) (hll : l.In w) (hl0 : 0 < l.l.length) (hlm : l.l.length ≤ 1000) (hany : anyS l.l = true) (he : Ex.In w ⟨o, typ, num, text, col, kh, kids⟩) (hl : Ex.Low ⟨o, typ, num, text, col, kh, kids⟩) (hr : r.In w) (hn : NulAt w) (hf : OpsAt w)
    (ho : o < 29) (hfit : fitsB o kids.length = true) (hkf : ∀ k ∈ kids, fitsB k.op k.kids.length = false) (hb4 : wrongF (hitS l.l) (116 + o) = false) (hb3 : wrongF (hitS l.l) (87 + o) = false) (hb2 : wrongF (hitS l.l) (58 + o) = false) (hb1 : wrongF (hitS l.l) (29 + o) = false) (hb0 : wrongF (hitS l.l) (0 + o) = true) :
    Calls Tryd.prog 10 #[.slice l.h.ao l.l.length l.h.cap, .agg #[.int .i64 (o : Nat), .int .i64 typ, .int .i64 num, .string text, .int .i64 col, .slice kh.ao kids.length kh.cap], .slice r.h.ao r.l.length r.h.cap] w
      fun e' w' => e' = .returned (.agg #[.int .i64 (invV (appV o (kids.map (Ex.va r.l)))).kind, .int .i64 (invV (appV o (kids.map (Ex.va r.l)))).num, .string (invV (appV o (kids.map (Ex.va r.l)))).text]) ∧ Below w.heap.size w w' := by
  have HON := hide (fun (W : World) (hb : Below w.heap.size w W) => on_any l W (hll.mono hb) hl0 hlm (hfw.below hb))
  have HNODE := hide (fun (g m : Nat) (W : World) (hb : Below w.heap.size w W) (hsw : Sw W g m (wrongF (hitS l.l))) (htx : Texts W m (hitS l.l) (anyS l.l)) => fnode g m (wrongF (hitS l.l)) (hitS l.l) o typ num text col kh kids r W ⟨hsw, hany ▸ htx, hn.mono hb, hf.mono hb⟩ (he.mono hb) hl (hr.mono hb) ho hfit hkf hb4 hb3 hb2 hb1 hb0)
  obtain ⟨v, hv⟩ : ∃ v, invV (appV o (kids.map (Ex.va r.l))) = v := ⟨_, rfl⟩
  rw [hv] at HNODE ⊢
  obtain ⟨W, hW⟩ : ∃ W, (w.alloc (.cells #[.int .i64 (o : Nat), .int .i64 typ, .int .i64 num, .string text, .int .i64 col, .slice kh.ao kids.length kh.cap] 31)).alloc (.cells #[.int .i64 0, .int .i64 0, .string ⟨#[]⟩] 24) = W := ⟨_, rfl⟩
  have HS0 := hide (show SV w #[.int .i64 (o : Nat), .int .i64 typ, .int .i64 num, .string text, .int .i64 col, .slice kh.ao kids.length kh.cap] W from by rw [← hW]; exact ⟨belAA _ _, (Box.new _ _ _).below (belA _), _, _, _, by have h := Box.new (w.alloc (.cells #[.int .i64 (o : Nat), .int .i64 typ, .int .i64 num, .string text, .int .i64 col, .slice kh.ao kids.length kh.cap] 31)) #[.int .i64 0, .int .i64 0, .string ⟨#[]⟩] 24; simpa only [World.size_alloc] using h⟩)

  have hy0 : ∀ w' : World, SV w #[.int .i64 (o : Nat), .int .i64 typ, .int .i64 num, .string text, .int .i64 col, .slice kh.ao kids.length kh.cap] w' → w'.cell? ⟨w.heap.size, 0, none⟩ = some (.int .i64 (o : Nat)) := fun w' h => h.2.1.cell (j := 0) rfl
  have hy1 : ∀ w' : World, SV w #[.int .i64 (o : Nat), .int .i64 typ, .int .i64 num, .string text, .int .i64 col, .slice kh.ao kids.length kh.cap] w' → w'.cell? ⟨w.heap.size, 1, none⟩ = some (.int .i64 typ) := fun w' h => h.2.1.cell (j := 1) rfl
  have hy2 : ∀ w' : World, SV w #[.int .i64 (o : Nat), .int .i64 typ, .int .i64 num, .string text, .int .i64 col, .slice kh.ao kids.length kh.cap] w' → w'.cell? ⟨w.heap.size, 2, none⟩ = some (.int .i64 num) := fun w' h => h.2.1.cell (j := 2) rfl
  have hy3 : ∀ w' : World, SV w #[.int .i64 (o : Nat), .int .i64 typ, .int .i64 num, .string text, .int .i64 col, .slice kh.ao kids.length kh.cap] w' → w'.cell? ⟨w.heap.size, 3, none⟩ = some (.string text) := fun w' h => h.2.1.cell (j := 3) rfl
  have hy4 : ∀ w' : World, SV w #[.int .i64 (o : Nat), .int .i64 typ, .int .i64 num, .string text, .int .i64 col, .slice kh.ao kids.length kh.cap] w' → w'.cell? ⟨w.heap.size, 4, none⟩ = some (.int .i64 col) := fun w' h => h.2.1.cell (j := 4) rfl
  have hy5 : ∀ w' : World, SV w #[.int .i64 (o : Nat), .int .i64 typ, .int .i64 num, .string text, .int .i64 col, .slice kh.ao kids.length kh.cap] w' → w'.cell? ⟨w.heap.size, 5, none⟩ = some (.slice kh.ao kids.length kh.cap) := fun w' h => h.2.1.cell (j := 5) rfl
  clear hfw hll hany he hl hr hn hf hfit hkf hb4 hb3 hb2 hb1 hb0 hv
  go_enter Tryd.func10, Tryd.ntmps10
  go_wp2
  clear hW
  go_region_held3 (fun w' => SV w #[.int .i64 (o : Nat), .int .i64 typ, .int .i64 num, .string text, .int .i64 col, .slice kh.ao kids.length kh.cap] w') ((with_reducible first | assumption | exact HS0.out.drew | exact SV.set (by assumption) _ _ _)) (first
    | (go_at_call 26; refine (HON.out _ (SV.below (cs := #[.int .i64 (o : Nat), .int .i64 typ, .int .i64 num, .string text, .int .i64 col, .slice kh.ao kids.length kh.cap]) (by first | exact HS0.out.drew | assumption))).mono ?_; rintro e x1 ⟨⟨g, m, rfl, hsw, htx⟩, hb1⟩; have HS1 := SV.call (w := w) (cs := #[.int .i64 (o : Nat), .int .i64 typ, .int .i64 num, .string text, .int .i64 col, .slice kh.ao kids.length kh.cap]) (by first | exact HS0.out.drew | assumption) hb1)
    | (go_at_call 27; refine (HNODE.out g m _ (SV.below (cs := #[.int .i64 (o : Nat), .int .i64 typ, .int .i64 num, .string text, .int .i64 col, .slice kh.ao kids.length kh.cap]) (by assumption)) hsw htx).mono ?_; rintro e x2 ⟨rfl, hb2⟩; have HS2 := SV.call (w := w) (cs := #[.int .i64 (o : Nat), .int .i64 typ, .int .i64 num, .string text, .int .i64 col, .slice kh.ao kids.length kh.cap]) (by assumption) hb2; obtain ⟨v0, v1, v2, hq⟩ := HS2.2.2; have e0 := hq.cell (j := 0) rfl; have e1 := hq.cell (j := 1) rfl; have e2 := hq.cell (j := 2) rfl; have f0 := hq.fr 0; have f1 := hq.fr 1; have f2 := hq.fr 2; clear hq))
  go_wp2
  exact bodyPost_ret (v := .agg #[.int .i64 v.kind, .int .i64 v.num, .string v.text]) (by simp [results, Tryd.results10, go_sem, e0, e1, e2]) rfl ⟨rfl, belset3 HS2.1 (Nat.le_refl _) (Nat.le_succ _) _ _ _⟩
end Go.Proofs.YtlkhiihehaiinaaDoor

/- fault.Eval, by what eval answers; the faults of operations. -/
namespace Go.Proofs.YtlkhiihehaiinaaDoor
open Go.RowKit

set_option maxRecDepth 100000 in
set_option maxHeartbeats 8000000 in
theorem feval_gen (l : IL) (o : Nat) (typ num : Int) (text : ByteArray) (col : Int) (kh : Hd) (kids : List Ex) (r : VL) (w : World) (hfw : FW w) (hll : l.In w) (hl0 : 0 < l.l.length) (hlm : l.l.length ≤ 1000) (v : V)
    (HNODE : Hid (∀ (g m : Nat) (W : World), Below w.heap.size w W → Sw W g m (wrongF (hitS l.l)) → Texts W m (hitS l.l) (anyS l.l) →
      Calls Tryd.prog 27 #[.pointer (some ⟨g, 0, none⟩), .agg #[.int .i64 (o : Nat), .int .i64 typ, .int .i64 num, .string text, .int .i64 col, .slice kh.ao kids.length kh.cap], .slice r.h.ao r.l.length r.h.cap] W fun e' w' => e' = .returned (.agg #[.int .i64 v.kind, .int .i64 v.num, .string v.text]) ∧ Below W.heap.size W w')) :
    Calls Tryd.prog 10 #[.slice l.h.ao l.l.length l.h.cap, .agg #[.int .i64 (o : Nat), .int .i64 typ, .int .i64 num, .string text, .int .i64 col, .slice kh.ao kids.length kh.cap], .slice r.h.ao r.l.length r.h.cap] w
      fun e' w' => e' = .returned (.agg #[.int .i64 v.kind, .int .i64 v.num, .string v.text]) ∧ Below w.heap.size w w' := by
  have HON := hide (fun (W : World) (hb : Below w.heap.size w W) => on_any l W (hll.mono hb) hl0 hlm (hfw.below hb))
  obtain ⟨W, hW⟩ : ∃ W, (w.alloc (.cells #[.int .i64 (o : Nat), .int .i64 typ, .int .i64 num, .string text, .int .i64 col, .slice kh.ao kids.length kh.cap] 31)).alloc (.cells #[.int .i64 0, .int .i64 0, .string ⟨#[]⟩] 24) = W := ⟨_, rfl⟩
  have HS0 := hide (show SV w #[.int .i64 (o : Nat), .int .i64 typ, .int .i64 num, .string text, .int .i64 col, .slice kh.ao kids.length kh.cap] W from by rw [← hW]; exact ⟨belAA _ _, (Box.new _ _ _).below (belA _), _, _, _, by have h := Box.new (w.alloc (.cells #[.int .i64 (o : Nat), .int .i64 typ, .int .i64 num, .string text, .int .i64 col, .slice kh.ao kids.length kh.cap] 31)) #[.int .i64 0, .int .i64 0, .string ⟨#[]⟩] 24; simpa only [World.size_alloc] using h⟩)

  have hy0 : ∀ w' : World, SV w #[.int .i64 (o : Nat), .int .i64 typ, .int .i64 num, .string text, .int .i64 col, .slice kh.ao kids.length kh.cap] w' → w'.cell? ⟨w.heap.size, 0, none⟩ = some (.int .i64 (o : Nat)) := fun w' h => h.2.1.cell (j := 0) rfl
  have hy1 : ∀ w' : World, SV w #[.int .i64 (o : Nat), .int .i64 typ, .int .i64 num, .string text, .int .i64 col, .slice kh.ao kids.length kh.cap] w' → w'.cell? ⟨w.heap.size, 1, none⟩ = some (.int .i64 typ) := fun w' h => h.2.1.cell (j := 1) rfl
  have hy2 : ∀ w' : World, SV w #[.int .i64 (o : Nat), .int .i64 typ, .int .i64 num, .string text, .int .i64 col, .slice kh.ao kids.length kh.cap] w' → w'.cell? ⟨w.heap.size, 2, none⟩ = some (.int .i64 num) := fun w' h => h.2.1.cell (j := 2) rfl
  have hy3 : ∀ w' : World, SV w #[.int .i64 (o : Nat), .int .i64 typ, .int .i64 num, .string text, .int .i64 col, .slice kh.ao kids.length kh.cap] w' → w'.cell? ⟨w.heap.size, 3, none⟩ = some (.string text) := fun w' h => h.2.1.cell (j := 3) rfl
  have hy4 : ∀ w' : World, SV w #[.int .i64 (o : Nat), .int .i64 typ, .int .i64 num, .string text, .int .i64 col, .slice kh.ao kids.length kh.cap] w' → w'.cell? ⟨w.heap.size, 4, none⟩ = some (.int .i64 col) := fun w' h => h.2.1.cell (j := 4) rfl
  have hy5 : ∀ w' : World, SV w #[.int .i64 (o : Nat), .int .i64 typ, .int .i64 num, .string text, .int .i64 col, .slice kh.ao kids.length kh.cap] w' → w'.cell? ⟨w.heap.size, 5, none⟩ = some (.slice kh.ao kids.length kh.cap) := fun w' h => h.2.1.cell (j := 5) rfl
  clear hfw hll
  go_enter Tryd.func10, Tryd.ntmps10
  go_wp2
  clear hW
  go_region_held3 (fun w' => SV w #[.int .i64 (o : Nat), .int .i64 typ, .int .i64 num, .string text, .int .i64 col, .slice kh.ao kids.length kh.cap] w') ((with_reducible first | assumption | exact HS0.out.drew | exact SV.set (by assumption) _ _ _)) (first
    | (go_at_call 26; refine (HON.out _ (SV.below (cs := #[.int .i64 (o : Nat), .int .i64 typ, .int .i64 num, .string text, .int .i64 col, .slice kh.ao kids.length kh.cap]) (by first | exact HS0.out.drew | assumption))).mono ?_; rintro e x1 ⟨⟨g, m, rfl, hsw, htx⟩, hb1⟩; have HS1 := SV.call (w := w) (cs := #[.int .i64 (o : Nat), .int .i64 typ, .int .i64 num, .string text, .int .i64 col, .slice kh.ao kids.length kh.cap]) (by first | exact HS0.out.drew | assumption) hb1)
    | (go_at_call 27; refine (HNODE.out g m _ (SV.below (cs := #[.int .i64 (o : Nat), .int .i64 typ, .int .i64 num, .string text, .int .i64 col, .slice kh.ao kids.length kh.cap]) (by assumption)) hsw htx).mono ?_; rintro e x2 ⟨rfl, hb2⟩; have HS2 := SV.call (w := w) (cs := #[.int .i64 (o : Nat), .int .i64 typ, .int .i64 num, .string text, .int .i64 col, .slice kh.ao kids.length kh.cap]) (by assumption) hb2; obtain ⟨v0, v1, v2, hq⟩ := HS2.2.2; have e0 := hq.cell (j := 0) rfl; have e1 := hq.cell (j := 1) rfl; have e2 := hq.cell (j := 2) rfl; have f0 := hq.fr 0; have f1 := hq.fr 1; have f2 := hq.fr 2; clear hq))
  go_wp2
  exact bodyPost_ret (v := .agg #[.int .i64 v.kind, .int .i64 v.num, .string v.text]) (by simp [results, Tryd.results10, go_sem, e0, e1, e2]) rfl ⟨rfl, belset3 HS2.1 (Nat.le_refl _) (Nat.le_succ _) _ _ _⟩
end Go.Proofs.YtlkhiihehaiinaaDoor

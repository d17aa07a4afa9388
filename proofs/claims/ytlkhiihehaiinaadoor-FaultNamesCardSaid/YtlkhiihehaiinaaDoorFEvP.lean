/- What an expression is for a row, plainly; expression.known at any expression. -/
import Derived.Test.YtlkhiihehaiinaaDoorFIn
import Derived.Test.YtlkhiihehaiinaaDoorFKnown
namespace Go.Proofs.YtlkhiihehaiinaaDoor
open Go.RowKit

def kidsOk (op : Int) (n : Nat) : Bool :=
  if op ≤ 5 then decide (n = 0) else if op = 11 ∨ op = 13 ∨ op = 21 ∨ op = 24 ∨ op = 25 then decide (n = 1) else if op = 26 then decide (n = 3) else if op = 28 then decide (2 ≤ n) else decide (n = 2)
def knownB (op : Int) (n : Nat) : Bool := decide (1 ≤ op ∧ op ≤ 28) && kidsOk op n
/-- An expression whose Kids are these values. -/
noncomputable def topV (op num : Int) (text : ByteArray) (col : Int) (row L : List V) : V :=
  if knownB op L.length = false then nulV
  else if op = 2 then ⟨1, num, ⟨#[]⟩⟩ else if op = 3 then ⟨2, num, ⟨#[]⟩⟩ else if op = 4 then ⟨3, 0, text⟩
  else if op = 5 then (if 0 ≤ col ∧ col < row.length then row.getD col.toNat nulV else nulV)
  else if op = 26 then (if truV (L.getD 0 nulV) = 1 then L.getD 1 nulV else L.getD 2 nulV)
  else applyV op L
mutual
noncomputable def Ex.va (row : List V) : Ex → V
  | ⟨op, _, num, text, col, _, kids⟩ => topV op num text col row (Ex.vaL row kids)
noncomputable def Ex.vaL (row : List V) : List Ex → List V
  | [] => []
  | k :: r => Ex.va row k :: Ex.vaL row r
end
theorem Ex.vaL_eq (row : List V) : ∀ l : List Ex, Ex.vaL row l = l.map (Ex.va row)
  | [] => by simp [Ex.vaL]
  | k :: r => by simp [Ex.vaL, Ex.vaL_eq row r]
theorem Ex.va_eq (row : List V) (e : Ex) : e.va row = topV e.op e.num e.text e.col row (e.kids.map (Ex.va row)) := by
  obtain ⟨op, typ, num, text, col, kh, kids⟩ := e
  rw [Ex.va, Ex.vaL_eq]
theorem getD_wf {l : List V} (h : ∀ v ∈ l, v.wf) (k : Nat) : (l.getD k nulV).wf := by
  rw [List.getD_eq_getElem?_getD]
  cases hk : l[k]? with
  | none => exact nul_wf
  | some x => exact h x (List.mem_of_getElem? hk)
theorem in_wf (a : V) (l : List V) : (inV a l).wf := by
  unfold inV
  have : ∀ (l : List V) (o : V), o.wf → (l.foldl (fun o x => orV o (eqV a x)) o).wf := by
    intro l
    induction l with
    | nil => intro o h; exact h
    | cons x l ih => intro o _; exact ih _ (or_wf _ _)
  exact this l _ (bV_wf _)
theorem ite_wf {c : Prop} [Decidable c] {a b : V} (ha : a.wf) (hb : b.wf) : (if c then a else b).wf := by by_cases h : c; rw [if_pos h]; exact ha; rw [if_neg h]; exact hb
theorem apply_wf (op : Int) {l : List V} (h : ∀ v ∈ l, v.wf) : (applyV op l).wf := by
  have h0 := getD_wf h 0
  have h1 := getD_wf h 1
  exact ite_wf (arith_wf _) (ite_wf (arith_wf _) (ite_wf (ite_wf (numV_wf ⟨by omega, by have := h0.2.2; unfold maxLen at this; omega⟩) nul_wf) (ite_wf (eq_wf _ _) (ite_wf (not_wf _) (ite_wf (less_wf _ _) (ite_wf (not_wf _) (ite_wf (less_wf _ _) (ite_wf (not_wf _) (ite_wf (bV_wf _) (ite_wf (bV_wf _) (ite_wf (and_wf _ _) (ite_wf (or_wf _ _) (ite_wf (not_wf _) (ite_wf (bV_wf _) (ite_wf (ite_wf h1 h0) (ite_wf (in_wf _ _) (nul_wf)))))))))))))))))
theorem top_wf {op num : Int} {text : ByteArray} {col : Int} {row L : List V} (hn : int64 num) (ht : text.size ≤ maxLen) (hr : ∀ v ∈ row, v.wf) (hL : ∀ v ∈ L, v.wf) : (topV op num text col row L).wf := by
  unfold topV
  split
  · exact nul_wf
  split
  · exact ⟨i64_lit rfl, hn, Nat.zero_le _⟩
  split
  · exact ⟨i64_lit rfl, hn, Nat.zero_le _⟩
  split
  · exact ⟨i64_lit rfl, i64_lit rfl, ht⟩
  split
  · split
    · exact getD_wf hr _
    · exact nul_wf
  split
  · split <;> exact getD_wf hL _
  · exact apply_wf _ hL
theorem Ex.va_wf {w : World} {row : List V} (hr : ∀ v ∈ row, v.wf) {e : Ex} (h : e.In w) : (e.va row).wf := by
  induction h with
  | mk e hw hrow hk ih =>
    rw [Ex.va_eq]
    refine top_wf hw.2.2.1 hw.2.2.2.1 hr ?_
    intro v hv
    obtain ⟨k, hk2, rfl⟩ := List.mem_map.1 hv
    exact ih k hk2
theorem cnt_kids (i : Nat) (h0 : 0 < i) (hi : i < ops.length) (n : Nat) : cntB (i : Nat) ops[i].2.1 n = kidsOk (i : Nat) n := by
  have hl := ops_len
  have hc : i = 1 ∨ i = 2 ∨ i = 3 ∨ i = 4 ∨ i = 5 ∨ i = 6 ∨ i = 7 ∨ i = 8 ∨ i = 9 ∨ i = 10 ∨ i = 11 ∨ i = 12 ∨ i = 13 ∨ i = 14 ∨ i = 15 ∨ i = 16 ∨ i = 17 ∨ i = 18 ∨ i = 19 ∨ i = 20 ∨ i = 21 ∨ i = 22 ∨ i = 23 ∨ i = 24 ∨ i = 25 ∨ i = 26 ∨ i = 27 ∨ i = 28 := by omega
  rcases hc with rfl | rfl | rfl | rfl | rfl | rfl | rfl | rfl | rfl | rfl | rfl | rfl | rfl | rfl | rfl | rfl | rfl | rfl | rfl | rfl | rfl | rfl | rfl | rfl | rfl | rfl | rfl | rfl <;> rw [Bool.eq_iff_iff] <;> simp [ops, cntB, kidsOk] <;> first | omega | exact ⟨fun h => by rcases h with h | h; omega; have := of_decide_eq_true h; omega, fun h => by by_cases h2 : n = 2; exact .inl (by omega); exact .inr (decide_eq_true (by omega))⟩
theorem known_any (op typ num : Int) (text : ByteArray) (col : Int) (ko : Option Addr) (n kc : Nat) (w : World) (hf : OpsAt w) :
    Calls Tryd.prog 69 #[.agg #[.int .i64 op, .int .i64 typ, .int .i64 num, .string text, .int .i64 col, .slice ko n kc]] w
      fun e w' => (∃ nm kd ty ow is, e = .returned (.tuple #[.agg #[.string nm, .int .i64 kd, .int .i64 ty, .int .i64 ow], .bool is, .bool (knownB op n)])) ∧ Below w.heap.size w w' := by
  by_cases h : 1 ≤ op ∧ op ≤ 28
  · obtain ⟨i, rfl⟩ : ∃ i : Nat, op = i := ⟨op.toNat, by omega⟩
    have h0 : 0 < i := by omega
    have hi : i < ops.length := by rw [ops_len]; omega
    have hk : knownB (i : Int) n = kidsOk (i : Int) n := by unfold knownB; rw [decide_eq_true h, Bool.true_and]
    refine (known_hit ops[i].1 ops[i].2.1 ops[i].2.2.1 ops[i].2.2.2 i (fun w hw => find_op i hi h0 w hw) typ num text col ko n kc w hf).mono ?_
    rintro e w' ⟨rfl, hb⟩
    exact ⟨⟨_, _, _, _, _, by rw [hk, cnt_kids i h0 hi]⟩, hb⟩
  · have hk : knownB op n = false := by unfold knownB; rw [decide_eq_false h, Bool.false_and]
    refine (known_miss op typ num text col ko n kc (by omega) w hf).mono ?_
    rintro e w' ⟨rfl, hb⟩
    exact ⟨⟨_, _, _, _, _, by rw [hk]⟩, hb⟩
end Go.Proofs.YtlkhiihehaiinaaDoor

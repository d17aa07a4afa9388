/- What the type of an expression is, as a plain function. -/
import Derived.Test.YtmnbhdhgjbgidaaDoorEKnown
import Derived.Test.YtmnbhdhgjbgidaaDoorSize
namespace Go.Proofs.YtmnbhdhgjbgidaaDoor
open Go.RowKit

def isT (t : Int) : Bool := decide (1 ≤ t ∧ t ≤ 3)
def kidsOk (op : Int) (n : Nat) : Bool :=
  if op ≤ 5 then decide (n = 0) else if op = 11 ∨ op = 13 ∨ op = 21 ∨ op = 24 ∨ op = 25 then decide (n = 1) else if op = 26 then decide (n = 3) else if op = 28 then decide (2 ≤ n) else decide (n = 2)
def resE (ts : List Int) (op typ col : Int) (l : List Int) : Int :=
  if op = 1 then typ else if op = 2 then 1 else if op = 3 then 2 else if op = 4 then 3 else if op = 5 then ts.getD col.toNat 0
  else if op ≤ 11 then (if alla 1 l then 1 else 0)
  else if op = 12 then (if alla 3 l then 3 else 0)
  else if op = 13 then (if alla 3 l then 1 else 0)
  else if op = 21 then 2
  else if 22 ≤ op ∧ op ≤ 25 then (if alla 2 l then 2 else 0)
  else if op = 26 then (if (l.getD 0 0 == 2) && (l.getD 1 0 == l.getD 2 0) then l.getD 1 0 else 0)
  else if op = 27 then (if l.getD 0 0 == l.getD 1 0 then l.getD 0 0 else 0)
  else (if alla (l.getD 0 0) l then 2 else 0)
/-- The type and the error of an expression whose Kids have these types. -/
noncomputable def topT (ts : List Int) (op typ num : Int) (text : ByteArray) (col : Int) (l : List Int) : Int × Int :=
  if ¬ ((1 ≤ op ∧ op ≤ 28) ∧ plainE op typ num text col = true) then (0, 1)
  else if ¬ (kidsOk op l.length = true) then (0, 9)
  else if op = 5 ∧ (col < 0 ∨ (ts.length : Int) ≤ col) then (0, 3)
  else if isT (resE ts op typ col l) = true then (resE ts op typ col l, 0) else (0, 4)
/-- .. whose Kids have these types and errors. -/
noncomputable def topF (ts : List Int) (op typ num : Int) (text : ByteArray) (col : Int) (L : List (Int × Int)) : Int × Int :=
  match L.find? (fun p => p.2 != 0) with
  | some p => (0, p.2)
  | none => topT ts op typ num text col (L.map (·.1))
mutual
noncomputable def Ex.ty (ts : List Int) : Ex → Int × Int
  | ⟨op, typ, num, text, col, _, kids⟩ => topF ts op typ num text col (Ex.tyL ts kids)
noncomputable def Ex.tyL (ts : List Int) : List Ex → List (Int × Int)
  | [] => []
  | k :: r => Ex.ty ts k :: Ex.tyL ts r
end
theorem Ex.tyL_eq (ts : List Int) : ∀ l : List Ex, Ex.tyL ts l = l.map (Ex.ty ts)
  | [] => by simp [Ex.tyL]
  | k :: r => by simp [Ex.tyL, Ex.tyL_eq ts r]
theorem Ex.ty_eq (ts : List Int) (op typ num : Int) (text : ByteArray) (col : Int) (kh : Hd) (kids : List Ex) : Ex.ty ts ⟨op, typ, num, text, col, kh, kids⟩ = topF ts op typ num text col (kids.map (Ex.ty ts)) := by
  rw [Ex.ty, Ex.tyL_eq]
theorem topT_ok {ts : List Int} {op typ num : Int} {text : ByteArray} {col : Int} {l : List Int} (h : (topT ts op typ num text col l).2 = 0) : isT (topT ts op typ num text col l).1 = true := by
  unfold topT at h ⊢
  split at h
  · cases h
  · split at h
    · cases h
    · split at h
      · cases h
      · split at h
        · rename_i h1 h2 h3 h4
          rw [if_neg h1, if_neg h2, if_neg h3, if_pos h4]
          exact h4
        · cases h
theorem ty_ok {ts : List Int} {e : Ex} (h : (e.ty ts).2 = 0) : isT (e.ty ts).1 = true := by
  obtain ⟨op, typ, num, text, col, kh, kids⟩ := e
  rw [Ex.ty_eq] at h ⊢
  unfold topF at h ⊢
  split at h
  · rename_i p hp
    have := List.find?_some hp
    have h' : p.2 = 0 := h
    rw [h'] at this
    cases this
  · exact topT_ok h
/-- A Kid that has an error, the first. -/
theorem topF_err {ts : List Int} {op typ num : Int} {text : ByteArray} {col : Int} {kids : List Ex} {k : Nat} (hk : k < kids.length) (he : ¬ ((kids[k].ty ts).2 = 0)) (hn : ∀ j (hj : j < kids.length), j < k → (kids[j].ty ts).2 = 0) :
    topF ts op typ num text col (kids.map (Ex.ty ts)) = (0, (kids[k].ty ts).2) := by
  have : (kids.map (Ex.ty ts)).find? (fun p => p.2 != 0) = some (kids[k].ty ts) := by
    rw [List.find?_eq_some_iff_getElem]
    refine ⟨by simpa using he, k, by simpa using hk, by simp, fun j hj => ?_⟩
    have := hn j (by omega) hj
    simp [this]
  unfold topF
  rw [this]
theorem topF_all {ts : List Int} {op typ num : Int} {text : ByteArray} {col : Int} {kids : List Ex} (hn : ∀ j (hj : j < kids.length), (kids[j].ty ts).2 = 0) :
    topF ts op typ num text col (kids.map (Ex.ty ts)) = topT ts op typ num text col (kids.map fun x => (x.ty ts).1) := by
  have : (kids.map (Ex.ty ts)).find? (fun p => p.2 != 0) = none := by
    rw [List.find?_eq_none]
    intro p hp
    obtain ⟨x, hx, rfl⟩ := List.mem_map.1 hp
    obtain ⟨j, hj, rfl⟩ := List.getElem_of_mem hx
    simp [hn j hj]
  unfold topF
  rw [this]
  simp [List.map_map, Function.comp_def]

/-- What the program's last part answers. -/
def progT (ts : List Int) (i : Nat) (typ col : Int) (l : List Int) (ty ow : Int) : Int × Int :=
  if (i : Int) = 5 then (if isT (ts.getD col.toNat 0) then (ts.getD col.toNat 0, 0) else (0, 4))
  else if fitB ty l = false then (0, 4)
  else if (i : Int) = 1 then (typ, 0) else if ow = 0 then (l.getD (l.length - 1) 0, 0) else (ow, 0)
theorem kids_cnt (i : Nat) (hi : i < ops.length) (h0 : 0 < i) (n : Nat) : cntB i ops[i].2.1 n = kidsOk i n := by
  have hl := ops_len
  have hc : i = 1 ∨ i = 2 ∨ i = 3 ∨ i = 4 ∨ i = 5 ∨ i = 6 ∨ i = 7 ∨ i = 8 ∨ i = 9 ∨ i = 10 ∨ i = 11 ∨ i = 12 ∨ i = 13 ∨ i = 14 ∨ i = 15 ∨ i = 16 ∨ i = 17 ∨ i = 18 ∨ i = 19 ∨ i = 20 ∨ i = 21 ∨ i = 22 ∨ i = 23 ∨ i = 24 ∨ i = 25 ∨ i = 26 ∨ i = 27 ∨ i = 28 := by omega
  rcases hc with rfl | rfl | rfl | rfl | rfl | rfl | rfl | rfl | rfl | rfl | rfl | rfl | rfl | rfl | rfl | rfl | rfl | rfl | rfl | rfl | rfl | rfl | rfl | rfl | rfl | rfl | rfl | rfl
  all_goals simp [ops, cntB, kidsOk]
  all_goals (rw [Bool.eq_iff_iff]; simp; first | done | omega | (constructor <;> intro h <;> first | (rcases h with h | h <;> first | omega | (have h' : (2 : Int) < n := of_decide_eq_true h; omega)) | (by_cases e : n = 2; (left; omega); (right; exact decide_eq_true (show (2 : Int) < n by omega)))))
theorem isT_ne {t : Int} (h : isT t = true) : 1 ≤ t ∧ t ≤ 3 := by unfold isT at h; exact of_decide_eq_true h
theorem len2 {l : List Int} (h : l.length = 2) : ∃ a b, l = [a, b] := by
  match l, h with
  | [a, b], _ => exact ⟨a, b, rfl⟩
theorem len3 {l : List Int} (h : l.length = 3) : ∃ a b c, l = [a, b, c] := by
  match l, h with
  | [a, b, c], _ => exact ⟨a, b, c, rfl⟩
theorem prog_res (ts : List Int) (i : Nat) (hi : i < ops.length) (h0 : 0 < i) (typ col : Int) (l : List Int) (hk : kidsOk i l.length = true) (hl : ∀ t ∈ l, isT t = true) (h1 : i = 1 → isT typ = true) :
    progT ts i typ col l ops[i].2.2.1 ops[i].2.2.2 = if isT (resE ts i typ col l) = true then (resE ts i typ col l, 0) else (0, 4) := by
  have hlen := ops_len
  by_cases h26 : i = 26
  · subst h26
    obtain ⟨a, b, c, rfl⟩ := len3 (l := l) (by simpa [kidsOk] using hk)
    have ha := hl a (by simp)
    have hb := hl b (by simp)
    have hc := hl c (by simp)
    simp only [progT, resE, fitB, ops]
    by_cases e1 : a = 2
    · by_cases e2 : b = c
      · subst e1; subst e2; simp [hb]
      · subst e1; simp [e2, isT]
    · simp [e1, isT]
  by_cases h27 : i = 27
  · subst h27
    obtain ⟨a, b, rfl⟩ := len2 (l := l) (by simpa [kidsOk] using hk)
    have ha := hl a (by simp)
    have hb := hl b (by simp)
    simp only [progT, resE, fitB, ops, alla]
    by_cases e1 : a = b
    · subst e1; simp [ha]
    · simp [e1, Ne.symm e1, isT]
  have hc : i = 1 ∨ i = 2 ∨ i = 3 ∨ i = 4 ∨ i = 5 ∨ i = 6 ∨ i = 7 ∨ i = 8 ∨ i = 9 ∨ i = 10 ∨ i = 11 ∨ i = 12 ∨ i = 13 ∨ i = 14 ∨ i = 15 ∨ i = 16 ∨ i = 17 ∨ i = 18 ∨ i = 19 ∨ i = 20 ∨ i = 21 ∨ i = 22 ∨ i = 23 ∨ i = 24 ∨ i = 25 ∨ i = 28 := by omega
  rcases hc with rfl | rfl | rfl | rfl | rfl | rfl | rfl | rfl | rfl | rfl | rfl | rfl | rfl | rfl | rfl | rfl | rfl | rfl | rfl | rfl | rfl | rfl | rfl | rfl | rfl | rfl
  all_goals simp [progT, resE, fitB, ops]
  all_goals first
    | exact h1 rfl
    | rfl
    | (generalize alla _ _ = b; cases b <;> simp [isT])
end Go.Proofs.YtmnbhdhgjbgidaaDoor

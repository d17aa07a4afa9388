/- ref36.Find: it answers as fault.Find does. -/
import Derived.Test.YtlkhiihehaiinaaDoorFRText
import Derived.Test.YtlkhiihehaiinaaDoorFVal
namespace Go.Proofs.YtlkhiihehaiinaaDoor
open Go.RowKit

/-- The k-th text is t for no k below n. -/
theorem idx_none (l : List ByteArray) (t : ByteArray) : ∀ (i : Nat), (∀ x ∈ l, x ≠ t) → Lib.idxFromS l t i = -1 := by
  induction l with
  | nil => intro i _; rfl
  | cons a r ih =>
    intro i h
    unfold Lib.idxFromS
    rw [if_neg (h a (List.mem_cons_self ..))]
    exact ih _ (fun x hx => h x (List.mem_cons_of_mem _ hx))
theorem idx_some (l : List ByteArray) (t : ByteArray) : ∀ (i k : Nat), (∀ j, j < k → l[j]? ≠ some t) → l[k]? = some t → Lib.idxFromS l t i = (i + k : Nat) := by
  induction l with
  | nil => intro i k _ h; cases h
  | cons a r ih =>
    intro i k h1 h2
    unfold Lib.idxFromS
    cases k with
    | zero => rw [if_pos (by simpa using h2)]; simp
    | succ k =>
      rw [if_neg (fun e => h1 0 (by omega) (by simp [e]))]
      rw [ih (i + 1) k (fun j hj => by have := h1 (j + 1) (by omega); simpa using this) (by simpa using h2)]
      congr 1; omega
theorem texts_get (k : Nat) (hk : k < 180) : (textsL.map mk)[k]? = some (textAt ((k : Int) + 1)) := by
  have hkl : k < textsL.length := by rw [texts_len]; exact hk
  rw [List.getElem?_map, List.getElem?_eq_getElem hkl]
  unfold textAt
  rw [if_pos (by omega), show ((k : Int) + 1 - 1).toNat = k by omega, List.getD_eq_getElem?_getD, List.getElem?_eq_getElem hkl]
  rfl
theorem fnd_none {t : ByteArray} (h : ∀ k : Nat, k < 180 → textAt ((k : Int) + 1) ≠ t) : findAt t + 1 = 0 := by
  unfold findAt Lib.idxOfS
  rw [idx_none]
  · rfl
  · intro x hx e
    obtain ⟨k, hk⟩ := List.mem_iff_getElem?.1 hx
    have hl : k < 180 := by have := (List.getElem?_eq_some_iff.1 hk).1; rwa [List.length_map, texts_len] at this
    rw [texts_get k hl] at hk
    injection hk with hk
    exact h k hl (hk.trans e)
theorem fnd_some {t : ByteArray} {k : Nat} (hk : k < 180) (h : ∀ j : Nat, j < k → textAt ((j : Int) + 1) ≠ t) (h2 : textAt ((k : Int) + 1) = t) : findAt t + 1 = (k : Int) + 1 := by
  unfold findAt Lib.idxOfS
  rw [idx_some (textsL.map mk) t 0 k (fun j hj e => by rw [texts_get j (by omega)] at e; injection e with e; exact h j hj e) (by rw [texts_get k hk, h2])]
  omega

set_option maxRecDepth 100000 in
set_option maxHeartbeats 2000000 in
theorem rfind_any (t : ByteArray) (w : World) : Calls Tryd.prog 18 #[.string t] w fun e w' => e = .returned (.tuple #[.int .i64 (findAt t + 1), .bool (decide (0 < findAt t + 1))]) ∧ Below w.heap.size w w' := by
  go_enter Tryd.func18, Tryd.ntmps18
  go_wp2
  go_loopw [4] (fun i wr => ∃ k : Nat, k ≤ 180 ∧ i = .int .i64 (k + 1) ∧ Hid (∀ j : Nat, j < k → textAt ((j : Int) + 1) ≠ t) ∧ Hid (Below w.heap.size w wr)) (fun i _ => 181 - (intOf i).toNat)
  case atStart => exact ⟨0, by omega, rfl, hide (fun j h => absurd h (by omega)), hide (Below.refl _ _)⟩
  case round =>
    obtain ⟨k, hk, rfl, HO, HB⟩ := hrel
    have hw1 : IntKind.i64.wrap ((k : Int) + 1 + 1) = ((k + 1 : Nat) : Int) + 1 := by rw [IntKind.wrap_i64]; omega
    by_cases hlt : k < 180
    · have hle : (k : Int) + 1 ≤ 180 := by omega
      have hid : int64 ((k : Int) + 1) := by constructor <;> omega
      obtain ⟨y, hy⟩ : ∃ y, textAt ((k : Int) + 1) = y := ⟨_, rfl⟩
      have HT := hide (show ∀ W, Calls Tryd.prog 5 #[.int .i64 ((k : Int) + 1)] W fun e w' => e = .returned (.string y) ∧ Below W.heap.size W w' from fun W => by have := rtext_any _ hid W; rwa [hy] at this)
      by_cases hyt : y = t
      · have HF := hide (fnd_some hlt HO.out (hy.trans hyt))
        have hb : (y.toList == t.toList) = true := by rw [hyt]; simp
        clear hy hyt
        go_wp2_with (first
          | (go_at_call 15; refine (rcount_any _).mono ?_; rintro e w2 ⟨rfl, hb2⟩; have HB2 := hide (HB.out.trans (hb2.mono HB.out.size)); clear hb2)
          | (go_at_call 5; refine (HT.out _).mono ?_; rintro e w3 ⟨rfl, hb3⟩; have HB3 := hide (HB2.out.trans (hb3.mono HB2.out.size)); clear hb3))
        go_ret2
        exact ⟨ret2 ⟨HF.out.symm, by rw [HF.out]; exact (decide_eq_true (by omega)).symm⟩, HB3.out⟩
      · have HN := hide (show ∀ j : Nat, j < k + 1 → textAt ((j : Int) + 1) ≠ t from fun j hj => if e : j = k then (by subst e; rw [hy]; exact hyt) else HO.out j (by omega))
        have hb : (y.toList == t.toList) = false := by rw [beq_eq_false_iff_ne]; intro e; exact hyt (ByteArray.ext (by have h := e; rw [ByteArray.toList_eq, ByteArray.toList_eq] at h; exact Array.toList_inj.1 h))
        clear hy hyt
        go_wp2_with (first
          | (go_at_call 15; refine (rcount_any _).mono ?_; rintro e w2 ⟨rfl, hb2⟩; have HB2 := hide (HB.out.trans (hb2.mono HB.out.size)); clear hb2)
          | (go_at_call 5; refine (HT.out _).mono ?_; rintro e w3 ⟨rfl, hb3⟩; have HB3 := hide (HB2.out.trans (hb3.mono HB2.out.size)); clear hb3))
        go_roundw
        case rel => exact ⟨k + 1, by omega, by go_num, HN, HB3⟩
        case measure => simp [intOf]; omega
    · have hke : k = 180 := by omega
      have HF := hide (fnd_none (t := t) (fun j hj => HO.out j (by omega)))
      have hle : ¬ (k : Int) + 1 ≤ 180 := by omega
      go_wp2_with (first
        | (go_at_call 15; refine (rcount_any _).mono ?_; rintro e w2 ⟨rfl, hb2⟩; have HB2 := hide (HB.out.trans (hb2.mono HB.out.size)); clear hb2))
      go_ret2
      exact ⟨ret2 ⟨HF.out.symm, by rw [HF.out]; exact (decide_eq_false (by omega)).symm⟩, HB2.out⟩
end Go.Proofs.YtlkhiihehaiinaaDoor

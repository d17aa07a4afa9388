/- cmp.Compare, cmp.Or, value.Compare: the order of values. -/
import Derived.Test.YtlkhiihehaiinaaDoorGA
import Derived.Test.YtlkhiihehaiinaaDoorGC
import Derived.Test.YtlkhiihehaiinaaDoorFFamK
import Derived.LoopTactic
namespace Go.Proofs.YtlkhiihehaiinaaDoor
open Go.RowKit

set_option maxRecDepth 100000 in
theorem nan_int (a : Int) (w : World) : Calls Tryd.prog 112 #[.int .i64 a] w fun e w' => e = .returned (.bool false) ∧ Below w.heap.size w w' := by
  go_enter Tryd.func112, Tryd.ntmps112
  go_wp2
  go_ret
  exact ⟨rfl, Below.refl _ _⟩
set_option maxRecDepth 100000 in
theorem nan_i64 (a : Int) (w : World) : Calls Tryd.prog 113 #[.int .i64 a] w fun e w' => e = .returned (.bool false) ∧ Below w.heap.size w w' := by
  go_enter Tryd.func113, Tryd.ntmps113
  go_wp2
  go_ret
  exact ⟨rfl, Below.refl _ _⟩
set_option maxRecDepth 100000 in
theorem nan_str (a : ByteArray) (w : World) : Calls Tryd.prog 114 #[.string a] w fun e w' => e = .returned (.bool false) ∧ Below w.heap.size w w' := by
  go_enter Tryd.func114, Tryd.ntmps114
  go_wp2
  go_ret
  exact ⟨rfl, Below.refl _ _⟩

set_option maxRecDepth 100000 in
theorem cmp_int (a b : Int) (w : World) : Calls Tryd.prog 105 #[.int .i64 a, .int .i64 b] w fun e w' => e = .returned (.int .i64 (cmpI a b)) ∧ Below w.heap.size w w' := by
  by_cases h1 : a < b
  · rw [show cmpI a b = -1 from if_pos h1]
    go_enter Tryd.func105, Tryd.ntmps105
    go_wp2_with (first
      | (go_at_call 112; refine (nan_int a _).mono ?_; rintro e x ⟨rfl, hx⟩; have HX := hide hx; clear hx)
      | (go_at_call 112; refine (nan_int b _).mono ?_; rintro e y ⟨rfl, hy⟩; have HY := hide (bel_trans HX.out hy); clear hy))
    go_ret
    exact ⟨rfl, HY.out⟩
  by_cases h2 : b < a
  · rw [show cmpI a b = 1 from (if_neg h1).trans (if_pos h2)]
    go_enter Tryd.func105, Tryd.ntmps105
    go_wp2_with (first
      | (go_at_call 112; refine (nan_int a _).mono ?_; rintro e x ⟨rfl, hx⟩; have HX := hide hx; clear hx)
      | (go_at_call 112; refine (nan_int b _).mono ?_; rintro e y ⟨rfl, hy⟩; have HY := hide (bel_trans HX.out hy); clear hy))
    go_ret
    exact ⟨rfl, HY.out⟩
  · rw [show cmpI a b = 0 from (if_neg h1).trans (if_neg h2)]
    go_enter Tryd.func105, Tryd.ntmps105
    go_wp2_with (first
      | (go_at_call 112; refine (nan_int a _).mono ?_; rintro e x ⟨rfl, hx⟩; have HX := hide hx; clear hx)
      | (go_at_call 112; refine (nan_int b _).mono ?_; rintro e y ⟨rfl, hy⟩; have HY := hide (bel_trans HX.out hy); clear hy))
    go_ret
    exact ⟨rfl, HY.out⟩
set_option maxRecDepth 100000 in
theorem cmp_i64 (a b : Int) (w : World) : Calls Tryd.prog 106 #[.int .i64 a, .int .i64 b] w fun e w' => e = .returned (.int .i64 (cmpI a b)) ∧ Below w.heap.size w w' := by
  by_cases h1 : a < b
  · rw [show cmpI a b = -1 from if_pos h1]
    go_enter Tryd.func106, Tryd.ntmps106
    go_wp2_with (first
      | (go_at_call 113; refine (nan_i64 a _).mono ?_; rintro e x ⟨rfl, hx⟩; have HX := hide hx; clear hx)
      | (go_at_call 113; refine (nan_i64 b _).mono ?_; rintro e y ⟨rfl, hy⟩; have HY := hide (bel_trans HX.out hy); clear hy))
    go_ret
    exact ⟨rfl, HY.out⟩
  by_cases h2 : b < a
  · rw [show cmpI a b = 1 from (if_neg h1).trans (if_pos h2)]
    go_enter Tryd.func106, Tryd.ntmps106
    go_wp2_with (first
      | (go_at_call 113; refine (nan_i64 a _).mono ?_; rintro e x ⟨rfl, hx⟩; have HX := hide hx; clear hx)
      | (go_at_call 113; refine (nan_i64 b _).mono ?_; rintro e y ⟨rfl, hy⟩; have HY := hide (bel_trans HX.out hy); clear hy))
    go_ret
    exact ⟨rfl, HY.out⟩
  · rw [show cmpI a b = 0 from (if_neg h1).trans (if_neg h2)]
    go_enter Tryd.func106, Tryd.ntmps106
    go_wp2_with (first
      | (go_at_call 113; refine (nan_i64 a _).mono ?_; rintro e x ⟨rfl, hx⟩; have HX := hide hx; clear hx)
      | (go_at_call 113; refine (nan_i64 b _).mono ?_; rintro e y ⟨rfl, hy⟩; have HY := hide (bel_trans HX.out hy); clear hy))
    go_ret
    exact ⟨rfl, HY.out⟩
set_option maxRecDepth 100000 in
theorem cmp_str (a b : ByteArray) (w : World) : Calls Tryd.prog 107 #[.string a, .string b] w fun e w' => e = .returned (.int .i64 (cmpS a b)) ∧ Below w.heap.size w w' := by
  by_cases h1 : Op.bytesLess a.toList b.toList = true
  · rw [show cmpS a b = -1 from if_pos h1]
    go_enter Tryd.func107, Tryd.ntmps107
    go_wp2_with (first
      | (go_at_call 114; refine (nan_str a _).mono ?_; rintro e x ⟨rfl, hx⟩; have HX := hide hx; clear hx)
      | (go_at_call 114; refine (nan_str b _).mono ?_; rintro e y ⟨rfl, hy⟩; have HY := hide (bel_trans HX.out hy); clear hy))
    go_ret
    exact ⟨rfl, HY.out⟩
  by_cases h2 : (a.toList == b.toList) = true
  · rw [show cmpS a b = 0 from (if_neg h1).trans (if_pos h2)]
    have g1 : Op.bytesLess a.toList b.toList = false := by simpa using h1
    clear h1
    go_enter Tryd.func107, Tryd.ntmps107
    go_wp2_with (first
      | (go_at_call 114; refine (nan_str a _).mono ?_; rintro e x ⟨rfl, hx⟩; have HX := hide hx; clear hx)
      | (go_at_call 114; refine (nan_str b _).mono ?_; rintro e y ⟨rfl, hy⟩; have HY := hide (bel_trans HX.out hy); clear hy))
    go_ret
    exact ⟨rfl, HY.out⟩
  · rw [show cmpS a b = 1 from (if_neg h1).trans (if_neg h2)]
    have g1 : Op.bytesLess a.toList b.toList = false := by simpa using h1
    have g2 : (a.toList == b.toList) = false := by simpa using h2
    clear h1 h2
    go_enter Tryd.func107, Tryd.ntmps107
    go_wp2_with (first
      | (go_at_call 114; refine (nan_str a _).mono ?_; rintro e x ⟨rfl, hx⟩; have HX := hide hx; clear hx)
      | (go_at_call 114; refine (nan_str b _).mono ?_; rintro e y ⟨rfl, hy⟩; have HY := hide (bel_trans HX.out hy); clear hy))
    go_ret
    exact ⟨rfl, HY.out⟩

/-- The first that is not nought. -/
def fnz : List Int → Int
  | [] => 0
  | a :: r => if a ≠ 0 then a else fnz r
theorem fnz_hit : ∀ (l : List Int) (k : Nat) (hk : k < l.length), (∀ j (hj : j < l.length), j < k → l[j] = 0) → l[k] ≠ 0 → fnz l = l[k]
  | [], k, hk, _, _ => absurd hk (by simp)
  | a :: r, 0, _, _, h => by
    have h' : a ≠ 0 := h
    unfold fnz; rw [if_pos h']; rfl
  | a :: r, k + 1, hk, h1, h2 => by
    have h0 : a = 0 := h1 0 (by simp) (by omega)
    unfold fnz
    rw [if_neg (by simp [h0])]
    exact fnz_hit r k (by simpa using hk) (fun j hj hjk => h1 (j + 1) (by simpa using hj) (by omega)) h2
theorem fnz_none : ∀ (l : List Int), (∀ j (hj : j < l.length), l[j] = 0) → fnz l = 0
  | [], _ => rfl
  | a :: r, h => by
    have h0 : a = 0 := h 0 (by simp)
    unfold fnz
    rw [if_neg (by simp [h0])]
    exact fnz_none r (fun j hj => h (j + 1) (by simpa using hj))
set_option maxRecDepth 100000 in
set_option maxHeartbeats 1000000 in
theorem or_any (M : IL) (w : World) (hM : M.In w) : Calls Tryd.prog 104 #[.slice M.h.ao M.l.length M.h.cap] w fun e w' => e = .returned (.int .i64 (fnz M.l)) ∧ Below w.heap.size w w' := by
  have hn := hM.1.len
  have HM := hide hM
  clear hM
  go_enter Tryd.func104, Tryd.ntmps104
  go_wp2
  go_loopw [8] (fun i wr => ∃ k : Nat, k ≤ M.l.length ∧ i = .int .i64 k ∧ Hid (∀ j (hj : j < M.l.length), j < k → M.l[j] = 0) ∧ Hid (Below w.heap.size w wr)) (fun i _ => M.l.length - (intOf i).toNat)
  case atStart => exact ⟨0, Nat.zero_le _, rfl, hide (fun j _ h => absurd h (by omega)), hide (Below.refl _ _)⟩
  case round =>
    obtain ⟨k, hk, rfl, HO, HB⟩ := hrel
    by_cases hlt : k < M.l.length
    · have hlti : (k : Int) < M.l.length := by omega
      have hin := HM.out.mono HB.out
      have hix := hin.1.ix hlt Tryd.underlying34 szil
      have c0 := int_at hin.1 hlt
      have hbk := hin.1.blk hlt
      obtain ⟨n, hnn⟩ : ∃ n, M.l[k] = n := ⟨_, rfl⟩
      rw [hnn] at c0
      have HN := hide hnn
      clear hnn hin
      by_cases h0 : n = 0
      · subst h0
        go_wp2
        go_roundw
        case rel => exact ⟨k + 1, by omega, by go_num, hide (fun j hj h => if e : j = k then (by subst e; exact HN.out) else HO.out j hj (by omega)), HB⟩
        case measure => simp [intOf]; omega
      · have HF := hide (show fnz M.l = n from by rw [fnz_hit M.l k hlt HO.out (by rw [HN.out]; exact h0), HN.out])
        have hb : (n != 0) = true := bne_iff_ne.2 h0
        clear h0
        go_wp2
        go_ret
        exact ⟨by rw [HF.out]; rfl, HB.out⟩
    · have hlti : ¬ (k : Int) < M.l.length := by omega
      have HF := hide (fnz_none M.l (fun j hj => HO.out j hj (by omega)))
      go_wp2
      go_ret
      exact ⟨by rw [HF.out]; rfl, HB.out⟩
theorem cmpI_64 (a b : Int) : int64 (cmpI a b) := by
  unfold cmpI int64
  split
  · omega
  · split <;> omega
theorem cmpS_64 (a b : ByteArray) : int64 (cmpS a b) := by
  unfold cmpS int64
  split
  · omega
  · split <;> omega
theorem cmp_fnz (a b : V) : fnz [cmpI a.kind b.kind, cmpI a.num b.num, cmpS a.text b.text] = cmpV a b := by
  unfold cmpV
  simp only [fnz]
  split
  · rfl
  split
  · rfl
  split <;> simp_all
theorem new_il {w : World} (l : List Int) (hl : l.length ≤ maxLen) (h : ∀ n ∈ l, int64 n) : IL.In (w.alloc (.cells (l.flatMap icells).toArray 3)) ⟨⟨some ⟨w.heap.size, 0, none⟩, l.length⟩, l⟩ := ⟨new_row (fun _ => rfl) hl, h⟩

set_option maxRecDepth 100000 in
set_option maxHeartbeats 2000000 in
theorem vcmp_any (a b : V) (w : World) : Calls Tryd.prog 97 #[.agg #[.int .i64 a.kind, .int .i64 a.num, .string a.text], .agg #[.int .i64 b.kind, .int .i64 b.num, .string b.text]] w fun e w' => e = .returned (.int .i64 (cmpV a b)) ∧ Below w.heap.size w w' := by
  obtain ⟨ak, an, av⟩ := a
  obtain ⟨bk, bn, bv⟩ := b
  have HCV := hide (cmp_fnz ⟨ak, an, av⟩ ⟨bk, bn, bv⟩)
  obtain ⟨r, hr⟩ : ∃ r, cmpV ⟨ak, an, av⟩ ⟨bk, bn, bv⟩ = r := ⟨_, rfl⟩
  rw [hr] at HCV ⊢
  clear hr
  have hi1 := cmpI_64 ak bk
  have hi2 := cmpI_64 an bn
  have hi3 := cmpS_64 av bv
  have H1 := hide (fun W => cmp_int ak bk W)
  have H2 := hide (fun W => cmp_i64 an bn W)
  have H3 := hide (fun W => cmp_str av bv W)
  dsimp only at HCV
  generalize cmpI ak bk = c1 at *
  generalize cmpI an bn = c2 at *
  generalize cmpS av bv = c3 at *
  have HI := hide (show ∀ n ∈ [c1, c2, c3], int64 n from by intro n hn; simp at hn; rcases hn with rfl | rfl | rfl <;> assumption)
  clear hi1 hi2 hi3
  go_enter Tryd.func97, Tryd.ntmps97
  obtain ⟨W, hW⟩ : ∃ W, ((w.alloc (.cells #[.int .i64 ak, .int .i64 an, .string av] 24)).alloc (.cells #[.int .i64 bk, .int .i64 bn, .string bv] 24)) = W := ⟨_, rfl⟩
  have hy00 : ∀ w' : World, Below W.heap.size W w' → w'.cell? ⟨w.heap.size, 0, none⟩ = some (.int .i64 ak) := fun w' h => by rw [← hW] at h; exact (boxes2 h).1.cell (j := 0) rfl
  have hy01 : ∀ w' : World, Below W.heap.size W w' → w'.cell? ⟨w.heap.size, 1, none⟩ = some (.int .i64 an) := fun w' h => by rw [← hW] at h; exact (boxes2 h).1.cell (j := 1) rfl
  have hy02 : ∀ w' : World, Below W.heap.size W w' → w'.cell? ⟨w.heap.size, 2, none⟩ = some (.string av) := fun w' h => by rw [← hW] at h; exact (boxes2 h).1.cell (j := 2) rfl
  have hy10 : ∀ w' : World, Below W.heap.size W w' → w'.cell? ⟨w.heap.size + 1, 0, none⟩ = some (.int .i64 bk) := fun w' h => by rw [← hW] at h; exact (boxes2 h).2.1.cell (j := 0) rfl
  have hy11 : ∀ w' : World, Below W.heap.size W w' → w'.cell? ⟨w.heap.size + 1, 1, none⟩ = some (.int .i64 bn) := fun w' h => by rw [← hW] at h; exact (boxes2 h).2.1.cell (j := 1) rfl
  have hy12 : ∀ w' : World, Below W.heap.size W w' → w'.cell? ⟨w.heap.size + 1, 2, none⟩ = some (.string bv) := fun w' h => by rw [← hW] at h; exact (boxes2 h).2.1.cell (j := 2) rfl
  have HBW := hide (show ∀ x, Below W.heap.size W x → Below w.heap.size w x from fun x h => by rw [← hW] at h; exact bel2 h)
  go_wp2
  clear hW
  go_region_held3 (fun w' => Below W.heap.size W w') ((first | exact (Below.refl _ _).drew | exact bel_trans (by assumption) (by assumption) | exact bel_trans (by assumption) (belA _))) (first
    | (go_at_call 105; with_reducible refine (H1.out _).mono ?_; rintro e x1 ⟨rfl, hb1⟩)
    | (go_at_call 106; with_reducible refine (H2.out _).mono ?_; rintro e x2 ⟨rfl, hb2⟩)
    | (go_at_call 107; with_reducible refine (H3.out _).mono ?_; rintro e x3 ⟨rfl, hb3⟩)
    | (go_at_call 104; refine (or_any ⟨⟨some ⟨_, 0, none⟩, 3⟩, [c1, c2, c3]⟩ _ (new_il [c1, c2, c3] (by show 3 ≤ maxLen; decide) HI.out)).mono ?_; rintro e x4 ⟨rfl, hb4⟩; dsimp only; rw [HCV.out]))
  go_wp2
  go_ret
  exact ⟨rfl, HBW.out _ (by assumption)⟩
end Go.Proofs.YtlkhiihehaiinaaDoor

/- ref01.Truth, Bool, Of, Compare, Same. -/
import Derived.Test.YtlkhiihehaiinaaDoorGE
namespace Go.Proofs.YtlkhiihehaiinaaDoor
open Go.RowKit

set_option maxRecDepth 100000 in
theorem rtru_any (a : V) (w : World) : Calls Tryd.prog 37 #[.agg #[.int .i64 a.kind, .int .i64 a.num, .string a.text]] w fun e w' => e = .returned (.int .i64 (truV a)) ∧ Below w.heap.size w w' := by
  obtain ⟨k, n, s⟩ := a
  by_cases hk : k = 2
  · subst hk
    by_cases hn : n = 1
    · subst hn
      go_enter Tryd.func37, Tryd.ntmps37
      go_wp2
      go_ret
      exact ⟨rfl, belA _⟩
    · have hb : (n == 1) = false := beq_eq_false_iff_ne.2 hn
      have hr : truV ⟨2, n, s⟩ = 0 := by unfold truV; rw [if_pos rfl, if_neg hn]
      rw [hr]
      clear hn
      go_enter Tryd.func37, Tryd.ntmps37
      go_wp2
      go_ret
      exact ⟨rfl, belA _⟩
  · have hb : (k != 2) = true := bne_iff_ne.2 hk
    have hr : truV ⟨k, n, s⟩ = 2 := by unfold truV; rw [if_neg hk]
    rw [hr]
    clear hk
    go_enter Tryd.func37, Tryd.ntmps37
    go_wp2
    go_ret
    exact ⟨rfl, belA _⟩

set_option maxRecDepth 100000 in
theorem rbool_any (n : Int) (w : World) : Calls Tryd.prog 60 #[.int .i64 n] w fun e w' => e = .returned (.agg #[.int .i64 (boolV n).kind, .int .i64 (boolV n).num, .string (boolV n).text]) ∧ Below w.heap.size w w' := by
  by_cases h0 : n = 0
  · subst h0
    go_enter Tryd.func60, Tryd.ntmps60
    go_wp2
    exact bodyPost_ret (v := .agg #[.int .i64 2, .int .i64 0, .string ⟨#[]⟩]) (by simp [results, Tryd.results60, go_sem]) rfl ⟨rfl, belA _⟩
  by_cases h1 : n = 1
  · subst h1
    go_enter Tryd.func60, Tryd.ntmps60
    go_wp2
    exact bodyPost_ret (v := .agg #[.int .i64 2, .int .i64 1, .string ⟨#[]⟩]) (by simp [results, Tryd.results60, go_sem]) rfl ⟨rfl, belA _⟩
  · have hr : boolV n = nulV := by unfold boolV; rw [if_neg (by omega)]
    rw [hr]
    have b0 : (n != 0) = true := bne_iff_ne.2 h0
    have b1 : (n != 1) = true := bne_iff_ne.2 h1
    clear h0 h1
    go_enter Tryd.func60, Tryd.ntmps60
    go_wp2
    exact bodyPost_ret (v := .agg #[.int .i64 0, .int .i64 0, .string ⟨#[]⟩]) (by simp [results, Tryd.results60, go_sem]) rfl ⟨rfl, belA _⟩

set_option maxRecDepth 100000 in
theorem rof_any (b : Bool) (w : World) : Calls Tryd.prog 33 #[.bool b] w fun e w' => e = .returned (.agg #[.int .i64 (bV b).kind, .int .i64 (bV b).num, .string (bV b).text]) ∧ Below w.heap.size w w' := by
  cases b
  · go_enter Tryd.func33, Tryd.ntmps33
    go_wp2_with (go_at_call 60; refine (rbool_any 0 _).mono ?_; rintro e x ⟨rfl, hb⟩; have HB := hide hb; have hx := ((Box.new _ _ _).below hb); have e0 := hx.cell (j := 0) rfl; have e1 := hx.cell (j := 1) rfl; have e2 := hx.cell (j := 2) rfl; have f0 := hx.fr 0; have f1 := hx.fr 1; have f2 := hx.fr 2; clear hx hb)
    exact bodyPost_ret (v := .agg #[.int .i64 (boolV 0).kind, .int .i64 (boolV 0).num, .string (boolV 0).text]) (by simp [results, Tryd.results33, go_sem, e0, e1, e2]) rfl ⟨rfl, belset3 (bel1 HB.out) (Nat.le_refl _) (Nat.le_refl _) _ _ _⟩
  · go_enter Tryd.func33, Tryd.ntmps33
    go_wp2_with (go_at_call 60; refine (rbool_any 1 _).mono ?_; rintro e x ⟨rfl, hb⟩; have HB := hide hb; have hx := ((Box.new _ _ _).below hb); have e0 := hx.cell (j := 0) rfl; have e1 := hx.cell (j := 1) rfl; have e2 := hx.cell (j := 2) rfl; have f0 := hx.fr 0; have f1 := hx.fr 1; have f2 := hx.fr 2; clear hx hb)
    exact bodyPost_ret (v := .agg #[.int .i64 (boolV 1).kind, .int .i64 (boolV 1).num, .string (boolV 1).text]) (by simp [results, Tryd.results33, go_sem, e0, e1, e2]) rfl ⟨rfl, belset3 (bel1 HB.out) (Nat.le_refl _) (Nat.le_refl _) _ _ _⟩
theorem less_tri : ∀ (x y : List UInt8), Op.bytesLess x y = false → Op.bytesLess y x = false → x = y
  | [], [], _, _ => rfl
  | [], _ :: _, h, _ => by simp [Op.bytesLess] at h
  | _ :: _, [], _, h => by simp [Op.bytesLess] at h
  | a :: x, b :: y, h1, h2 => by
    simp only [Op.bytesLess, Bool.or_eq_false_iff, decide_eq_false_iff_not, Bool.and_eq_false_iff, beq_eq_false_iff_ne] at h1 h2
    have hab : a = b := UInt8.le_antisymm (UInt8.not_lt.1 h2.1) (UInt8.not_lt.1 h1.1)
    subst hab
    rw [less_tri x y (h1.2.resolve_left (fun h => h rfl)) (h2.2.resolve_left (fun h => h rfl))]
theorem less_irr : ∀ x : List UInt8, Op.bytesLess x x = false
  | [] => rfl
  | a :: x => by
    simp only [Op.bytesLess, Bool.or_eq_false_iff, decide_eq_false_iff_not, Bool.and_eq_false_iff]
    exact ⟨UInt8.lt_irrefl a, .inr (less_irr x)⟩
theorem cmpS_z {s t : ByteArray} : cmpS s t = 0 ↔ (s.toList == t.toList) = true := by
  unfold cmpS
  split
  · rename_i h
    refine ⟨fun h => by omega, fun he => ?_⟩
    rw [eq_of_beq he, less_irr] at h
    cases h
  · split
    · rename_i h1 h2
      exact ⟨fun _ => h2, fun _ => rfl⟩
    · rename_i h1 h2
      exact ⟨fun h => by omega, fun he => absurd he h2⟩
theorem cmpI_z {s t : Int} : cmpI s t = 0 ↔ s = t := by unfold cmpI; split <;> (try split) <;> omega
theorem cmp_same (a b : V) : (cmpV a b == 0) = sameB a b := by
  unfold cmpV sameB
  by_cases h1 : cmpI a.kind b.kind = 0
  · rw [if_neg (fun h => h h1)]
    have e1 := cmpI_z.1 h1
    by_cases h2 : cmpI a.num b.num = 0
    · rw [if_neg (fun h => h h2)]
      have e2 := cmpI_z.1 h2
      rw [e1, e2]
      by_cases h3 : cmpS a.text b.text = 0
      · rw [h3, cmpS_z.1 h3]; simp
      · rw [beq_eq_false_iff_ne.2 h3]
        have : (a.text.toList == b.text.toList) = false := by
          cases hh : (a.text.toList == b.text.toList) with
          | false => rfl
          | true => exact absurd (cmpS_z.2 hh) h3
        rw [this]; simp
    · rw [if_pos h2, beq_eq_false_iff_ne.2 h2]
      have : (a.num == b.num) = false := beq_eq_false_iff_ne.2 (fun e => h2 (cmpI_z.2 e))
      rw [this]; simp
  · rw [if_pos h1, beq_eq_false_iff_ne.2 h1]
    have : (a.kind == b.kind) = false := beq_eq_false_iff_ne.2 (fun e => h1 (cmpI_z.2 e))
    rw [this]; simp

set_option maxRecDepth 100000 in
set_option maxHeartbeats 1000000 in
theorem rcmp_any (a b : V) (w : World) : Calls Tryd.prog 61 #[.agg #[.int .i64 a.kind, .int .i64 a.num, .string a.text], .agg #[.int .i64 b.kind, .int .i64 b.num, .string b.text]] w fun e w' => e = .returned (.int .i64 (cmpV a b)) ∧ Below w.heap.size w w' := by
  have hr : cmpV a b = if a.kind < b.kind then -1 else if b.kind < a.kind then 1 else if a.num < b.num then -1 else if b.num < a.num then 1 else if Op.bytesLess a.text.toList b.text.toList = true then -1 else if Op.bytesLess b.text.toList a.text.toList = true then 1 else 0 := by
    unfold cmpV cmpI cmpS
    by_cases h1 : a.kind < b.kind
    · simp [h1]
    by_cases h2 : b.kind < a.kind
    · simp [h1, h2]
    by_cases h3 : a.num < b.num
    · simp [h1, h2, h3]
    by_cases h4 : b.num < a.num
    · simp [h1, h2, h3, h4]
    by_cases h5 : Op.bytesLess a.text.toList b.text.toList = true
    · simp [h1, h2, h3, h4, h5]
    by_cases h6 : Op.bytesLess b.text.toList a.text.toList = true
    · have : ¬ (a.text.toList == b.text.toList) = true := fun he => by rw [eq_of_beq he, less_irr] at h6; cases h6
      rw [if_neg (by simp [h1, h2]), if_neg (by simp [h3, h4]), if_neg h5, if_neg this, if_neg h1, if_neg h2, if_neg h3, if_neg h4, if_neg h5, if_pos h6]
    · have : (a.text.toList == b.text.toList) = true := beq_iff_eq.2 (less_tri _ _ (by simpa using h5) (by simpa using h6))
      rw [if_neg (by simp [h1, h2]), if_neg (by simp [h3, h4]), if_neg h5, if_pos this, if_neg h1, if_neg h2, if_neg h3, if_neg h4, if_neg h5, if_neg h6]
  rw [hr]
  obtain ⟨ak, an, av⟩ := a
  obtain ⟨bk, bn, bv⟩ := b
  dsimp only
  clear hr
  by_cases h1 : ak < bk
  · rw [if_pos h1]
    go_enter Tryd.func61, Tryd.ntmps61
    go_wp2
    go_ret
    exact ⟨rfl, belAA _ _⟩
  rw [if_neg h1]
  by_cases h2 : bk < ak
  · rw [if_pos h2]
    go_enter Tryd.func61, Tryd.ntmps61
    go_wp2
    go_ret
    exact ⟨rfl, belAA _ _⟩
  rw [if_neg h2]
  by_cases h3 : an < bn
  · rw [if_pos h3]
    go_enter Tryd.func61, Tryd.ntmps61
    go_wp2
    go_ret
    exact ⟨rfl, belAA _ _⟩
  rw [if_neg h3]
  by_cases h4 : bn < an
  · rw [if_pos h4]
    go_enter Tryd.func61, Tryd.ntmps61
    go_wp2
    go_ret
    exact ⟨rfl, belAA _ _⟩
  rw [if_neg h4]
  by_cases h5 : Op.bytesLess av.toList bv.toList = true
  · rw [if_pos h5]
    go_enter Tryd.func61, Tryd.ntmps61
    go_wp2
    go_ret
    exact ⟨rfl, belAA _ _⟩
  rw [if_neg h5]
  have g5 : Op.bytesLess av.toList bv.toList = false := by simpa using h5
  clear h5
  by_cases h6 : Op.bytesLess bv.toList av.toList = true
  · rw [if_pos h6]
    have g7 : (av.toList == bv.toList) = false := beq_eq_false_iff_ne.2 (fun he => by rw [he, less_irr] at h6; cases h6)
    clear h6
    go_enter Tryd.func61, Tryd.ntmps61
    go_wp2
    go_ret
    exact ⟨rfl, belAA _ _⟩
  rw [if_neg h6]
  have g7 : (av.toList == bv.toList) = true := beq_iff_eq.2 (less_tri _ _ g5 (by simpa using h6))
  clear h6
  go_enter Tryd.func61, Tryd.ntmps61
  go_wp2
  go_ret
  exact ⟨rfl, belAA _ _⟩

set_option maxRecDepth 100000 in
theorem rsame_any (a b : V) (w : World) : Calls Tryd.prog 34 #[.agg #[.int .i64 a.kind, .int .i64 a.num, .string a.text], .agg #[.int .i64 b.kind, .int .i64 b.num, .string b.text]] w fun e w' => e = .returned (.bool (sameB a b)) ∧ Below w.heap.size w w' := by
  have HS := hide (cmp_same a b)
  go_enter Tryd.func34, Tryd.ntmps34
  go_wp2_with (go_at_call 61; refine (rcmp_any a b _).mono ?_; rintro e x ⟨rfl, hx⟩; have HX := hide hx; clear hx)
  go_ret
  exact ⟨congrArg (fun b => Ending.returned (.bool b)) HS.out, bel2 HX.out⟩
end Go.Proofs.YtlkhiihehaiinaaDoor

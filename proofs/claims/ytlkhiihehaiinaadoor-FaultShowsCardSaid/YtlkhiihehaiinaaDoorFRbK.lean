/- ref01.Equal, Less, Not, And, Or. -/
import Derived.Test.YtlkhiihehaiinaaDoorFRaK
namespace Go.Proofs.YtlkhiihehaiinaaDoor
open Go.RowKit

set_option maxRecDepth 100000 in
set_option maxHeartbeats 1000000 in
theorem req_any (a b : V) (w : World) : Calls Tryd.prog 30 #[.agg #[.int .i64 a.kind, .int .i64 a.num, .string a.text], .agg #[.int .i64 b.kind, .int .i64 b.num, .string b.text]] w fun e w' => e = .returned (.agg #[.int .i64 (eqV a b).kind, .int .i64 (eqV a b).num, .string (eqV a b).text]) ∧ Below w.heap.size w w' := by
  by_cases ha : a.kind = 0
  · have hr : eqV a b = nulV := if_pos (.inl ha)
    rw [hr]
    obtain ⟨ka, na, sa⟩ := a
    dsimp only at ha
    subst ha
    clear hr
    go_enter Tryd.func30, Tryd.ntmps30
    go_wp2
    exact bodyPost_ret (v := .agg #[.int .i64 0, .int .i64 0, .string ⟨#[]⟩]) (by simp [results, Tryd.results30, go_sem]) rfl ⟨rfl, bel3 (Below.refl _ _)⟩
  by_cases hb : b.kind = 0
  · have hr : eqV a b = nulV := if_pos (.inr hb)
    rw [hr]
    obtain ⟨kb, nb, sb⟩ := b
    dsimp only at hb
    subst hb
    have h1 := kind_b ha
    clear hr ha
    go_enter Tryd.func30, Tryd.ntmps30
    go_wp2
    exact bodyPost_ret (v := .agg #[.int .i64 0, .int .i64 0, .string ⟨#[]⟩]) (by simp [results, Tryd.results30, go_sem]) rfl ⟨rfl, bel3 (Below.refl _ _)⟩
  · have hr : eqV a b = bV (sameB a b) := if_neg (by omega)
    have h1 := kind_b ha
    have h2 := kind_b hb
    rw [hr]
    clear hr ha hb
    go_enter Tryd.func30, Tryd.ntmps30
    go_wp2_with (first
      | (go_at_call 34; refine (rsame_any a b _).mono ?_; rintro e x ⟨rfl, hx⟩; have HX := hide hx; clear hx)
      | (go_at_call 33; refine (rof_any _ _).mono ?_; rintro e y ⟨rfl, hy⟩; have HY := hide (bel_trans HX.out hy); have hq := (boxes3 HY.out).2.2.1; have e0 := hq.cell (j := 0) rfl; have f0 := hq.fr 0; have e1 := hq.cell (j := 1) rfl; have f1 := hq.fr 1; have e2 := hq.cell (j := 2) rfl; have f2 := hq.fr 2; clear hq hy))
    exact bodyPost_ret (v := .agg #[.int .i64 (bV (sameB a b)).kind, .int .i64 (bV (sameB a b)).num, .string (bV (sameB a b)).text]) (by simp [results, Tryd.results30, go_sem, e0, e1, e2]) rfl ⟨rfl, belset3 (bel3 HY.out) (Nat.le_refl _) (by omega) _ _ _⟩

set_option maxRecDepth 100000 in
set_option maxHeartbeats 1000000 in
theorem rless_any (a b : V) (w : World) : Calls Tryd.prog 32 #[.agg #[.int .i64 a.kind, .int .i64 a.num, .string a.text], .agg #[.int .i64 b.kind, .int .i64 b.num, .string b.text]] w fun e w' => e = .returned (.agg #[.int .i64 (lessV a b).kind, .int .i64 (lessV a b).num, .string (lessV a b).text]) ∧ Below w.heap.size w w' := by
  by_cases ha : a.kind = 0
  · have hr : lessV a b = nulV := if_pos (.inl ha)
    rw [hr]
    obtain ⟨ka, na, sa⟩ := a
    dsimp only at ha
    subst ha
    clear hr
    go_enter Tryd.func32, Tryd.ntmps32
    go_wp2
    exact bodyPost_ret (v := .agg #[.int .i64 0, .int .i64 0, .string ⟨#[]⟩]) (by simp [results, Tryd.results32, go_sem]) rfl ⟨rfl, bel3 (Below.refl _ _)⟩
  by_cases hb : b.kind = 0
  · have hr : lessV a b = nulV := if_pos (.inr hb)
    rw [hr]
    obtain ⟨kb, nb, sb⟩ := b
    dsimp only at hb
    subst hb
    have h1 := kind_b ha
    clear hr ha
    go_enter Tryd.func32, Tryd.ntmps32
    go_wp2
    exact bodyPost_ret (v := .agg #[.int .i64 0, .int .i64 0, .string ⟨#[]⟩]) (by simp [results, Tryd.results32, go_sem]) rfl ⟨rfl, bel3 (Below.refl _ _)⟩
  · have hr : lessV a b = bV (decide (cmpV a b < 0)) := if_neg (by omega)
    have h1 := kind_b ha
    have h2 := kind_b hb
    rw [hr]
    clear hr ha hb
    go_enter Tryd.func32, Tryd.ntmps32
    go_wp2_with (first
      | (go_at_call 61; refine (rcmp_any a b _).mono ?_; rintro e x ⟨rfl, hx⟩; have HX := hide hx; clear hx)
      | (go_at_call 33; refine (rof_any _ _).mono ?_; rintro e y ⟨rfl, hy⟩; have HY := hide (bel_trans HX.out hy); have hq := (boxes3 HY.out).2.2.1; have e0 := hq.cell (j := 0) rfl; have f0 := hq.fr 0; have e1 := hq.cell (j := 1) rfl; have f1 := hq.fr 1; have e2 := hq.cell (j := 2) rfl; have f2 := hq.fr 2; clear hq hy))
    exact bodyPost_ret (v := .agg #[.int .i64 (bV (decide (cmpV a b < 0))).kind, .int .i64 (bV (decide (cmpV a b < 0))).num, .string (bV (decide (cmpV a b < 0))).text]) (by simp [results, Tryd.results32, go_sem, e0, e1, e2]) rfl ⟨rfl, belset3 (bel3 HY.out) (Nat.le_refl _) (by omega) _ _ _⟩

set_option maxRecDepth 100000 in
set_option maxHeartbeats 1000000 in
theorem rnot_any (a : V) (w : World) : Calls Tryd.prog 31 #[.agg #[.int .i64 a.kind, .int .i64 a.num, .string a.text]] w fun e w' => e = .returned (.agg #[.int .i64 (notV a).kind, .int .i64 (notV a).num, .string (notV a).text]) ∧ Below w.heap.size w w' := by
  have HT := hide (fun W => rtru_any a W)
  have hN : ∀ n, truV a = n → notV a = if n = 2 then nulV else bV (n == 0) := fun n h => by unfold notV; rw [h]
  rcases truV_cases a with h | h | h
  · have hr := hN _ h
    rw [show notV a = bV true from hr]
    rw [h] at HT
    clear hN h hr
    go_enter Tryd.func31, Tryd.ntmps31
    go_wp2_with (first
      | (go_at_call 37; refine (HT.out _).mono ?_; rintro e x ⟨rfl, hx⟩; have HX := hide hx; clear hx)
      | (go_at_call 60; refine (rbool_any 1 _).mono ?_; rintro e y ⟨rfl, hy⟩; have HY := hide (bel_trans HX.out hy); have hq := (boxes2 HY.out).2.1; have e0 := hq.cell (j := 0) rfl; have f0 := hq.fr 0; have e1 := hq.cell (j := 1) rfl; have f1 := hq.fr 1; have e2 := hq.cell (j := 2) rfl; have f2 := hq.fr 2; clear hq hy))
    exact bodyPost_ret (v := .agg #[.int .i64 (boolV 1).kind, .int .i64 (boolV 1).num, .string (boolV 1).text]) (by simp [results, Tryd.results31, go_sem, e0, e1, e2]) rfl ⟨rfl, belset3 (bel2 HY.out) (Nat.le_refl _) (by omega) _ _ _⟩
  · have hr := hN _ h
    rw [show notV a = bV false from hr]
    rw [h] at HT
    clear hN h hr
    go_enter Tryd.func31, Tryd.ntmps31
    go_wp2_with (first
      | (go_at_call 37; refine (HT.out _).mono ?_; rintro e x ⟨rfl, hx⟩; have HX := hide hx; clear hx)
      | (go_at_call 60; refine (rbool_any 0 _).mono ?_; rintro e y ⟨rfl, hy⟩; have HY := hide (bel_trans HX.out hy); have hq := (boxes2 HY.out).2.1; have e0 := hq.cell (j := 0) rfl; have f0 := hq.fr 0; have e1 := hq.cell (j := 1) rfl; have f1 := hq.fr 1; have e2 := hq.cell (j := 2) rfl; have f2 := hq.fr 2; clear hq hy))
    exact bodyPost_ret (v := .agg #[.int .i64 (boolV 0).kind, .int .i64 (boolV 0).num, .string (boolV 0).text]) (by simp [results, Tryd.results31, go_sem, e0, e1, e2]) rfl ⟨rfl, belset3 (bel2 HY.out) (Nat.le_refl _) (by omega) _ _ _⟩
  · have hr := hN _ h
    rw [show notV a = nulV from hr]
    rw [h] at HT
    clear hN h hr
    go_enter Tryd.func31, Tryd.ntmps31
    go_wp2_with (go_at_call 37; refine (HT.out _).mono ?_; rintro e x ⟨rfl, hx⟩; have HX := hide hx; have hq := (boxes2 HX.out).2.1; have e0 := hq.cell (j := 0) rfl; have f0 := hq.fr 0; have e1 := hq.cell (j := 1) rfl; have f1 := hq.fr 1; have e2 := hq.cell (j := 2) rfl; have f2 := hq.fr 2; clear hq hx)
    exact bodyPost_ret (v := .agg #[.int .i64 0, .int .i64 0, .string ⟨#[]⟩]) (by simp [results, Tryd.results31, go_sem, e0, e1, e2]) rfl ⟨rfl, belset3 (bel2 HX.out) (Nat.le_refl _) (by omega) _ _ _⟩

set_option maxRecDepth 100000 in
set_option maxHeartbeats 4000000 in
theorem rand_any (a b : V) (w : World) : Calls Tryd.prog 35 #[.agg #[.int .i64 a.kind, .int .i64 a.num, .string a.text], .agg #[.int .i64 b.kind, .int .i64 b.num, .string b.text]] w fun e w' => e = .returned (.agg #[.int .i64 (andV a b).kind, .int .i64 (andV a b).num, .string (andV a b).text]) ∧ Below w.heap.size w w' := by
  have HB := hide (show ∀ x, Below (((w.alloc (.cells #[.int .i64 a.kind, .int .i64 a.num, .string a.text] 24)).alloc (.cells #[.int .i64 b.kind, .int .i64 b.num, .string b.text] 24)).alloc (.cells #[.int .i64 0, .int .i64 0, .string ⟨#[]⟩] 24)).heap.size (((w.alloc (.cells #[.int .i64 a.kind, .int .i64 a.num, .string a.text] 24)).alloc (.cells #[.int .i64 b.kind, .int .i64 b.num, .string b.text] 24)).alloc (.cells #[.int .i64 0, .int .i64 0, .string ⟨#[]⟩] 24)) x → Box x (w.heap.size + 2) #[.int .i64 0, .int .i64 0, .string ⟨#[]⟩] 24 ∧ Below w.heap.size w x from fun x h => ⟨(boxes3 h).2.2.1, bel3 h⟩)
  have hy : ∀ x, Below (((w.alloc (.cells #[.int .i64 a.kind, .int .i64 a.num, .string a.text] 24)).alloc (.cells #[.int .i64 b.kind, .int .i64 b.num, .string b.text] 24)).alloc (.cells #[.int .i64 0, .int .i64 0, .string ⟨#[]⟩] 24)).heap.size (((w.alloc (.cells #[.int .i64 a.kind, .int .i64 a.num, .string a.text] 24)).alloc (.cells #[.int .i64 b.kind, .int .i64 b.num, .string b.text] 24)).alloc (.cells #[.int .i64 0, .int .i64 0, .string ⟨#[]⟩] 24)) x → Box x w.heap.size #[.int .i64 a.kind, .int .i64 a.num, .string a.text] 24 ∧ Box x (w.heap.size + 1) #[.int .i64 b.kind, .int .i64 b.num, .string b.text] 24 := fun x h => ⟨(boxes3 h).1, (boxes3 h).2.1⟩
  have HTA := hide (fun W => rtru_any a W)
  have HTB := hide (fun W => rtru_any b W)
  obtain ⟨W, hW⟩ : ∃ W, (((w.alloc (.cells #[.int .i64 a.kind, .int .i64 a.num, .string a.text] 24)).alloc (.cells #[.int .i64 b.kind, .int .i64 b.num, .string b.text] 24)).alloc (.cells #[.int .i64 0, .int .i64 0, .string ⟨#[]⟩] 24)) = W := ⟨_, rfl⟩
  rw [hW] at HB hy
  have hy00 : ∀ w' : World, Below W.heap.size W w' → w'.cell? ⟨w.heap.size, 0, none⟩ = some (.int .i64 a.kind) := fun w' h => (hy w' h).1.cell (j := 0) rfl
  have hy01 : ∀ w' : World, Below W.heap.size W w' → w'.cell? ⟨w.heap.size, 1, none⟩ = some (.int .i64 a.num) := fun w' h => (hy w' h).1.cell (j := 1) rfl
  have hy02 : ∀ w' : World, Below W.heap.size W w' → w'.cell? ⟨w.heap.size, 2, none⟩ = some (.string a.text) := fun w' h => (hy w' h).1.cell (j := 2) rfl
  have hy10 : ∀ w' : World, Below W.heap.size W w' → w'.cell? ⟨w.heap.size + 1, 0, none⟩ = some (.int .i64 b.kind) := fun w' h => (hy w' h).2.cell (j := 0) rfl
  have hy11 : ∀ w' : World, Below W.heap.size W w' → w'.cell? ⟨w.heap.size + 1, 1, none⟩ = some (.int .i64 b.num) := fun w' h => (hy w' h).2.cell (j := 1) rfl
  have hy12 : ∀ w' : World, Below W.heap.size W w' → w'.cell? ⟨w.heap.size + 1, 2, none⟩ = some (.string b.text) := fun w' h => (hy w' h).2.cell (j := 2) rfl
  clear hy
  have hS : ∀ n m, truV a = n → truV b = m → andV a b = (if n = 0 ∨ m = 0 then bV false else if n = 2 ∨ m = 2 then nulV else bV true) := fun n m h1 h2 => by unfold andV; rw [h1, h2]
  rcases truV_cases a with h | h | h <;> rcases truV_cases b with h2 | h2 | h2
  · have hr := hS _ _ h h2
    rw [show andV a b = bV false from hr]
    rw [h] at HTA
    rw [h2] at HTB
    clear hS h h2 hr
    go_enter Tryd.func35, Tryd.ntmps35
    go_wp2
    clear hW
    go_region_held3 (fun w' => Below W.heap.size W w') ((first | exact (Below.refl _ _).drew | exact bel_trans (by assumption) (by assumption))) (first
      | (go_at_call 37; with_reducible refine (HTA.out _).mono ?_; rintro e x1 ⟨rfl, hb1⟩)
      | (go_at_call 37; with_reducible refine (HTB.out _).mono ?_; rintro e x2 ⟨rfl, hb2⟩))
    have HX := hide (show Below W.heap.size W x2 by assumption)
    go_wp2_with (go_at_call 60; refine (rbool_any 0 _).mono ?_; rintro e y ⟨rfl, hy⟩; have HY := hide (bel_trans HX.out hy); have hq := (HB.out _ HY.out).1; have e0 := hq.cell (j := 0) rfl; have f0 := hq.fr 0; have e1 := hq.cell (j := 1) rfl; have f1 := hq.fr 1; have e2 := hq.cell (j := 2) rfl; have f2 := hq.fr 2; clear hq hy)
    exact bodyPost_ret (v := .agg #[.int .i64 (boolV 0).kind, .int .i64 (boolV 0).num, .string (boolV 0).text]) (by simp [results, Tryd.results35, go_sem, e0, e1, e2]) rfl ⟨rfl, belset3 (HB.out _ HY.out).2 (Nat.le_refl _) (by omega) _ _ _⟩
  · have hr := hS _ _ h h2
    rw [show andV a b = bV false from hr]
    rw [h] at HTA
    rw [h2] at HTB
    clear hS h h2 hr
    go_enter Tryd.func35, Tryd.ntmps35
    go_wp2
    clear hW
    go_region_held3 (fun w' => Below W.heap.size W w') ((first | exact (Below.refl _ _).drew | exact bel_trans (by assumption) (by assumption))) (first
      | (go_at_call 37; with_reducible refine (HTA.out _).mono ?_; rintro e x1 ⟨rfl, hb1⟩)
      | (go_at_call 37; with_reducible refine (HTB.out _).mono ?_; rintro e x2 ⟨rfl, hb2⟩))
    have HX := hide (show Below W.heap.size W x2 by assumption)
    go_wp2_with (go_at_call 60; refine (rbool_any 0 _).mono ?_; rintro e y ⟨rfl, hy⟩; have HY := hide (bel_trans HX.out hy); have hq := (HB.out _ HY.out).1; have e0 := hq.cell (j := 0) rfl; have f0 := hq.fr 0; have e1 := hq.cell (j := 1) rfl; have f1 := hq.fr 1; have e2 := hq.cell (j := 2) rfl; have f2 := hq.fr 2; clear hq hy)
    exact bodyPost_ret (v := .agg #[.int .i64 (boolV 0).kind, .int .i64 (boolV 0).num, .string (boolV 0).text]) (by simp [results, Tryd.results35, go_sem, e0, e1, e2]) rfl ⟨rfl, belset3 (HB.out _ HY.out).2 (Nat.le_refl _) (by omega) _ _ _⟩
  · have hr := hS _ _ h h2
    rw [show andV a b = bV false from hr]
    rw [h] at HTA
    rw [h2] at HTB
    clear hS h h2 hr
    go_enter Tryd.func35, Tryd.ntmps35
    go_wp2
    clear hW
    go_region_held3 (fun w' => Below W.heap.size W w') ((first | exact (Below.refl _ _).drew | exact bel_trans (by assumption) (by assumption))) (first
      | (go_at_call 37; with_reducible refine (HTA.out _).mono ?_; rintro e x1 ⟨rfl, hb1⟩)
      | (go_at_call 37; with_reducible refine (HTB.out _).mono ?_; rintro e x2 ⟨rfl, hb2⟩))
    have HX := hide (show Below W.heap.size W x2 by assumption)
    go_wp2_with (go_at_call 60; refine (rbool_any 0 _).mono ?_; rintro e y ⟨rfl, hy⟩; have HY := hide (bel_trans HX.out hy); have hq := (HB.out _ HY.out).1; have e0 := hq.cell (j := 0) rfl; have f0 := hq.fr 0; have e1 := hq.cell (j := 1) rfl; have f1 := hq.fr 1; have e2 := hq.cell (j := 2) rfl; have f2 := hq.fr 2; clear hq hy)
    exact bodyPost_ret (v := .agg #[.int .i64 (boolV 0).kind, .int .i64 (boolV 0).num, .string (boolV 0).text]) (by simp [results, Tryd.results35, go_sem, e0, e1, e2]) rfl ⟨rfl, belset3 (HB.out _ HY.out).2 (Nat.le_refl _) (by omega) _ _ _⟩
  · have hr := hS _ _ h h2
    rw [show andV a b = bV false from hr]
    rw [h] at HTA
    rw [h2] at HTB
    clear hS h h2 hr
    go_enter Tryd.func35, Tryd.ntmps35
    go_wp2
    clear hW
    go_region_held3 (fun w' => Below W.heap.size W w') ((first | exact (Below.refl _ _).drew | exact bel_trans (by assumption) (by assumption))) (first
      | (go_at_call 37; with_reducible refine (HTA.out _).mono ?_; rintro e x1 ⟨rfl, hb1⟩)
      | (go_at_call 37; with_reducible refine (HTB.out _).mono ?_; rintro e x2 ⟨rfl, hb2⟩))
    have HX := hide (show Below W.heap.size W x2 by assumption)
    go_wp2_with (go_at_call 60; refine (rbool_any 0 _).mono ?_; rintro e y ⟨rfl, hy⟩; have HY := hide (bel_trans HX.out hy); have hq := (HB.out _ HY.out).1; have e0 := hq.cell (j := 0) rfl; have f0 := hq.fr 0; have e1 := hq.cell (j := 1) rfl; have f1 := hq.fr 1; have e2 := hq.cell (j := 2) rfl; have f2 := hq.fr 2; clear hq hy)
    exact bodyPost_ret (v := .agg #[.int .i64 (boolV 0).kind, .int .i64 (boolV 0).num, .string (boolV 0).text]) (by simp [results, Tryd.results35, go_sem, e0, e1, e2]) rfl ⟨rfl, belset3 (HB.out _ HY.out).2 (Nat.le_refl _) (by omega) _ _ _⟩
  · have hr := hS _ _ h h2
    rw [show andV a b = bV true from hr]
    rw [h] at HTA
    rw [h2] at HTB
    clear hS h h2 hr
    go_enter Tryd.func35, Tryd.ntmps35
    go_wp2
    clear hW
    go_region_held3 (fun w' => Below W.heap.size W w') ((first | exact (Below.refl _ _).drew | exact bel_trans (by assumption) (by assumption))) (first
      | (go_at_call 37; with_reducible refine (HTA.out _).mono ?_; rintro e x1 ⟨rfl, hb1⟩)
      | (go_at_call 37; with_reducible refine (HTB.out _).mono ?_; rintro e x2 ⟨rfl, hb2⟩))
    have HX := hide (show Below W.heap.size W x2 by assumption)
    go_wp2_with (go_at_call 60; refine (rbool_any 1 _).mono ?_; rintro e y ⟨rfl, hy⟩; have HY := hide (bel_trans HX.out hy); have hq := (HB.out _ HY.out).1; have e0 := hq.cell (j := 0) rfl; have f0 := hq.fr 0; have e1 := hq.cell (j := 1) rfl; have f1 := hq.fr 1; have e2 := hq.cell (j := 2) rfl; have f2 := hq.fr 2; clear hq hy)
    exact bodyPost_ret (v := .agg #[.int .i64 (boolV 1).kind, .int .i64 (boolV 1).num, .string (boolV 1).text]) (by simp [results, Tryd.results35, go_sem, e0, e1, e2]) rfl ⟨rfl, belset3 (HB.out _ HY.out).2 (Nat.le_refl _) (by omega) _ _ _⟩
  · have hr := hS _ _ h h2
    rw [show andV a b = nulV from hr]
    rw [h] at HTA
    rw [h2] at HTB
    clear hS h h2 hr
    go_enter Tryd.func35, Tryd.ntmps35
    go_wp2
    clear hW
    go_region_held3 (fun w' => Below W.heap.size W w') ((first | exact (Below.refl _ _).drew | exact bel_trans (by assumption) (by assumption))) (first
      | (go_at_call 37; with_reducible refine (HTA.out _).mono ?_; rintro e x1 ⟨rfl, hb1⟩)
      | (go_at_call 37; with_reducible refine (HTB.out _).mono ?_; rintro e x2 ⟨rfl, hb2⟩))
    have HX := hide (show Below W.heap.size W x2 by assumption)
    have hq := (HB.out _ HX.out).1
    have e0 := hq.cell (j := 0) rfl
    have e1 := hq.cell (j := 1) rfl
    have e2 := hq.cell (j := 2) rfl
    have f0 := hq.fr 0
    have f1 := hq.fr 1
    have f2 := hq.fr 2
    clear hq
    go_wp2
    exact bodyPost_ret (v := .agg #[.int .i64 0, .int .i64 0, .string ⟨#[]⟩]) (by simp [results, Tryd.results35, go_sem, e0, e1, e2]) rfl ⟨rfl, belset3 (HB.out _ HX.out).2 (Nat.le_refl _) (by omega) _ _ _⟩
  · have hr := hS _ _ h h2
    rw [show andV a b = bV false from hr]
    rw [h] at HTA
    rw [h2] at HTB
    clear hS h h2 hr
    go_enter Tryd.func35, Tryd.ntmps35
    go_wp2
    clear hW
    go_region_held3 (fun w' => Below W.heap.size W w') ((first | exact (Below.refl _ _).drew | exact bel_trans (by assumption) (by assumption))) (first
      | (go_at_call 37; with_reducible refine (HTA.out _).mono ?_; rintro e x1 ⟨rfl, hb1⟩)
      | (go_at_call 37; with_reducible refine (HTB.out _).mono ?_; rintro e x2 ⟨rfl, hb2⟩))
    have HX := hide (show Below W.heap.size W x2 by assumption)
    go_wp2_with (go_at_call 60; refine (rbool_any 0 _).mono ?_; rintro e y ⟨rfl, hy⟩; have HY := hide (bel_trans HX.out hy); have hq := (HB.out _ HY.out).1; have e0 := hq.cell (j := 0) rfl; have f0 := hq.fr 0; have e1 := hq.cell (j := 1) rfl; have f1 := hq.fr 1; have e2 := hq.cell (j := 2) rfl; have f2 := hq.fr 2; clear hq hy)
    exact bodyPost_ret (v := .agg #[.int .i64 (boolV 0).kind, .int .i64 (boolV 0).num, .string (boolV 0).text]) (by simp [results, Tryd.results35, go_sem, e0, e1, e2]) rfl ⟨rfl, belset3 (HB.out _ HY.out).2 (Nat.le_refl _) (by omega) _ _ _⟩
  · have hr := hS _ _ h h2
    rw [show andV a b = nulV from hr]
    rw [h] at HTA
    rw [h2] at HTB
    clear hS h h2 hr
    go_enter Tryd.func35, Tryd.ntmps35
    go_wp2
    clear hW
    go_region_held3 (fun w' => Below W.heap.size W w') ((first | exact (Below.refl _ _).drew | exact bel_trans (by assumption) (by assumption))) (first
      | (go_at_call 37; with_reducible refine (HTA.out _).mono ?_; rintro e x1 ⟨rfl, hb1⟩)
      | (go_at_call 37; with_reducible refine (HTB.out _).mono ?_; rintro e x2 ⟨rfl, hb2⟩))
    have HX := hide (show Below W.heap.size W x2 by assumption)
    have hq := (HB.out _ HX.out).1
    have e0 := hq.cell (j := 0) rfl
    have e1 := hq.cell (j := 1) rfl
    have e2 := hq.cell (j := 2) rfl
    have f0 := hq.fr 0
    have f1 := hq.fr 1
    have f2 := hq.fr 2
    clear hq
    go_wp2
    exact bodyPost_ret (v := .agg #[.int .i64 0, .int .i64 0, .string ⟨#[]⟩]) (by simp [results, Tryd.results35, go_sem, e0, e1, e2]) rfl ⟨rfl, belset3 (HB.out _ HX.out).2 (Nat.le_refl _) (by omega) _ _ _⟩
  · have hr := hS _ _ h h2
    rw [show andV a b = nulV from hr]
    rw [h] at HTA
    rw [h2] at HTB
    clear hS h h2 hr
    go_enter Tryd.func35, Tryd.ntmps35
    go_wp2
    clear hW
    go_region_held3 (fun w' => Below W.heap.size W w') ((first | exact (Below.refl _ _).drew | exact bel_trans (by assumption) (by assumption))) (first
      | (go_at_call 37; with_reducible refine (HTA.out _).mono ?_; rintro e x1 ⟨rfl, hb1⟩)
      | (go_at_call 37; with_reducible refine (HTB.out _).mono ?_; rintro e x2 ⟨rfl, hb2⟩))
    have HX := hide (show Below W.heap.size W x2 by assumption)
    have hq := (HB.out _ HX.out).1
    have e0 := hq.cell (j := 0) rfl
    have e1 := hq.cell (j := 1) rfl
    have e2 := hq.cell (j := 2) rfl
    have f0 := hq.fr 0
    have f1 := hq.fr 1
    have f2 := hq.fr 2
    clear hq
    go_wp2
    exact bodyPost_ret (v := .agg #[.int .i64 0, .int .i64 0, .string ⟨#[]⟩]) (by simp [results, Tryd.results35, go_sem, e0, e1, e2]) rfl ⟨rfl, belset3 (HB.out _ HX.out).2 (Nat.le_refl _) (by omega) _ _ _⟩

set_option maxRecDepth 100000 in
set_option maxHeartbeats 4000000 in
theorem ror_any (a b : V) (w : World) : Calls Tryd.prog 36 #[.agg #[.int .i64 a.kind, .int .i64 a.num, .string a.text], .agg #[.int .i64 b.kind, .int .i64 b.num, .string b.text]] w fun e w' => e = .returned (.agg #[.int .i64 (orV a b).kind, .int .i64 (orV a b).num, .string (orV a b).text]) ∧ Below w.heap.size w w' := by
  have HB := hide (show ∀ x, Below (((w.alloc (.cells #[.int .i64 a.kind, .int .i64 a.num, .string a.text] 24)).alloc (.cells #[.int .i64 b.kind, .int .i64 b.num, .string b.text] 24)).alloc (.cells #[.int .i64 0, .int .i64 0, .string ⟨#[]⟩] 24)).heap.size (((w.alloc (.cells #[.int .i64 a.kind, .int .i64 a.num, .string a.text] 24)).alloc (.cells #[.int .i64 b.kind, .int .i64 b.num, .string b.text] 24)).alloc (.cells #[.int .i64 0, .int .i64 0, .string ⟨#[]⟩] 24)) x → Box x (w.heap.size + 2) #[.int .i64 0, .int .i64 0, .string ⟨#[]⟩] 24 ∧ Below w.heap.size w x from fun x h => ⟨(boxes3 h).2.2.1, bel3 h⟩)
  have hy : ∀ x, Below (((w.alloc (.cells #[.int .i64 a.kind, .int .i64 a.num, .string a.text] 24)).alloc (.cells #[.int .i64 b.kind, .int .i64 b.num, .string b.text] 24)).alloc (.cells #[.int .i64 0, .int .i64 0, .string ⟨#[]⟩] 24)).heap.size (((w.alloc (.cells #[.int .i64 a.kind, .int .i64 a.num, .string a.text] 24)).alloc (.cells #[.int .i64 b.kind, .int .i64 b.num, .string b.text] 24)).alloc (.cells #[.int .i64 0, .int .i64 0, .string ⟨#[]⟩] 24)) x → Box x w.heap.size #[.int .i64 a.kind, .int .i64 a.num, .string a.text] 24 ∧ Box x (w.heap.size + 1) #[.int .i64 b.kind, .int .i64 b.num, .string b.text] 24 := fun x h => ⟨(boxes3 h).1, (boxes3 h).2.1⟩
  have HTA := hide (fun W => rtru_any a W)
  have HTB := hide (fun W => rtru_any b W)
  obtain ⟨W, hW⟩ : ∃ W, (((w.alloc (.cells #[.int .i64 a.kind, .int .i64 a.num, .string a.text] 24)).alloc (.cells #[.int .i64 b.kind, .int .i64 b.num, .string b.text] 24)).alloc (.cells #[.int .i64 0, .int .i64 0, .string ⟨#[]⟩] 24)) = W := ⟨_, rfl⟩
  rw [hW] at HB hy
  have hy00 : ∀ w' : World, Below W.heap.size W w' → w'.cell? ⟨w.heap.size, 0, none⟩ = some (.int .i64 a.kind) := fun w' h => (hy w' h).1.cell (j := 0) rfl
  have hy01 : ∀ w' : World, Below W.heap.size W w' → w'.cell? ⟨w.heap.size, 1, none⟩ = some (.int .i64 a.num) := fun w' h => (hy w' h).1.cell (j := 1) rfl
  have hy02 : ∀ w' : World, Below W.heap.size W w' → w'.cell? ⟨w.heap.size, 2, none⟩ = some (.string a.text) := fun w' h => (hy w' h).1.cell (j := 2) rfl
  have hy10 : ∀ w' : World, Below W.heap.size W w' → w'.cell? ⟨w.heap.size + 1, 0, none⟩ = some (.int .i64 b.kind) := fun w' h => (hy w' h).2.cell (j := 0) rfl
  have hy11 : ∀ w' : World, Below W.heap.size W w' → w'.cell? ⟨w.heap.size + 1, 1, none⟩ = some (.int .i64 b.num) := fun w' h => (hy w' h).2.cell (j := 1) rfl
  have hy12 : ∀ w' : World, Below W.heap.size W w' → w'.cell? ⟨w.heap.size + 1, 2, none⟩ = some (.string b.text) := fun w' h => (hy w' h).2.cell (j := 2) rfl
  clear hy
  have hS : ∀ n m, truV a = n → truV b = m → orV a b = (if n = 1 ∨ m = 1 then bV true else if n = 2 ∨ m = 2 then nulV else bV false) := fun n m h1 h2 => by unfold orV; rw [h1, h2]
  rcases truV_cases a with h | h | h <;> rcases truV_cases b with h2 | h2 | h2
  · have hr := hS _ _ h h2
    rw [show orV a b = bV false from hr]
    rw [h] at HTA
    rw [h2] at HTB
    clear hS h h2 hr
    go_enter Tryd.func36, Tryd.ntmps36
    go_wp2
    clear hW
    go_region_held3 (fun w' => Below W.heap.size W w') ((first | exact (Below.refl _ _).drew | exact bel_trans (by assumption) (by assumption))) (first
      | (go_at_call 37; with_reducible refine (HTA.out _).mono ?_; rintro e x1 ⟨rfl, hb1⟩)
      | (go_at_call 37; with_reducible refine (HTB.out _).mono ?_; rintro e x2 ⟨rfl, hb2⟩))
    have HX := hide (show Below W.heap.size W x2 by assumption)
    go_wp2_with (go_at_call 60; refine (rbool_any 0 _).mono ?_; rintro e y ⟨rfl, hy⟩; have HY := hide (bel_trans HX.out hy); have hq := (HB.out _ HY.out).1; have e0 := hq.cell (j := 0) rfl; have f0 := hq.fr 0; have e1 := hq.cell (j := 1) rfl; have f1 := hq.fr 1; have e2 := hq.cell (j := 2) rfl; have f2 := hq.fr 2; clear hq hy)
    exact bodyPost_ret (v := .agg #[.int .i64 (boolV 0).kind, .int .i64 (boolV 0).num, .string (boolV 0).text]) (by simp [results, Tryd.results36, go_sem, e0, e1, e2]) rfl ⟨rfl, belset3 (HB.out _ HY.out).2 (Nat.le_refl _) (by omega) _ _ _⟩
  · have hr := hS _ _ h h2
    rw [show orV a b = bV true from hr]
    rw [h] at HTA
    rw [h2] at HTB
    clear hS h h2 hr
    go_enter Tryd.func36, Tryd.ntmps36
    go_wp2
    clear hW
    go_region_held3 (fun w' => Below W.heap.size W w') ((first | exact (Below.refl _ _).drew | exact bel_trans (by assumption) (by assumption))) (first
      | (go_at_call 37; with_reducible refine (HTA.out _).mono ?_; rintro e x1 ⟨rfl, hb1⟩)
      | (go_at_call 37; with_reducible refine (HTB.out _).mono ?_; rintro e x2 ⟨rfl, hb2⟩))
    have HX := hide (show Below W.heap.size W x2 by assumption)
    go_wp2_with (go_at_call 60; refine (rbool_any 1 _).mono ?_; rintro e y ⟨rfl, hy⟩; have HY := hide (bel_trans HX.out hy); have hq := (HB.out _ HY.out).1; have e0 := hq.cell (j := 0) rfl; have f0 := hq.fr 0; have e1 := hq.cell (j := 1) rfl; have f1 := hq.fr 1; have e2 := hq.cell (j := 2) rfl; have f2 := hq.fr 2; clear hq hy)
    exact bodyPost_ret (v := .agg #[.int .i64 (boolV 1).kind, .int .i64 (boolV 1).num, .string (boolV 1).text]) (by simp [results, Tryd.results36, go_sem, e0, e1, e2]) rfl ⟨rfl, belset3 (HB.out _ HY.out).2 (Nat.le_refl _) (by omega) _ _ _⟩
  · have hr := hS _ _ h h2
    rw [show orV a b = nulV from hr]
    rw [h] at HTA
    rw [h2] at HTB
    clear hS h h2 hr
    go_enter Tryd.func36, Tryd.ntmps36
    go_wp2
    clear hW
    go_region_held3 (fun w' => Below W.heap.size W w') ((first | exact (Below.refl _ _).drew | exact bel_trans (by assumption) (by assumption))) (first
      | (go_at_call 37; with_reducible refine (HTA.out _).mono ?_; rintro e x1 ⟨rfl, hb1⟩)
      | (go_at_call 37; with_reducible refine (HTB.out _).mono ?_; rintro e x2 ⟨rfl, hb2⟩))
    have HX := hide (show Below W.heap.size W x2 by assumption)
    have hq := (HB.out _ HX.out).1
    have e0 := hq.cell (j := 0) rfl
    have e1 := hq.cell (j := 1) rfl
    have e2 := hq.cell (j := 2) rfl
    have f0 := hq.fr 0
    have f1 := hq.fr 1
    have f2 := hq.fr 2
    clear hq
    go_wp2
    exact bodyPost_ret (v := .agg #[.int .i64 0, .int .i64 0, .string ⟨#[]⟩]) (by simp [results, Tryd.results36, go_sem, e0, e1, e2]) rfl ⟨rfl, belset3 (HB.out _ HX.out).2 (Nat.le_refl _) (by omega) _ _ _⟩
  · have hr := hS _ _ h h2
    rw [show orV a b = bV true from hr]
    rw [h] at HTA
    rw [h2] at HTB
    clear hS h h2 hr
    go_enter Tryd.func36, Tryd.ntmps36
    go_wp2
    clear hW
    go_region_held3 (fun w' => Below W.heap.size W w') ((first | exact (Below.refl _ _).drew | exact bel_trans (by assumption) (by assumption))) (first
      | (go_at_call 37; with_reducible refine (HTA.out _).mono ?_; rintro e x1 ⟨rfl, hb1⟩)
      | (go_at_call 37; with_reducible refine (HTB.out _).mono ?_; rintro e x2 ⟨rfl, hb2⟩))
    have HX := hide (show Below W.heap.size W x2 by assumption)
    go_wp2_with (go_at_call 60; refine (rbool_any 1 _).mono ?_; rintro e y ⟨rfl, hy⟩; have HY := hide (bel_trans HX.out hy); have hq := (HB.out _ HY.out).1; have e0 := hq.cell (j := 0) rfl; have f0 := hq.fr 0; have e1 := hq.cell (j := 1) rfl; have f1 := hq.fr 1; have e2 := hq.cell (j := 2) rfl; have f2 := hq.fr 2; clear hq hy)
    exact bodyPost_ret (v := .agg #[.int .i64 (boolV 1).kind, .int .i64 (boolV 1).num, .string (boolV 1).text]) (by simp [results, Tryd.results36, go_sem, e0, e1, e2]) rfl ⟨rfl, belset3 (HB.out _ HY.out).2 (Nat.le_refl _) (by omega) _ _ _⟩
  · have hr := hS _ _ h h2
    rw [show orV a b = bV true from hr]
    rw [h] at HTA
    rw [h2] at HTB
    clear hS h h2 hr
    go_enter Tryd.func36, Tryd.ntmps36
    go_wp2
    clear hW
    go_region_held3 (fun w' => Below W.heap.size W w') ((first | exact (Below.refl _ _).drew | exact bel_trans (by assumption) (by assumption))) (first
      | (go_at_call 37; with_reducible refine (HTA.out _).mono ?_; rintro e x1 ⟨rfl, hb1⟩)
      | (go_at_call 37; with_reducible refine (HTB.out _).mono ?_; rintro e x2 ⟨rfl, hb2⟩))
    have HX := hide (show Below W.heap.size W x2 by assumption)
    go_wp2_with (go_at_call 60; refine (rbool_any 1 _).mono ?_; rintro e y ⟨rfl, hy⟩; have HY := hide (bel_trans HX.out hy); have hq := (HB.out _ HY.out).1; have e0 := hq.cell (j := 0) rfl; have f0 := hq.fr 0; have e1 := hq.cell (j := 1) rfl; have f1 := hq.fr 1; have e2 := hq.cell (j := 2) rfl; have f2 := hq.fr 2; clear hq hy)
    exact bodyPost_ret (v := .agg #[.int .i64 (boolV 1).kind, .int .i64 (boolV 1).num, .string (boolV 1).text]) (by simp [results, Tryd.results36, go_sem, e0, e1, e2]) rfl ⟨rfl, belset3 (HB.out _ HY.out).2 (Nat.le_refl _) (by omega) _ _ _⟩
  · have hr := hS _ _ h h2
    rw [show orV a b = bV true from hr]
    rw [h] at HTA
    rw [h2] at HTB
    clear hS h h2 hr
    go_enter Tryd.func36, Tryd.ntmps36
    go_wp2
    clear hW
    go_region_held3 (fun w' => Below W.heap.size W w') ((first | exact (Below.refl _ _).drew | exact bel_trans (by assumption) (by assumption))) (first
      | (go_at_call 37; with_reducible refine (HTA.out _).mono ?_; rintro e x1 ⟨rfl, hb1⟩)
      | (go_at_call 37; with_reducible refine (HTB.out _).mono ?_; rintro e x2 ⟨rfl, hb2⟩))
    have HX := hide (show Below W.heap.size W x2 by assumption)
    go_wp2_with (go_at_call 60; refine (rbool_any 1 _).mono ?_; rintro e y ⟨rfl, hy⟩; have HY := hide (bel_trans HX.out hy); have hq := (HB.out _ HY.out).1; have e0 := hq.cell (j := 0) rfl; have f0 := hq.fr 0; have e1 := hq.cell (j := 1) rfl; have f1 := hq.fr 1; have e2 := hq.cell (j := 2) rfl; have f2 := hq.fr 2; clear hq hy)
    exact bodyPost_ret (v := .agg #[.int .i64 (boolV 1).kind, .int .i64 (boolV 1).num, .string (boolV 1).text]) (by simp [results, Tryd.results36, go_sem, e0, e1, e2]) rfl ⟨rfl, belset3 (HB.out _ HY.out).2 (Nat.le_refl _) (by omega) _ _ _⟩
  · have hr := hS _ _ h h2
    rw [show orV a b = nulV from hr]
    rw [h] at HTA
    rw [h2] at HTB
    clear hS h h2 hr
    go_enter Tryd.func36, Tryd.ntmps36
    go_wp2
    clear hW
    go_region_held3 (fun w' => Below W.heap.size W w') ((first | exact (Below.refl _ _).drew | exact bel_trans (by assumption) (by assumption))) (first
      | (go_at_call 37; with_reducible refine (HTA.out _).mono ?_; rintro e x1 ⟨rfl, hb1⟩)
      | (go_at_call 37; with_reducible refine (HTB.out _).mono ?_; rintro e x2 ⟨rfl, hb2⟩))
    have HX := hide (show Below W.heap.size W x2 by assumption)
    have hq := (HB.out _ HX.out).1
    have e0 := hq.cell (j := 0) rfl
    have e1 := hq.cell (j := 1) rfl
    have e2 := hq.cell (j := 2) rfl
    have f0 := hq.fr 0
    have f1 := hq.fr 1
    have f2 := hq.fr 2
    clear hq
    go_wp2
    exact bodyPost_ret (v := .agg #[.int .i64 0, .int .i64 0, .string ⟨#[]⟩]) (by simp [results, Tryd.results36, go_sem, e0, e1, e2]) rfl ⟨rfl, belset3 (HB.out _ HX.out).2 (Nat.le_refl _) (by omega) _ _ _⟩
  · have hr := hS _ _ h h2
    rw [show orV a b = bV true from hr]
    rw [h] at HTA
    rw [h2] at HTB
    clear hS h h2 hr
    go_enter Tryd.func36, Tryd.ntmps36
    go_wp2
    clear hW
    go_region_held3 (fun w' => Below W.heap.size W w') ((first | exact (Below.refl _ _).drew | exact bel_trans (by assumption) (by assumption))) (first
      | (go_at_call 37; with_reducible refine (HTA.out _).mono ?_; rintro e x1 ⟨rfl, hb1⟩)
      | (go_at_call 37; with_reducible refine (HTB.out _).mono ?_; rintro e x2 ⟨rfl, hb2⟩))
    have HX := hide (show Below W.heap.size W x2 by assumption)
    go_wp2_with (go_at_call 60; refine (rbool_any 1 _).mono ?_; rintro e y ⟨rfl, hy⟩; have HY := hide (bel_trans HX.out hy); have hq := (HB.out _ HY.out).1; have e0 := hq.cell (j := 0) rfl; have f0 := hq.fr 0; have e1 := hq.cell (j := 1) rfl; have f1 := hq.fr 1; have e2 := hq.cell (j := 2) rfl; have f2 := hq.fr 2; clear hq hy)
    exact bodyPost_ret (v := .agg #[.int .i64 (boolV 1).kind, .int .i64 (boolV 1).num, .string (boolV 1).text]) (by simp [results, Tryd.results36, go_sem, e0, e1, e2]) rfl ⟨rfl, belset3 (HB.out _ HY.out).2 (Nat.le_refl _) (by omega) _ _ _⟩
  · have hr := hS _ _ h h2
    rw [show orV a b = nulV from hr]
    rw [h] at HTA
    rw [h2] at HTB
    clear hS h h2 hr
    go_enter Tryd.func36, Tryd.ntmps36
    go_wp2
    clear hW
    go_region_held3 (fun w' => Below W.heap.size W w') ((first | exact (Below.refl _ _).drew | exact bel_trans (by assumption) (by assumption))) (first
      | (go_at_call 37; with_reducible refine (HTA.out _).mono ?_; rintro e x1 ⟨rfl, hb1⟩)
      | (go_at_call 37; with_reducible refine (HTB.out _).mono ?_; rintro e x2 ⟨rfl, hb2⟩))
    have HX := hide (show Below W.heap.size W x2 by assumption)
    have hq := (HB.out _ HX.out).1
    have e0 := hq.cell (j := 0) rfl
    have e1 := hq.cell (j := 1) rfl
    have e2 := hq.cell (j := 2) rfl
    have f0 := hq.fr 0
    have f1 := hq.fr 1
    have f2 := hq.fr 2
    clear hq
    go_wp2
    exact bodyPost_ret (v := .agg #[.int .i64 0, .int .i64 0, .string ⟨#[]⟩]) (by simp [results, Tryd.results36, go_sem, e0, e1, e2]) rfl ⟨rfl, belset3 (HB.out _ HX.out).2 (Nat.le_refl _) (by omega) _ _ _⟩
end Go.Proofs.YtlkhiihehaiinaaDoor

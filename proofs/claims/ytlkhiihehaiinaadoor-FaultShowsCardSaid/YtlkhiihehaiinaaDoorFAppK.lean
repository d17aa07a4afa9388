/- expression.truth, expression.apply: an operation's result (all but 'in'). -/
import Derived.Test.YtlkhiihehaiinaaDoorGE
namespace Go.Proofs.YtlkhiihehaiinaaDoor
open Go.RowKit

set_option maxRecDepth 100000 in
theorem etruth_any (b : Bool) (w : World) (hw : NulAt w) : Calls Tryd.prog 84 #[.bool b] w fun e w' => e = .returned (.agg #[.int .i64 (bV b).kind, .int .i64 (bV b).num, .string (bV b).text]) ∧ Below w.heap.size w w' := by
  have HW := hide (hw.mono (belA (.cells #[.int .i64 0, .int .i64 0, .string ⟨#[]⟩] 24)))
  clear hw
  cases b
  · go_enter Tryd.func84, Tryd.ntmps84
    go_wp2_with (go_at_call 88; refine (vbool_any 0 _ HW.out).mono ?_; rintro e x ⟨rfl, hb⟩; have HB := hide hb; have hx := ((Box.new _ _ _).below hb); have e0 := hx.cell (j := 0) rfl; have e1 := hx.cell (j := 1) rfl; have e2 := hx.cell (j := 2) rfl; have f0 := hx.fr 0; have f1 := hx.fr 1; have f2 := hx.fr 2; clear hx hb)
    exact bodyPost_ret (v := .agg #[.int .i64 (boolV 0).kind, .int .i64 (boolV 0).num, .string (boolV 0).text]) (by simp [results, Tryd.results84, go_sem, e0, e1, e2]) rfl ⟨rfl, belset3 (bel1 HB.out) (Nat.le_refl _) (Nat.le_refl _) _ _ _⟩
  · go_enter Tryd.func84, Tryd.ntmps84
    go_wp2_with (go_at_call 88; refine (vbool_any 1 _ HW.out).mono ?_; rintro e x ⟨rfl, hb⟩; have HB := hide hb; have hx := ((Box.new _ _ _).below hb); have e0 := hx.cell (j := 0) rfl; have e1 := hx.cell (j := 1) rfl; have e2 := hx.cell (j := 2) rfl; have f0 := hx.fr 0; have f1 := hx.fr 1; have f2 := hx.fr 2; clear hx hb)
    exact bodyPost_ret (v := .agg #[.int .i64 (boolV 1).kind, .int .i64 (boolV 1).num, .string (boolV 1).text]) (by simp [results, Tryd.results84, go_sem, e0, e1, e2]) rfl ⟨rfl, belset3 (bel1 HB.out) (Nat.le_refl _) (Nat.le_refl _) _ _ _⟩

theorem bV_wf (b : Bool) : (bV b).wf := by cases b <;> exact ⟨i64_lit rfl, i64_lit rfl, Nat.zero_le _⟩
theorem eq_wf (a b : V) : (eqV a b).wf := by unfold eqV; split; exact nul_wf; exact bV_wf _
theorem less_wf (a b : V) : (lessV a b).wf := by unfold lessV; split; exact nul_wf; exact bV_wf _
theorem not_wf (a : V) : (notV a).wf := by unfold notV; split; exact nul_wf; exact bV_wf _
theorem and_wf (a b : V) : (andV a b).wf := by
  unfold andV
  split
  · exact bV_wf _
  · split; exact nul_wf; exact bV_wf _
theorem or_wf (a b : V) : (orV a b).wf := by
  unfold orV
  split
  · exact bV_wf _
  · split; exact nul_wf; exact bV_wf _
/-- 'in': the first among the others. -/
def inV (a : V) (l : List V) : V := l.foldl (fun o x => orV o (eqV a x)) (bV false)
noncomputable def applyV (op : Int) (l : List V) : V :=
  let a := l.getD 0 nulV
  let b := l.getD 1 nulV
  if (6 ≤ op ∧ op ≤ 10) ∨ op = 12 then arithV op a b
  else if op = 11 then arithV 7 ⟨1, 0, ⟨#[]⟩⟩ a
  else if op = 13 then (if a.kind = 3 then numV a.text.size else nulV)
  else if op = 14 then eqV a b else if op = 15 then notV (eqV a b) else if op = 16 then lessV a b else if op = 17 then notV (lessV b a)
  else if op = 18 then lessV b a else if op = 19 then notV (lessV a b) else if op = 20 then bV (sameB a b) else if op = 21 then bV (a.kind == 0)
  else if op = 22 then andV a b else if op = 23 then orV a b else if op = 24 then notV a else if op = 25 then bV (truV a == 1)
  else if op = 27 then (if a.kind = 0 then b else a) else if op = 28 then inV a l.tail else nulV
theorem szval : (Tryd.prog.info? 24).map (·.size) = some 3 := by kernel_rfl
/-- The old blocks are as they were; the next is a value's box. -/
def SA (w x : World) : Prop := Below w.heap.size w x ∧ ∃ v0 v1 v2, Box x w.heap.size #[v0, v1, v2] 24
theorem SA.new (w : World) (v0 v1 v2 : Value) : SA w (w.alloc (.cells #[v0, v1, v2] 24)) := ⟨belA _, v0, v1, v2, Box.new _ _ _⟩
theorem SA.below {w x : World} (h : SA w x) : Below w.heap.size w x := h.1
theorem SA.drew {w x : World} (h : SA w x) : SA w x.drew := ⟨h.1.drew, by obtain ⟨v0, v1, v2, hb⟩ := h.2; exact ⟨v0, v1, v2, hb⟩⟩
theorem SA.call {w x y : World} (h : SA w x) (hb : Below x.heap.size x y) : SA w y := ⟨bel_trans h.1 (hb.mono (Nat.le_refl _)), by obtain ⟨v0, v1, v2, hq⟩ := h.2; exact ⟨v0, v1, v2, hq.below hb⟩⟩
theorem SA.set {w x : World} (h : SA w x) (a b c : Value) : SA w (((x.setCell ⟨w.heap.size, 0, none⟩ a).setCell ⟨w.heap.size, 1, none⟩ b).setCell ⟨w.heap.size, 2, none⟩ c) := by
  obtain ⟨h1, v0, v1, v2, hq⟩ := h
  exact ⟨belset3 h1 (Nat.le_refl _) (Nat.le_refl _) _ _ _, a, b, c, boxs3 hq _ _ _⟩
theorem apl0 {r : VL} {w : World} (h : r.In w) (h0 : 0 < r.l.length) : (∀ U, (Instr.indexAt 28 (.slice r.h.ao r.l.length r.h.cap) (.int .i64 0)).run Tryd.prog U = .ok (.pointer (some ⟨r.h.b, r.h.o, none⟩)) U) ∧ r.h.b < w.heap.size ∧
    (w.cell? ⟨r.h.b, r.h.o, none⟩ = some (.int .i64 r.l[0].kind) ∧ w.cell? ⟨r.h.b, r.h.o + 1, none⟩ = some (.int .i64 r.l[0].num) ∧ w.cell? ⟨r.h.b, r.h.o + 2, none⟩ = some (.string r.l[0].text)) := by
  have hix := h.1.ix h0 Tryd.underlying28 szval
  have hc := val_at h.1 h0
  simp only [Nat.zero_mul, Nat.add_zero] at hix hc
  exact ⟨hix, h.1.blk h0, hc⟩
theorem apl1 {r : VL} {w : World} (h : r.In w) (h0 : 1 < r.l.length) : ∃ p, (∀ U, (Instr.indexAt 28 (.slice r.h.ao r.l.length r.h.cap) (.int .i64 1)).run Tryd.prog U = .ok (.pointer (some ⟨r.h.b, p, none⟩)) U) ∧
    (w.cell? ⟨r.h.b, p, none⟩ = some (.int .i64 r.l[1].kind) ∧ w.cell? ⟨r.h.b, p + 1, none⟩ = some (.int .i64 r.l[1].num) ∧ w.cell? ⟨r.h.b, p + 2, none⟩ = some (.string r.l[1].text)) :=
  ⟨_, h.1.ix h0 Tryd.underlying28 szval, val_at h.1 h0⟩
theorem getD_of {l : List V} {k : Nat} (h : k < l.length) {a : V} (e : l[k] = a) : l.getD k nulV = a := by rw [List.getD_eq_getElem?_getD, List.getElem?_eq_getElem h, e]; rfl


set_option maxRecDepth 100000 in
set_option maxHeartbeats 4000000 in
theorem ap_6 (r : VL) (w : World) (hr : r.In w) (hl : 1 < r.l.length) (hw : NulAt w) : Calls Tryd.prog 71 #[.int .i64 6, .slice r.h.ao r.l.length r.h.cap] w fun e w' => e = .returned (.agg #[.int .i64 (applyV 6 r.l).kind, .int .i64 (applyV 6 r.l).num, .string (applyV 6 r.l).text]) ∧ Below w.heap.size w w' := by
  have h0 : 0 < r.l.length := by omega
  obtain ⟨hix0, hbb, c0, c1, c2⟩ := apl0 hr h0
  obtain ⟨p, hix1, d0, d1, d2⟩ := apl1 hr hl
  have hwf := hr.2
  obtain ⟨a, ha⟩ : ∃ a, r.l[0] = a := ⟨_, rfl⟩
  have HA := hide (ha ▸ hwf _ (List.getElem_mem h0) : a.wf)
  have hga := getD_of h0 ha
  rw [ha] at c0 c1 c2
  obtain ⟨b, hb⟩ : ∃ b, r.l[1] = b := ⟨_, rfl⟩
  have HB := hide (hb ▸ hwf _ (List.getElem_mem hl) : b.wf)
  have hgb := getD_of hl hb
  rw [hb] at d0 d1 d2
  have hres : applyV 6 r.l = arithV 6 a b := by unfold applyV; dsimp only; rw [hga, hgb]; simp
  rw [hres]
  obtain ⟨W, hW⟩ : ∃ W, w.alloc (.cells #[.int .i64 0, .int .i64 0, .string ⟨#[]⟩] 24) = W := ⟨_, rfl⟩
  have hyc0 : ∀ w' : World, SA w w' → w'.cell? ⟨r.h.b, r.h.o, none⟩ = some (.int .i64 a.kind) := fun w' h => by rw [h.1.cell (p := ⟨r.h.b, _, none⟩) hbb]; exact c0
  have hyc1 : ∀ w' : World, SA w w' → w'.cell? ⟨r.h.b, r.h.o + 1, none⟩ = some (.int .i64 a.num) := fun w' h => by rw [h.1.cell (p := ⟨r.h.b, _, none⟩) hbb]; exact c1
  have hyc2 : ∀ w' : World, SA w w' → w'.cell? ⟨r.h.b, r.h.o + 2, none⟩ = some (.string a.text) := fun w' h => by rw [h.1.cell (p := ⟨r.h.b, _, none⟩) hbb]; exact c2
  have hyd0 : ∀ w' : World, SA w w' → w'.cell? ⟨r.h.b, p, none⟩ = some (.int .i64 b.kind) := fun w' h => by rw [h.1.cell (p := ⟨r.h.b, _, none⟩) hbb]; exact d0
  have hyd1 : ∀ w' : World, SA w w' → w'.cell? ⟨r.h.b, p + 1, none⟩ = some (.int .i64 b.num) := fun w' h => by rw [h.1.cell (p := ⟨r.h.b, _, none⟩) hbb]; exact d1
  have hyd2 : ∀ w' : World, SA w w' → w'.cell? ⟨r.h.b, p + 2, none⟩ = some (.string b.text) := fun w' h => by rw [h.1.cell (p := ⟨r.h.b, _, none⟩) hbb]; exact d2
  have HW := hide hw
  have HS0 := hide (show SA w W from by rw [← hW]; exact SA.new _ _ _ _)
  clear hwf ha hga hres hr hw c0 c1 c2 hb hgb d0 d1 d2
  go_enter Tryd.func71, Tryd.ntmps71
  go_wp2
  clear hW
  go_region_held3 (fun w' => SA w w') ((with_reducible first | assumption | exact HS0.out.drew | exact SA.set (by assumption) _ _ _)) (first
    | (go_at_call 76; refine (varith_any 6 a b HA.out HB.out _ (HW.out.mono (SA.below (by first | exact HS0.out.drew | assumption)))).mono ?_; rintro e xx ⟨rfl, hb_xx⟩; have HSX := SA.call (w := w) (by first | exact HS0.out.drew | assumption) hb_xx; obtain ⟨v0, v1, v2, hq⟩ := HSX.2; have e0 := hq.cell (j := 0) rfl; have e1 := hq.cell (j := 1) rfl; have e2 := hq.cell (j := 2) rfl; have f0 := hq.fr 0; have f1 := hq.fr 1; have f2 := hq.fr 2; clear hq))
  go_wp2
  exact bodyPost_ret (v := .agg #[.int .i64 (arithV 6 a b).kind, .int .i64 (arithV 6 a b).num, .string (arithV 6 a b).text]) (by simp [results, Tryd.results71, go_sem, e0, e1, e2]) rfl ⟨rfl, belset3 HSX.1 (Nat.le_refl _) (Nat.le_refl _) _ _ _⟩


set_option maxRecDepth 100000 in
set_option maxHeartbeats 4000000 in
theorem ap_7 (r : VL) (w : World) (hr : r.In w) (hl : 1 < r.l.length) (hw : NulAt w) : Calls Tryd.prog 71 #[.int .i64 7, .slice r.h.ao r.l.length r.h.cap] w fun e w' => e = .returned (.agg #[.int .i64 (applyV 7 r.l).kind, .int .i64 (applyV 7 r.l).num, .string (applyV 7 r.l).text]) ∧ Below w.heap.size w w' := by
  have h0 : 0 < r.l.length := by omega
  obtain ⟨hix0, hbb, c0, c1, c2⟩ := apl0 hr h0
  obtain ⟨p, hix1, d0, d1, d2⟩ := apl1 hr hl
  have hwf := hr.2
  obtain ⟨a, ha⟩ : ∃ a, r.l[0] = a := ⟨_, rfl⟩
  have HA := hide (ha ▸ hwf _ (List.getElem_mem h0) : a.wf)
  have hga := getD_of h0 ha
  rw [ha] at c0 c1 c2
  obtain ⟨b, hb⟩ : ∃ b, r.l[1] = b := ⟨_, rfl⟩
  have HB := hide (hb ▸ hwf _ (List.getElem_mem hl) : b.wf)
  have hgb := getD_of hl hb
  rw [hb] at d0 d1 d2
  have hres : applyV 7 r.l = arithV 7 a b := by unfold applyV; dsimp only; rw [hga, hgb]; simp
  rw [hres]
  obtain ⟨W, hW⟩ : ∃ W, w.alloc (.cells #[.int .i64 0, .int .i64 0, .string ⟨#[]⟩] 24) = W := ⟨_, rfl⟩
  have hyc0 : ∀ w' : World, SA w w' → w'.cell? ⟨r.h.b, r.h.o, none⟩ = some (.int .i64 a.kind) := fun w' h => by rw [h.1.cell (p := ⟨r.h.b, _, none⟩) hbb]; exact c0
  have hyc1 : ∀ w' : World, SA w w' → w'.cell? ⟨r.h.b, r.h.o + 1, none⟩ = some (.int .i64 a.num) := fun w' h => by rw [h.1.cell (p := ⟨r.h.b, _, none⟩) hbb]; exact c1
  have hyc2 : ∀ w' : World, SA w w' → w'.cell? ⟨r.h.b, r.h.o + 2, none⟩ = some (.string a.text) := fun w' h => by rw [h.1.cell (p := ⟨r.h.b, _, none⟩) hbb]; exact c2
  have hyd0 : ∀ w' : World, SA w w' → w'.cell? ⟨r.h.b, p, none⟩ = some (.int .i64 b.kind) := fun w' h => by rw [h.1.cell (p := ⟨r.h.b, _, none⟩) hbb]; exact d0
  have hyd1 : ∀ w' : World, SA w w' → w'.cell? ⟨r.h.b, p + 1, none⟩ = some (.int .i64 b.num) := fun w' h => by rw [h.1.cell (p := ⟨r.h.b, _, none⟩) hbb]; exact d1
  have hyd2 : ∀ w' : World, SA w w' → w'.cell? ⟨r.h.b, p + 2, none⟩ = some (.string b.text) := fun w' h => by rw [h.1.cell (p := ⟨r.h.b, _, none⟩) hbb]; exact d2
  have HW := hide hw
  have HS0 := hide (show SA w W from by rw [← hW]; exact SA.new _ _ _ _)
  clear hwf ha hga hres hr hw c0 c1 c2 hb hgb d0 d1 d2
  go_enter Tryd.func71, Tryd.ntmps71
  go_wp2
  clear hW
  go_region_held3 (fun w' => SA w w') ((with_reducible first | assumption | exact HS0.out.drew | exact SA.set (by assumption) _ _ _)) (first
    | (go_at_call 76; refine (varith_any 7 a b HA.out HB.out _ (HW.out.mono (SA.below (by first | exact HS0.out.drew | assumption)))).mono ?_; rintro e xx ⟨rfl, hb_xx⟩; have HSX := SA.call (w := w) (by first | exact HS0.out.drew | assumption) hb_xx; obtain ⟨v0, v1, v2, hq⟩ := HSX.2; have e0 := hq.cell (j := 0) rfl; have e1 := hq.cell (j := 1) rfl; have e2 := hq.cell (j := 2) rfl; have f0 := hq.fr 0; have f1 := hq.fr 1; have f2 := hq.fr 2; clear hq))
  go_wp2
  exact bodyPost_ret (v := .agg #[.int .i64 (arithV 7 a b).kind, .int .i64 (arithV 7 a b).num, .string (arithV 7 a b).text]) (by simp [results, Tryd.results71, go_sem, e0, e1, e2]) rfl ⟨rfl, belset3 HSX.1 (Nat.le_refl _) (Nat.le_refl _) _ _ _⟩


set_option maxRecDepth 100000 in
set_option maxHeartbeats 4000000 in
theorem ap_8 (r : VL) (w : World) (hr : r.In w) (hl : 1 < r.l.length) (hw : NulAt w) : Calls Tryd.prog 71 #[.int .i64 8, .slice r.h.ao r.l.length r.h.cap] w fun e w' => e = .returned (.agg #[.int .i64 (applyV 8 r.l).kind, .int .i64 (applyV 8 r.l).num, .string (applyV 8 r.l).text]) ∧ Below w.heap.size w w' := by
  have h0 : 0 < r.l.length := by omega
  obtain ⟨hix0, hbb, c0, c1, c2⟩ := apl0 hr h0
  obtain ⟨p, hix1, d0, d1, d2⟩ := apl1 hr hl
  have hwf := hr.2
  obtain ⟨a, ha⟩ : ∃ a, r.l[0] = a := ⟨_, rfl⟩
  have HA := hide (ha ▸ hwf _ (List.getElem_mem h0) : a.wf)
  have hga := getD_of h0 ha
  rw [ha] at c0 c1 c2
  obtain ⟨b, hb⟩ : ∃ b, r.l[1] = b := ⟨_, rfl⟩
  have HB := hide (hb ▸ hwf _ (List.getElem_mem hl) : b.wf)
  have hgb := getD_of hl hb
  rw [hb] at d0 d1 d2
  have hres : applyV 8 r.l = arithV 8 a b := by unfold applyV; dsimp only; rw [hga, hgb]; simp
  rw [hres]
  obtain ⟨W, hW⟩ : ∃ W, w.alloc (.cells #[.int .i64 0, .int .i64 0, .string ⟨#[]⟩] 24) = W := ⟨_, rfl⟩
  have hyc0 : ∀ w' : World, SA w w' → w'.cell? ⟨r.h.b, r.h.o, none⟩ = some (.int .i64 a.kind) := fun w' h => by rw [h.1.cell (p := ⟨r.h.b, _, none⟩) hbb]; exact c0
  have hyc1 : ∀ w' : World, SA w w' → w'.cell? ⟨r.h.b, r.h.o + 1, none⟩ = some (.int .i64 a.num) := fun w' h => by rw [h.1.cell (p := ⟨r.h.b, _, none⟩) hbb]; exact c1
  have hyc2 : ∀ w' : World, SA w w' → w'.cell? ⟨r.h.b, r.h.o + 2, none⟩ = some (.string a.text) := fun w' h => by rw [h.1.cell (p := ⟨r.h.b, _, none⟩) hbb]; exact c2
  have hyd0 : ∀ w' : World, SA w w' → w'.cell? ⟨r.h.b, p, none⟩ = some (.int .i64 b.kind) := fun w' h => by rw [h.1.cell (p := ⟨r.h.b, _, none⟩) hbb]; exact d0
  have hyd1 : ∀ w' : World, SA w w' → w'.cell? ⟨r.h.b, p + 1, none⟩ = some (.int .i64 b.num) := fun w' h => by rw [h.1.cell (p := ⟨r.h.b, _, none⟩) hbb]; exact d1
  have hyd2 : ∀ w' : World, SA w w' → w'.cell? ⟨r.h.b, p + 2, none⟩ = some (.string b.text) := fun w' h => by rw [h.1.cell (p := ⟨r.h.b, _, none⟩) hbb]; exact d2
  have HW := hide hw
  have HS0 := hide (show SA w W from by rw [← hW]; exact SA.new _ _ _ _)
  clear hwf ha hga hres hr hw c0 c1 c2 hb hgb d0 d1 d2
  go_enter Tryd.func71, Tryd.ntmps71
  go_wp2
  clear hW
  go_region_held3 (fun w' => SA w w') ((with_reducible first | assumption | exact HS0.out.drew | exact SA.set (by assumption) _ _ _)) (first
    | (go_at_call 76; refine (varith_any 8 a b HA.out HB.out _ (HW.out.mono (SA.below (by first | exact HS0.out.drew | assumption)))).mono ?_; rintro e xx ⟨rfl, hb_xx⟩; have HSX := SA.call (w := w) (by first | exact HS0.out.drew | assumption) hb_xx; obtain ⟨v0, v1, v2, hq⟩ := HSX.2; have e0 := hq.cell (j := 0) rfl; have e1 := hq.cell (j := 1) rfl; have e2 := hq.cell (j := 2) rfl; have f0 := hq.fr 0; have f1 := hq.fr 1; have f2 := hq.fr 2; clear hq))
  go_wp2
  exact bodyPost_ret (v := .agg #[.int .i64 (arithV 8 a b).kind, .int .i64 (arithV 8 a b).num, .string (arithV 8 a b).text]) (by simp [results, Tryd.results71, go_sem, e0, e1, e2]) rfl ⟨rfl, belset3 HSX.1 (Nat.le_refl _) (Nat.le_refl _) _ _ _⟩


set_option maxRecDepth 100000 in
set_option maxHeartbeats 4000000 in
theorem ap_9 (r : VL) (w : World) (hr : r.In w) (hl : 1 < r.l.length) (hw : NulAt w) : Calls Tryd.prog 71 #[.int .i64 9, .slice r.h.ao r.l.length r.h.cap] w fun e w' => e = .returned (.agg #[.int .i64 (applyV 9 r.l).kind, .int .i64 (applyV 9 r.l).num, .string (applyV 9 r.l).text]) ∧ Below w.heap.size w w' := by
  have h0 : 0 < r.l.length := by omega
  obtain ⟨hix0, hbb, c0, c1, c2⟩ := apl0 hr h0
  obtain ⟨p, hix1, d0, d1, d2⟩ := apl1 hr hl
  have hwf := hr.2
  obtain ⟨a, ha⟩ : ∃ a, r.l[0] = a := ⟨_, rfl⟩
  have HA := hide (ha ▸ hwf _ (List.getElem_mem h0) : a.wf)
  have hga := getD_of h0 ha
  rw [ha] at c0 c1 c2
  obtain ⟨b, hb⟩ : ∃ b, r.l[1] = b := ⟨_, rfl⟩
  have HB := hide (hb ▸ hwf _ (List.getElem_mem hl) : b.wf)
  have hgb := getD_of hl hb
  rw [hb] at d0 d1 d2
  have hres : applyV 9 r.l = arithV 9 a b := by unfold applyV; dsimp only; rw [hga, hgb]; simp
  rw [hres]
  obtain ⟨W, hW⟩ : ∃ W, w.alloc (.cells #[.int .i64 0, .int .i64 0, .string ⟨#[]⟩] 24) = W := ⟨_, rfl⟩
  have hyc0 : ∀ w' : World, SA w w' → w'.cell? ⟨r.h.b, r.h.o, none⟩ = some (.int .i64 a.kind) := fun w' h => by rw [h.1.cell (p := ⟨r.h.b, _, none⟩) hbb]; exact c0
  have hyc1 : ∀ w' : World, SA w w' → w'.cell? ⟨r.h.b, r.h.o + 1, none⟩ = some (.int .i64 a.num) := fun w' h => by rw [h.1.cell (p := ⟨r.h.b, _, none⟩) hbb]; exact c1
  have hyc2 : ∀ w' : World, SA w w' → w'.cell? ⟨r.h.b, r.h.o + 2, none⟩ = some (.string a.text) := fun w' h => by rw [h.1.cell (p := ⟨r.h.b, _, none⟩) hbb]; exact c2
  have hyd0 : ∀ w' : World, SA w w' → w'.cell? ⟨r.h.b, p, none⟩ = some (.int .i64 b.kind) := fun w' h => by rw [h.1.cell (p := ⟨r.h.b, _, none⟩) hbb]; exact d0
  have hyd1 : ∀ w' : World, SA w w' → w'.cell? ⟨r.h.b, p + 1, none⟩ = some (.int .i64 b.num) := fun w' h => by rw [h.1.cell (p := ⟨r.h.b, _, none⟩) hbb]; exact d1
  have hyd2 : ∀ w' : World, SA w w' → w'.cell? ⟨r.h.b, p + 2, none⟩ = some (.string b.text) := fun w' h => by rw [h.1.cell (p := ⟨r.h.b, _, none⟩) hbb]; exact d2
  have HW := hide hw
  have HS0 := hide (show SA w W from by rw [← hW]; exact SA.new _ _ _ _)
  clear hwf ha hga hres hr hw c0 c1 c2 hb hgb d0 d1 d2
  go_enter Tryd.func71, Tryd.ntmps71
  go_wp2
  clear hW
  go_region_held3 (fun w' => SA w w') ((with_reducible first | assumption | exact HS0.out.drew | exact SA.set (by assumption) _ _ _)) (first
    | (go_at_call 76; refine (varith_any 9 a b HA.out HB.out _ (HW.out.mono (SA.below (by first | exact HS0.out.drew | assumption)))).mono ?_; rintro e xx ⟨rfl, hb_xx⟩; have HSX := SA.call (w := w) (by first | exact HS0.out.drew | assumption) hb_xx; obtain ⟨v0, v1, v2, hq⟩ := HSX.2; have e0 := hq.cell (j := 0) rfl; have e1 := hq.cell (j := 1) rfl; have e2 := hq.cell (j := 2) rfl; have f0 := hq.fr 0; have f1 := hq.fr 1; have f2 := hq.fr 2; clear hq))
  go_wp2
  exact bodyPost_ret (v := .agg #[.int .i64 (arithV 9 a b).kind, .int .i64 (arithV 9 a b).num, .string (arithV 9 a b).text]) (by simp [results, Tryd.results71, go_sem, e0, e1, e2]) rfl ⟨rfl, belset3 HSX.1 (Nat.le_refl _) (Nat.le_refl _) _ _ _⟩


set_option maxRecDepth 100000 in
set_option maxHeartbeats 4000000 in
theorem ap_10 (r : VL) (w : World) (hr : r.In w) (hl : 1 < r.l.length) (hw : NulAt w) : Calls Tryd.prog 71 #[.int .i64 10, .slice r.h.ao r.l.length r.h.cap] w fun e w' => e = .returned (.agg #[.int .i64 (applyV 10 r.l).kind, .int .i64 (applyV 10 r.l).num, .string (applyV 10 r.l).text]) ∧ Below w.heap.size w w' := by
  have h0 : 0 < r.l.length := by omega
  obtain ⟨hix0, hbb, c0, c1, c2⟩ := apl0 hr h0
  obtain ⟨p, hix1, d0, d1, d2⟩ := apl1 hr hl
  have hwf := hr.2
  obtain ⟨a, ha⟩ : ∃ a, r.l[0] = a := ⟨_, rfl⟩
  have HA := hide (ha ▸ hwf _ (List.getElem_mem h0) : a.wf)
  have hga := getD_of h0 ha
  rw [ha] at c0 c1 c2
  obtain ⟨b, hb⟩ : ∃ b, r.l[1] = b := ⟨_, rfl⟩
  have HB := hide (hb ▸ hwf _ (List.getElem_mem hl) : b.wf)
  have hgb := getD_of hl hb
  rw [hb] at d0 d1 d2
  have hres : applyV 10 r.l = arithV 10 a b := by unfold applyV; dsimp only; rw [hga, hgb]; simp
  rw [hres]
  obtain ⟨W, hW⟩ : ∃ W, w.alloc (.cells #[.int .i64 0, .int .i64 0, .string ⟨#[]⟩] 24) = W := ⟨_, rfl⟩
  have hyc0 : ∀ w' : World, SA w w' → w'.cell? ⟨r.h.b, r.h.o, none⟩ = some (.int .i64 a.kind) := fun w' h => by rw [h.1.cell (p := ⟨r.h.b, _, none⟩) hbb]; exact c0
  have hyc1 : ∀ w' : World, SA w w' → w'.cell? ⟨r.h.b, r.h.o + 1, none⟩ = some (.int .i64 a.num) := fun w' h => by rw [h.1.cell (p := ⟨r.h.b, _, none⟩) hbb]; exact c1
  have hyc2 : ∀ w' : World, SA w w' → w'.cell? ⟨r.h.b, r.h.o + 2, none⟩ = some (.string a.text) := fun w' h => by rw [h.1.cell (p := ⟨r.h.b, _, none⟩) hbb]; exact c2
  have hyd0 : ∀ w' : World, SA w w' → w'.cell? ⟨r.h.b, p, none⟩ = some (.int .i64 b.kind) := fun w' h => by rw [h.1.cell (p := ⟨r.h.b, _, none⟩) hbb]; exact d0
  have hyd1 : ∀ w' : World, SA w w' → w'.cell? ⟨r.h.b, p + 1, none⟩ = some (.int .i64 b.num) := fun w' h => by rw [h.1.cell (p := ⟨r.h.b, _, none⟩) hbb]; exact d1
  have hyd2 : ∀ w' : World, SA w w' → w'.cell? ⟨r.h.b, p + 2, none⟩ = some (.string b.text) := fun w' h => by rw [h.1.cell (p := ⟨r.h.b, _, none⟩) hbb]; exact d2
  have HW := hide hw
  have HS0 := hide (show SA w W from by rw [← hW]; exact SA.new _ _ _ _)
  clear hwf ha hga hres hr hw c0 c1 c2 hb hgb d0 d1 d2
  go_enter Tryd.func71, Tryd.ntmps71
  go_wp2
  clear hW
  go_region_held3 (fun w' => SA w w') ((with_reducible first | assumption | exact HS0.out.drew | exact SA.set (by assumption) _ _ _)) (first
    | (go_at_call 76; refine (varith_any 10 a b HA.out HB.out _ (HW.out.mono (SA.below (by first | exact HS0.out.drew | assumption)))).mono ?_; rintro e xx ⟨rfl, hb_xx⟩; have HSX := SA.call (w := w) (by first | exact HS0.out.drew | assumption) hb_xx; obtain ⟨v0, v1, v2, hq⟩ := HSX.2; have e0 := hq.cell (j := 0) rfl; have e1 := hq.cell (j := 1) rfl; have e2 := hq.cell (j := 2) rfl; have f0 := hq.fr 0; have f1 := hq.fr 1; have f2 := hq.fr 2; clear hq))
  go_wp2
  exact bodyPost_ret (v := .agg #[.int .i64 (arithV 10 a b).kind, .int .i64 (arithV 10 a b).num, .string (arithV 10 a b).text]) (by simp [results, Tryd.results71, go_sem, e0, e1, e2]) rfl ⟨rfl, belset3 HSX.1 (Nat.le_refl _) (Nat.le_refl _) _ _ _⟩


set_option maxRecDepth 100000 in
set_option maxHeartbeats 4000000 in
theorem ap_12 (r : VL) (w : World) (hr : r.In w) (hl : 1 < r.l.length) (hw : NulAt w) : Calls Tryd.prog 71 #[.int .i64 12, .slice r.h.ao r.l.length r.h.cap] w fun e w' => e = .returned (.agg #[.int .i64 (applyV 12 r.l).kind, .int .i64 (applyV 12 r.l).num, .string (applyV 12 r.l).text]) ∧ Below w.heap.size w w' := by
  have h0 : 0 < r.l.length := by omega
  obtain ⟨hix0, hbb, c0, c1, c2⟩ := apl0 hr h0
  obtain ⟨p, hix1, d0, d1, d2⟩ := apl1 hr hl
  have hwf := hr.2
  obtain ⟨a, ha⟩ : ∃ a, r.l[0] = a := ⟨_, rfl⟩
  have HA := hide (ha ▸ hwf _ (List.getElem_mem h0) : a.wf)
  have hga := getD_of h0 ha
  rw [ha] at c0 c1 c2
  obtain ⟨b, hb⟩ : ∃ b, r.l[1] = b := ⟨_, rfl⟩
  have HB := hide (hb ▸ hwf _ (List.getElem_mem hl) : b.wf)
  have hgb := getD_of hl hb
  rw [hb] at d0 d1 d2
  have hres : applyV 12 r.l = arithV 12 a b := by unfold applyV; dsimp only; rw [hga, hgb]; simp
  rw [hres]
  obtain ⟨W, hW⟩ : ∃ W, w.alloc (.cells #[.int .i64 0, .int .i64 0, .string ⟨#[]⟩] 24) = W := ⟨_, rfl⟩
  have hyc0 : ∀ w' : World, SA w w' → w'.cell? ⟨r.h.b, r.h.o, none⟩ = some (.int .i64 a.kind) := fun w' h => by rw [h.1.cell (p := ⟨r.h.b, _, none⟩) hbb]; exact c0
  have hyc1 : ∀ w' : World, SA w w' → w'.cell? ⟨r.h.b, r.h.o + 1, none⟩ = some (.int .i64 a.num) := fun w' h => by rw [h.1.cell (p := ⟨r.h.b, _, none⟩) hbb]; exact c1
  have hyc2 : ∀ w' : World, SA w w' → w'.cell? ⟨r.h.b, r.h.o + 2, none⟩ = some (.string a.text) := fun w' h => by rw [h.1.cell (p := ⟨r.h.b, _, none⟩) hbb]; exact c2
  have hyd0 : ∀ w' : World, SA w w' → w'.cell? ⟨r.h.b, p, none⟩ = some (.int .i64 b.kind) := fun w' h => by rw [h.1.cell (p := ⟨r.h.b, _, none⟩) hbb]; exact d0
  have hyd1 : ∀ w' : World, SA w w' → w'.cell? ⟨r.h.b, p + 1, none⟩ = some (.int .i64 b.num) := fun w' h => by rw [h.1.cell (p := ⟨r.h.b, _, none⟩) hbb]; exact d1
  have hyd2 : ∀ w' : World, SA w w' → w'.cell? ⟨r.h.b, p + 2, none⟩ = some (.string b.text) := fun w' h => by rw [h.1.cell (p := ⟨r.h.b, _, none⟩) hbb]; exact d2
  have HW := hide hw
  have HS0 := hide (show SA w W from by rw [← hW]; exact SA.new _ _ _ _)
  clear hwf ha hga hres hr hw c0 c1 c2 hb hgb d0 d1 d2
  go_enter Tryd.func71, Tryd.ntmps71
  go_wp2
  clear hW
  go_region_held3 (fun w' => SA w w') ((with_reducible first | assumption | exact HS0.out.drew | exact SA.set (by assumption) _ _ _)) (first
    | (go_at_call 76; refine (varith_any 12 a b HA.out HB.out _ (HW.out.mono (SA.below (by first | exact HS0.out.drew | assumption)))).mono ?_; rintro e xx ⟨rfl, hb_xx⟩; have HSX := SA.call (w := w) (by first | exact HS0.out.drew | assumption) hb_xx; obtain ⟨v0, v1, v2, hq⟩ := HSX.2; have e0 := hq.cell (j := 0) rfl; have e1 := hq.cell (j := 1) rfl; have e2 := hq.cell (j := 2) rfl; have f0 := hq.fr 0; have f1 := hq.fr 1; have f2 := hq.fr 2; clear hq))
  go_wp2
  exact bodyPost_ret (v := .agg #[.int .i64 (arithV 12 a b).kind, .int .i64 (arithV 12 a b).num, .string (arithV 12 a b).text]) (by simp [results, Tryd.results71, go_sem, e0, e1, e2]) rfl ⟨rfl, belset3 HSX.1 (Nat.le_refl _) (Nat.le_refl _) _ _ _⟩


set_option maxRecDepth 100000 in
set_option maxHeartbeats 4000000 in
theorem ap_14 (r : VL) (w : World) (hr : r.In w) (hl : 1 < r.l.length) (hw : NulAt w) : Calls Tryd.prog 71 #[.int .i64 14, .slice r.h.ao r.l.length r.h.cap] w fun e w' => e = .returned (.agg #[.int .i64 (applyV 14 r.l).kind, .int .i64 (applyV 14 r.l).num, .string (applyV 14 r.l).text]) ∧ Below w.heap.size w w' := by
  have h0 : 0 < r.l.length := by omega
  obtain ⟨hix0, hbb, c0, c1, c2⟩ := apl0 hr h0
  obtain ⟨p, hix1, d0, d1, d2⟩ := apl1 hr hl
  have hwf := hr.2
  obtain ⟨a, ha⟩ : ∃ a, r.l[0] = a := ⟨_, rfl⟩
  have HA := hide (ha ▸ hwf _ (List.getElem_mem h0) : a.wf)
  have hga := getD_of h0 ha
  rw [ha] at c0 c1 c2
  obtain ⟨b, hb⟩ : ∃ b, r.l[1] = b := ⟨_, rfl⟩
  have HB := hide (hb ▸ hwf _ (List.getElem_mem hl) : b.wf)
  have hgb := getD_of hl hb
  rw [hb] at d0 d1 d2
  have hres : applyV 14 r.l = eqV a b := by unfold applyV; dsimp only; rw [hga, hgb]; simp
  rw [hres]
  obtain ⟨W, hW⟩ : ∃ W, w.alloc (.cells #[.int .i64 0, .int .i64 0, .string ⟨#[]⟩] 24) = W := ⟨_, rfl⟩
  have hyc0 : ∀ w' : World, SA w w' → w'.cell? ⟨r.h.b, r.h.o, none⟩ = some (.int .i64 a.kind) := fun w' h => by rw [h.1.cell (p := ⟨r.h.b, _, none⟩) hbb]; exact c0
  have hyc1 : ∀ w' : World, SA w w' → w'.cell? ⟨r.h.b, r.h.o + 1, none⟩ = some (.int .i64 a.num) := fun w' h => by rw [h.1.cell (p := ⟨r.h.b, _, none⟩) hbb]; exact c1
  have hyc2 : ∀ w' : World, SA w w' → w'.cell? ⟨r.h.b, r.h.o + 2, none⟩ = some (.string a.text) := fun w' h => by rw [h.1.cell (p := ⟨r.h.b, _, none⟩) hbb]; exact c2
  have hyd0 : ∀ w' : World, SA w w' → w'.cell? ⟨r.h.b, p, none⟩ = some (.int .i64 b.kind) := fun w' h => by rw [h.1.cell (p := ⟨r.h.b, _, none⟩) hbb]; exact d0
  have hyd1 : ∀ w' : World, SA w w' → w'.cell? ⟨r.h.b, p + 1, none⟩ = some (.int .i64 b.num) := fun w' h => by rw [h.1.cell (p := ⟨r.h.b, _, none⟩) hbb]; exact d1
  have hyd2 : ∀ w' : World, SA w w' → w'.cell? ⟨r.h.b, p + 2, none⟩ = some (.string b.text) := fun w' h => by rw [h.1.cell (p := ⟨r.h.b, _, none⟩) hbb]; exact d2
  have HW := hide hw
  have HS0 := hide (show SA w W from by rw [← hW]; exact SA.new _ _ _ _)
  clear hwf ha hga hres hr hw c0 c1 c2 hb hgb d0 d1 d2
  go_enter Tryd.func71, Tryd.ntmps71
  go_wp2
  clear hW
  go_region_held3 (fun w' => SA w w') ((with_reducible first | assumption | exact HS0.out.drew | exact SA.set (by assumption) _ _ _)) (first
    | (go_at_call 82; refine (veq_any a b _ (HW.out.mono (SA.below (by first | exact HS0.out.drew | assumption)))).mono ?_; rintro e xx ⟨rfl, hb_xx⟩; have HSX := SA.call (w := w) (by first | exact HS0.out.drew | assumption) hb_xx; obtain ⟨v0, v1, v2, hq⟩ := HSX.2; have e0 := hq.cell (j := 0) rfl; have e1 := hq.cell (j := 1) rfl; have e2 := hq.cell (j := 2) rfl; have f0 := hq.fr 0; have f1 := hq.fr 1; have f2 := hq.fr 2; clear hq))
  go_wp2
  exact bodyPost_ret (v := .agg #[.int .i64 (eqV a b).kind, .int .i64 (eqV a b).num, .string (eqV a b).text]) (by simp [results, Tryd.results71, go_sem, e0, e1, e2]) rfl ⟨rfl, belset3 HSX.1 (Nat.le_refl _) (Nat.le_refl _) _ _ _⟩


set_option maxRecDepth 100000 in
set_option maxHeartbeats 4000000 in
theorem ap_16 (r : VL) (w : World) (hr : r.In w) (hl : 1 < r.l.length) (hw : NulAt w) : Calls Tryd.prog 71 #[.int .i64 16, .slice r.h.ao r.l.length r.h.cap] w fun e w' => e = .returned (.agg #[.int .i64 (applyV 16 r.l).kind, .int .i64 (applyV 16 r.l).num, .string (applyV 16 r.l).text]) ∧ Below w.heap.size w w' := by
  have h0 : 0 < r.l.length := by omega
  obtain ⟨hix0, hbb, c0, c1, c2⟩ := apl0 hr h0
  obtain ⟨p, hix1, d0, d1, d2⟩ := apl1 hr hl
  have hwf := hr.2
  obtain ⟨a, ha⟩ : ∃ a, r.l[0] = a := ⟨_, rfl⟩
  have HA := hide (ha ▸ hwf _ (List.getElem_mem h0) : a.wf)
  have hga := getD_of h0 ha
  rw [ha] at c0 c1 c2
  obtain ⟨b, hb⟩ : ∃ b, r.l[1] = b := ⟨_, rfl⟩
  have HB := hide (hb ▸ hwf _ (List.getElem_mem hl) : b.wf)
  have hgb := getD_of hl hb
  rw [hb] at d0 d1 d2
  have hres : applyV 16 r.l = lessV a b := by unfold applyV; dsimp only; rw [hga, hgb]; simp
  rw [hres]
  obtain ⟨W, hW⟩ : ∃ W, w.alloc (.cells #[.int .i64 0, .int .i64 0, .string ⟨#[]⟩] 24) = W := ⟨_, rfl⟩
  have hyc0 : ∀ w' : World, SA w w' → w'.cell? ⟨r.h.b, r.h.o, none⟩ = some (.int .i64 a.kind) := fun w' h => by rw [h.1.cell (p := ⟨r.h.b, _, none⟩) hbb]; exact c0
  have hyc1 : ∀ w' : World, SA w w' → w'.cell? ⟨r.h.b, r.h.o + 1, none⟩ = some (.int .i64 a.num) := fun w' h => by rw [h.1.cell (p := ⟨r.h.b, _, none⟩) hbb]; exact c1
  have hyc2 : ∀ w' : World, SA w w' → w'.cell? ⟨r.h.b, r.h.o + 2, none⟩ = some (.string a.text) := fun w' h => by rw [h.1.cell (p := ⟨r.h.b, _, none⟩) hbb]; exact c2
  have hyd0 : ∀ w' : World, SA w w' → w'.cell? ⟨r.h.b, p, none⟩ = some (.int .i64 b.kind) := fun w' h => by rw [h.1.cell (p := ⟨r.h.b, _, none⟩) hbb]; exact d0
  have hyd1 : ∀ w' : World, SA w w' → w'.cell? ⟨r.h.b, p + 1, none⟩ = some (.int .i64 b.num) := fun w' h => by rw [h.1.cell (p := ⟨r.h.b, _, none⟩) hbb]; exact d1
  have hyd2 : ∀ w' : World, SA w w' → w'.cell? ⟨r.h.b, p + 2, none⟩ = some (.string b.text) := fun w' h => by rw [h.1.cell (p := ⟨r.h.b, _, none⟩) hbb]; exact d2
  have HW := hide hw
  have HS0 := hide (show SA w W from by rw [← hW]; exact SA.new _ _ _ _)
  clear hwf ha hga hres hr hw c0 c1 c2 hb hgb d0 d1 d2
  go_enter Tryd.func71, Tryd.ntmps71
  go_wp2
  clear hW
  go_region_held3 (fun w' => SA w w') ((with_reducible first | assumption | exact HS0.out.drew | exact SA.set (by assumption) _ _ _)) (first
    | (go_at_call 83; refine (vless_any a b _ (HW.out.mono (SA.below (by first | exact HS0.out.drew | assumption)))).mono ?_; rintro e xx ⟨rfl, hb_xx⟩; have HSX := SA.call (w := w) (by first | exact HS0.out.drew | assumption) hb_xx; obtain ⟨v0, v1, v2, hq⟩ := HSX.2; have e0 := hq.cell (j := 0) rfl; have e1 := hq.cell (j := 1) rfl; have e2 := hq.cell (j := 2) rfl; have f0 := hq.fr 0; have f1 := hq.fr 1; have f2 := hq.fr 2; clear hq))
  go_wp2
  exact bodyPost_ret (v := .agg #[.int .i64 (lessV a b).kind, .int .i64 (lessV a b).num, .string (lessV a b).text]) (by simp [results, Tryd.results71, go_sem, e0, e1, e2]) rfl ⟨rfl, belset3 HSX.1 (Nat.le_refl _) (Nat.le_refl _) _ _ _⟩


set_option maxRecDepth 100000 in
set_option maxHeartbeats 4000000 in
theorem ap_18 (r : VL) (w : World) (hr : r.In w) (hl : 1 < r.l.length) (hw : NulAt w) : Calls Tryd.prog 71 #[.int .i64 18, .slice r.h.ao r.l.length r.h.cap] w fun e w' => e = .returned (.agg #[.int .i64 (applyV 18 r.l).kind, .int .i64 (applyV 18 r.l).num, .string (applyV 18 r.l).text]) ∧ Below w.heap.size w w' := by
  have h0 : 0 < r.l.length := by omega
  obtain ⟨hix0, hbb, c0, c1, c2⟩ := apl0 hr h0
  obtain ⟨p, hix1, d0, d1, d2⟩ := apl1 hr hl
  have hwf := hr.2
  obtain ⟨a, ha⟩ : ∃ a, r.l[0] = a := ⟨_, rfl⟩
  have HA := hide (ha ▸ hwf _ (List.getElem_mem h0) : a.wf)
  have hga := getD_of h0 ha
  rw [ha] at c0 c1 c2
  obtain ⟨b, hb⟩ : ∃ b, r.l[1] = b := ⟨_, rfl⟩
  have HB := hide (hb ▸ hwf _ (List.getElem_mem hl) : b.wf)
  have hgb := getD_of hl hb
  rw [hb] at d0 d1 d2
  have hres : applyV 18 r.l = lessV b a := by unfold applyV; dsimp only; rw [hga, hgb]; simp
  rw [hres]
  obtain ⟨W, hW⟩ : ∃ W, w.alloc (.cells #[.int .i64 0, .int .i64 0, .string ⟨#[]⟩] 24) = W := ⟨_, rfl⟩
  have hyc0 : ∀ w' : World, SA w w' → w'.cell? ⟨r.h.b, r.h.o, none⟩ = some (.int .i64 a.kind) := fun w' h => by rw [h.1.cell (p := ⟨r.h.b, _, none⟩) hbb]; exact c0
  have hyc1 : ∀ w' : World, SA w w' → w'.cell? ⟨r.h.b, r.h.o + 1, none⟩ = some (.int .i64 a.num) := fun w' h => by rw [h.1.cell (p := ⟨r.h.b, _, none⟩) hbb]; exact c1
  have hyc2 : ∀ w' : World, SA w w' → w'.cell? ⟨r.h.b, r.h.o + 2, none⟩ = some (.string a.text) := fun w' h => by rw [h.1.cell (p := ⟨r.h.b, _, none⟩) hbb]; exact c2
  have hyd0 : ∀ w' : World, SA w w' → w'.cell? ⟨r.h.b, p, none⟩ = some (.int .i64 b.kind) := fun w' h => by rw [h.1.cell (p := ⟨r.h.b, _, none⟩) hbb]; exact d0
  have hyd1 : ∀ w' : World, SA w w' → w'.cell? ⟨r.h.b, p + 1, none⟩ = some (.int .i64 b.num) := fun w' h => by rw [h.1.cell (p := ⟨r.h.b, _, none⟩) hbb]; exact d1
  have hyd2 : ∀ w' : World, SA w w' → w'.cell? ⟨r.h.b, p + 2, none⟩ = some (.string b.text) := fun w' h => by rw [h.1.cell (p := ⟨r.h.b, _, none⟩) hbb]; exact d2
  have HW := hide hw
  have HS0 := hide (show SA w W from by rw [← hW]; exact SA.new _ _ _ _)
  clear hwf ha hga hres hr hw c0 c1 c2 hb hgb d0 d1 d2
  go_enter Tryd.func71, Tryd.ntmps71
  go_wp2
  clear hW
  go_region_held3 (fun w' => SA w w') ((with_reducible first | assumption | exact HS0.out.drew | exact SA.set (by assumption) _ _ _)) (first
    | (go_at_call 83; refine (vless_any b a _ (HW.out.mono (SA.below (by first | exact HS0.out.drew | assumption)))).mono ?_; rintro e xx ⟨rfl, hb_xx⟩; have HSX := SA.call (w := w) (by first | exact HS0.out.drew | assumption) hb_xx; obtain ⟨v0, v1, v2, hq⟩ := HSX.2; have e0 := hq.cell (j := 0) rfl; have e1 := hq.cell (j := 1) rfl; have e2 := hq.cell (j := 2) rfl; have f0 := hq.fr 0; have f1 := hq.fr 1; have f2 := hq.fr 2; clear hq))
  go_wp2
  exact bodyPost_ret (v := .agg #[.int .i64 (lessV b a).kind, .int .i64 (lessV b a).num, .string (lessV b a).text]) (by simp [results, Tryd.results71, go_sem, e0, e1, e2]) rfl ⟨rfl, belset3 HSX.1 (Nat.le_refl _) (Nat.le_refl _) _ _ _⟩


set_option maxRecDepth 100000 in
set_option maxHeartbeats 4000000 in
theorem ap_22 (r : VL) (w : World) (hr : r.In w) (hl : 1 < r.l.length) (hw : NulAt w) : Calls Tryd.prog 71 #[.int .i64 22, .slice r.h.ao r.l.length r.h.cap] w fun e w' => e = .returned (.agg #[.int .i64 (applyV 22 r.l).kind, .int .i64 (applyV 22 r.l).num, .string (applyV 22 r.l).text]) ∧ Below w.heap.size w w' := by
  have h0 : 0 < r.l.length := by omega
  obtain ⟨hix0, hbb, c0, c1, c2⟩ := apl0 hr h0
  obtain ⟨p, hix1, d0, d1, d2⟩ := apl1 hr hl
  have hwf := hr.2
  obtain ⟨a, ha⟩ : ∃ a, r.l[0] = a := ⟨_, rfl⟩
  have HA := hide (ha ▸ hwf _ (List.getElem_mem h0) : a.wf)
  have hga := getD_of h0 ha
  rw [ha] at c0 c1 c2
  obtain ⟨b, hb⟩ : ∃ b, r.l[1] = b := ⟨_, rfl⟩
  have HB := hide (hb ▸ hwf _ (List.getElem_mem hl) : b.wf)
  have hgb := getD_of hl hb
  rw [hb] at d0 d1 d2
  have hres : applyV 22 r.l = andV a b := by unfold applyV; dsimp only; rw [hga, hgb]; simp
  rw [hres]
  obtain ⟨W, hW⟩ : ∃ W, w.alloc (.cells #[.int .i64 0, .int .i64 0, .string ⟨#[]⟩] 24) = W := ⟨_, rfl⟩
  have hyc0 : ∀ w' : World, SA w w' → w'.cell? ⟨r.h.b, r.h.o, none⟩ = some (.int .i64 a.kind) := fun w' h => by rw [h.1.cell (p := ⟨r.h.b, _, none⟩) hbb]; exact c0
  have hyc1 : ∀ w' : World, SA w w' → w'.cell? ⟨r.h.b, r.h.o + 1, none⟩ = some (.int .i64 a.num) := fun w' h => by rw [h.1.cell (p := ⟨r.h.b, _, none⟩) hbb]; exact c1
  have hyc2 : ∀ w' : World, SA w w' → w'.cell? ⟨r.h.b, r.h.o + 2, none⟩ = some (.string a.text) := fun w' h => by rw [h.1.cell (p := ⟨r.h.b, _, none⟩) hbb]; exact c2
  have hyd0 : ∀ w' : World, SA w w' → w'.cell? ⟨r.h.b, p, none⟩ = some (.int .i64 b.kind) := fun w' h => by rw [h.1.cell (p := ⟨r.h.b, _, none⟩) hbb]; exact d0
  have hyd1 : ∀ w' : World, SA w w' → w'.cell? ⟨r.h.b, p + 1, none⟩ = some (.int .i64 b.num) := fun w' h => by rw [h.1.cell (p := ⟨r.h.b, _, none⟩) hbb]; exact d1
  have hyd2 : ∀ w' : World, SA w w' → w'.cell? ⟨r.h.b, p + 2, none⟩ = some (.string b.text) := fun w' h => by rw [h.1.cell (p := ⟨r.h.b, _, none⟩) hbb]; exact d2
  have HW := hide hw
  have HS0 := hide (show SA w W from by rw [← hW]; exact SA.new _ _ _ _)
  clear hwf ha hga hres hr hw c0 c1 c2 hb hgb d0 d1 d2
  go_enter Tryd.func71, Tryd.ntmps71
  go_wp2
  clear hW
  go_region_held3 (fun w' => SA w w') ((with_reducible first | assumption | exact HS0.out.drew | exact SA.set (by assumption) _ _ _)) (first
    | (go_at_call 86; refine (vand_any a b _ (HW.out.mono (SA.below (by first | exact HS0.out.drew | assumption)))).mono ?_; rintro e xx ⟨rfl, hb_xx⟩; have HSX := SA.call (w := w) (by first | exact HS0.out.drew | assumption) hb_xx; obtain ⟨v0, v1, v2, hq⟩ := HSX.2; have e0 := hq.cell (j := 0) rfl; have e1 := hq.cell (j := 1) rfl; have e2 := hq.cell (j := 2) rfl; have f0 := hq.fr 0; have f1 := hq.fr 1; have f2 := hq.fr 2; clear hq))
  go_wp2
  exact bodyPost_ret (v := .agg #[.int .i64 (andV a b).kind, .int .i64 (andV a b).num, .string (andV a b).text]) (by simp [results, Tryd.results71, go_sem, e0, e1, e2]) rfl ⟨rfl, belset3 HSX.1 (Nat.le_refl _) (Nat.le_refl _) _ _ _⟩


set_option maxRecDepth 100000 in
set_option maxHeartbeats 4000000 in
theorem ap_23 (r : VL) (w : World) (hr : r.In w) (hl : 1 < r.l.length) (hw : NulAt w) : Calls Tryd.prog 71 #[.int .i64 23, .slice r.h.ao r.l.length r.h.cap] w fun e w' => e = .returned (.agg #[.int .i64 (applyV 23 r.l).kind, .int .i64 (applyV 23 r.l).num, .string (applyV 23 r.l).text]) ∧ Below w.heap.size w w' := by
  have h0 : 0 < r.l.length := by omega
  obtain ⟨hix0, hbb, c0, c1, c2⟩ := apl0 hr h0
  obtain ⟨p, hix1, d0, d1, d2⟩ := apl1 hr hl
  have hwf := hr.2
  obtain ⟨a, ha⟩ : ∃ a, r.l[0] = a := ⟨_, rfl⟩
  have HA := hide (ha ▸ hwf _ (List.getElem_mem h0) : a.wf)
  have hga := getD_of h0 ha
  rw [ha] at c0 c1 c2
  obtain ⟨b, hb⟩ : ∃ b, r.l[1] = b := ⟨_, rfl⟩
  have HB := hide (hb ▸ hwf _ (List.getElem_mem hl) : b.wf)
  have hgb := getD_of hl hb
  rw [hb] at d0 d1 d2
  have hres : applyV 23 r.l = orV a b := by unfold applyV; dsimp only; rw [hga, hgb]; simp
  rw [hres]
  obtain ⟨W, hW⟩ : ∃ W, w.alloc (.cells #[.int .i64 0, .int .i64 0, .string ⟨#[]⟩] 24) = W := ⟨_, rfl⟩
  have hyc0 : ∀ w' : World, SA w w' → w'.cell? ⟨r.h.b, r.h.o, none⟩ = some (.int .i64 a.kind) := fun w' h => by rw [h.1.cell (p := ⟨r.h.b, _, none⟩) hbb]; exact c0
  have hyc1 : ∀ w' : World, SA w w' → w'.cell? ⟨r.h.b, r.h.o + 1, none⟩ = some (.int .i64 a.num) := fun w' h => by rw [h.1.cell (p := ⟨r.h.b, _, none⟩) hbb]; exact c1
  have hyc2 : ∀ w' : World, SA w w' → w'.cell? ⟨r.h.b, r.h.o + 2, none⟩ = some (.string a.text) := fun w' h => by rw [h.1.cell (p := ⟨r.h.b, _, none⟩) hbb]; exact c2
  have hyd0 : ∀ w' : World, SA w w' → w'.cell? ⟨r.h.b, p, none⟩ = some (.int .i64 b.kind) := fun w' h => by rw [h.1.cell (p := ⟨r.h.b, _, none⟩) hbb]; exact d0
  have hyd1 : ∀ w' : World, SA w w' → w'.cell? ⟨r.h.b, p + 1, none⟩ = some (.int .i64 b.num) := fun w' h => by rw [h.1.cell (p := ⟨r.h.b, _, none⟩) hbb]; exact d1
  have hyd2 : ∀ w' : World, SA w w' → w'.cell? ⟨r.h.b, p + 2, none⟩ = some (.string b.text) := fun w' h => by rw [h.1.cell (p := ⟨r.h.b, _, none⟩) hbb]; exact d2
  have HW := hide hw
  have HS0 := hide (show SA w W from by rw [← hW]; exact SA.new _ _ _ _)
  clear hwf ha hga hres hr hw c0 c1 c2 hb hgb d0 d1 d2
  go_enter Tryd.func71, Tryd.ntmps71
  go_wp2
  clear hW
  go_region_held3 (fun w' => SA w w') ((with_reducible first | assumption | exact HS0.out.drew | exact SA.set (by assumption) _ _ _)) (first
    | (go_at_call 87; refine (vor_any a b _ (HW.out.mono (SA.below (by first | exact HS0.out.drew | assumption)))).mono ?_; rintro e xx ⟨rfl, hb_xx⟩; have HSX := SA.call (w := w) (by first | exact HS0.out.drew | assumption) hb_xx; obtain ⟨v0, v1, v2, hq⟩ := HSX.2; have e0 := hq.cell (j := 0) rfl; have e1 := hq.cell (j := 1) rfl; have e2 := hq.cell (j := 2) rfl; have f0 := hq.fr 0; have f1 := hq.fr 1; have f2 := hq.fr 2; clear hq))
  go_wp2
  exact bodyPost_ret (v := .agg #[.int .i64 (orV a b).kind, .int .i64 (orV a b).num, .string (orV a b).text]) (by simp [results, Tryd.results71, go_sem, e0, e1, e2]) rfl ⟨rfl, belset3 HSX.1 (Nat.le_refl _) (Nat.le_refl _) _ _ _⟩


set_option maxRecDepth 100000 in
set_option maxHeartbeats 4000000 in
theorem ap_15 (r : VL) (w : World) (hr : r.In w) (hl : 1 < r.l.length) (hw : NulAt w) : Calls Tryd.prog 71 #[.int .i64 15, .slice r.h.ao r.l.length r.h.cap] w fun e w' => e = .returned (.agg #[.int .i64 (applyV 15 r.l).kind, .int .i64 (applyV 15 r.l).num, .string (applyV 15 r.l).text]) ∧ Below w.heap.size w w' := by
  have h0 : 0 < r.l.length := by omega
  obtain ⟨hix0, hbb, c0, c1, c2⟩ := apl0 hr h0
  obtain ⟨p, hix1, d0, d1, d2⟩ := apl1 hr hl
  have hwf := hr.2
  obtain ⟨a, ha⟩ : ∃ a, r.l[0] = a := ⟨_, rfl⟩
  have HA := hide (ha ▸ hwf _ (List.getElem_mem h0) : a.wf)
  have hga := getD_of h0 ha
  rw [ha] at c0 c1 c2
  obtain ⟨b, hb⟩ : ∃ b, r.l[1] = b := ⟨_, rfl⟩
  have HB := hide (hb ▸ hwf _ (List.getElem_mem hl) : b.wf)
  have hgb := getD_of hl hb
  rw [hb] at d0 d1 d2
  have hres : applyV 15 r.l = notV (eqV a b) := by unfold applyV; dsimp only; rw [hga, hgb]; simp
  rw [hres]
  obtain ⟨W, hW⟩ : ∃ W, w.alloc (.cells #[.int .i64 0, .int .i64 0, .string ⟨#[]⟩] 24) = W := ⟨_, rfl⟩
  have hyc0 : ∀ w' : World, SA w w' → w'.cell? ⟨r.h.b, r.h.o, none⟩ = some (.int .i64 a.kind) := fun w' h => by rw [h.1.cell (p := ⟨r.h.b, _, none⟩) hbb]; exact c0
  have hyc1 : ∀ w' : World, SA w w' → w'.cell? ⟨r.h.b, r.h.o + 1, none⟩ = some (.int .i64 a.num) := fun w' h => by rw [h.1.cell (p := ⟨r.h.b, _, none⟩) hbb]; exact c1
  have hyc2 : ∀ w' : World, SA w w' → w'.cell? ⟨r.h.b, r.h.o + 2, none⟩ = some (.string a.text) := fun w' h => by rw [h.1.cell (p := ⟨r.h.b, _, none⟩) hbb]; exact c2
  have hyd0 : ∀ w' : World, SA w w' → w'.cell? ⟨r.h.b, p, none⟩ = some (.int .i64 b.kind) := fun w' h => by rw [h.1.cell (p := ⟨r.h.b, _, none⟩) hbb]; exact d0
  have hyd1 : ∀ w' : World, SA w w' → w'.cell? ⟨r.h.b, p + 1, none⟩ = some (.int .i64 b.num) := fun w' h => by rw [h.1.cell (p := ⟨r.h.b, _, none⟩) hbb]; exact d1
  have hyd2 : ∀ w' : World, SA w w' → w'.cell? ⟨r.h.b, p + 2, none⟩ = some (.string b.text) := fun w' h => by rw [h.1.cell (p := ⟨r.h.b, _, none⟩) hbb]; exact d2
  have HW := hide hw
  have HS0 := hide (show SA w W from by rw [← hW]; exact SA.new _ _ _ _)
  clear hwf ha hga hres hr hw c0 c1 c2 hb hgb d0 d1 d2
  go_enter Tryd.func71, Tryd.ntmps71
  go_wp2
  clear hW
  go_region_held3 (fun w' => SA w w') ((with_reducible first | assumption | exact HS0.out.drew | exact SA.set (by assumption) _ _ _)) (first
    | (go_at_call 82; refine (veq_any a b _ (HW.out.mono (SA.below (by first | exact HS0.out.drew | assumption)))).mono ?_; rintro e x1 ⟨rfl, hb_x1⟩; have HS_x1 := SA.call (w := w) (by first | exact HS0.out.drew | assumption) hb_x1)
    | (go_at_call 75; refine (vnot_any (eqV a b) _ (HW.out.mono (SA.below (by first | exact HS0.out.drew | assumption)))).mono ?_; rintro e xx ⟨rfl, hb_xx⟩; have HSX := SA.call (w := w) (by first | exact HS0.out.drew | assumption) hb_xx; obtain ⟨v0, v1, v2, hq⟩ := HSX.2; have e0 := hq.cell (j := 0) rfl; have e1 := hq.cell (j := 1) rfl; have e2 := hq.cell (j := 2) rfl; have f0 := hq.fr 0; have f1 := hq.fr 1; have f2 := hq.fr 2; clear hq))
  go_wp2
  exact bodyPost_ret (v := .agg #[.int .i64 (notV (eqV a b)).kind, .int .i64 (notV (eqV a b)).num, .string (notV (eqV a b)).text]) (by simp [results, Tryd.results71, go_sem, e0, e1, e2]) rfl ⟨rfl, belset3 HSX.1 (Nat.le_refl _) (Nat.le_refl _) _ _ _⟩


set_option maxRecDepth 100000 in
set_option maxHeartbeats 4000000 in
theorem ap_17 (r : VL) (w : World) (hr : r.In w) (hl : 1 < r.l.length) (hw : NulAt w) : Calls Tryd.prog 71 #[.int .i64 17, .slice r.h.ao r.l.length r.h.cap] w fun e w' => e = .returned (.agg #[.int .i64 (applyV 17 r.l).kind, .int .i64 (applyV 17 r.l).num, .string (applyV 17 r.l).text]) ∧ Below w.heap.size w w' := by
  have h0 : 0 < r.l.length := by omega
  obtain ⟨hix0, hbb, c0, c1, c2⟩ := apl0 hr h0
  obtain ⟨p, hix1, d0, d1, d2⟩ := apl1 hr hl
  have hwf := hr.2
  obtain ⟨a, ha⟩ : ∃ a, r.l[0] = a := ⟨_, rfl⟩
  have HA := hide (ha ▸ hwf _ (List.getElem_mem h0) : a.wf)
  have hga := getD_of h0 ha
  rw [ha] at c0 c1 c2
  obtain ⟨b, hb⟩ : ∃ b, r.l[1] = b := ⟨_, rfl⟩
  have HB := hide (hb ▸ hwf _ (List.getElem_mem hl) : b.wf)
  have hgb := getD_of hl hb
  rw [hb] at d0 d1 d2
  have hres : applyV 17 r.l = notV (lessV b a) := by unfold applyV; dsimp only; rw [hga, hgb]; simp
  rw [hres]
  obtain ⟨W, hW⟩ : ∃ W, w.alloc (.cells #[.int .i64 0, .int .i64 0, .string ⟨#[]⟩] 24) = W := ⟨_, rfl⟩
  have hyc0 : ∀ w' : World, SA w w' → w'.cell? ⟨r.h.b, r.h.o, none⟩ = some (.int .i64 a.kind) := fun w' h => by rw [h.1.cell (p := ⟨r.h.b, _, none⟩) hbb]; exact c0
  have hyc1 : ∀ w' : World, SA w w' → w'.cell? ⟨r.h.b, r.h.o + 1, none⟩ = some (.int .i64 a.num) := fun w' h => by rw [h.1.cell (p := ⟨r.h.b, _, none⟩) hbb]; exact c1
  have hyc2 : ∀ w' : World, SA w w' → w'.cell? ⟨r.h.b, r.h.o + 2, none⟩ = some (.string a.text) := fun w' h => by rw [h.1.cell (p := ⟨r.h.b, _, none⟩) hbb]; exact c2
  have hyd0 : ∀ w' : World, SA w w' → w'.cell? ⟨r.h.b, p, none⟩ = some (.int .i64 b.kind) := fun w' h => by rw [h.1.cell (p := ⟨r.h.b, _, none⟩) hbb]; exact d0
  have hyd1 : ∀ w' : World, SA w w' → w'.cell? ⟨r.h.b, p + 1, none⟩ = some (.int .i64 b.num) := fun w' h => by rw [h.1.cell (p := ⟨r.h.b, _, none⟩) hbb]; exact d1
  have hyd2 : ∀ w' : World, SA w w' → w'.cell? ⟨r.h.b, p + 2, none⟩ = some (.string b.text) := fun w' h => by rw [h.1.cell (p := ⟨r.h.b, _, none⟩) hbb]; exact d2
  have HW := hide hw
  have HS0 := hide (show SA w W from by rw [← hW]; exact SA.new _ _ _ _)
  clear hwf ha hga hres hr hw c0 c1 c2 hb hgb d0 d1 d2
  go_enter Tryd.func71, Tryd.ntmps71
  go_wp2
  clear hW
  go_region_held3 (fun w' => SA w w') ((with_reducible first | assumption | exact HS0.out.drew | exact SA.set (by assumption) _ _ _)) (first
    | (go_at_call 83; refine (vless_any b a _ (HW.out.mono (SA.below (by first | exact HS0.out.drew | assumption)))).mono ?_; rintro e x1 ⟨rfl, hb_x1⟩; have HS_x1 := SA.call (w := w) (by first | exact HS0.out.drew | assumption) hb_x1)
    | (go_at_call 75; refine (vnot_any (lessV b a) _ (HW.out.mono (SA.below (by first | exact HS0.out.drew | assumption)))).mono ?_; rintro e xx ⟨rfl, hb_xx⟩; have HSX := SA.call (w := w) (by first | exact HS0.out.drew | assumption) hb_xx; obtain ⟨v0, v1, v2, hq⟩ := HSX.2; have e0 := hq.cell (j := 0) rfl; have e1 := hq.cell (j := 1) rfl; have e2 := hq.cell (j := 2) rfl; have f0 := hq.fr 0; have f1 := hq.fr 1; have f2 := hq.fr 2; clear hq))
  go_wp2
  exact bodyPost_ret (v := .agg #[.int .i64 (notV (lessV b a)).kind, .int .i64 (notV (lessV b a)).num, .string (notV (lessV b a)).text]) (by simp [results, Tryd.results71, go_sem, e0, e1, e2]) rfl ⟨rfl, belset3 HSX.1 (Nat.le_refl _) (Nat.le_refl _) _ _ _⟩


set_option maxRecDepth 100000 in
set_option maxHeartbeats 4000000 in
theorem ap_19 (r : VL) (w : World) (hr : r.In w) (hl : 1 < r.l.length) (hw : NulAt w) : Calls Tryd.prog 71 #[.int .i64 19, .slice r.h.ao r.l.length r.h.cap] w fun e w' => e = .returned (.agg #[.int .i64 (applyV 19 r.l).kind, .int .i64 (applyV 19 r.l).num, .string (applyV 19 r.l).text]) ∧ Below w.heap.size w w' := by
  have h0 : 0 < r.l.length := by omega
  obtain ⟨hix0, hbb, c0, c1, c2⟩ := apl0 hr h0
  obtain ⟨p, hix1, d0, d1, d2⟩ := apl1 hr hl
  have hwf := hr.2
  obtain ⟨a, ha⟩ : ∃ a, r.l[0] = a := ⟨_, rfl⟩
  have HA := hide (ha ▸ hwf _ (List.getElem_mem h0) : a.wf)
  have hga := getD_of h0 ha
  rw [ha] at c0 c1 c2
  obtain ⟨b, hb⟩ : ∃ b, r.l[1] = b := ⟨_, rfl⟩
  have HB := hide (hb ▸ hwf _ (List.getElem_mem hl) : b.wf)
  have hgb := getD_of hl hb
  rw [hb] at d0 d1 d2
  have hres : applyV 19 r.l = notV (lessV a b) := by unfold applyV; dsimp only; rw [hga, hgb]; simp
  rw [hres]
  obtain ⟨W, hW⟩ : ∃ W, w.alloc (.cells #[.int .i64 0, .int .i64 0, .string ⟨#[]⟩] 24) = W := ⟨_, rfl⟩
  have hyc0 : ∀ w' : World, SA w w' → w'.cell? ⟨r.h.b, r.h.o, none⟩ = some (.int .i64 a.kind) := fun w' h => by rw [h.1.cell (p := ⟨r.h.b, _, none⟩) hbb]; exact c0
  have hyc1 : ∀ w' : World, SA w w' → w'.cell? ⟨r.h.b, r.h.o + 1, none⟩ = some (.int .i64 a.num) := fun w' h => by rw [h.1.cell (p := ⟨r.h.b, _, none⟩) hbb]; exact c1
  have hyc2 : ∀ w' : World, SA w w' → w'.cell? ⟨r.h.b, r.h.o + 2, none⟩ = some (.string a.text) := fun w' h => by rw [h.1.cell (p := ⟨r.h.b, _, none⟩) hbb]; exact c2
  have hyd0 : ∀ w' : World, SA w w' → w'.cell? ⟨r.h.b, p, none⟩ = some (.int .i64 b.kind) := fun w' h => by rw [h.1.cell (p := ⟨r.h.b, _, none⟩) hbb]; exact d0
  have hyd1 : ∀ w' : World, SA w w' → w'.cell? ⟨r.h.b, p + 1, none⟩ = some (.int .i64 b.num) := fun w' h => by rw [h.1.cell (p := ⟨r.h.b, _, none⟩) hbb]; exact d1
  have hyd2 : ∀ w' : World, SA w w' → w'.cell? ⟨r.h.b, p + 2, none⟩ = some (.string b.text) := fun w' h => by rw [h.1.cell (p := ⟨r.h.b, _, none⟩) hbb]; exact d2
  have HW := hide hw
  have HS0 := hide (show SA w W from by rw [← hW]; exact SA.new _ _ _ _)
  clear hwf ha hga hres hr hw c0 c1 c2 hb hgb d0 d1 d2
  go_enter Tryd.func71, Tryd.ntmps71
  go_wp2
  clear hW
  go_region_held3 (fun w' => SA w w') ((with_reducible first | assumption | exact HS0.out.drew | exact SA.set (by assumption) _ _ _)) (first
    | (go_at_call 83; refine (vless_any a b _ (HW.out.mono (SA.below (by first | exact HS0.out.drew | assumption)))).mono ?_; rintro e x1 ⟨rfl, hb_x1⟩; have HS_x1 := SA.call (w := w) (by first | exact HS0.out.drew | assumption) hb_x1)
    | (go_at_call 75; refine (vnot_any (lessV a b) _ (HW.out.mono (SA.below (by first | exact HS0.out.drew | assumption)))).mono ?_; rintro e xx ⟨rfl, hb_xx⟩; have HSX := SA.call (w := w) (by first | exact HS0.out.drew | assumption) hb_xx; obtain ⟨v0, v1, v2, hq⟩ := HSX.2; have e0 := hq.cell (j := 0) rfl; have e1 := hq.cell (j := 1) rfl; have e2 := hq.cell (j := 2) rfl; have f0 := hq.fr 0; have f1 := hq.fr 1; have f2 := hq.fr 2; clear hq))
  go_wp2
  exact bodyPost_ret (v := .agg #[.int .i64 (notV (lessV a b)).kind, .int .i64 (notV (lessV a b)).num, .string (notV (lessV a b)).text]) (by simp [results, Tryd.results71, go_sem, e0, e1, e2]) rfl ⟨rfl, belset3 HSX.1 (Nat.le_refl _) (Nat.le_refl _) _ _ _⟩


set_option maxRecDepth 100000 in
set_option maxHeartbeats 4000000 in
theorem ap_20 (r : VL) (w : World) (hr : r.In w) (hl : 1 < r.l.length) (hw : NulAt w) : Calls Tryd.prog 71 #[.int .i64 20, .slice r.h.ao r.l.length r.h.cap] w fun e w' => e = .returned (.agg #[.int .i64 (applyV 20 r.l).kind, .int .i64 (applyV 20 r.l).num, .string (applyV 20 r.l).text]) ∧ Below w.heap.size w w' := by
  have h0 : 0 < r.l.length := by omega
  obtain ⟨hix0, hbb, c0, c1, c2⟩ := apl0 hr h0
  obtain ⟨p, hix1, d0, d1, d2⟩ := apl1 hr hl
  have hwf := hr.2
  obtain ⟨a, ha⟩ : ∃ a, r.l[0] = a := ⟨_, rfl⟩
  have HA := hide (ha ▸ hwf _ (List.getElem_mem h0) : a.wf)
  have hga := getD_of h0 ha
  rw [ha] at c0 c1 c2
  obtain ⟨b, hb⟩ : ∃ b, r.l[1] = b := ⟨_, rfl⟩
  have HB := hide (hb ▸ hwf _ (List.getElem_mem hl) : b.wf)
  have hgb := getD_of hl hb
  rw [hb] at d0 d1 d2
  have hres : applyV 20 r.l = bV (sameB a b) := by unfold applyV; dsimp only; rw [hga, hgb]; simp
  rw [hres]
  obtain ⟨W, hW⟩ : ∃ W, w.alloc (.cells #[.int .i64 0, .int .i64 0, .string ⟨#[]⟩] 24) = W := ⟨_, rfl⟩
  have hyc0 : ∀ w' : World, SA w w' → w'.cell? ⟨r.h.b, r.h.o, none⟩ = some (.int .i64 a.kind) := fun w' h => by rw [h.1.cell (p := ⟨r.h.b, _, none⟩) hbb]; exact c0
  have hyc1 : ∀ w' : World, SA w w' → w'.cell? ⟨r.h.b, r.h.o + 1, none⟩ = some (.int .i64 a.num) := fun w' h => by rw [h.1.cell (p := ⟨r.h.b, _, none⟩) hbb]; exact c1
  have hyc2 : ∀ w' : World, SA w w' → w'.cell? ⟨r.h.b, r.h.o + 2, none⟩ = some (.string a.text) := fun w' h => by rw [h.1.cell (p := ⟨r.h.b, _, none⟩) hbb]; exact c2
  have hyd0 : ∀ w' : World, SA w w' → w'.cell? ⟨r.h.b, p, none⟩ = some (.int .i64 b.kind) := fun w' h => by rw [h.1.cell (p := ⟨r.h.b, _, none⟩) hbb]; exact d0
  have hyd1 : ∀ w' : World, SA w w' → w'.cell? ⟨r.h.b, p + 1, none⟩ = some (.int .i64 b.num) := fun w' h => by rw [h.1.cell (p := ⟨r.h.b, _, none⟩) hbb]; exact d1
  have hyd2 : ∀ w' : World, SA w w' → w'.cell? ⟨r.h.b, p + 2, none⟩ = some (.string b.text) := fun w' h => by rw [h.1.cell (p := ⟨r.h.b, _, none⟩) hbb]; exact d2
  have HW := hide hw
  have HS0 := hide (show SA w W from by rw [← hW]; exact SA.new _ _ _ _)
  clear hwf ha hga hres hr hw c0 c1 c2 hb hgb d0 d1 d2
  go_enter Tryd.func71, Tryd.ntmps71
  go_wp2
  clear hW
  go_region_held3 (fun w' => SA w w') ((with_reducible first | assumption | exact HS0.out.drew | exact SA.set (by assumption) _ _ _)) (first
    | (go_at_call 85; refine (vsame_any a b _).mono ?_; rintro e x1 ⟨rfl, hb_x1⟩; have HS_x1 := SA.call (w := w) (by first | exact HS0.out.drew | assumption) hb_x1)
    | (go_at_call 84; refine (etruth_any (sameB a b) _ (HW.out.mono (SA.below (by first | exact HS0.out.drew | assumption)))).mono ?_; rintro e xx ⟨rfl, hb_xx⟩; have HSX := SA.call (w := w) (by first | exact HS0.out.drew | assumption) hb_xx; obtain ⟨v0, v1, v2, hq⟩ := HSX.2; have e0 := hq.cell (j := 0) rfl; have e1 := hq.cell (j := 1) rfl; have e2 := hq.cell (j := 2) rfl; have f0 := hq.fr 0; have f1 := hq.fr 1; have f2 := hq.fr 2; clear hq))
  go_wp2
  exact bodyPost_ret (v := .agg #[.int .i64 (bV (sameB a b)).kind, .int .i64 (bV (sameB a b)).num, .string (bV (sameB a b)).text]) (by simp [results, Tryd.results71, go_sem, e0, e1, e2]) rfl ⟨rfl, belset3 HSX.1 (Nat.le_refl _) (Nat.le_refl _) _ _ _⟩


set_option maxRecDepth 100000 in
set_option maxHeartbeats 4000000 in
theorem ap_11 (r : VL) (w : World) (hr : r.In w) (hl : 0 < r.l.length) (hw : NulAt w) : Calls Tryd.prog 71 #[.int .i64 11, .slice r.h.ao r.l.length r.h.cap] w fun e w' => e = .returned (.agg #[.int .i64 (applyV 11 r.l).kind, .int .i64 (applyV 11 r.l).num, .string (applyV 11 r.l).text]) ∧ Below w.heap.size w w' := by
  have h0 : 0 < r.l.length := by omega
  obtain ⟨hix0, hbb, c0, c1, c2⟩ := apl0 hr h0
  have hwf := hr.2
  obtain ⟨a, ha⟩ : ∃ a, r.l[0] = a := ⟨_, rfl⟩
  have HA := hide (ha ▸ hwf _ (List.getElem_mem h0) : a.wf)
  have hga := getD_of h0 ha
  rw [ha] at c0 c1 c2
  have hres : applyV 11 r.l = arithV 7 ⟨1, 0, ⟨#[]⟩⟩ a := by unfold applyV; dsimp only; rw [hga]; simp
  rw [hres]
  obtain ⟨W, hW⟩ : ∃ W, w.alloc (.cells #[.int .i64 0, .int .i64 0, .string ⟨#[]⟩] 24) = W := ⟨_, rfl⟩
  have hyc0 : ∀ w' : World, SA w w' → w'.cell? ⟨r.h.b, r.h.o, none⟩ = some (.int .i64 a.kind) := fun w' h => by rw [h.1.cell (p := ⟨r.h.b, _, none⟩) hbb]; exact c0
  have hyc1 : ∀ w' : World, SA w w' → w'.cell? ⟨r.h.b, r.h.o + 1, none⟩ = some (.int .i64 a.num) := fun w' h => by rw [h.1.cell (p := ⟨r.h.b, _, none⟩) hbb]; exact c1
  have hyc2 : ∀ w' : World, SA w w' → w'.cell? ⟨r.h.b, r.h.o + 2, none⟩ = some (.string a.text) := fun w' h => by rw [h.1.cell (p := ⟨r.h.b, _, none⟩) hbb]; exact c2
  have HW := hide hw
  have HS0 := hide (show SA w W from by rw [← hW]; exact SA.new _ _ _ _)
  clear hwf ha hga hres hr hw c0 c1 c2 
  have c0 := hyc0 W HS0.out
  have c1 := hyc1 W HS0.out
  have c2 := hyc2 W HS0.out
  have HW2 := hide (HW.out.mono HS0.out.1)
  go_enter Tryd.func71, Tryd.ntmps71
  go_wp2_with (first
    | (go_at_call 76; refine (varith_any 7 ⟨1, 0, ⟨#[]⟩⟩ a ⟨i64_lit rfl, i64_lit rfl, Nat.zero_le _⟩ HA.out _ HW2.out).mono ?_; rintro e xx ⟨rfl, hb_xx⟩; have HSX := SA.call HS0.out hb_xx; clear hb_xx; obtain ⟨v0, v1, v2, hq⟩ := HSX.2; have e0 := hq.cell (j := 0) rfl; have e1 := hq.cell (j := 1) rfl; have e2 := hq.cell (j := 2) rfl; have f0 := hq.fr 0; have f1 := hq.fr 1; have f2 := hq.fr 2; clear hq))
  exact bodyPost_ret (v := .agg #[.int .i64 (arithV 7 ⟨1, 0, ⟨#[]⟩⟩ a).kind, .int .i64 (arithV 7 ⟨1, 0, ⟨#[]⟩⟩ a).num, .string (arithV 7 ⟨1, 0, ⟨#[]⟩⟩ a).text]) (by simp [results, Tryd.results71, go_sem, e0, e1, e2]) rfl ⟨rfl, belset3 HSX.1 (Nat.le_refl _) (Nat.le_refl _) _ _ _⟩


set_option maxRecDepth 100000 in
set_option maxHeartbeats 4000000 in
theorem ap_24 (r : VL) (w : World) (hr : r.In w) (hl : 0 < r.l.length) (hw : NulAt w) : Calls Tryd.prog 71 #[.int .i64 24, .slice r.h.ao r.l.length r.h.cap] w fun e w' => e = .returned (.agg #[.int .i64 (applyV 24 r.l).kind, .int .i64 (applyV 24 r.l).num, .string (applyV 24 r.l).text]) ∧ Below w.heap.size w w' := by
  have h0 : 0 < r.l.length := by omega
  obtain ⟨hix0, hbb, c0, c1, c2⟩ := apl0 hr h0
  have hwf := hr.2
  obtain ⟨a, ha⟩ : ∃ a, r.l[0] = a := ⟨_, rfl⟩
  have HA := hide (ha ▸ hwf _ (List.getElem_mem h0) : a.wf)
  have hga := getD_of h0 ha
  rw [ha] at c0 c1 c2
  have hres : applyV 24 r.l = notV a := by unfold applyV; dsimp only; rw [hga]; simp
  rw [hres]
  obtain ⟨W, hW⟩ : ∃ W, w.alloc (.cells #[.int .i64 0, .int .i64 0, .string ⟨#[]⟩] 24) = W := ⟨_, rfl⟩
  have hyc0 : ∀ w' : World, SA w w' → w'.cell? ⟨r.h.b, r.h.o, none⟩ = some (.int .i64 a.kind) := fun w' h => by rw [h.1.cell (p := ⟨r.h.b, _, none⟩) hbb]; exact c0
  have hyc1 : ∀ w' : World, SA w w' → w'.cell? ⟨r.h.b, r.h.o + 1, none⟩ = some (.int .i64 a.num) := fun w' h => by rw [h.1.cell (p := ⟨r.h.b, _, none⟩) hbb]; exact c1
  have hyc2 : ∀ w' : World, SA w w' → w'.cell? ⟨r.h.b, r.h.o + 2, none⟩ = some (.string a.text) := fun w' h => by rw [h.1.cell (p := ⟨r.h.b, _, none⟩) hbb]; exact c2
  have HW := hide hw
  have HS0 := hide (show SA w W from by rw [← hW]; exact SA.new _ _ _ _)
  clear hwf ha hga hres hr hw c0 c1 c2 
  have c0 := hyc0 W HS0.out
  have c1 := hyc1 W HS0.out
  have c2 := hyc2 W HS0.out
  have HW2 := hide (HW.out.mono HS0.out.1)
  go_enter Tryd.func71, Tryd.ntmps71
  go_wp2_with (first
    | (go_at_call 75; refine (vnot_any a _ HW2.out).mono ?_; rintro e xx ⟨rfl, hb_xx⟩; have HSX := SA.call HS0.out hb_xx; clear hb_xx; obtain ⟨v0, v1, v2, hq⟩ := HSX.2; have e0 := hq.cell (j := 0) rfl; have e1 := hq.cell (j := 1) rfl; have e2 := hq.cell (j := 2) rfl; have f0 := hq.fr 0; have f1 := hq.fr 1; have f2 := hq.fr 2; clear hq))
  exact bodyPost_ret (v := .agg #[.int .i64 (notV a).kind, .int .i64 (notV a).num, .string (notV a).text]) (by simp [results, Tryd.results71, go_sem, e0, e1, e2]) rfl ⟨rfl, belset3 HSX.1 (Nat.le_refl _) (Nat.le_refl _) _ _ _⟩


set_option maxRecDepth 100000 in
set_option maxHeartbeats 4000000 in
theorem ap_21 (r : VL) (w : World) (hr : r.In w) (hl : 0 < r.l.length) (hw : NulAt w) : Calls Tryd.prog 71 #[.int .i64 21, .slice r.h.ao r.l.length r.h.cap] w fun e w' => e = .returned (.agg #[.int .i64 (applyV 21 r.l).kind, .int .i64 (applyV 21 r.l).num, .string (applyV 21 r.l).text]) ∧ Below w.heap.size w w' := by
  have h0 : 0 < r.l.length := by omega
  obtain ⟨hix0, hbb, c0, c1, c2⟩ := apl0 hr h0
  have hwf := hr.2
  obtain ⟨a, ha⟩ : ∃ a, r.l[0] = a := ⟨_, rfl⟩
  have HA := hide (ha ▸ hwf _ (List.getElem_mem h0) : a.wf)
  have hga := getD_of h0 ha
  rw [ha] at c0 c1 c2
  have hres : applyV 21 r.l = bV (a.kind == 0) := by unfold applyV; dsimp only; rw [hga]; simp
  rw [hres]
  obtain ⟨W, hW⟩ : ∃ W, w.alloc (.cells #[.int .i64 0, .int .i64 0, .string ⟨#[]⟩] 24) = W := ⟨_, rfl⟩
  have hyc0 : ∀ w' : World, SA w w' → w'.cell? ⟨r.h.b, r.h.o, none⟩ = some (.int .i64 a.kind) := fun w' h => by rw [h.1.cell (p := ⟨r.h.b, _, none⟩) hbb]; exact c0
  have hyc1 : ∀ w' : World, SA w w' → w'.cell? ⟨r.h.b, r.h.o + 1, none⟩ = some (.int .i64 a.num) := fun w' h => by rw [h.1.cell (p := ⟨r.h.b, _, none⟩) hbb]; exact c1
  have hyc2 : ∀ w' : World, SA w w' → w'.cell? ⟨r.h.b, r.h.o + 2, none⟩ = some (.string a.text) := fun w' h => by rw [h.1.cell (p := ⟨r.h.b, _, none⟩) hbb]; exact c2
  have HW := hide hw
  have HS0 := hide (show SA w W from by rw [← hW]; exact SA.new _ _ _ _)
  clear hwf ha hga hres hr hw c0 c1 c2 
  have c0 := hyc0 W HS0.out
  have c1 := hyc1 W HS0.out
  have c2 := hyc2 W HS0.out
  have HW2 := hide (HW.out.mono HS0.out.1)
  go_enter Tryd.func71, Tryd.ntmps71
  go_wp2_with (first
    | (go_at_call 84; refine (etruth_any (a.kind == 0) _ HW2.out).mono ?_; rintro e xx ⟨rfl, hb_xx⟩; have HSX := SA.call HS0.out hb_xx; clear hb_xx; obtain ⟨v0, v1, v2, hq⟩ := HSX.2; have e0 := hq.cell (j := 0) rfl; have e1 := hq.cell (j := 1) rfl; have e2 := hq.cell (j := 2) rfl; have f0 := hq.fr 0; have f1 := hq.fr 1; have f2 := hq.fr 2; clear hq))
  exact bodyPost_ret (v := .agg #[.int .i64 (bV (a.kind == 0)).kind, .int .i64 (bV (a.kind == 0)).num, .string (bV (a.kind == 0)).text]) (by simp [results, Tryd.results71, go_sem, e0, e1, e2]) rfl ⟨rfl, belset3 HSX.1 (Nat.le_refl _) (Nat.le_refl _) _ _ _⟩


set_option maxRecDepth 100000 in
set_option maxHeartbeats 4000000 in
theorem ap_25 (r : VL) (w : World) (hr : r.In w) (hl : 0 < r.l.length) (hw : NulAt w) : Calls Tryd.prog 71 #[.int .i64 25, .slice r.h.ao r.l.length r.h.cap] w fun e w' => e = .returned (.agg #[.int .i64 (applyV 25 r.l).kind, .int .i64 (applyV 25 r.l).num, .string (applyV 25 r.l).text]) ∧ Below w.heap.size w w' := by
  have h0 : 0 < r.l.length := by omega
  obtain ⟨hix0, hbb, c0, c1, c2⟩ := apl0 hr h0
  have hwf := hr.2
  obtain ⟨a, ha⟩ : ∃ a, r.l[0] = a := ⟨_, rfl⟩
  have HA := hide (ha ▸ hwf _ (List.getElem_mem h0) : a.wf)
  have hga := getD_of h0 ha
  rw [ha] at c0 c1 c2
  have hres : applyV 25 r.l = bV (truV a == 1) := by unfold applyV; dsimp only; rw [hga]; simp
  rw [hres]
  obtain ⟨W, hW⟩ : ∃ W, w.alloc (.cells #[.int .i64 0, .int .i64 0, .string ⟨#[]⟩] 24) = W := ⟨_, rfl⟩
  have hyc0 : ∀ w' : World, SA w w' → w'.cell? ⟨r.h.b, r.h.o, none⟩ = some (.int .i64 a.kind) := fun w' h => by rw [h.1.cell (p := ⟨r.h.b, _, none⟩) hbb]; exact c0
  have hyc1 : ∀ w' : World, SA w w' → w'.cell? ⟨r.h.b, r.h.o + 1, none⟩ = some (.int .i64 a.num) := fun w' h => by rw [h.1.cell (p := ⟨r.h.b, _, none⟩) hbb]; exact c1
  have hyc2 : ∀ w' : World, SA w w' → w'.cell? ⟨r.h.b, r.h.o + 2, none⟩ = some (.string a.text) := fun w' h => by rw [h.1.cell (p := ⟨r.h.b, _, none⟩) hbb]; exact c2
  have HW := hide hw
  have HS0 := hide (show SA w W from by rw [← hW]; exact SA.new _ _ _ _)
  clear hwf ha hga hres hr hw c0 c1 c2 
  have c0 := hyc0 W HS0.out
  have c1 := hyc1 W HS0.out
  have c2 := hyc2 W HS0.out
  have HW2 := hide (HW.out.mono HS0.out.1)
  go_enter Tryd.func71, Tryd.ntmps71
  go_wp2_with (first
    | (go_at_call 70; refine (vtru_any a _).mono ?_; rintro e x1 ⟨rfl, hb_x1⟩; have HS1 := SA.call HS0.out hb_x1; clear hb_x1)
    | (go_at_call 84; refine (etruth_any (truV a == 1) _ (HW.out.mono HS1.1)).mono ?_; rintro e xx ⟨rfl, hb_xx⟩; have HSX := SA.call HS1 hb_xx; clear hb_xx; obtain ⟨v0, v1, v2, hq⟩ := HSX.2; have e0 := hq.cell (j := 0) rfl; have e1 := hq.cell (j := 1) rfl; have e2 := hq.cell (j := 2) rfl; have f0 := hq.fr 0; have f1 := hq.fr 1; have f2 := hq.fr 2; clear hq))
  exact bodyPost_ret (v := .agg #[.int .i64 (bV (truV a == 1)).kind, .int .i64 (bV (truV a == 1)).num, .string (bV (truV a == 1)).text]) (by simp [results, Tryd.results71, go_sem, e0, e1, e2]) rfl ⟨rfl, belset3 HSX.1 (Nat.le_refl _) (Nat.le_refl _) _ _ _⟩

end Go.Proofs.YtlkhiihehaiinaaDoor

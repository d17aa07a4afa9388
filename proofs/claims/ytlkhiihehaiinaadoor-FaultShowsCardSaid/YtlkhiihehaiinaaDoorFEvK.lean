/- expression.Eval at any expression and row. -/
import Derived.Test.YtlkhiihehaiinaaDoorGG
import Derived.Test.YtlkhiihehaiinaaDoorGH
namespace Go.Proofs.YtlkhiihehaiinaaDoor
open Go.RowKit

/-- expression.Eval answers for e. -/
abbrev EvalAt (e : Ex) : Prop := ∀ (r : VL) (w : World), e.In w → r.In w → NulAt w → OpsAt w → Calls Tryd.prog 50 #[.agg #[.int .i64 e.op, .int .i64 e.typ, .int .i64 e.num, .string e.text, .int .i64 e.col, .slice e.kh.ao e.kids.length e.kh.cap], .slice r.h.ao r.l.length r.h.cap] w
  fun e' w' => e' = .returned (.agg #[.int .i64 (e.va r.l).kind, .int .i64 (e.va r.l).num, .string (e.va r.l).text]) ∧ Below w.heap.size w w'
/-- The expression's box and the result's. -/
structure SE (w : World) (cs : Array Value) (x : World) : Prop where
  bel : Below w.heap.size w x
  be : Box x w.heap.size cs 31
  br : Box x (w.heap.size + 1) #[.int .i64 0, .int .i64 0, .string ⟨#[]⟩] 24
theorem SE.call {w x y : World} {cs : Array Value} (h : SE w cs x) (hb : Below x.heap.size x y) : SE w cs y := ⟨bel_trans h.bel (hb.mono (Nat.le_refl _)), h.be.below hb, h.br.below hb⟩
theorem SE.start {w x : World} {cs : Array Value} (hb : Below ((w.alloc (.cells cs 31)).alloc (.cells #[.int .i64 0, .int .i64 0, .string ⟨#[]⟩] 24)).heap.size ((w.alloc (.cells cs 31)).alloc (.cells #[.int .i64 0, .int .i64 0, .string ⟨#[]⟩] 24)) x) : SE w cs x :=
  ⟨(boxes2 hb).2.2, (boxes2 hb).1, (boxes2 hb).2.1⟩
theorem SE.lt {w x : World} {cs : Array Value} (h : SE w cs x) : w.heap.size < x.heap.size ∧ w.heap.size + 1 < x.heap.size := ⟨h.be.lt, h.br.lt⟩
theorem SE.fin {w x : World} {cs : Array Value} (h : SE w cs x) (a b c : Value) : Below w.heap.size w (((x.setCell ⟨w.heap.size + 1, 0, none⟩ a).setCell ⟨w.heap.size + 1, 1, none⟩ b).setCell ⟨w.heap.size + 1, 2, none⟩ c) := belset3 h.bel (Nat.le_refl _) (Nat.le_succ _) _ _ _


set_option maxRecDepth 100000 in
set_option maxHeartbeats 4000000 in
theorem ev_no (op typ num : Int) (text : ByteArray) (col : Int) (kh : Hd) (kids : List Ex) (r : VL) (w : World) (HF : Hid (OpsAt ((w.alloc (.cells #[.int .i64 op, .int .i64 typ, .int .i64 num, .string text, .int .i64 col, .slice kh.ao kids.length kh.cap] 31)).alloc (.cells #[.int .i64 0, .int .i64 0, .string ⟨#[]⟩] 24)))) (HKB : Hid (knownB op kids.length = false)) :
    Calls Tryd.prog 50 #[.agg #[.int .i64 op, .int .i64 typ, .int .i64 num, .string text, .int .i64 col, .slice kh.ao kids.length kh.cap], .slice r.h.ao r.l.length r.h.cap] w fun e' w' => e' = .returned (.agg #[.int .i64 0, .int .i64 0, .string ⟨#[]⟩]) ∧ Below w.heap.size w w' := by
  go_enter Tryd.func50, Tryd.ntmps50
  go_wp2_with (go_at_call 69; refine (known_any op typ num text col kh.ao kids.length kh.cap _ HF.out).mono ?_; rintro e x1 ⟨⟨nm, kd, ty, ow, is, rfl⟩, hb⟩; rw [HKB.out]; have HS1 := hide (SE.start hb); clear hb; obtain ⟨sl0, sl1⟩ := HS1.out.lt; have k0 := HS1.out.be.cell (j := 0) rfl; have k1 := HS1.out.be.cell (j := 1) rfl; have k2 := HS1.out.be.cell (j := 2) rfl; have k3 := HS1.out.be.cell (j := 3) rfl; have k4 := HS1.out.be.cell (j := 4) rfl; have k5 := HS1.out.be.cell (j := 5) rfl; have e0 := HS1.out.br.cell (j := 0) rfl; have e1 := HS1.out.br.cell (j := 1) rfl; have e2 := HS1.out.br.cell (j := 2) rfl; have f0 := HS1.out.br.fr 0; have f1 := HS1.out.br.fr 1; have f2 := HS1.out.br.fr 2)
  exact bodyPost_ret (v := .agg #[.int .i64 0, .int .i64 0, .string ⟨#[]⟩]) (by have hz := (boxs3 HS1.out.br (.int .i64 0) (.int .i64 0) (.string ⟨#[]⟩)).below (belA (.cells #[.string nm, .int .i64 kd, .int .i64 ty, .int .i64 ow] 95)); have q0 := hz.cell (j := 0) rfl; have q1 := hz.cell (j := 1) rfl; have q2 := hz.cell (j := 2) rfl; simp [results, Tryd.results50, go_sem, q0, q1, q2]) rfl ⟨rfl, (HS1.out.fin _ _ _).trans ((belA _).mono (HS1.out.fin _ _ _).size)⟩

set_option maxRecDepth 100000 in
set_option maxHeartbeats 4000000 in
theorem ev_2 (typ num : Int) (text : ByteArray) (col : Int) (kh : Hd) (kids : List Ex) (r : VL) (w : World) (HF : Hid (OpsAt ((w.alloc (.cells #[.int .i64 2, .int .i64 typ, .int .i64 num, .string text, .int .i64 col, .slice kh.ao kids.length kh.cap] 31)).alloc (.cells #[.int .i64 0, .int .i64 0, .string ⟨#[]⟩] 24)))) (HKB : Hid (knownB 2 kids.length = true)) :
    Calls Tryd.prog 50 #[.agg #[.int .i64 2, .int .i64 typ, .int .i64 num, .string text, .int .i64 col, .slice kh.ao kids.length kh.cap], .slice r.h.ao r.l.length r.h.cap] w fun e' w' => e' = .returned (.agg #[.int .i64 1, .int .i64 num, .string ⟨#[]⟩]) ∧ Below w.heap.size w w' := by
  go_enter Tryd.func50, Tryd.ntmps50
  go_wp2_with (go_at_call 69; refine (known_any 2 typ num text col kh.ao kids.length kh.cap _ HF.out).mono ?_; rintro e x1 ⟨⟨nm, kd, ty, ow, is, rfl⟩, hb⟩; rw [HKB.out]; have HS1 := hide (SE.start hb); clear hb; obtain ⟨sl0, sl1⟩ := HS1.out.lt; have k0 := HS1.out.be.cell (j := 0) rfl; have k1 := HS1.out.be.cell (j := 1) rfl; have k2 := HS1.out.be.cell (j := 2) rfl; have k3 := HS1.out.be.cell (j := 3) rfl; have k4 := HS1.out.be.cell (j := 4) rfl; have k5 := HS1.out.be.cell (j := 5) rfl; have e0 := HS1.out.br.cell (j := 0) rfl; have e1 := HS1.out.br.cell (j := 1) rfl; have e2 := HS1.out.br.cell (j := 2) rfl; have f0 := HS1.out.br.fr 0; have f1 := HS1.out.br.fr 1; have f2 := HS1.out.br.fr 2)
  exact bodyPost_ret (v := .agg #[.int .i64 1, .int .i64 num, .string ⟨#[]⟩]) (by have hz := (boxs3 HS1.out.br (.int .i64 1) (.int .i64 num) (.string ⟨#[]⟩)).below (belA (.cells #[.string nm, .int .i64 kd, .int .i64 ty, .int .i64 ow] 95)); have q0 := hz.cell (j := 0) rfl; have q1 := hz.cell (j := 1) rfl; have q2 := hz.cell (j := 2) rfl; simp [results, Tryd.results50, go_sem, q0, q1, q2]) rfl ⟨rfl, (HS1.out.fin _ _ _).trans ((belA _).mono (HS1.out.fin _ _ _).size)⟩

set_option maxRecDepth 100000 in
set_option maxHeartbeats 4000000 in
theorem ev_3 (typ num : Int) (text : ByteArray) (col : Int) (kh : Hd) (kids : List Ex) (r : VL) (w : World) (HF : Hid (OpsAt ((w.alloc (.cells #[.int .i64 3, .int .i64 typ, .int .i64 num, .string text, .int .i64 col, .slice kh.ao kids.length kh.cap] 31)).alloc (.cells #[.int .i64 0, .int .i64 0, .string ⟨#[]⟩] 24)))) (HKB : Hid (knownB 3 kids.length = true)) :
    Calls Tryd.prog 50 #[.agg #[.int .i64 3, .int .i64 typ, .int .i64 num, .string text, .int .i64 col, .slice kh.ao kids.length kh.cap], .slice r.h.ao r.l.length r.h.cap] w fun e' w' => e' = .returned (.agg #[.int .i64 2, .int .i64 num, .string ⟨#[]⟩]) ∧ Below w.heap.size w w' := by
  go_enter Tryd.func50, Tryd.ntmps50
  go_wp2_with (go_at_call 69; refine (known_any 3 typ num text col kh.ao kids.length kh.cap _ HF.out).mono ?_; rintro e x1 ⟨⟨nm, kd, ty, ow, is, rfl⟩, hb⟩; rw [HKB.out]; have HS1 := hide (SE.start hb); clear hb; obtain ⟨sl0, sl1⟩ := HS1.out.lt; have k0 := HS1.out.be.cell (j := 0) rfl; have k1 := HS1.out.be.cell (j := 1) rfl; have k2 := HS1.out.be.cell (j := 2) rfl; have k3 := HS1.out.be.cell (j := 3) rfl; have k4 := HS1.out.be.cell (j := 4) rfl; have k5 := HS1.out.be.cell (j := 5) rfl; have e0 := HS1.out.br.cell (j := 0) rfl; have e1 := HS1.out.br.cell (j := 1) rfl; have e2 := HS1.out.br.cell (j := 2) rfl; have f0 := HS1.out.br.fr 0; have f1 := HS1.out.br.fr 1; have f2 := HS1.out.br.fr 2)
  exact bodyPost_ret (v := .agg #[.int .i64 2, .int .i64 num, .string ⟨#[]⟩]) (by have hz := (boxs3 HS1.out.br (.int .i64 2) (.int .i64 num) (.string ⟨#[]⟩)).below (belA (.cells #[.string nm, .int .i64 kd, .int .i64 ty, .int .i64 ow] 95)); have q0 := hz.cell (j := 0) rfl; have q1 := hz.cell (j := 1) rfl; have q2 := hz.cell (j := 2) rfl; simp [results, Tryd.results50, go_sem, q0, q1, q2]) rfl ⟨rfl, (HS1.out.fin _ _ _).trans ((belA _).mono (HS1.out.fin _ _ _).size)⟩

set_option maxRecDepth 100000 in
set_option maxHeartbeats 4000000 in
theorem ev_4 (typ num : Int) (text : ByteArray) (col : Int) (kh : Hd) (kids : List Ex) (r : VL) (w : World) (HF : Hid (OpsAt ((w.alloc (.cells #[.int .i64 4, .int .i64 typ, .int .i64 num, .string text, .int .i64 col, .slice kh.ao kids.length kh.cap] 31)).alloc (.cells #[.int .i64 0, .int .i64 0, .string ⟨#[]⟩] 24)))) (HKB : Hid (knownB 4 kids.length = true)) :
    Calls Tryd.prog 50 #[.agg #[.int .i64 4, .int .i64 typ, .int .i64 num, .string text, .int .i64 col, .slice kh.ao kids.length kh.cap], .slice r.h.ao r.l.length r.h.cap] w fun e' w' => e' = .returned (.agg #[.int .i64 3, .int .i64 0, .string text]) ∧ Below w.heap.size w w' := by
  go_enter Tryd.func50, Tryd.ntmps50
  go_wp2_with (go_at_call 69; refine (known_any 4 typ num text col kh.ao kids.length kh.cap _ HF.out).mono ?_; rintro e x1 ⟨⟨nm, kd, ty, ow, is, rfl⟩, hb⟩; rw [HKB.out]; have HS1 := hide (SE.start hb); clear hb; obtain ⟨sl0, sl1⟩ := HS1.out.lt; have k0 := HS1.out.be.cell (j := 0) rfl; have k1 := HS1.out.be.cell (j := 1) rfl; have k2 := HS1.out.be.cell (j := 2) rfl; have k3 := HS1.out.be.cell (j := 3) rfl; have k4 := HS1.out.be.cell (j := 4) rfl; have k5 := HS1.out.be.cell (j := 5) rfl; have e0 := HS1.out.br.cell (j := 0) rfl; have e1 := HS1.out.br.cell (j := 1) rfl; have e2 := HS1.out.br.cell (j := 2) rfl; have f0 := HS1.out.br.fr 0; have f1 := HS1.out.br.fr 1; have f2 := HS1.out.br.fr 2)
  exact bodyPost_ret (v := .agg #[.int .i64 3, .int .i64 0, .string text]) (by have hz := (boxs3 HS1.out.br (.int .i64 3) (.int .i64 0) (.string text)).below (belA (.cells #[.string nm, .int .i64 kd, .int .i64 ty, .int .i64 ow] 95)); have q0 := hz.cell (j := 0) rfl; have q1 := hz.cell (j := 1) rfl; have q2 := hz.cell (j := 2) rfl; simp [results, Tryd.results50, go_sem, q0, q1, q2]) rfl ⟨rfl, (HS1.out.fin _ _ _).trans ((belA _).mono (HS1.out.fin _ _ _).size)⟩

set_option maxRecDepth 100000 in
set_option maxHeartbeats 4000000 in
theorem ev_5n (typ num : Int) (text : ByteArray) (col : Int) (kh : Hd) (kids : List Ex) (r : VL) (w : World) (hc : ¬ (0 ≤ col ∧ col < r.l.length)) (HF : Hid (OpsAt ((w.alloc (.cells #[.int .i64 5, .int .i64 typ, .int .i64 num, .string text, .int .i64 col, .slice kh.ao kids.length kh.cap] 31)).alloc (.cells #[.int .i64 0, .int .i64 0, .string ⟨#[]⟩] 24)))) (HKB : Hid (knownB 5 kids.length = true)) :
    Calls Tryd.prog 50 #[.agg #[.int .i64 5, .int .i64 typ, .int .i64 num, .string text, .int .i64 col, .slice kh.ao kids.length kh.cap], .slice r.h.ao r.l.length r.h.cap] w fun e' w' => e' = .returned (.agg #[.int .i64 0, .int .i64 0, .string ⟨#[]⟩]) ∧ Below w.heap.size w w' := by
  by_cases h0 : 0 ≤ col
  · have h1 : ¬ col < r.l.length := fun h => hc ⟨h0, h⟩
    clear hc
    go_enter Tryd.func50, Tryd.ntmps50
    go_wp2_with (go_at_call 69; refine (known_any 5 typ num text col kh.ao kids.length kh.cap _ HF.out).mono ?_; rintro e x1 ⟨⟨nm, kd, ty, ow, is, rfl⟩, hb⟩; rw [HKB.out]; have HS1 := hide (SE.start hb); clear hb; obtain ⟨sl0, sl1⟩ := HS1.out.lt; have k0 := HS1.out.be.cell (j := 0) rfl; have k1 := HS1.out.be.cell (j := 1) rfl; have k2 := HS1.out.be.cell (j := 2) rfl; have k3 := HS1.out.be.cell (j := 3) rfl; have k4 := HS1.out.be.cell (j := 4) rfl; have k5 := HS1.out.be.cell (j := 5) rfl; have e0 := HS1.out.br.cell (j := 0) rfl; have e1 := HS1.out.br.cell (j := 1) rfl; have e2 := HS1.out.br.cell (j := 2) rfl; have f0 := HS1.out.br.fr 0; have f1 := HS1.out.br.fr 1; have f2 := HS1.out.br.fr 2)
    exact bodyPost_ret (v := .agg #[.int .i64 0, .int .i64 0, .string ⟨#[]⟩]) (by have hz := (boxs3 HS1.out.br (.int .i64 0) (.int .i64 0) (.string ⟨#[]⟩)).below (belA (.cells #[.string nm, .int .i64 kd, .int .i64 ty, .int .i64 ow] 95)); have q0 := hz.cell (j := 0) rfl; have q1 := hz.cell (j := 1) rfl; have q2 := hz.cell (j := 2) rfl; simp [results, Tryd.results50, go_sem, q0, q1, q2]) rfl ⟨rfl, (HS1.out.fin _ _ _).trans ((belA _).mono (HS1.out.fin _ _ _).size)⟩
  · clear hc
    go_enter Tryd.func50, Tryd.ntmps50
    go_wp2_with (go_at_call 69; refine (known_any 5 typ num text col kh.ao kids.length kh.cap _ HF.out).mono ?_; rintro e x1 ⟨⟨nm, kd, ty, ow, is, rfl⟩, hb⟩; rw [HKB.out]; have HS1 := hide (SE.start hb); clear hb; obtain ⟨sl0, sl1⟩ := HS1.out.lt; have k0 := HS1.out.be.cell (j := 0) rfl; have k1 := HS1.out.be.cell (j := 1) rfl; have k2 := HS1.out.be.cell (j := 2) rfl; have k3 := HS1.out.be.cell (j := 3) rfl; have k4 := HS1.out.be.cell (j := 4) rfl; have k5 := HS1.out.be.cell (j := 5) rfl; have e0 := HS1.out.br.cell (j := 0) rfl; have e1 := HS1.out.br.cell (j := 1) rfl; have e2 := HS1.out.br.cell (j := 2) rfl; have f0 := HS1.out.br.fr 0; have f1 := HS1.out.br.fr 1; have f2 := HS1.out.br.fr 2)
    exact bodyPost_ret (v := .agg #[.int .i64 0, .int .i64 0, .string ⟨#[]⟩]) (by have hz := (boxs3 HS1.out.br (.int .i64 0) (.int .i64 0) (.string ⟨#[]⟩)).below (belA (.cells #[.string nm, .int .i64 kd, .int .i64 ty, .int .i64 ow] 95)); have q0 := hz.cell (j := 0) rfl; have q1 := hz.cell (j := 1) rfl; have q2 := hz.cell (j := 2) rfl; simp [results, Tryd.results50, go_sem, q0, q1, q2]) rfl ⟨rfl, (HS1.out.fin _ _ _).trans ((belA _).mono (HS1.out.fin _ _ _).size)⟩

set_option maxRecDepth 100000 in
set_option maxHeartbeats 4000000 in
theorem ev_5y (typ num : Int) (text : ByteArray) (col : Int) (kh : Hd) (kids : List Ex) (r : VL) (w : World) (c : Nat) (hcc : col = c) (hc : c < r.l.length) (HR : Hid (r.In w)) (HF : Hid (OpsAt ((w.alloc (.cells #[.int .i64 5, .int .i64 typ, .int .i64 num, .string text, .int .i64 col, .slice kh.ao kids.length kh.cap] 31)).alloc (.cells #[.int .i64 0, .int .i64 0, .string ⟨#[]⟩] 24)))) (HKB : Hid (knownB 5 kids.length = true)) :
    Calls Tryd.prog 50 #[.agg #[.int .i64 5, .int .i64 typ, .int .i64 num, .string text, .int .i64 col, .slice kh.ao kids.length kh.cap], .slice r.h.ao r.l.length r.h.cap] w fun e' w' => e' = .returned (.agg #[.int .i64 r.l[c].kind, .int .i64 r.l[c].num, .string r.l[c].text]) ∧ Below w.heap.size w w' := by
  subst hcc
  have hci : (c : Int) < r.l.length := by omega
  have hlen := HR.out.1.len
  have hix := HR.out.1.ix hc Tryd.underlying28 szval
  obtain ⟨v, hv⟩ : ∃ v, r.l[c] = v := ⟨_, rfl⟩
  have HV := hide hv
  rw [hv]
  clear hv
  go_enter Tryd.func50, Tryd.ntmps50
  go_wp2_with (go_at_call 69; refine (known_any 5 typ num text (c : Int) kh.ao kids.length kh.cap _ HF.out).mono ?_; rintro e x1 ⟨⟨nm, kd, ty, ow, is, rfl⟩, hb⟩; rw [HKB.out]; have HS1 := hide (SE.start hb); clear hb; obtain ⟨sl0, sl1⟩ := HS1.out.lt; have k0 := HS1.out.be.cell (j := 0) rfl; have k1 := HS1.out.be.cell (j := 1) rfl; have k2 := HS1.out.be.cell (j := 2) rfl; have k3 := HS1.out.be.cell (j := 3) rfl; have k4 := HS1.out.be.cell (j := 4) rfl; have k5 := HS1.out.be.cell (j := 5) rfl; have e0 := HS1.out.br.cell (j := 0) rfl; have e1 := HS1.out.br.cell (j := 1) rfl; have e2 := HS1.out.br.cell (j := 2) rfl; have f0 := HS1.out.br.fr 0; have f1 := HS1.out.br.fr 1; have f2 := HS1.out.br.fr 2; have hR1 := HR.out.mono HS1.out.bel; have hb1 := hR1.1.blk hc; obtain ⟨v0, v1, v2⟩ := val_at hR1.1 hc; rw [HV.out] at v0 v1 v2; clear hR1)
  exact bodyPost_ret (v := .agg #[.int .i64 v.kind, .int .i64 v.num, .string v.text]) (by have hz := (boxs3 HS1.out.br (.int .i64 v.kind) (.int .i64 v.num) (.string v.text)).below (belA (.cells #[.string nm, .int .i64 kd, .int .i64 ty, .int .i64 ow] 95)); have q0 := hz.cell (j := 0) rfl; have q1 := hz.cell (j := 1) rfl; have q2 := hz.cell (j := 2) rfl; simp [results, Tryd.results50, go_sem, q0, q1, q2]) rfl ⟨rfl, (HS1.out.fin _ _ _).trans ((belA _).mono (HS1.out.fin _ _ _).size)⟩
theorem szex : (Tryd.prog.info? 31).map (·.size) = some 6 := by kernel_rfl
theorem kid_at {w : World} {kh : Hd} {kids : List Ex} (hrow : Row w 6 Ex.cells kh kids) (i : Nat) (hi : i < kids.length) (j : Int) (hj : j = i) {k : Ex} (hk : kids[i] = k) : ∃ p, (∀ U, (Instr.indexAt 29 (.slice kh.ao kids.length kh.cap) (.int .i64 j)).run Tryd.prog U = .ok (.pointer (some ⟨kh.b, p, none⟩)) U) ∧ ∀ x, Below w.heap.size w x → kh.b < x.heap.size ∧
    (x.cell? ⟨kh.b, p, none⟩ = some (.int .i64 k.op) ∧ x.cell? ⟨kh.b, p + 1, none⟩ = some (.int .i64 k.typ) ∧ x.cell? ⟨kh.b, p + 2, none⟩ = some (.int .i64 k.num) ∧ x.cell? ⟨kh.b, p + 3, none⟩ = some (.string k.text) ∧ x.cell? ⟨kh.b, p + 4, none⟩ = some (.int .i64 k.col) ∧ x.cell? ⟨kh.b, p + 5, none⟩ = some (.slice k.kh.ao k.kids.length k.kh.cap)) := by
  subst hj hk
  exact ⟨_, hrow.ix hi Tryd.underlying29 szex, fun x h => ⟨Nat.lt_of_lt_of_le (hrow.blk hi) h.size, ex_at (hrow.mono h) hi⟩⟩


set_option maxRecDepth 100000 in
set_option maxHeartbeats 4000000 in
theorem ev_26t (typ num : Int) (text : ByteArray) (col : Int) (kh : Hd) (kids : List Ex) (r : VL) (w : World) (m0 m1 m2 : Ex) (h3 : kids.length = 3) (e0 : kids[0] = m0) (e1 : kids[1] = m1) (e2 : kids[2] = m2) (hrow : Row w 6 Ex.cells kh kids) (HK0 : Hid (m0.In w)) (HKS : Hid (m1.In w)) (IH0 : Hid (EvalAt m0)) (IHS : Hid (EvalAt m1)) (HR : Hid (r.In w)) (HTV : Hid (truV (m0.va r.l) = 1)) (HN : Hid (NulAt w)) (HFW : Hid (OpsAt w)) (HF : Hid (OpsAt ((w.alloc (.cells #[.int .i64 26, .int .i64 typ, .int .i64 num, .string text, .int .i64 col, .slice kh.ao kids.length kh.cap] 31)).alloc (.cells #[.int .i64 0, .int .i64 0, .string ⟨#[]⟩] 24)))) (HKB : Hid (knownB 26 kids.length = true)) :
    Calls Tryd.prog 50 #[.agg #[.int .i64 26, .int .i64 typ, .int .i64 num, .string text, .int .i64 col, .slice kh.ao kids.length kh.cap], .slice r.h.ao r.l.length r.h.cap] w fun e' w' => e' = .returned (.agg #[.int .i64 (m1.va r.l).kind, .int .i64 (m1.va r.l).num, .string (m1.va r.l).text]) ∧ Below w.heap.size w w' := by
  obtain ⟨p0, hx0, KC0⟩ := kid_at hrow 0 (by omega) 0 rfl e0
  obtain ⟨p1, hx1, KC1⟩ := kid_at hrow 1 (by omega) 1 rfl e1
  replace KC0 := hide KC0
  replace KC1 := hide KC1
  clear hrow e0 e1 e2 h3
  go_enter Tryd.func50, Tryd.ntmps50
  go_wp2_with (first
    | (go_at_call 69; refine (known_any 26 typ num text col kh.ao kids.length kh.cap _ HF.out).mono ?_; rintro e x1 ⟨⟨nm, kd, ty, ow, is, rfl⟩, hb⟩; rw [HKB.out]; have HS1 := hide (SE.start hb); clear hb; obtain ⟨sl0, sl1⟩ := HS1.out.lt; have k0 := HS1.out.be.cell (j := 0) rfl; have k1 := HS1.out.be.cell (j := 1) rfl; have k2 := HS1.out.be.cell (j := 2) rfl; have k3 := HS1.out.be.cell (j := 3) rfl; have k4 := HS1.out.be.cell (j := 4) rfl; have k5 := HS1.out.be.cell (j := 5) rfl; have e0 := HS1.out.br.cell (j := 0) rfl; have e1 := HS1.out.br.cell (j := 1) rfl; have e2 := HS1.out.br.cell (j := 2) rfl; have f0 := HS1.out.br.fr 0; have f1 := HS1.out.br.fr 1; have f2 := HS1.out.br.fr 2; obtain ⟨kb, a0, a1, a2, a3, a4, a5⟩ := KC0.out _ HS1.out.bel)
    | (go_at_call 70; with_reducible refine (vtru_any (m0.va r.l) _).mono ?_; rintro e x3 ⟨rfl, hb⟩; rw [HTV.out]; have HS3 := hide (HS2.out.call hb); clear hb; obtain ⟨sl0, sl1⟩ := HS3.out.lt; have k0 := HS3.out.be.cell (j := 0) rfl; have k1 := HS3.out.be.cell (j := 1) rfl; have k2 := HS3.out.be.cell (j := 2) rfl; have k3 := HS3.out.be.cell (j := 3) rfl; have k4 := HS3.out.be.cell (j := 4) rfl; have k5 := HS3.out.be.cell (j := 5) rfl; have e0 := HS3.out.br.cell (j := 0) rfl; have e1 := HS3.out.br.cell (j := 1) rfl; have e2 := HS3.out.br.cell (j := 2) rfl; have f0 := HS3.out.br.fr 0; have f1 := HS3.out.br.fr 1; have f2 := HS3.out.br.fr 2; obtain ⟨kb, a0, a1, a2, a3, a4, a5⟩ := KC1.out _ HS3.out.bel)
    | (go_at_call 50; with_reducible refine (IH0.out r _ (HK0.out.mono (HS1.out.call (belA _)).bel) (HR.out.mono (HS1.out.call (belA _)).bel) (HN.out.mono (HS1.out.call (belA _)).bel) (HFW.out.mono (HS1.out.call (belA _)).bel)).mono ?_; rintro e x2 ⟨rfl, hb⟩; have HS2 := hide ((HS1.out.call (belA _)).call hb); clear hb; clear sl0 sl1 k0 k1 k2 k3 k4 k5 e0 e1 e2 f0 f1 f2; clear kb a0 a1 a2 a3 a4 a5)
    | (go_at_call 50; with_reducible refine (IHS.out r _ (HKS.out.mono HS3.out.bel) (HR.out.mono HS3.out.bel) (HN.out.mono HS3.out.bel) (HFW.out.mono HS3.out.bel)).mono ?_; rintro e x4 ⟨rfl, hb⟩; have HS4 := hide (HS3.out.call hb); clear hb; clear sl0 sl1 k0 k1 k2 k3 k4 k5 e0 e1 e2 f0 f1 f2; clear kb a0 a1 a2 a3 a4 a5; obtain ⟨sl0, sl1⟩ := HS4.out.lt; have k0 := HS4.out.be.cell (j := 0) rfl; have k1 := HS4.out.be.cell (j := 1) rfl; have k2 := HS4.out.be.cell (j := 2) rfl; have k3 := HS4.out.be.cell (j := 3) rfl; have k4 := HS4.out.be.cell (j := 4) rfl; have k5 := HS4.out.be.cell (j := 5) rfl; have e0 := HS4.out.br.cell (j := 0) rfl; have e1 := HS4.out.br.cell (j := 1) rfl; have e2 := HS4.out.br.cell (j := 2) rfl; have f0 := HS4.out.br.fr 0; have f1 := HS4.out.br.fr 1; have f2 := HS4.out.br.fr 2))
  exact bodyPost_ret (v := .agg #[.int .i64 (m1.va r.l).kind, .int .i64 (m1.va r.l).num, .string (m1.va r.l).text]) (by simp [results, Tryd.results50, go_sem, e0, e1, e2]) rfl ⟨rfl, HS4.out.fin _ _ _⟩

set_option maxRecDepth 100000 in
set_option maxHeartbeats 4000000 in
theorem ev_26f (typ num : Int) (text : ByteArray) (col : Int) (kh : Hd) (kids : List Ex) (r : VL) (w : World) (m0 m1 m2 : Ex) (h3 : kids.length = 3) (e0 : kids[0] = m0) (e1 : kids[1] = m1) (e2 : kids[2] = m2) (hrow : Row w 6 Ex.cells kh kids) (HK0 : Hid (m0.In w)) (HKS : Hid (m2.In w)) (IH0 : Hid (EvalAt m0)) (IHS : Hid (EvalAt m2)) (HR : Hid (r.In w)) (HTV : Hid (truV (m0.va r.l) = 0)) (HN : Hid (NulAt w)) (HFW : Hid (OpsAt w)) (HF : Hid (OpsAt ((w.alloc (.cells #[.int .i64 26, .int .i64 typ, .int .i64 num, .string text, .int .i64 col, .slice kh.ao kids.length kh.cap] 31)).alloc (.cells #[.int .i64 0, .int .i64 0, .string ⟨#[]⟩] 24)))) (HKB : Hid (knownB 26 kids.length = true)) :
    Calls Tryd.prog 50 #[.agg #[.int .i64 26, .int .i64 typ, .int .i64 num, .string text, .int .i64 col, .slice kh.ao kids.length kh.cap], .slice r.h.ao r.l.length r.h.cap] w fun e' w' => e' = .returned (.agg #[.int .i64 (m2.va r.l).kind, .int .i64 (m2.va r.l).num, .string (m2.va r.l).text]) ∧ Below w.heap.size w w' := by
  obtain ⟨p0, hx0, KC0⟩ := kid_at hrow 0 (by omega) 0 rfl e0
  obtain ⟨p1, hx2, KC2⟩ := kid_at hrow 2 (by omega) 2 rfl e2
  replace KC0 := hide KC0
  replace KC2 := hide KC2
  clear hrow e0 e1 e2 h3
  go_enter Tryd.func50, Tryd.ntmps50
  go_wp2_with (first
    | (go_at_call 69; refine (known_any 26 typ num text col kh.ao kids.length kh.cap _ HF.out).mono ?_; rintro e x1 ⟨⟨nm, kd, ty, ow, is, rfl⟩, hb⟩; rw [HKB.out]; have HS1 := hide (SE.start hb); clear hb; obtain ⟨sl0, sl1⟩ := HS1.out.lt; have k0 := HS1.out.be.cell (j := 0) rfl; have k1 := HS1.out.be.cell (j := 1) rfl; have k2 := HS1.out.be.cell (j := 2) rfl; have k3 := HS1.out.be.cell (j := 3) rfl; have k4 := HS1.out.be.cell (j := 4) rfl; have k5 := HS1.out.be.cell (j := 5) rfl; have e0 := HS1.out.br.cell (j := 0) rfl; have e1 := HS1.out.br.cell (j := 1) rfl; have e2 := HS1.out.br.cell (j := 2) rfl; have f0 := HS1.out.br.fr 0; have f1 := HS1.out.br.fr 1; have f2 := HS1.out.br.fr 2; obtain ⟨kb, a0, a1, a2, a3, a4, a5⟩ := KC0.out _ HS1.out.bel)
    | (go_at_call 70; with_reducible refine (vtru_any (m0.va r.l) _).mono ?_; rintro e x3 ⟨rfl, hb⟩; rw [HTV.out]; have HS3 := hide (HS2.out.call hb); clear hb; obtain ⟨sl0, sl1⟩ := HS3.out.lt; have k0 := HS3.out.be.cell (j := 0) rfl; have k1 := HS3.out.be.cell (j := 1) rfl; have k2 := HS3.out.be.cell (j := 2) rfl; have k3 := HS3.out.be.cell (j := 3) rfl; have k4 := HS3.out.be.cell (j := 4) rfl; have k5 := HS3.out.be.cell (j := 5) rfl; have e0 := HS3.out.br.cell (j := 0) rfl; have e1 := HS3.out.br.cell (j := 1) rfl; have e2 := HS3.out.br.cell (j := 2) rfl; have f0 := HS3.out.br.fr 0; have f1 := HS3.out.br.fr 1; have f2 := HS3.out.br.fr 2; obtain ⟨kb, a0, a1, a2, a3, a4, a5⟩ := KC2.out _ HS3.out.bel)
    | (go_at_call 50; with_reducible refine (IH0.out r _ (HK0.out.mono (HS1.out.call (belA _)).bel) (HR.out.mono (HS1.out.call (belA _)).bel) (HN.out.mono (HS1.out.call (belA _)).bel) (HFW.out.mono (HS1.out.call (belA _)).bel)).mono ?_; rintro e x2 ⟨rfl, hb⟩; have HS2 := hide ((HS1.out.call (belA _)).call hb); clear hb; clear sl0 sl1 k0 k1 k2 k3 k4 k5 e0 e1 e2 f0 f1 f2; clear kb a0 a1 a2 a3 a4 a5)
    | (go_at_call 50; with_reducible refine (IHS.out r _ (HKS.out.mono HS3.out.bel) (HR.out.mono HS3.out.bel) (HN.out.mono HS3.out.bel) (HFW.out.mono HS3.out.bel)).mono ?_; rintro e x4 ⟨rfl, hb⟩; have HS4 := hide (HS3.out.call hb); clear hb; clear sl0 sl1 k0 k1 k2 k3 k4 k5 e0 e1 e2 f0 f1 f2; clear kb a0 a1 a2 a3 a4 a5; obtain ⟨sl0, sl1⟩ := HS4.out.lt; have k0 := HS4.out.be.cell (j := 0) rfl; have k1 := HS4.out.be.cell (j := 1) rfl; have k2 := HS4.out.be.cell (j := 2) rfl; have k3 := HS4.out.be.cell (j := 3) rfl; have k4 := HS4.out.be.cell (j := 4) rfl; have k5 := HS4.out.be.cell (j := 5) rfl; have e0 := HS4.out.br.cell (j := 0) rfl; have e1 := HS4.out.br.cell (j := 1) rfl; have e2 := HS4.out.br.cell (j := 2) rfl; have f0 := HS4.out.br.fr 0; have f1 := HS4.out.br.fr 1; have f2 := HS4.out.br.fr 2))
  exact bodyPost_ret (v := .agg #[.int .i64 (m2.va r.l).kind, .int .i64 (m2.va r.l).num, .string (m2.va r.l).text]) (by simp [results, Tryd.results50, go_sem, e0, e1, e2]) rfl ⟨rfl, HS4.out.fin _ _ _⟩

set_option maxRecDepth 100000 in
set_option maxHeartbeats 4000000 in
theorem ev_26u (typ num : Int) (text : ByteArray) (col : Int) (kh : Hd) (kids : List Ex) (r : VL) (w : World) (m0 m1 m2 : Ex) (h3 : kids.length = 3) (e0 : kids[0] = m0) (e1 : kids[1] = m1) (e2 : kids[2] = m2) (hrow : Row w 6 Ex.cells kh kids) (HK0 : Hid (m0.In w)) (HKS : Hid (m2.In w)) (IH0 : Hid (EvalAt m0)) (IHS : Hid (EvalAt m2)) (HR : Hid (r.In w)) (HTV : Hid (truV (m0.va r.l) = 2)) (HN : Hid (NulAt w)) (HFW : Hid (OpsAt w)) (HF : Hid (OpsAt ((w.alloc (.cells #[.int .i64 26, .int .i64 typ, .int .i64 num, .string text, .int .i64 col, .slice kh.ao kids.length kh.cap] 31)).alloc (.cells #[.int .i64 0, .int .i64 0, .string ⟨#[]⟩] 24)))) (HKB : Hid (knownB 26 kids.length = true)) :
    Calls Tryd.prog 50 #[.agg #[.int .i64 26, .int .i64 typ, .int .i64 num, .string text, .int .i64 col, .slice kh.ao kids.length kh.cap], .slice r.h.ao r.l.length r.h.cap] w fun e' w' => e' = .returned (.agg #[.int .i64 (m2.va r.l).kind, .int .i64 (m2.va r.l).num, .string (m2.va r.l).text]) ∧ Below w.heap.size w w' := by
  obtain ⟨p0, hx0, KC0⟩ := kid_at hrow 0 (by omega) 0 rfl e0
  obtain ⟨p1, hx2, KC2⟩ := kid_at hrow 2 (by omega) 2 rfl e2
  replace KC0 := hide KC0
  replace KC2 := hide KC2
  clear hrow e0 e1 e2 h3
  go_enter Tryd.func50, Tryd.ntmps50
  go_wp2_with (first
    | (go_at_call 69; refine (known_any 26 typ num text col kh.ao kids.length kh.cap _ HF.out).mono ?_; rintro e x1 ⟨⟨nm, kd, ty, ow, is, rfl⟩, hb⟩; rw [HKB.out]; have HS1 := hide (SE.start hb); clear hb; obtain ⟨sl0, sl1⟩ := HS1.out.lt; have k0 := HS1.out.be.cell (j := 0) rfl; have k1 := HS1.out.be.cell (j := 1) rfl; have k2 := HS1.out.be.cell (j := 2) rfl; have k3 := HS1.out.be.cell (j := 3) rfl; have k4 := HS1.out.be.cell (j := 4) rfl; have k5 := HS1.out.be.cell (j := 5) rfl; have e0 := HS1.out.br.cell (j := 0) rfl; have e1 := HS1.out.br.cell (j := 1) rfl; have e2 := HS1.out.br.cell (j := 2) rfl; have f0 := HS1.out.br.fr 0; have f1 := HS1.out.br.fr 1; have f2 := HS1.out.br.fr 2; obtain ⟨kb, a0, a1, a2, a3, a4, a5⟩ := KC0.out _ HS1.out.bel)
    | (go_at_call 70; with_reducible refine (vtru_any (m0.va r.l) _).mono ?_; rintro e x3 ⟨rfl, hb⟩; rw [HTV.out]; have HS3 := hide (HS2.out.call hb); clear hb; obtain ⟨sl0, sl1⟩ := HS3.out.lt; have k0 := HS3.out.be.cell (j := 0) rfl; have k1 := HS3.out.be.cell (j := 1) rfl; have k2 := HS3.out.be.cell (j := 2) rfl; have k3 := HS3.out.be.cell (j := 3) rfl; have k4 := HS3.out.be.cell (j := 4) rfl; have k5 := HS3.out.be.cell (j := 5) rfl; have e0 := HS3.out.br.cell (j := 0) rfl; have e1 := HS3.out.br.cell (j := 1) rfl; have e2 := HS3.out.br.cell (j := 2) rfl; have f0 := HS3.out.br.fr 0; have f1 := HS3.out.br.fr 1; have f2 := HS3.out.br.fr 2; obtain ⟨kb, a0, a1, a2, a3, a4, a5⟩ := KC2.out _ HS3.out.bel)
    | (go_at_call 50; with_reducible refine (IH0.out r _ (HK0.out.mono (HS1.out.call (belA _)).bel) (HR.out.mono (HS1.out.call (belA _)).bel) (HN.out.mono (HS1.out.call (belA _)).bel) (HFW.out.mono (HS1.out.call (belA _)).bel)).mono ?_; rintro e x2 ⟨rfl, hb⟩; have HS2 := hide ((HS1.out.call (belA _)).call hb); clear hb; clear sl0 sl1 k0 k1 k2 k3 k4 k5 e0 e1 e2 f0 f1 f2; clear kb a0 a1 a2 a3 a4 a5)
    | (go_at_call 50; with_reducible refine (IHS.out r _ (HKS.out.mono HS3.out.bel) (HR.out.mono HS3.out.bel) (HN.out.mono HS3.out.bel) (HFW.out.mono HS3.out.bel)).mono ?_; rintro e x4 ⟨rfl, hb⟩; have HS4 := hide (HS3.out.call hb); clear hb; clear sl0 sl1 k0 k1 k2 k3 k4 k5 e0 e1 e2 f0 f1 f2; clear kb a0 a1 a2 a3 a4 a5; obtain ⟨sl0, sl1⟩ := HS4.out.lt; have k0 := HS4.out.be.cell (j := 0) rfl; have k1 := HS4.out.be.cell (j := 1) rfl; have k2 := HS4.out.be.cell (j := 2) rfl; have k3 := HS4.out.be.cell (j := 3) rfl; have k4 := HS4.out.be.cell (j := 4) rfl; have k5 := HS4.out.be.cell (j := 5) rfl; have e0 := HS4.out.br.cell (j := 0) rfl; have e1 := HS4.out.br.cell (j := 1) rfl; have e2 := HS4.out.br.cell (j := 2) rfl; have f0 := HS4.out.br.fr 0; have f1 := HS4.out.br.fr 1; have f2 := HS4.out.br.fr 2))
  exact bodyPost_ret (v := .agg #[.int .i64 (m2.va r.l).kind, .int .i64 (m2.va r.l).num, .string (m2.va r.l).text]) (by simp [results, Tryd.results50, go_sem, e0, e1, e2]) rfl ⟨rfl, HS4.out.fin _ _ _⟩
theorem info_val : (Tryd.prog.info? 24).map (fun i => (i.zero, i.size, i.bytes)) = some (some (.agg #[.int .i64 0, .int .i64 0, .string ByteArray.empty]), 3, 32) := by kernel_rfl
theorem v_one (a : V) : ∀ u ∈ V.cells a, u.oneCell' = true := by intro u hu; simp only [V.cells, List.mem_cons, List.not_mem_nil, or_false] at hu; rcases hu with rfl | rfl | rfl <;> rfl
theorem vl_mk {w : World} {base : Nat} {v : Value} {n : Nat} {xs : List V} {e : TypeId} (h : w.ownsRow base e 3 v n (xs.flatMap V.cells)) (hw : ∀ x ∈ xs, x.wf) : ∃ r : VL, v = .slice r.h.ao r.l.length r.h.cap ∧ r.l = xs ∧ r.In w := by
  obtain ⟨hd, rfl, hr⟩ := own_row (size := 3) (cells := V.cells) (fun _ => rfl) (by decide) h
  exact ⟨⟨hd, xs⟩, rfl, rfl, hr, hw⟩
theorem flat_map {α : Type} (f : α → V) (l : List α) : (l.map f).flatMap V.cells = l.flatMap (fun k => V.cells (f k)) := by induction l with | nil => rfl | cons x l ih => simp only [List.map_cons, List.flatMap_cons, ih]
/-- No expression has more Kids than a million. -/
inductive Ex.Low : Ex → Prop where
  | mk (e : Ex) (h : e.kids.length ≤ 1000000) (hk : ∀ k ∈ e.kids, Ex.Low k) : Ex.Low e
theorem Ex.Low.len {e : Ex} (h : e.Low) : e.kids.length ≤ 1000000 := by cases h; assumption
theorem Ex.Low.kid {e : Ex} (h : e.Low) : ∀ k ∈ e.kids, k.Low := by cases h; assumption


set_option maxRecDepth 100000 in
set_option maxHeartbeats 4000000 in
theorem ev_op (op typ num : Int) (text : ByteArray) (col : Int) (kh : Hd) (kids : List Ex) (r : VL) (w : World) (hsm : kids.length ≤ 1000000) (hrow : Row w 6 Ex.cells kh kids) (HKI : Hid (∀ k ∈ kids, k.In w)) (HIH : Hid (∀ k ∈ kids, EvalAt k)) (HR : Hid (r.In w)) (HN : Hid (NulAt w)) (HFW : Hid (OpsAt w)) (b2 : (op == 2) = false) (b3 : (op == 3) = false) (b4 : (op == 4) = false) (b5 : (op == 5) = false) (b26 : (op == 26) = false) (HOP : Hid ((op = 1 ∨ (6 ≤ op ∧ op ≤ 28 ∧ op ≠ 26)) ∧ opNeed op ≤ kids.length)) (HF : Hid (OpsAt ((w.alloc (.cells #[.int .i64 op, .int .i64 typ, .int .i64 num, .string text, .int .i64 col, .slice kh.ao kids.length kh.cap] 31)).alloc (.cells #[.int .i64 0, .int .i64 0, .string ⟨#[]⟩] 24)))) (HKB : Hid (knownB op kids.length = true)) :
    Calls Tryd.prog 50 #[.agg #[.int .i64 op, .int .i64 typ, .int .i64 num, .string text, .int .i64 col, .slice kh.ao kids.length kh.cap], .slice r.h.ao r.l.length r.h.cap] w fun e' w' => e' = .returned (.agg #[.int .i64 (applyV op (kids.map (Ex.va r.l))).kind, .int .i64 (applyV op (kids.map (Ex.va r.l))).num, .string (applyV op (kids.map (Ex.va r.l))).text]) ∧ Below w.heap.size w w' := by
  have hn := hrow.len
  obtain ⟨i0, hi, hz0, hz1, hz2⟩ := info_parts info_val
  have HI := hide (And.intro hi (And.intro hz0 (And.intro hz1 hz2)))
  clear hi hz0 hz1 hz2
  go_enter Tryd.func50, Tryd.ntmps50
  go_wp2_with (go_at_call 69; refine (known_any op typ num text col kh.ao kids.length kh.cap _ HF.out).mono ?_; rintro e x1 ⟨⟨nm, kd, ty, ow, is, rfl⟩, hb⟩; rw [HKB.out]; have HS1 := hide (SE.start hb); clear hb; obtain ⟨sl0, sl1⟩ := HS1.out.lt; have k0 := HS1.out.be.cell (j := 0) rfl; have k1 := HS1.out.be.cell (j := 1) rfl; have k2 := HS1.out.be.cell (j := 2) rfl; have k3 := HS1.out.be.cell (j := 3) rfl; have k4 := HS1.out.be.cell (j := 4) rfl; have k5 := HS1.out.be.cell (j := 5) rfl; have e0 := HS1.out.br.cell (j := 0) rfl; have e1 := HS1.out.br.cell (j := 1) rfl; have e2 := HS1.out.br.cell (j := 2) rfl; have f0 := HS1.out.br.fr 0; have f1 := HS1.out.br.fr 1; have f2 := HS1.out.br.fr 2)
  go_loopw [80, 8] (fun i v wr => ∃ (k : Nat) (u : Value), u = v ∧ k ≤ kids.length ∧ i = .int .i64 k ∧ wr.ownsRow (w.heap.size + 2) 24 3 v k ((kids.take k).flatMap (fun k => V.cells (k.va r.l))) ∧ Hid (SE w #[.int .i64 op, .int .i64 typ, .int .i64 num, .string text, .int .i64 col, .slice kh.ao kids.length kh.cap] wr)) (fun i _ _ => kids.length - (intOf i).toNat)
  case atStart => exact ⟨0, _, rfl, Nat.zero_le _, rfl, World.ownsRow_nil _ _ _ _, hide (HS1.out.call (belA _))⟩
  case round =>
    clear sl0 sl1 k0 k1 k2 k3 k4 k5 e0 e1 e2 f0 f1 f2
    obtain ⟨k, u, rfl, hk, rfl, hown, HS2⟩ := hrel
    have HO := hide hown
    clear hown
    by_cases hlt : k < kids.length
    · have hlti : (k : Int) < kids.length := by omega
      obtain ⟨y, hy⟩ : ∃ y, kids[k] = y := ⟨_, rfl⟩
      obtain ⟨p, hix, KC⟩ := kid_at hrow k hlt k rfl hy
      obtain ⟨kb, a0, a1, a2, a3, a4, a5⟩ := KC _ HS2.out.bel
      have HYI := hide (hy ▸ HKI.out _ (List.getElem_mem hlt) : y.In w)
      have HYE := hide (hy ▸ HIH.out _ (List.getElem_mem hlt) : EvalAt y)
      have HTK := hide (show (kids.take (k + 1)).flatMap (fun k => V.cells (k.va r.l)) = (kids.take k).flatMap (fun k => V.cells (k.va r.l)) ++ V.cells (y.va r.l) from by rw [take_snoc kids hlt, List.flatMap_append, hy]; simp)
      have sl := HS2.out.lt
      clear KC hy
      go_wp2_with (first
        | (go_at_call 50; with_reducible refine (HYE.out r _ (HYI.out.mono (HS2.out.call (belA _)).bel) (HR.out.mono (HS2.out.call (belA _)).bel) (HN.out.mono (HS2.out.call (belA _)).bel) (HFW.out.mono (HS2.out.call (belA _)).bel)).mono ?_; rintro e x3 ⟨rfl, hb⟩; have HB3 := hide (bel1 hb); have HS3 := hide (HS2.out.call HB3.out); clear hb)
        | (at_builtin; refine wpList_append_own _ rfl _ _ 28 rfl (w.heap.size + 2) 24 i0 (.agg #[.int .i64 0, .int .i64 0, .string ByteArray.empty]) 3 32 Tryd.underlying28 HI.out.1 HI.out.2.1 HI.out.2.2.1 HI.out.2.2.2 rfl (by decide) _ _ _ rfl ((HO.out.kept (only_below HB3.out none) (Classical.em _)).alloc _) ⟨x3.heap.size, 0, none⟩ 1 1 (V.cells (y.va r.l)) rfl rfl (new_cells (l := V.cells (y.va r.l))) (v_one _) (by unfold maxLen; omega) (by omega) (by have := HS3.out.lt; simp; omega) ?_; intro v' x4 hown' hgrow _; have HO4 := hide (show x4.ownsRow (w.heap.size + 2) 24 3 v' (k + 1) ((kids.take (k + 1)).flatMap (fun k => V.cells (k.va r.l))) from by rw [HTK.out]; exact hown'); have HG4 := hide hgrow; clear hown' hgrow))
      go_roundw
      case rel =>
        refine ⟨k + 1, _, rfl, by omega, by go_num, HO4.out, hide ?_⟩
        have hg := HG4.out
        have h1 := HS3.out.call (belA (.cells (V.cells (y.va r.l)).toArray 24))
        have hlo := HO.out.lt
        exact ⟨h1.bel.grown hg h1.bel.size (fun j hj => by have := (hlo j hj).1; omega), h1.be.grown hg (fun e => by have := (hlo _ e.symm).1; omega), h1.br.grown hg (fun e => by have := (hlo _ e.symm).1; omega)⟩
      case measure => simp [intOf]; omega
    · have hke : k = kids.length := by omega
      have hlti : ¬ (k : Int) < kids.length := by omega
      have ho := HO.out
      rw [hke, List.take_length, ← flat_map] at ho
      obtain ⟨q, hv, hq, hqin⟩ := vl_mk ho (fun x hx => by obtain ⟨z, hz, rfl⟩ := List.mem_map.1 hx; exact Ex.va_wf HR.out.2 (HKI.out z hz))
      have HQI := hide hqin
      have hql : opNeed op ≤ q.l.length := by rw [hq, List.length_map]; exact HOP.out.2
      have HQL := hide hql
      subst hv
      have HQ := hide hq
      clear ho hqin hql hq HO hke
      have z0 := HS2.out.be.cell (j := 0) rfl
      go_wp2_with (go_at_call 71; refine (apply_any op q _ HQI.out HOP.out.1 HQL.out (HN.out.mono HS2.out.bel)).mono ?_; rintro e x5 ⟨rfl, hb⟩; have HS5 := hide (HS2.out.call hb); clear hb; have e0 := HS5.out.br.cell (j := 0) rfl; have e1 := HS5.out.br.cell (j := 1) rfl; have e2 := HS5.out.br.cell (j := 2) rfl; have f0 := HS5.out.br.fr 0; have f1 := HS5.out.br.fr 1; have f2 := HS5.out.br.fr 2)
      exact bodyPost_ret (v := .agg #[.int .i64 (applyV op q.l).kind, .int .i64 (applyV op q.l).num, .string (applyV op q.l).text]) (by simp [results, Tryd.results50, go_sem, e0, e1, e2]) rfl ⟨by rw [← HQ.out], HS5.out.fin _ _ _⟩


/-- One step of the induction. -/
theorem ev_step (e : Ex) (hl : e.Low) (ih : ∀ k ∈ e.kids, EvalAt k) : EvalAt e := by
  intro r w he hr hn hf
  have hkin := he.kid
  have hrow := he.row
  have hlen := hl.len
  rw [Ex.va_eq]
  obtain ⟨op, typ, num, text, col, kh, kids⟩ := e
  dsimp only at *
  have HF := hide (hf.mono (belAA (w := w) (.cells #[.int .i64 op, .int .i64 typ, .int .i64 num, .string text, .int .i64 col, .slice kh.ao kids.length kh.cap] 31) (.cells #[.int .i64 0, .int .i64 0, .string ⟨#[]⟩] 24)))
  have hml : (kids.map (Ex.va r.l)).length = kids.length := List.length_map ..
  cases hkb : knownB op kids.length with
  | false =>
    rw [show topV op num text col r.l (kids.map (Ex.va r.l)) = nulV from by unfold topV; rw [hml, hkb, if_pos rfl]]
    exact ev_no op typ num text col kh kids r w HF (hide hkb)
  | true =>
    have hop : 1 ≤ op ∧ op ≤ 28 := by
      unfold knownB at hkb
      rw [Bool.and_eq_true] at hkb
      exact of_decide_eq_true hkb.1
    have hko : kidsOk op kids.length = true := by
      unfold knownB at hkb
      rw [Bool.and_eq_true] at hkb
      exact hkb.2
    have ht : topV op num text col r.l (kids.map (Ex.va r.l)) = if op = 2 then ⟨1, num, ⟨#[]⟩⟩ else if op = 3 then ⟨2, num, ⟨#[]⟩⟩ else if op = 4 then ⟨3, 0, text⟩
        else if op = 5 then (if 0 ≤ col ∧ col < r.l.length then r.l.getD col.toNat nulV else nulV)
        else if op = 26 then (if truV ((kids.map (Ex.va r.l)).getD 0 nulV) = 1 then (kids.map (Ex.va r.l)).getD 1 nulV else (kids.map (Ex.va r.l)).getD 2 nulV)
        else applyV op (kids.map (Ex.va r.l)) := by unfold topV; rw [hml, hkb, if_neg (by decide)]
    rw [ht]
    clear ht hml
    by_cases h2 : op = 2
    · subst h2; exact ev_2 typ num text col kh kids r w HF (hide hkb)
    by_cases h3 : op = 3
    · subst h3; exact ev_3 typ num text col kh kids r w HF (hide hkb)
    by_cases h4 : op = 4
    · subst h4; exact ev_4 typ num text col kh kids r w HF (hide hkb)
    rw [if_neg h2, if_neg h3, if_neg h4]
    by_cases h5 : op = 5
    · subst h5
      rw [if_pos rfl]
      by_cases hc : 0 ≤ col ∧ col < r.l.length
      · obtain ⟨c, rfl⟩ : ∃ c : Nat, col = c := ⟨col.toNat, by omega⟩
        have hcl : c < r.l.length := by omega
        rw [if_pos hc, show r.l.getD (c : Int).toNat nulV = r.l[c] from by rw [Int.toNat_natCast]; exact getD_of hcl rfl]
        exact ev_5y typ num text c kh kids r w c rfl hcl (hide hr) HF (hide hkb)
      · rw [if_neg hc]
        exact ev_5n typ num text col kh kids r w hc HF (hide hkb)
    rw [if_neg h5]
    by_cases h26 : op = 26
    · subst h26
      rw [if_pos rfl]
      have hk3 : kids.length = 3 := by
        have := hko
        unfold kidsOk at this
        simpa using this
      have g : ∀ i (hi : i < kids.length), (kids.map (Ex.va r.l)).getD i nulV = (kids[i]).va r.l := fun i hi => by rw [List.getD_eq_getElem?_getD, List.getElem?_map, List.getElem?_eq_getElem hi]; rfl
      rw [g 0 (by omega), g 1 (by omega), g 2 (by omega)]
      have i0 := List.getElem_mem (show 0 < kids.length by omega)
      have i1 := List.getElem_mem (show 1 < kids.length by omega)
      have i2 := List.getElem_mem (show 2 < kids.length by omega)
      rcases truV_cases ((kids[0]'(by omega)).va r.l) with ht | ht | ht
      · rw [ht, if_neg (by decide)]
        exact ev_26f typ num text col kh kids r w _ _ _ hk3 rfl rfl rfl hrow (hide (hkin _ i0)) (hide (hkin _ i2)) (hide (ih _ i0)) (hide (ih _ i2)) (hide hr) (hide ht) (hide hn) (hide hf) HF (hide hkb)
      · rw [ht, if_pos rfl]
        exact ev_26t typ num text col kh kids r w _ _ _ hk3 rfl rfl rfl hrow (hide (hkin _ i0)) (hide (hkin _ i1)) (hide (ih _ i0)) (hide (ih _ i1)) (hide hr) (hide ht) (hide hn) (hide hf) HF (hide hkb)
      · rw [ht, if_neg (by decide)]
        exact ev_26u typ num text col kh kids r w _ _ _ hk3 rfl rfl rfl hrow (hide (hkin _ i0)) (hide (hkin _ i2)) (hide (ih _ i0)) (hide (ih _ i2)) (hide hr) (hide ht) (hide hn) (hide hf) HF (hide hkb)
    · rw [if_neg h26]
      refine ev_op op typ num text col kh kids r w hlen hrow (hide hkin) (hide ih) (hide hr) (hide hn) (hide hf) (beq_eq_false_iff_ne.2 h2) (beq_eq_false_iff_ne.2 h3) (beq_eq_false_iff_ne.2 h4) (beq_eq_false_iff_ne.2 h5) (beq_eq_false_iff_ne.2 h26) (hide ⟨by omega, ?_⟩) HF (hide hkb)
      unfold kidsOk at hko
      unfold opNeed
      by_cases hs : op ≤ 5
      · rw [if_pos (by omega)]; omega
      rw [if_neg hs] at hko
      rw [if_neg (by omega)]
      by_cases h11 : op = 11 ∨ op = 13 ∨ op = 21 ∨ op = 24 ∨ op = 25
      · rw [if_pos h11] at hko ⊢
        have := of_decide_eq_true hko
        omega
      rw [if_neg h11, if_neg h26] at hko
      rw [if_neg h11]
      by_cases h28 : op = 28
      · rw [if_pos h28] at hko
        exact of_decide_eq_true hko
      · rw [if_neg h28] at hko
        have := of_decide_eq_true hko
        omega
theorem eeval_any (e : Ex) (h : e.Low) : EvalAt e := by
  induction h with
  | mk e h hk ih => exact ev_step e ⟨e, h, hk⟩ ih
end Go.Proofs.YtlkhiihehaiinaaDoor

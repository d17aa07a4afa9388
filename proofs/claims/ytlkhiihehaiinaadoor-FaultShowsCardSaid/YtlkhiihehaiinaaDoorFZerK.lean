/- fault.zero. -/
import Derived.Test.YtlkhiihehaiinaaDoorGL
namespace Go.Proofs.YtlkhiihehaiinaaDoor
open Go.RowKit

def zeroK (op : Int) (l : List V) : Int :=
  if op = 22 ∨ op = 23 ∨ op = 24 then 2 else if op = 12 ∨ op = 13 then 3
  else if (14 ≤ op ∧ op ≤ 19) ∨ op = 28 then (if 0 ≤ fxV noN l then (l.getD (fxV noN l).toNat nulV).kind else 1) else 1
set_option maxRecDepth 100000 in
theorem zero_6 (q : VL) (w : World) : Calls Tryd.prog 53 #[.int .i64 6, .slice q.h.ao q.l.length q.h.cap] w fun e w' => e = .returned (.agg #[.int .i64 (zeroK 6 q.l), .int .i64 0, .string ⟨#[]⟩]) ∧ Below w.heap.size w w' := by
  go_enter Tryd.func53, Tryd.ntmps53
  go_wp2
  exact bodyPost_ret (v := .agg #[.int .i64 1, .int .i64 0, .string ⟨#[]⟩]) (by simp [results, Tryd.results53, go_sem]) rfl ⟨rfl, belA _⟩
set_option maxRecDepth 100000 in
theorem zero_7 (q : VL) (w : World) : Calls Tryd.prog 53 #[.int .i64 7, .slice q.h.ao q.l.length q.h.cap] w fun e w' => e = .returned (.agg #[.int .i64 (zeroK 7 q.l), .int .i64 0, .string ⟨#[]⟩]) ∧ Below w.heap.size w w' := by
  go_enter Tryd.func53, Tryd.ntmps53
  go_wp2
  exact bodyPost_ret (v := .agg #[.int .i64 1, .int .i64 0, .string ⟨#[]⟩]) (by simp [results, Tryd.results53, go_sem]) rfl ⟨rfl, belA _⟩
set_option maxRecDepth 100000 in
theorem zero_8 (q : VL) (w : World) : Calls Tryd.prog 53 #[.int .i64 8, .slice q.h.ao q.l.length q.h.cap] w fun e w' => e = .returned (.agg #[.int .i64 (zeroK 8 q.l), .int .i64 0, .string ⟨#[]⟩]) ∧ Below w.heap.size w w' := by
  go_enter Tryd.func53, Tryd.ntmps53
  go_wp2
  exact bodyPost_ret (v := .agg #[.int .i64 1, .int .i64 0, .string ⟨#[]⟩]) (by simp [results, Tryd.results53, go_sem]) rfl ⟨rfl, belA _⟩
set_option maxRecDepth 100000 in
theorem zero_9 (q : VL) (w : World) : Calls Tryd.prog 53 #[.int .i64 9, .slice q.h.ao q.l.length q.h.cap] w fun e w' => e = .returned (.agg #[.int .i64 (zeroK 9 q.l), .int .i64 0, .string ⟨#[]⟩]) ∧ Below w.heap.size w w' := by
  go_enter Tryd.func53, Tryd.ntmps53
  go_wp2
  exact bodyPost_ret (v := .agg #[.int .i64 1, .int .i64 0, .string ⟨#[]⟩]) (by simp [results, Tryd.results53, go_sem]) rfl ⟨rfl, belA _⟩
set_option maxRecDepth 100000 in
theorem zero_10 (q : VL) (w : World) : Calls Tryd.prog 53 #[.int .i64 10, .slice q.h.ao q.l.length q.h.cap] w fun e w' => e = .returned (.agg #[.int .i64 (zeroK 10 q.l), .int .i64 0, .string ⟨#[]⟩]) ∧ Below w.heap.size w w' := by
  go_enter Tryd.func53, Tryd.ntmps53
  go_wp2
  exact bodyPost_ret (v := .agg #[.int .i64 1, .int .i64 0, .string ⟨#[]⟩]) (by simp [results, Tryd.results53, go_sem]) rfl ⟨rfl, belA _⟩
set_option maxRecDepth 100000 in
theorem zero_11 (q : VL) (w : World) : Calls Tryd.prog 53 #[.int .i64 11, .slice q.h.ao q.l.length q.h.cap] w fun e w' => e = .returned (.agg #[.int .i64 (zeroK 11 q.l), .int .i64 0, .string ⟨#[]⟩]) ∧ Below w.heap.size w w' := by
  go_enter Tryd.func53, Tryd.ntmps53
  go_wp2
  exact bodyPost_ret (v := .agg #[.int .i64 1, .int .i64 0, .string ⟨#[]⟩]) (by simp [results, Tryd.results53, go_sem]) rfl ⟨rfl, belA _⟩
set_option maxRecDepth 100000 in
theorem zero_12 (q : VL) (w : World) : Calls Tryd.prog 53 #[.int .i64 12, .slice q.h.ao q.l.length q.h.cap] w fun e w' => e = .returned (.agg #[.int .i64 (zeroK 12 q.l), .int .i64 0, .string ⟨#[]⟩]) ∧ Below w.heap.size w w' := by
  go_enter Tryd.func53, Tryd.ntmps53
  go_wp2
  exact bodyPost_ret (v := .agg #[.int .i64 3, .int .i64 0, .string ⟨#[]⟩]) (by simp [results, Tryd.results53, go_sem]) rfl ⟨rfl, belA _⟩
set_option maxRecDepth 100000 in
theorem zero_13 (q : VL) (w : World) : Calls Tryd.prog 53 #[.int .i64 13, .slice q.h.ao q.l.length q.h.cap] w fun e w' => e = .returned (.agg #[.int .i64 (zeroK 13 q.l), .int .i64 0, .string ⟨#[]⟩]) ∧ Below w.heap.size w w' := by
  go_enter Tryd.func53, Tryd.ntmps53
  go_wp2
  exact bodyPost_ret (v := .agg #[.int .i64 3, .int .i64 0, .string ⟨#[]⟩]) (by simp [results, Tryd.results53, go_sem]) rfl ⟨rfl, belA _⟩
set_option maxRecDepth 100000 in
theorem zero_22 (q : VL) (w : World) : Calls Tryd.prog 53 #[.int .i64 22, .slice q.h.ao q.l.length q.h.cap] w fun e w' => e = .returned (.agg #[.int .i64 (zeroK 22 q.l), .int .i64 0, .string ⟨#[]⟩]) ∧ Below w.heap.size w w' := by
  go_enter Tryd.func53, Tryd.ntmps53
  go_wp2
  exact bodyPost_ret (v := .agg #[.int .i64 2, .int .i64 0, .string ⟨#[]⟩]) (by simp [results, Tryd.results53, go_sem]) rfl ⟨rfl, belA _⟩
set_option maxRecDepth 100000 in
theorem zero_23 (q : VL) (w : World) : Calls Tryd.prog 53 #[.int .i64 23, .slice q.h.ao q.l.length q.h.cap] w fun e w' => e = .returned (.agg #[.int .i64 (zeroK 23 q.l), .int .i64 0, .string ⟨#[]⟩]) ∧ Below w.heap.size w w' := by
  go_enter Tryd.func53, Tryd.ntmps53
  go_wp2
  exact bodyPost_ret (v := .agg #[.int .i64 2, .int .i64 0, .string ⟨#[]⟩]) (by simp [results, Tryd.results53, go_sem]) rfl ⟨rfl, belA _⟩
set_option maxRecDepth 100000 in
theorem zero_24 (q : VL) (w : World) : Calls Tryd.prog 53 #[.int .i64 24, .slice q.h.ao q.l.length q.h.cap] w fun e w' => e = .returned (.agg #[.int .i64 (zeroK 24 q.l), .int .i64 0, .string ⟨#[]⟩]) ∧ Below w.heap.size w w' := by
  go_enter Tryd.func53, Tryd.ntmps53
  go_wp2
  exact bodyPost_ret (v := .agg #[.int .i64 2, .int .i64 0, .string ⟨#[]⟩]) (by simp [results, Tryd.results53, go_sem]) rfl ⟨rfl, belA _⟩
set_option maxRecDepth 100000 in
set_option maxHeartbeats 1000000 in
theorem zero_14 (q : VL) (w : World) (hin : q.In w) : Calls Tryd.prog 53 #[.int .i64 14, .slice q.h.ao q.l.length q.h.cap] w fun e w' => e = .returned (.agg #[.int .i64 (zeroK 14 q.l), .int .i64 0, .string ⟨#[]⟩]) ∧ Below w.heap.size w w' := by
  have hlo := fxV_lo noN q.l
  have hz : zeroK 14 q.l = if 0 ≤ fxV noN q.l then (q.l.getD (fxV noN q.l).toNat nulV).kind else 1 := by simp [zeroK]
  rw [hz]
  have HIX := hide (fun (W : World) (h : q.In W) => nonidx_any q W h)
  obtain ⟨n, hn⟩ : ∃ n, fxV noN q.l = n := ⟨_, rfl⟩
  rw [hn] at HIX hlo ⊢
  have hlen := hin.1.len
  have HQ := hide (hin.mono (belA (.cells #[.int .i64 0, .int .i64 0, .string ⟨#[]⟩] 24)))
  clear hz hn hin
  by_cases h0 : 0 ≤ n
  · rw [if_pos h0]
    obtain ⟨k, rfl⟩ : ∃ k : Nat, n = k := ⟨n.toNat, by omega⟩
    have hk : k < q.l.length := by omega
    have hix := HQ.out.1.ix hk Tryd.underlying28 szval
    rw [Int.toNat_natCast, List.getD_eq_getElem?_getD, List.getElem?_eq_getElem hk]
    show Calls _ _ _ _ (fun e w' => e = .returned (.agg #[.int .i64 (q.l[k]).kind, .int .i64 0, .string ⟨#[]⟩]) ∧ Below w.heap.size w w')
    obtain ⟨c0, _, _⟩ := val_at HQ.out.1 hk
    have hbb := HQ.out.1.blk (by omega)
    obtain ⟨a, ha⟩ : ∃ a, q.l[k] = a := ⟨_, rfl⟩
    rw [ha] at c0 ⊢
    have HC := hide (fun (x : World) (h : Below (w.alloc (.cells #[.int .i64 0, .int .i64 0, .string ⟨#[]⟩] 24)).heap.size (w.alloc (.cells #[.int .i64 0, .int .i64 0, .string ⟨#[]⟩] 24)) x) => (h.cell (p := ⟨q.h.b, q.h.o + k * 3, none⟩) hbb).trans c0)
    clear c0 ha
    go_enter Tryd.func53, Tryd.ntmps53
    go_wp2_with (go_at_call 73; refine (HIX.out _ HQ.out).mono ?_; rintro e x ⟨rfl, hb⟩; have c0 := HC.out _ hb; have HB := hide hb; have hq := (Box.new _ _ _).below hb; have e0 := hq.cell (j := 0) rfl; have e1 := hq.cell (j := 1) rfl; have e2 := hq.cell (j := 2) rfl; have f0 := hq.fr 0; have f1 := hq.fr 1; have f2 := hq.fr 2; clear hb hq)
    exact bodyPost_ret (v := .agg #[.int .i64 a.kind, .int .i64 0, .string ⟨#[]⟩]) (by simp [results, Tryd.results53, go_sem, e0, e1, e2]) rfl ⟨rfl, belset3 (bel1 HB.out) (Nat.le_refl _) (Nat.le_refl _) _ _ _⟩
  · rw [if_neg h0]
    go_enter Tryd.func53, Tryd.ntmps53
    go_wp2_with (go_at_call 73; refine (HIX.out _ HQ.out).mono ?_; rintro e x ⟨rfl, hb⟩; have HB := hide hb; have hq := (Box.new _ _ _).below hb; have e0 := hq.cell (j := 0) rfl; have e1 := hq.cell (j := 1) rfl; have e2 := hq.cell (j := 2) rfl; have f0 := hq.fr 0; have f1 := hq.fr 1; have f2 := hq.fr 2; clear hb hq)
    exact bodyPost_ret (v := .agg #[.int .i64 1, .int .i64 0, .string ⟨#[]⟩]) (by simp [results, Tryd.results53, go_sem, e0, e1, e2]) rfl ⟨rfl, belset3 (bel1 HB.out) (Nat.le_refl _) (Nat.le_refl _) _ _ _⟩
set_option maxRecDepth 100000 in
set_option maxHeartbeats 1000000 in
theorem zero_15 (q : VL) (w : World) (hin : q.In w) : Calls Tryd.prog 53 #[.int .i64 15, .slice q.h.ao q.l.length q.h.cap] w fun e w' => e = .returned (.agg #[.int .i64 (zeroK 15 q.l), .int .i64 0, .string ⟨#[]⟩]) ∧ Below w.heap.size w w' := by
  have hlo := fxV_lo noN q.l
  have hz : zeroK 15 q.l = if 0 ≤ fxV noN q.l then (q.l.getD (fxV noN q.l).toNat nulV).kind else 1 := by simp [zeroK]
  rw [hz]
  have HIX := hide (fun (W : World) (h : q.In W) => nonidx_any q W h)
  obtain ⟨n, hn⟩ : ∃ n, fxV noN q.l = n := ⟨_, rfl⟩
  rw [hn] at HIX hlo ⊢
  have hlen := hin.1.len
  have HQ := hide (hin.mono (belA (.cells #[.int .i64 0, .int .i64 0, .string ⟨#[]⟩] 24)))
  clear hz hn hin
  by_cases h0 : 0 ≤ n
  · rw [if_pos h0]
    obtain ⟨k, rfl⟩ : ∃ k : Nat, n = k := ⟨n.toNat, by omega⟩
    have hk : k < q.l.length := by omega
    have hix := HQ.out.1.ix hk Tryd.underlying28 szval
    rw [Int.toNat_natCast, List.getD_eq_getElem?_getD, List.getElem?_eq_getElem hk]
    show Calls _ _ _ _ (fun e w' => e = .returned (.agg #[.int .i64 (q.l[k]).kind, .int .i64 0, .string ⟨#[]⟩]) ∧ Below w.heap.size w w')
    obtain ⟨c0, _, _⟩ := val_at HQ.out.1 hk
    have hbb := HQ.out.1.blk (by omega)
    obtain ⟨a, ha⟩ : ∃ a, q.l[k] = a := ⟨_, rfl⟩
    rw [ha] at c0 ⊢
    have HC := hide (fun (x : World) (h : Below (w.alloc (.cells #[.int .i64 0, .int .i64 0, .string ⟨#[]⟩] 24)).heap.size (w.alloc (.cells #[.int .i64 0, .int .i64 0, .string ⟨#[]⟩] 24)) x) => (h.cell (p := ⟨q.h.b, q.h.o + k * 3, none⟩) hbb).trans c0)
    clear c0 ha
    go_enter Tryd.func53, Tryd.ntmps53
    go_wp2_with (go_at_call 73; refine (HIX.out _ HQ.out).mono ?_; rintro e x ⟨rfl, hb⟩; have c0 := HC.out _ hb; have HB := hide hb; have hq := (Box.new _ _ _).below hb; have e0 := hq.cell (j := 0) rfl; have e1 := hq.cell (j := 1) rfl; have e2 := hq.cell (j := 2) rfl; have f0 := hq.fr 0; have f1 := hq.fr 1; have f2 := hq.fr 2; clear hb hq)
    exact bodyPost_ret (v := .agg #[.int .i64 a.kind, .int .i64 0, .string ⟨#[]⟩]) (by simp [results, Tryd.results53, go_sem, e0, e1, e2]) rfl ⟨rfl, belset3 (bel1 HB.out) (Nat.le_refl _) (Nat.le_refl _) _ _ _⟩
  · rw [if_neg h0]
    go_enter Tryd.func53, Tryd.ntmps53
    go_wp2_with (go_at_call 73; refine (HIX.out _ HQ.out).mono ?_; rintro e x ⟨rfl, hb⟩; have HB := hide hb; have hq := (Box.new _ _ _).below hb; have e0 := hq.cell (j := 0) rfl; have e1 := hq.cell (j := 1) rfl; have e2 := hq.cell (j := 2) rfl; have f0 := hq.fr 0; have f1 := hq.fr 1; have f2 := hq.fr 2; clear hb hq)
    exact bodyPost_ret (v := .agg #[.int .i64 1, .int .i64 0, .string ⟨#[]⟩]) (by simp [results, Tryd.results53, go_sem, e0, e1, e2]) rfl ⟨rfl, belset3 (bel1 HB.out) (Nat.le_refl _) (Nat.le_refl _) _ _ _⟩
set_option maxRecDepth 100000 in
set_option maxHeartbeats 1000000 in
theorem zero_16 (q : VL) (w : World) (hin : q.In w) : Calls Tryd.prog 53 #[.int .i64 16, .slice q.h.ao q.l.length q.h.cap] w fun e w' => e = .returned (.agg #[.int .i64 (zeroK 16 q.l), .int .i64 0, .string ⟨#[]⟩]) ∧ Below w.heap.size w w' := by
  have hlo := fxV_lo noN q.l
  have hz : zeroK 16 q.l = if 0 ≤ fxV noN q.l then (q.l.getD (fxV noN q.l).toNat nulV).kind else 1 := by simp [zeroK]
  rw [hz]
  have HIX := hide (fun (W : World) (h : q.In W) => nonidx_any q W h)
  obtain ⟨n, hn⟩ : ∃ n, fxV noN q.l = n := ⟨_, rfl⟩
  rw [hn] at HIX hlo ⊢
  have hlen := hin.1.len
  have HQ := hide (hin.mono (belA (.cells #[.int .i64 0, .int .i64 0, .string ⟨#[]⟩] 24)))
  clear hz hn hin
  by_cases h0 : 0 ≤ n
  · rw [if_pos h0]
    obtain ⟨k, rfl⟩ : ∃ k : Nat, n = k := ⟨n.toNat, by omega⟩
    have hk : k < q.l.length := by omega
    have hix := HQ.out.1.ix hk Tryd.underlying28 szval
    rw [Int.toNat_natCast, List.getD_eq_getElem?_getD, List.getElem?_eq_getElem hk]
    show Calls _ _ _ _ (fun e w' => e = .returned (.agg #[.int .i64 (q.l[k]).kind, .int .i64 0, .string ⟨#[]⟩]) ∧ Below w.heap.size w w')
    obtain ⟨c0, _, _⟩ := val_at HQ.out.1 hk
    have hbb := HQ.out.1.blk (by omega)
    obtain ⟨a, ha⟩ : ∃ a, q.l[k] = a := ⟨_, rfl⟩
    rw [ha] at c0 ⊢
    have HC := hide (fun (x : World) (h : Below (w.alloc (.cells #[.int .i64 0, .int .i64 0, .string ⟨#[]⟩] 24)).heap.size (w.alloc (.cells #[.int .i64 0, .int .i64 0, .string ⟨#[]⟩] 24)) x) => (h.cell (p := ⟨q.h.b, q.h.o + k * 3, none⟩) hbb).trans c0)
    clear c0 ha
    go_enter Tryd.func53, Tryd.ntmps53
    go_wp2_with (go_at_call 73; refine (HIX.out _ HQ.out).mono ?_; rintro e x ⟨rfl, hb⟩; have c0 := HC.out _ hb; have HB := hide hb; have hq := (Box.new _ _ _).below hb; have e0 := hq.cell (j := 0) rfl; have e1 := hq.cell (j := 1) rfl; have e2 := hq.cell (j := 2) rfl; have f0 := hq.fr 0; have f1 := hq.fr 1; have f2 := hq.fr 2; clear hb hq)
    exact bodyPost_ret (v := .agg #[.int .i64 a.kind, .int .i64 0, .string ⟨#[]⟩]) (by simp [results, Tryd.results53, go_sem, e0, e1, e2]) rfl ⟨rfl, belset3 (bel1 HB.out) (Nat.le_refl _) (Nat.le_refl _) _ _ _⟩
  · rw [if_neg h0]
    go_enter Tryd.func53, Tryd.ntmps53
    go_wp2_with (go_at_call 73; refine (HIX.out _ HQ.out).mono ?_; rintro e x ⟨rfl, hb⟩; have HB := hide hb; have hq := (Box.new _ _ _).below hb; have e0 := hq.cell (j := 0) rfl; have e1 := hq.cell (j := 1) rfl; have e2 := hq.cell (j := 2) rfl; have f0 := hq.fr 0; have f1 := hq.fr 1; have f2 := hq.fr 2; clear hb hq)
    exact bodyPost_ret (v := .agg #[.int .i64 1, .int .i64 0, .string ⟨#[]⟩]) (by simp [results, Tryd.results53, go_sem, e0, e1, e2]) rfl ⟨rfl, belset3 (bel1 HB.out) (Nat.le_refl _) (Nat.le_refl _) _ _ _⟩
set_option maxRecDepth 100000 in
set_option maxHeartbeats 1000000 in
theorem zero_17 (q : VL) (w : World) (hin : q.In w) : Calls Tryd.prog 53 #[.int .i64 17, .slice q.h.ao q.l.length q.h.cap] w fun e w' => e = .returned (.agg #[.int .i64 (zeroK 17 q.l), .int .i64 0, .string ⟨#[]⟩]) ∧ Below w.heap.size w w' := by
  have hlo := fxV_lo noN q.l
  have hz : zeroK 17 q.l = if 0 ≤ fxV noN q.l then (q.l.getD (fxV noN q.l).toNat nulV).kind else 1 := by simp [zeroK]
  rw [hz]
  have HIX := hide (fun (W : World) (h : q.In W) => nonidx_any q W h)
  obtain ⟨n, hn⟩ : ∃ n, fxV noN q.l = n := ⟨_, rfl⟩
  rw [hn] at HIX hlo ⊢
  have hlen := hin.1.len
  have HQ := hide (hin.mono (belA (.cells #[.int .i64 0, .int .i64 0, .string ⟨#[]⟩] 24)))
  clear hz hn hin
  by_cases h0 : 0 ≤ n
  · rw [if_pos h0]
    obtain ⟨k, rfl⟩ : ∃ k : Nat, n = k := ⟨n.toNat, by omega⟩
    have hk : k < q.l.length := by omega
    have hix := HQ.out.1.ix hk Tryd.underlying28 szval
    rw [Int.toNat_natCast, List.getD_eq_getElem?_getD, List.getElem?_eq_getElem hk]
    show Calls _ _ _ _ (fun e w' => e = .returned (.agg #[.int .i64 (q.l[k]).kind, .int .i64 0, .string ⟨#[]⟩]) ∧ Below w.heap.size w w')
    obtain ⟨c0, _, _⟩ := val_at HQ.out.1 hk
    have hbb := HQ.out.1.blk (by omega)
    obtain ⟨a, ha⟩ : ∃ a, q.l[k] = a := ⟨_, rfl⟩
    rw [ha] at c0 ⊢
    have HC := hide (fun (x : World) (h : Below (w.alloc (.cells #[.int .i64 0, .int .i64 0, .string ⟨#[]⟩] 24)).heap.size (w.alloc (.cells #[.int .i64 0, .int .i64 0, .string ⟨#[]⟩] 24)) x) => (h.cell (p := ⟨q.h.b, q.h.o + k * 3, none⟩) hbb).trans c0)
    clear c0 ha
    go_enter Tryd.func53, Tryd.ntmps53
    go_wp2_with (go_at_call 73; refine (HIX.out _ HQ.out).mono ?_; rintro e x ⟨rfl, hb⟩; have c0 := HC.out _ hb; have HB := hide hb; have hq := (Box.new _ _ _).below hb; have e0 := hq.cell (j := 0) rfl; have e1 := hq.cell (j := 1) rfl; have e2 := hq.cell (j := 2) rfl; have f0 := hq.fr 0; have f1 := hq.fr 1; have f2 := hq.fr 2; clear hb hq)
    exact bodyPost_ret (v := .agg #[.int .i64 a.kind, .int .i64 0, .string ⟨#[]⟩]) (by simp [results, Tryd.results53, go_sem, e0, e1, e2]) rfl ⟨rfl, belset3 (bel1 HB.out) (Nat.le_refl _) (Nat.le_refl _) _ _ _⟩
  · rw [if_neg h0]
    go_enter Tryd.func53, Tryd.ntmps53
    go_wp2_with (go_at_call 73; refine (HIX.out _ HQ.out).mono ?_; rintro e x ⟨rfl, hb⟩; have HB := hide hb; have hq := (Box.new _ _ _).below hb; have e0 := hq.cell (j := 0) rfl; have e1 := hq.cell (j := 1) rfl; have e2 := hq.cell (j := 2) rfl; have f0 := hq.fr 0; have f1 := hq.fr 1; have f2 := hq.fr 2; clear hb hq)
    exact bodyPost_ret (v := .agg #[.int .i64 1, .int .i64 0, .string ⟨#[]⟩]) (by simp [results, Tryd.results53, go_sem, e0, e1, e2]) rfl ⟨rfl, belset3 (bel1 HB.out) (Nat.le_refl _) (Nat.le_refl _) _ _ _⟩
set_option maxRecDepth 100000 in
set_option maxHeartbeats 1000000 in
theorem zero_18 (q : VL) (w : World) (hin : q.In w) : Calls Tryd.prog 53 #[.int .i64 18, .slice q.h.ao q.l.length q.h.cap] w fun e w' => e = .returned (.agg #[.int .i64 (zeroK 18 q.l), .int .i64 0, .string ⟨#[]⟩]) ∧ Below w.heap.size w w' := by
  have hlo := fxV_lo noN q.l
  have hz : zeroK 18 q.l = if 0 ≤ fxV noN q.l then (q.l.getD (fxV noN q.l).toNat nulV).kind else 1 := by simp [zeroK]
  rw [hz]
  have HIX := hide (fun (W : World) (h : q.In W) => nonidx_any q W h)
  obtain ⟨n, hn⟩ : ∃ n, fxV noN q.l = n := ⟨_, rfl⟩
  rw [hn] at HIX hlo ⊢
  have hlen := hin.1.len
  have HQ := hide (hin.mono (belA (.cells #[.int .i64 0, .int .i64 0, .string ⟨#[]⟩] 24)))
  clear hz hn hin
  by_cases h0 : 0 ≤ n
  · rw [if_pos h0]
    obtain ⟨k, rfl⟩ : ∃ k : Nat, n = k := ⟨n.toNat, by omega⟩
    have hk : k < q.l.length := by omega
    have hix := HQ.out.1.ix hk Tryd.underlying28 szval
    rw [Int.toNat_natCast, List.getD_eq_getElem?_getD, List.getElem?_eq_getElem hk]
    show Calls _ _ _ _ (fun e w' => e = .returned (.agg #[.int .i64 (q.l[k]).kind, .int .i64 0, .string ⟨#[]⟩]) ∧ Below w.heap.size w w')
    obtain ⟨c0, _, _⟩ := val_at HQ.out.1 hk
    have hbb := HQ.out.1.blk (by omega)
    obtain ⟨a, ha⟩ : ∃ a, q.l[k] = a := ⟨_, rfl⟩
    rw [ha] at c0 ⊢
    have HC := hide (fun (x : World) (h : Below (w.alloc (.cells #[.int .i64 0, .int .i64 0, .string ⟨#[]⟩] 24)).heap.size (w.alloc (.cells #[.int .i64 0, .int .i64 0, .string ⟨#[]⟩] 24)) x) => (h.cell (p := ⟨q.h.b, q.h.o + k * 3, none⟩) hbb).trans c0)
    clear c0 ha
    go_enter Tryd.func53, Tryd.ntmps53
    go_wp2_with (go_at_call 73; refine (HIX.out _ HQ.out).mono ?_; rintro e x ⟨rfl, hb⟩; have c0 := HC.out _ hb; have HB := hide hb; have hq := (Box.new _ _ _).below hb; have e0 := hq.cell (j := 0) rfl; have e1 := hq.cell (j := 1) rfl; have e2 := hq.cell (j := 2) rfl; have f0 := hq.fr 0; have f1 := hq.fr 1; have f2 := hq.fr 2; clear hb hq)
    exact bodyPost_ret (v := .agg #[.int .i64 a.kind, .int .i64 0, .string ⟨#[]⟩]) (by simp [results, Tryd.results53, go_sem, e0, e1, e2]) rfl ⟨rfl, belset3 (bel1 HB.out) (Nat.le_refl _) (Nat.le_refl _) _ _ _⟩
  · rw [if_neg h0]
    go_enter Tryd.func53, Tryd.ntmps53
    go_wp2_with (go_at_call 73; refine (HIX.out _ HQ.out).mono ?_; rintro e x ⟨rfl, hb⟩; have HB := hide hb; have hq := (Box.new _ _ _).below hb; have e0 := hq.cell (j := 0) rfl; have e1 := hq.cell (j := 1) rfl; have e2 := hq.cell (j := 2) rfl; have f0 := hq.fr 0; have f1 := hq.fr 1; have f2 := hq.fr 2; clear hb hq)
    exact bodyPost_ret (v := .agg #[.int .i64 1, .int .i64 0, .string ⟨#[]⟩]) (by simp [results, Tryd.results53, go_sem, e0, e1, e2]) rfl ⟨rfl, belset3 (bel1 HB.out) (Nat.le_refl _) (Nat.le_refl _) _ _ _⟩
set_option maxRecDepth 100000 in
set_option maxHeartbeats 1000000 in
theorem zero_19 (q : VL) (w : World) (hin : q.In w) : Calls Tryd.prog 53 #[.int .i64 19, .slice q.h.ao q.l.length q.h.cap] w fun e w' => e = .returned (.agg #[.int .i64 (zeroK 19 q.l), .int .i64 0, .string ⟨#[]⟩]) ∧ Below w.heap.size w w' := by
  have hlo := fxV_lo noN q.l
  have hz : zeroK 19 q.l = if 0 ≤ fxV noN q.l then (q.l.getD (fxV noN q.l).toNat nulV).kind else 1 := by simp [zeroK]
  rw [hz]
  have HIX := hide (fun (W : World) (h : q.In W) => nonidx_any q W h)
  obtain ⟨n, hn⟩ : ∃ n, fxV noN q.l = n := ⟨_, rfl⟩
  rw [hn] at HIX hlo ⊢
  have hlen := hin.1.len
  have HQ := hide (hin.mono (belA (.cells #[.int .i64 0, .int .i64 0, .string ⟨#[]⟩] 24)))
  clear hz hn hin
  by_cases h0 : 0 ≤ n
  · rw [if_pos h0]
    obtain ⟨k, rfl⟩ : ∃ k : Nat, n = k := ⟨n.toNat, by omega⟩
    have hk : k < q.l.length := by omega
    have hix := HQ.out.1.ix hk Tryd.underlying28 szval
    rw [Int.toNat_natCast, List.getD_eq_getElem?_getD, List.getElem?_eq_getElem hk]
    show Calls _ _ _ _ (fun e w' => e = .returned (.agg #[.int .i64 (q.l[k]).kind, .int .i64 0, .string ⟨#[]⟩]) ∧ Below w.heap.size w w')
    obtain ⟨c0, _, _⟩ := val_at HQ.out.1 hk
    have hbb := HQ.out.1.blk (by omega)
    obtain ⟨a, ha⟩ : ∃ a, q.l[k] = a := ⟨_, rfl⟩
    rw [ha] at c0 ⊢
    have HC := hide (fun (x : World) (h : Below (w.alloc (.cells #[.int .i64 0, .int .i64 0, .string ⟨#[]⟩] 24)).heap.size (w.alloc (.cells #[.int .i64 0, .int .i64 0, .string ⟨#[]⟩] 24)) x) => (h.cell (p := ⟨q.h.b, q.h.o + k * 3, none⟩) hbb).trans c0)
    clear c0 ha
    go_enter Tryd.func53, Tryd.ntmps53
    go_wp2_with (go_at_call 73; refine (HIX.out _ HQ.out).mono ?_; rintro e x ⟨rfl, hb⟩; have c0 := HC.out _ hb; have HB := hide hb; have hq := (Box.new _ _ _).below hb; have e0 := hq.cell (j := 0) rfl; have e1 := hq.cell (j := 1) rfl; have e2 := hq.cell (j := 2) rfl; have f0 := hq.fr 0; have f1 := hq.fr 1; have f2 := hq.fr 2; clear hb hq)
    exact bodyPost_ret (v := .agg #[.int .i64 a.kind, .int .i64 0, .string ⟨#[]⟩]) (by simp [results, Tryd.results53, go_sem, e0, e1, e2]) rfl ⟨rfl, belset3 (bel1 HB.out) (Nat.le_refl _) (Nat.le_refl _) _ _ _⟩
  · rw [if_neg h0]
    go_enter Tryd.func53, Tryd.ntmps53
    go_wp2_with (go_at_call 73; refine (HIX.out _ HQ.out).mono ?_; rintro e x ⟨rfl, hb⟩; have HB := hide hb; have hq := (Box.new _ _ _).below hb; have e0 := hq.cell (j := 0) rfl; have e1 := hq.cell (j := 1) rfl; have e2 := hq.cell (j := 2) rfl; have f0 := hq.fr 0; have f1 := hq.fr 1; have f2 := hq.fr 2; clear hb hq)
    exact bodyPost_ret (v := .agg #[.int .i64 1, .int .i64 0, .string ⟨#[]⟩]) (by simp [results, Tryd.results53, go_sem, e0, e1, e2]) rfl ⟨rfl, belset3 (bel1 HB.out) (Nat.le_refl _) (Nat.le_refl _) _ _ _⟩
set_option maxRecDepth 100000 in
set_option maxHeartbeats 1000000 in
theorem zero_28 (q : VL) (w : World) (hin : q.In w) : Calls Tryd.prog 53 #[.int .i64 28, .slice q.h.ao q.l.length q.h.cap] w fun e w' => e = .returned (.agg #[.int .i64 (zeroK 28 q.l), .int .i64 0, .string ⟨#[]⟩]) ∧ Below w.heap.size w w' := by
  have hlo := fxV_lo noN q.l
  have hz : zeroK 28 q.l = if 0 ≤ fxV noN q.l then (q.l.getD (fxV noN q.l).toNat nulV).kind else 1 := by simp [zeroK]
  rw [hz]
  have HIX := hide (fun (W : World) (h : q.In W) => nonidx_any q W h)
  obtain ⟨n, hn⟩ : ∃ n, fxV noN q.l = n := ⟨_, rfl⟩
  rw [hn] at HIX hlo ⊢
  have hlen := hin.1.len
  have HQ := hide (hin.mono (belA (.cells #[.int .i64 0, .int .i64 0, .string ⟨#[]⟩] 24)))
  clear hz hn hin
  by_cases h0 : 0 ≤ n
  · rw [if_pos h0]
    obtain ⟨k, rfl⟩ : ∃ k : Nat, n = k := ⟨n.toNat, by omega⟩
    have hk : k < q.l.length := by omega
    have hix := HQ.out.1.ix hk Tryd.underlying28 szval
    rw [Int.toNat_natCast, List.getD_eq_getElem?_getD, List.getElem?_eq_getElem hk]
    show Calls _ _ _ _ (fun e w' => e = .returned (.agg #[.int .i64 (q.l[k]).kind, .int .i64 0, .string ⟨#[]⟩]) ∧ Below w.heap.size w w')
    obtain ⟨c0, _, _⟩ := val_at HQ.out.1 hk
    have hbb := HQ.out.1.blk (by omega)
    obtain ⟨a, ha⟩ : ∃ a, q.l[k] = a := ⟨_, rfl⟩
    rw [ha] at c0 ⊢
    have HC := hide (fun (x : World) (h : Below (w.alloc (.cells #[.int .i64 0, .int .i64 0, .string ⟨#[]⟩] 24)).heap.size (w.alloc (.cells #[.int .i64 0, .int .i64 0, .string ⟨#[]⟩] 24)) x) => (h.cell (p := ⟨q.h.b, q.h.o + k * 3, none⟩) hbb).trans c0)
    clear c0 ha
    go_enter Tryd.func53, Tryd.ntmps53
    go_wp2_with (go_at_call 73; refine (HIX.out _ HQ.out).mono ?_; rintro e x ⟨rfl, hb⟩; have c0 := HC.out _ hb; have HB := hide hb; have hq := (Box.new _ _ _).below hb; have e0 := hq.cell (j := 0) rfl; have e1 := hq.cell (j := 1) rfl; have e2 := hq.cell (j := 2) rfl; have f0 := hq.fr 0; have f1 := hq.fr 1; have f2 := hq.fr 2; clear hb hq)
    exact bodyPost_ret (v := .agg #[.int .i64 a.kind, .int .i64 0, .string ⟨#[]⟩]) (by simp [results, Tryd.results53, go_sem, e0, e1, e2]) rfl ⟨rfl, belset3 (bel1 HB.out) (Nat.le_refl _) (Nat.le_refl _) _ _ _⟩
  · rw [if_neg h0]
    go_enter Tryd.func53, Tryd.ntmps53
    go_wp2_with (go_at_call 73; refine (HIX.out _ HQ.out).mono ?_; rintro e x ⟨rfl, hb⟩; have HB := hide hb; have hq := (Box.new _ _ _).below hb; have e0 := hq.cell (j := 0) rfl; have e1 := hq.cell (j := 1) rfl; have e2 := hq.cell (j := 2) rfl; have f0 := hq.fr 0; have f1 := hq.fr 1; have f2 := hq.fr 2; clear hb hq)
    exact bodyPost_ret (v := .agg #[.int .i64 1, .int .i64 0, .string ⟨#[]⟩]) (by simp [results, Tryd.results53, go_sem, e0, e1, e2]) rfl ⟨rfl, belset3 (bel1 HB.out) (Nat.le_refl _) (Nat.le_refl _) _ _ _⟩
end Go.Proofs.YtlkhiihehaiinaaDoor

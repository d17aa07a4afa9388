/- algebra.Depth, ref04.Depth: the depth of a query. -/
import Derived.Test.YtmnbhdhgjbgidaaDoorAQSize
namespace Go.Proofs.YtmnbhdhgjbgidaaDoor
open Go.RowKit

mutual
def Qu.dep : Qu → Nat
  | ⟨_, _, _, _, _, _, _, _, _, _, _, _, _, kids⟩ => Qu.deps kids + 1
def Qu.deps : List Qu → Nat
  | [] => 0
  | k :: r => Nat.max (Qu.dep k) (Qu.deps r)
end
theorem Qu.dep_eq (q : Qu) : q.dep = Qu.deps q.kids + 1 := by cases q; rw [Qu.dep]
theorem Qu.deps_snoc (l : List Qu) (x : Qu) : Qu.deps (l ++ [x]) = Nat.max (Qu.deps l) x.dep := by
  induction l with
  | nil => simp [Qu.deps]
  | cons a l ih =>
    simp only [List.cons_append, Qu.deps, ih, Nat.max_def]
    repeat' split
    all_goals omega
theorem Qu.deps_take {l : List Qu} {k : Nat} (h : k < l.length) : Qu.deps (l.take (k + 1)) = Nat.max (Qu.deps (l.take k)) l[k].dep := by
  rw [List.take_succ_eq_append_getElem h, Qu.deps_snoc]
mutual
theorem Qu.dep_le : ∀ q : Qu, q.dep ≤ q.wt
  | ⟨_, _, _, _, _, _, exprs, _, aggs, _, _, _, _, kids⟩ => by rw [Qu.dep, Qu.wt]; have := Qu.deps_le kids; omega
theorem Qu.deps_le : ∀ l : List Qu, Qu.deps l ≤ Qu.wts l
  | [] => by simp [Qu.deps]
  | k :: r => by
    rw [Qu.deps, Qu.wts]
    have h1 := Qu.dep_le k
    have h2 := Qu.deps_le r
    exact Nat.max_le.2 ⟨by omega, by omega⟩
end
theorem Qu.deps_take_le (l : List Qu) (k : Nat) : Qu.deps (l.take k) ≤ Qu.deps l := by
  induction l generalizing k with
  | nil => simp [Qu.deps]
  | cons a l ih =>
    cases k with
    | zero => simp [Qu.deps]
    | succ k =>
      rw [List.take_succ_cons, Qu.deps, Qu.deps]
      exact Nat.max_le.2 ⟨Nat.le_max_left _ _, Nat.le_trans (ih k) (Nat.le_max_right _ _)⟩
theorem max_val (a b : Nat) : (if a < b then (b : Int) else (a : Int)) = ((Nat.max a b : Nat) : Int) := by
  show _ = ((max a b : Nat) : Int)
  rw [Nat.max_def]
  split <;> split <;> omega

set_option maxRecDepth 100000 in
set_option maxHeartbeats 4000000 in
theorem adep_any {w0 : World} {q : Qu} (h0 : q.In w0) : ∀ (w : World), q.In w → q.wt ≤ 1048576 →
    Calls Tryd.prog 17 #[.agg #[.int .i64 q.op, .string q.table, .int .i64 q.kind, .bool q.all, .int .i64 q.cond.op, .int .i64 q.cond.typ, .int .i64 q.cond.num, .string q.cond.text, .int .i64 q.cond.col, .slice q.cond.kh.ao q.cond.kids.length q.cond.kh.cap, .slice q.eh.ao q.exprs.length q.eh.cap, .slice q.ah.ao q.aggs.length q.ah.cap, .slice q.types.h.ao q.types.l.length q.types.h.cap, .slice q.rh.ao q.rows.length q.rh.cap, .slice q.qh.ao q.kids.length q.qh.cap]] w fun r w' => r = .returned (.int .i64 (q.dep : Nat)) ∧ Below w.heap.size w w' := by
  induction h0 with
  | mk q _ _ _ ih =>
  intro w hin hwt
  have IH := hide ih
  clear ih
  have l1 := hin.row.len
  have HDL := hide (Nat.le_trans (Qu.dep_le q) hwt)
  have HIN := hide (hin.mono (belA (.cells #[.int .i64 q.op, .string q.table, .int .i64 q.kind, .bool q.all, .int .i64 q.cond.op, .int .i64 q.cond.typ, .int .i64 q.cond.num, .string q.cond.text, .int .i64 q.cond.col, .slice q.cond.kh.ao q.cond.kids.length q.cond.kh.cap, .slice q.eh.ao q.exprs.length q.eh.cap, .slice q.ah.ao q.aggs.length q.ah.cap, .slice q.types.h.ao q.types.l.length q.types.h.cap, .slice q.rh.ao q.rows.length q.rh.cap, .slice q.qh.ao q.kids.length q.qh.cap] 57)))
  clear hin
  go_enter Tryd.func17, Tryd.ntmps17
  go_wp2
  go_loopw [3, 9] (fun v i wr => ∃ k : Nat, k ≤ q.kids.length ∧ i = .int .i64 k ∧ v = .int .i64 ((Qu.deps (q.kids.take k) : Nat) : Int) ∧ Below (w.alloc (.cells #[.int .i64 q.op, .string q.table, .int .i64 q.kind, .bool q.all, .int .i64 q.cond.op, .int .i64 q.cond.typ, .int .i64 q.cond.num, .string q.cond.text, .int .i64 q.cond.col, .slice q.cond.kh.ao q.cond.kids.length q.cond.kh.cap, .slice q.eh.ao q.exprs.length q.eh.cap, .slice q.ah.ao q.aggs.length q.ah.cap, .slice q.types.h.ao q.types.l.length q.types.h.cap, .slice q.rh.ao q.rows.length q.rh.cap, .slice q.qh.ao q.kids.length q.qh.cap] 57)).heap.size (w.alloc (.cells #[.int .i64 q.op, .string q.table, .int .i64 q.kind, .bool q.all, .int .i64 q.cond.op, .int .i64 q.cond.typ, .int .i64 q.cond.num, .string q.cond.text, .int .i64 q.cond.col, .slice q.cond.kh.ao q.cond.kids.length q.cond.kh.cap, .slice q.eh.ao q.exprs.length q.eh.cap, .slice q.ah.ao q.aggs.length q.ah.cap, .slice q.types.h.ao q.types.l.length q.types.h.cap, .slice q.rh.ao q.rows.length q.rh.cap, .slice q.qh.ao q.kids.length q.qh.cap] 57)) wr) (fun _ i _ => q.kids.length - (intOf i).toNat)
  case atStart => exact ⟨0, Nat.zero_le _, rfl, val_eq (by simp [Qu.deps]), Below.refl _ _⟩
  case round =>
    obtain ⟨k, hk, rfl, rfl, hbw⟩ := hrel
    have HBW := hide hbw
    clear hbw
    by_cases hlt : k < q.kids.length
    · have hlti : (k : Int) < q.kids.length := by omega
      have hrow := HIN.out.row.mono HBW.out
      have hix := hrow.ix hlt Tryd.underlying55 sz46
      obtain ⟨⟨c0, c1, c2, c3⟩, ⟨c4, c5, c6, c7, c8, c9⟩, ⟨c10, c11, c12, c13, c14⟩⟩ := qu_at hrow hlt
      have hbk := hrow.blk hlt
      have HXI := hide ((HIN.out.kid _ (List.getElem_mem hlt)).mono HBW.out)
      have HWK := hide (Nat.le_trans (Qu.wt_kid (List.getElem_mem hlt)) hwt)
      have HIH := hide (IH.out _ (List.getElem_mem hlt))
      have HST := hide (Qu.deps_take hlt)
      generalize Qu.deps (q.kids.take k) = V at *
      clear hrow
      generalize q.kids[k] = x at *
      go_wp2_with (go_at_call 17; refine (HIH.out _ (HXI.out.mono (belA _)) HWK.out).mono ?_; rintro r w2 ⟨rfl, hb2⟩; have HB2 := hide (bel_trans (belA _) hb2); clear hb2)
      go_roundw
      case rel => exact ⟨k + 1, by omega, by go_num, val_eq (by rw [HST.out]; exact max_val _ _), bel_trans HBW.out HB2.out⟩
      case measure => simp [intOf]; omega
    · have hlti : ¬ (k : Int) < q.kids.length := by omega
      have HE := hide (show q.dep = Qu.deps (q.kids.take k) + 1 by rw [show k = q.kids.length by omega, List.take_length, Qu.dep_eq])
      have hsm : (Qu.deps (q.kids.take k)) + 1 ≤ 1048576 := by rw [← HE.out]; exact HDL.out
      go_wp2
      go_ret
      refine ⟨ret1 ?_, (belA _).trans (HBW.out.mono (by simp))⟩
      rw [HE.out]; omega

set_option maxRecDepth 100000 in
set_option maxHeartbeats 4000000 in
theorem rdep_any {w0 : World} {q : Qu} (h0 : q.In w0) : ∀ (w : World), q.In w → q.wt ≤ 1048576 →
    Calls Tryd.prog 39 #[.agg #[.int .i64 q.op, .string q.table, .int .i64 q.kind, .bool q.all, .int .i64 q.cond.op, .int .i64 q.cond.typ, .int .i64 q.cond.num, .string q.cond.text, .int .i64 q.cond.col, .slice q.cond.kh.ao q.cond.kids.length q.cond.kh.cap, .slice q.eh.ao q.exprs.length q.eh.cap, .slice q.ah.ao q.aggs.length q.ah.cap, .slice q.types.h.ao q.types.l.length q.types.h.cap, .slice q.rh.ao q.rows.length q.rh.cap, .slice q.qh.ao q.kids.length q.qh.cap]] w fun r w' => r = .returned (.int .i64 (q.dep : Nat)) ∧ Below w.heap.size w w' := by
  induction h0 with
  | mk q _ _ _ ih =>
  intro w hin hwt
  have IH := hide ih
  clear ih
  have l1 := hin.row.len
  have HDL := hide (Nat.le_trans (Qu.dep_le q) hwt)
  have HIN := hide (hin.mono (belA (.cells #[.int .i64 q.op, .string q.table, .int .i64 q.kind, .bool q.all, .int .i64 q.cond.op, .int .i64 q.cond.typ, .int .i64 q.cond.num, .string q.cond.text, .int .i64 q.cond.col, .slice q.cond.kh.ao q.cond.kids.length q.cond.kh.cap, .slice q.eh.ao q.exprs.length q.eh.cap, .slice q.ah.ao q.aggs.length q.ah.cap, .slice q.types.h.ao q.types.l.length q.types.h.cap, .slice q.rh.ao q.rows.length q.rh.cap, .slice q.qh.ao q.kids.length q.qh.cap] 57)))
  clear hin
  go_enter Tryd.func39, Tryd.ntmps39
  go_wp2
  go_loopw [3, 4] (fun v i wr => ∃ k : Nat, k ≤ q.kids.length ∧ i = .int .i64 k ∧ v = .int .i64 ((Qu.deps (q.kids.take k) : Nat) : Int) ∧ Below (w.alloc (.cells #[.int .i64 q.op, .string q.table, .int .i64 q.kind, .bool q.all, .int .i64 q.cond.op, .int .i64 q.cond.typ, .int .i64 q.cond.num, .string q.cond.text, .int .i64 q.cond.col, .slice q.cond.kh.ao q.cond.kids.length q.cond.kh.cap, .slice q.eh.ao q.exprs.length q.eh.cap, .slice q.ah.ao q.aggs.length q.ah.cap, .slice q.types.h.ao q.types.l.length q.types.h.cap, .slice q.rh.ao q.rows.length q.rh.cap, .slice q.qh.ao q.kids.length q.qh.cap] 57)).heap.size (w.alloc (.cells #[.int .i64 q.op, .string q.table, .int .i64 q.kind, .bool q.all, .int .i64 q.cond.op, .int .i64 q.cond.typ, .int .i64 q.cond.num, .string q.cond.text, .int .i64 q.cond.col, .slice q.cond.kh.ao q.cond.kids.length q.cond.kh.cap, .slice q.eh.ao q.exprs.length q.eh.cap, .slice q.ah.ao q.aggs.length q.ah.cap, .slice q.types.h.ao q.types.l.length q.types.h.cap, .slice q.rh.ao q.rows.length q.rh.cap, .slice q.qh.ao q.kids.length q.qh.cap] 57)) wr) (fun _ i _ => q.kids.length - (intOf i).toNat)
  case atStart => exact ⟨0, Nat.zero_le _, rfl, val_eq (by simp [Qu.deps]), Below.refl _ _⟩
  case round =>
    obtain ⟨k, hk, rfl, rfl, hbw⟩ := hrel
    have HBW := hide hbw
    clear hbw
    have x14 := box_cell HBW.out (j := 14) rfl
    by_cases hlt : k < q.kids.length
    · have hlti : (k : Int) < q.kids.length := by omega
      have hrow := HIN.out.row.mono HBW.out
      have hix := hrow.ix hlt Tryd.underlying55 sz46
      obtain ⟨⟨c0, c1, c2, c3⟩, ⟨c4, c5, c6, c7, c8, c9⟩, ⟨c10, c11, c12, c13, c14⟩⟩ := qu_at hrow hlt
      have hbk := hrow.blk hlt
      have HXI := hide ((HIN.out.kid _ (List.getElem_mem hlt)).mono HBW.out)
      have HWK := hide (Nat.le_trans (Qu.wt_kid (List.getElem_mem hlt)) hwt)
      have HIH := hide (IH.out _ (List.getElem_mem hlt))
      have HST := hide (Qu.deps_take hlt)
      generalize Qu.deps (q.kids.take k) = V at *
      clear hrow
      generalize q.kids[k] = x at *
      go_wp2_with (go_at_call 39; refine (HIH.out _ HXI.out HWK.out).mono ?_; rintro r w2 ⟨rfl, hb2⟩; have HB2 := hide hb2; clear hb2)
      go_roundw
      case rel => exact ⟨k + 1, by omega, by go_num, val_eq (by rw [HST.out]; exact max_val _ _), bel_trans HBW.out HB2.out⟩
      case measure => simp [intOf]; omega
    · have hlti : ¬ (k : Int) < q.kids.length := by omega
      have HE := hide (show q.dep = Qu.deps (q.kids.take k) + 1 by rw [show k = q.kids.length by omega, List.take_length, Qu.dep_eq])
      have hsm : (Qu.deps (q.kids.take k)) + 1 ≤ 1048576 := by rw [← HE.out]; exact HDL.out
      go_wp2
      go_ret
      refine ⟨ret1 ?_, (belA _).trans (HBW.out.mono (by simp))⟩
      rw [HE.out]; omega
end Go.Proofs.YtmnbhdhgjbgidaaDoor

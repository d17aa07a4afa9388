/- algebra.Size: the size of a query, as an int (modulo 2^64). -/
import Derived.Test.YtmnbhdhgjbgidaaDoorASize
namespace Go.Proofs.YtmnbhdhgjbgidaaDoor
open Go.RowKit

mutual
/-- What of a query is counted: its expressions, its aggregates, its kids. -/
def Qu.wt : Qu → Nat
  | ⟨_, _, _, _, _, _, exprs, _, aggs, _, _, _, _, kids⟩ => 1 + exprs.length + aggs.length + Qu.wts kids
def Qu.wts : List Qu → Nat
  | [] => 0
  | k :: r => Qu.wt k + Qu.wts r
end
theorem Qu.wt_eq (q : Qu) : q.wt = 1 + q.exprs.length + q.aggs.length + Qu.wts q.kids := by cases q; rw [Qu.wt]
theorem Qu.wts_mem {l : List Qu} {x : Qu} (h : x ∈ l) : x.wt ≤ Qu.wts l := by
  induction l with
  | nil => cases h
  | cons a l ih =>
    rw [Qu.wts]
    rcases List.mem_cons.1 h with rfl | h
    · omega
    · have := ih h; omega
theorem Qu.wt_kid {q x : Qu} (h : x ∈ q.kids) : x.wt ≤ q.wt := by have := Qu.wts_mem h; rw [Qu.wt_eq q]; omega

set_option maxRecDepth 100000 in
set_option maxHeartbeats 4000000 in
theorem aqsize_any {w0 : World} {q : Qu} (h0 : q.In w0) : ∀ (w : World), q.In w → q.wt ≤ 1048576 →
    Calls Tryd.prog 36 #[.agg #[.int .i64 q.op, .string q.table, .int .i64 q.kind, .bool q.all, .int .i64 q.cond.op, .int .i64 q.cond.typ, .int .i64 q.cond.num, .string q.cond.text, .int .i64 q.cond.col, .slice q.cond.kh.ao q.cond.kids.length q.cond.kh.cap, .slice q.eh.ao q.exprs.length q.eh.cap, .slice q.ah.ao q.aggs.length q.ah.cap, .slice q.types.h.ao q.types.l.length q.types.h.cap, .slice q.rh.ao q.rows.length q.rh.cap, .slice q.qh.ao q.kids.length q.qh.cap]] w fun r w' => r = .returned (.int .i64 (wrap64 (q.size : Int))) ∧ Below w.heap.size w w' := by
  induction h0 with
  | mk q _ _ _ ih =>
  intro w hin hwt
  have IH := hide ih
  clear ih
  have hwe := Qu.wt_eq q
  have l1 := hin.row.len
  have l5 := hin.flat.rr.len
  have HIN := hide (hin.mono (belA (.cells #[.int .i64 q.op, .string q.table, .int .i64 q.kind, .bool q.all, .int .i64 q.cond.op, .int .i64 q.cond.typ, .int .i64 q.cond.num, .string q.cond.text, .int .i64 q.cond.col, .slice q.cond.kh.ao q.cond.kids.length q.cond.kh.cap, .slice q.eh.ao q.exprs.length q.eh.cap, .slice q.ah.ao q.aggs.length q.ah.cap, .slice q.types.h.ao q.types.l.length q.types.h.cap, .slice q.rh.ao q.rows.length q.rh.cap, .slice q.qh.ao q.kids.length q.qh.cap] 57)))
  clear hin
  go_enter Tryd.func36, Tryd.ntmps36
  go_wp2_with (go_at_call 58; refine (exprs_any _ HIN.out (by omega) (by omega)).mono ?_; rintro r w1 ⟨⟨hd, rfl, hrow⟩, hb1⟩; have HB1 := hide hb1; have HR1 := hide hrow; have HX1 := hide (fun e he => (qex_in HIN.out e he).mono hb1); have l2 := hrow.len; clear hb1 hrow)
  have hqx := hide (qex_size q)
  go_loopw [3, 13] (fun v i wr => ∃ k : Nat, k ≤ q.qex.length ∧ i = .int .i64 k ∧ v = .int .i64 (wrap64 ((1 + Ex.sizes (q.qex.take k) : Nat) : Int)) ∧ Below w1.heap.size w1 wr) (fun _ i _ => q.qex.length - (intOf i).toNat)
  case atStart => exact ⟨0, Nat.zero_le _, rfl, val_eq (by simp [Ex.sizes, wrap64]), Below.refl _ _⟩
  case round =>
    obtain ⟨k, hk, rfl, rfl, hbw⟩ := hrel
    have HB := hide hbw
    have HBX := hide (bel_trans HB1.out hbw)
    have hrow := HR1.out.mono hbw
    clear hbw
    generalize hV : wrap64 ((1 + Ex.sizes (q.qex.take k) : Nat) : Int) = V
    have HV := hide hV
    clear hV
    by_cases hlt : k < q.qex.length
    · have hlti : (k : Int) < q.qex.length := by omega
      have hix := hrow.ix hlt Tryd.underlying37 sz41
      obtain ⟨c0, c1, c2, c3, c4, c5⟩ := ex_at hrow hlt
      have HXI := hide ((HX1.out _ (List.getElem_mem hlt)).mono HB.out)
      have hbk := hrow.blk hlt
      clear hrow
      go_wp2_with (go_at_call 59; refine (esize_any HXI.out _ (HXI.out.mono (belA _))).mono ?_; rintro r w2 ⟨rfl, hb2⟩; have HB2 := hide (bel_trans (belA _) hb2); clear hb2)
      go_roundw
      case rel =>
        refine ⟨k + 1, by omega, by go_num, val_eq ?_, bel_trans HB.out HB2.out⟩
        rw [← HV.out, wrap_add, Ex.sizes_take hlt]
        congr 1
        omega
      case measure => simp [intOf]; omega
    · have hlti : ¬ (k : Int) < q.qex.length := by omega
      have HV2 := hide (show wrap64 ((1 + q.csz + q.esz + q.asz : Nat) : Int) = V by rw [← HV.out, show k = q.qex.length by omega, List.take_length, hqx.out]; congr 2; omega)
      have HXX := HBX
      have x8 := box_cell HBX.out (j := 13) rfl
      clear HV HB HXX
      go_wp2
      clear x8
      go_loopw [3, 25] (fun v i wr => ∃ k : Nat, k ≤ q.rows.length ∧ i = .int .i64 k ∧ v = .int .i64 (wrap64 ((1 + q.csz + q.esz + q.asz + ((q.rows.take k).map rsize).sum : Nat) : Int)) ∧ Below (w.alloc (.cells #[.int .i64 q.op, .string q.table, .int .i64 q.kind, .bool q.all, .int .i64 q.cond.op, .int .i64 q.cond.typ, .int .i64 q.cond.num, .string q.cond.text, .int .i64 q.cond.col, .slice q.cond.kh.ao q.cond.kids.length q.cond.kh.cap, .slice q.eh.ao q.exprs.length q.eh.cap, .slice q.ah.ao q.aggs.length q.ah.cap, .slice q.types.h.ao q.types.l.length q.types.h.cap, .slice q.rh.ao q.rows.length q.rh.cap, .slice q.qh.ao q.kids.length q.qh.cap] 57)).heap.size (w.alloc (.cells #[.int .i64 q.op, .string q.table, .int .i64 q.kind, .bool q.all, .int .i64 q.cond.op, .int .i64 q.cond.typ, .int .i64 q.cond.num, .string q.cond.text, .int .i64 q.cond.col, .slice q.cond.kh.ao q.cond.kids.length q.cond.kh.cap, .slice q.eh.ao q.exprs.length q.eh.cap, .slice q.ah.ao q.aggs.length q.ah.cap, .slice q.types.h.ao q.types.l.length q.types.h.cap, .slice q.rh.ao q.rows.length q.rh.cap, .slice q.qh.ao q.kids.length q.qh.cap] 57)) wr) (fun _ i _ => q.rows.length - (intOf i).toNat)
      case atStart => exact ⟨0, Nat.zero_le _, rfl, val_eq (by rw [← HV2.out]; simp), HBX.out⟩
      case round =>
        clear HBX HV2 hrow
        obtain ⟨k, hk, rfl, rfl, hbw⟩ := hrel
        have HBW := hide hbw
        clear hbw
        generalize hV : wrap64 ((1 + q.csz + q.esz + q.asz + ((q.rows.take k).map rsize).sum : Nat) : Int) = V
        have HV := hide hV
        clear hV
        by_cases hlt : k < q.rows.length
        · have hlti : (k : Int) < q.rows.length := by omega
          have hrow := HIN.out.flat.rr.mono HBW.out
          have hix := hrow.ix hlt Tryd.underlying54 sz69
          have c0 := vl_at hrow hlt
          have HS := hide (sum_take rsize hlt)
          clear hrow
          go_wp2
          go_roundw
          case rel =>
            refine ⟨k + 1, by omega, by go_num, val_eq ?_, HBW.out⟩
            rw [← HV.out, wrap_add1, HS.out]
            simp only [rsize]
            congr 1
            omega
          case measure => simp [intOf]; omega
        · have hlti : ¬ (k : Int) < q.rows.length := by omega
          have HV2 := hide (show wrap64 ((1 + q.csz + q.esz + q.asz + (q.rows.map rsize).sum : Nat) : Int) = V by rw [← HV.out, show k = q.rows.length by omega, List.take_length])
          have x9 := box_cell HBW.out (j := 14) rfl
          clear HV
          go_wp2
          clear x9
          go_loopw [3, 37] (fun v i wr => ∃ k : Nat, k ≤ q.kids.length ∧ i = .int .i64 k ∧ v = .int .i64 (wrap64 ((1 + q.csz + q.esz + q.asz + (q.rows.map rsize).sum + Qu.sizes (q.kids.take k) : Nat) : Int)) ∧ Below (w.alloc (.cells #[.int .i64 q.op, .string q.table, .int .i64 q.kind, .bool q.all, .int .i64 q.cond.op, .int .i64 q.cond.typ, .int .i64 q.cond.num, .string q.cond.text, .int .i64 q.cond.col, .slice q.cond.kh.ao q.cond.kids.length q.cond.kh.cap, .slice q.eh.ao q.exprs.length q.eh.cap, .slice q.ah.ao q.aggs.length q.ah.cap, .slice q.types.h.ao q.types.l.length q.types.h.cap, .slice q.rh.ao q.rows.length q.rh.cap, .slice q.qh.ao q.kids.length q.qh.cap] 57)).heap.size (w.alloc (.cells #[.int .i64 q.op, .string q.table, .int .i64 q.kind, .bool q.all, .int .i64 q.cond.op, .int .i64 q.cond.typ, .int .i64 q.cond.num, .string q.cond.text, .int .i64 q.cond.col, .slice q.cond.kh.ao q.cond.kids.length q.cond.kh.cap, .slice q.eh.ao q.exprs.length q.eh.cap, .slice q.ah.ao q.aggs.length q.ah.cap, .slice q.types.h.ao q.types.l.length q.types.h.cap, .slice q.rh.ao q.rows.length q.rh.cap, .slice q.qh.ao q.kids.length q.qh.cap] 57)) wr) (fun _ i _ => q.kids.length - (intOf i).toNat)
          case atStart => exact ⟨0, Nat.zero_le _, rfl, val_eq (by rw [← HV2.out]; simp [Qu.sizes]), HBW.out⟩
          case round =>
            clear HBW HV2
            obtain ⟨k, hk, rfl, rfl, hbw⟩ := hrel
            have HBW := hide hbw
            clear hbw
            generalize hV : wrap64 ((1 + q.csz + q.esz + q.asz + (q.rows.map rsize).sum + Qu.sizes (q.kids.take k) : Nat) : Int) = V
            have HV := hide hV
            clear hV
            by_cases hlt : k < q.kids.length
            · have hlti : (k : Int) < q.kids.length := by omega
              have hrow := HIN.out.row.mono HBW.out
              have hix := hrow.ix hlt Tryd.underlying55 sz46
              obtain ⟨⟨c0, c1, c2, c3⟩, ⟨c4, c5, c6, c7, c8, c9⟩, ⟨c10, c11, c12, c13, c14⟩⟩ := qu_at hrow hlt
              have hbk := hrow.blk hlt
              have HXI := hide ((HIN.out.kid _ (List.getElem_mem hlt)).mono HBW.out)
              have HWK := hide (Nat.le_trans (Qu.wt_kid (List.getElem_mem hlt)) hwt)
              have HIH := hide (IH.out _ (List.getElem_mem hlt))
              have HST := hide (Qu.sizes_take hlt)
              clear hrow
              generalize q.kids[k] = x at *
              go_wp2_with (go_at_call 36; refine (HIH.out _ (HXI.out.mono (belA _)) HWK.out).mono ?_; rintro r w2 ⟨rfl, hb2⟩; have HB2 := hide (bel_trans (belA _) hb2); clear hb2)
              go_roundw
              case rel =>
                refine ⟨k + 1, by omega, by go_num, val_eq ?_, bel_trans HBW.out HB2.out⟩
                rw [← HV.out, wrap_add, HST.out]
                congr 1
                omega
              case measure => simp [intOf]; omega
            · have hlti : ¬ (k : Int) < q.kids.length := by omega
              go_wp2
              go_ret
              refine ⟨ret1 ?_, (belA _).trans (HBW.out.mono (by simp))⟩
              rw [← HV.out, show k = q.kids.length by omega, List.take_length, Qu.size_eq]
end Go.Proofs.YtmnbhdhgjbgidaaDoor

/- law04.few: whether a query is small; what is said: it returns a bool. -/
import Derived.Test.YtmnbhdhgjbgidaaSameQ
namespace Go.Proofs.Ytmnbhdhgjbgidaa
open Go.RowKit

set_option maxRecDepth 100000 in
set_option maxHeartbeats 4000000 in
theorem qfew_any {w0 : World} {q : Qu} (h0 : q.In w0) : ∀ (w : World) (d : Int), q.In w → 0 ≤ d → d ≤ 41 →
    Calls Try.prog 38 #[.agg #[.int .i64 q.op, .string q.table, .int .i64 q.kind, .bool q.all, .int .i64 q.cond.op, .int .i64 q.cond.typ, .int .i64 q.cond.num, .string q.cond.text, .int .i64 q.cond.col, .slice q.cond.kh.ao q.cond.kids.length q.cond.kh.cap, .slice q.eh.ao q.exprs.length q.eh.cap, .slice q.ah.ao q.aggs.length q.ah.cap, .slice q.types.h.ao q.types.l.length q.types.h.cap, .slice q.rh.ao q.rows.length q.rh.cap, .slice q.qh.ao q.kids.length q.qh.cap], .int .i64 d] w fun r w' => BoolPost True r ∧ Below w.heap.size w w' := by
  induction h0 with
  | mk q _ _ _ ih =>
  intro w d hin hd0 hd1
  have IH := hide ih
  clear ih
  have l1 := hin.row.len
  have l2 := hin.flat.re.len
  have l3 := hin.flat.ra.len
  have l4 := hin.flat.ty.1.len
  have l5 := hin.flat.rr.len
  by_cases t0 : 40 < d
  · go_enter Try.func38, Try.ntmps38
    go_wp2
    go_ret
    exact ⟨bp_false, belA _⟩
  by_cases t1 : 4 < (q.kids.length : Int)
  · go_enter Try.func38, Try.ntmps38
    go_wp2
    go_ret
    exact ⟨bp_false, belA _⟩
  by_cases t2 : 40 < (q.exprs.length : Int)
  · go_enter Try.func38, Try.ntmps38
    go_wp2
    go_ret
    exact ⟨bp_false, belA _⟩
  by_cases t3 : 40 < (q.aggs.length : Int)
  · go_enter Try.func38, Try.ntmps38
    go_wp2
    go_ret
    exact ⟨bp_false, belA _⟩
  by_cases t4 : 40 < (q.types.l.length : Int)
  · go_enter Try.func38, Try.ntmps38
    go_wp2
    go_ret
    exact ⟨bp_false, belA _⟩
  by_cases t5 : 40 < (q.rows.length : Int)
  · go_enter Try.func38, Try.ntmps38
    go_wp2
    go_ret
    exact ⟨bp_false, belA _⟩
  have HIN := hide (hin.mono (belA (.cells #[.int .i64 q.op, .string q.table, .int .i64 q.kind, .bool q.all, .int .i64 q.cond.op, .int .i64 q.cond.typ, .int .i64 q.cond.num, .string q.cond.text, .int .i64 q.cond.col, .slice q.cond.kh.ao q.cond.kids.length q.cond.kh.cap, .slice q.eh.ao q.exprs.length q.eh.cap, .slice q.ah.ao q.aggs.length q.ah.cap, .slice q.types.h.ao q.types.l.length q.types.h.cap, .slice q.rh.ao q.rows.length q.rh.cap, .slice q.qh.ao q.kids.length q.qh.cap] 46)))
  clear hin
  go_enter Try.func38, Try.ntmps38
  go_wp2_with (go_at_call 33; refine (eFew_any q.cond _ HIN.out.flat.cd).mono ?_; rintro r w1 ⟨⟨b, rfl, -⟩, hb1⟩; have HB1 := hide hb1; obtain ⟨g1, _⟩ := bcell hb1; clear hb1; cases b)
  · go_ret
    exact ⟨bp_false, bel1 HB1.out⟩
  clear g1
  go_loopw [5] (fun i wr => ∃ k : Nat, k ≤ q.exprs.length ∧ i = .int .i64 k ∧ Below (w.heap.size + 1) (w.alloc (.cells #[.int .i64 q.op, .string q.table, .int .i64 q.kind, .bool q.all, .int .i64 q.cond.op, .int .i64 q.cond.typ, .int .i64 q.cond.num, .string q.cond.text, .int .i64 q.cond.col, .slice q.cond.kh.ao q.cond.kids.length q.cond.kh.cap, .slice q.eh.ao q.exprs.length q.eh.cap, .slice q.ah.ao q.aggs.length q.ah.cap, .slice q.types.h.ao q.types.l.length q.types.h.cap, .slice q.rh.ao q.rows.length q.rh.cap, .slice q.qh.ao q.kids.length q.qh.cap] 46)) wr) (fun i _ => q.exprs.length - (intOf i).toNat)
  case atStart => exact ⟨0, Nat.zero_le _, rfl, HB1.out.mono (by simp)⟩
  case round =>
    obtain ⟨k, hk, rfl, hbw0⟩ := hrel
    have HBW := hide (show Below (w.alloc (.cells #[.int .i64 q.op, .string q.table, .int .i64 q.kind, .bool q.all, .int .i64 q.cond.op, .int .i64 q.cond.typ, .int .i64 q.cond.num, .string q.cond.text, .int .i64 q.cond.col, .slice q.cond.kh.ao q.cond.kids.length q.cond.kh.cap, .slice q.eh.ao q.exprs.length q.eh.cap, .slice q.ah.ao q.aggs.length q.ah.cap, .slice q.types.h.ao q.types.l.length q.types.h.cap, .slice q.rh.ao q.rows.length q.rh.cap, .slice q.qh.ao q.kids.length q.qh.cap] 46)).heap.size (w.alloc (.cells #[.int .i64 q.op, .string q.table, .int .i64 q.kind, .bool q.all, .int .i64 q.cond.op, .int .i64 q.cond.typ, .int .i64 q.cond.num, .string q.cond.text, .int .i64 q.cond.col, .slice q.cond.kh.ao q.cond.kids.length q.cond.kh.cap, .slice q.eh.ao q.exprs.length q.eh.cap, .slice q.ah.ao q.aggs.length q.ah.cap, .slice q.types.h.ao q.types.l.length q.types.h.cap, .slice q.rh.ao q.rows.length q.rh.cap, .slice q.qh.ao q.kids.length q.qh.cap] 46)) wr from hbw0.mono (by simp))
    clear hbw0
    have x10 := box_cell HBW.out (j := 10) rfl
    have x11 := box_cell HBW.out (j := 11) rfl
    have x13 := box_cell HBW.out (j := 13) rfl
    have x14 := box_cell HBW.out (j := 14) rfl
    by_cases hlt : k < q.exprs.length
    · have hrow := HIN.out.flat.re.mono HBW.out
      have hix := hrow.ix hlt Try.underlying34 sz41
      obtain ⟨c0, c1, c2, c3, c4, c5⟩ := ex_at hrow hlt
      have HXI := hide ((HIN.out.flat.es _ (List.getElem_mem hlt)).mono HBW.out)
      clear hrow x11 x13 x14
      go_wp2_with (go_at_call 33; refine (eFew_any q.exprs[k] _ HXI.out).mono ?_; rintro r w1 ⟨⟨b, rfl, -⟩, hb1⟩; have HB1 := hide hb1; clear hb1; cases b)
      · go_ret
        exact ⟨bp_false, bel1 (bel_trans HBW.out HB1.out)⟩
      · go_roundw
        case rel => exact ⟨k + 1, by omega, by go_num, (bel_trans HBW.out HB1.out).mono (by simp)⟩
        case measure => simp [intOf]; omega
    · obtain ⟨wo1, rfl⟩ : ∃ W : World, W = wr := ⟨_, rfl⟩
      have HB2 := HBW
      clear HBW
      go_wp2
      clear x10 x11 x13 x14
      go_loopw [6] (fun i wr => ∃ k : Nat, k ≤ q.aggs.length ∧ i = .int .i64 k ∧ Below (w.heap.size + 1) (w.alloc (.cells #[.int .i64 q.op, .string q.table, .int .i64 q.kind, .bool q.all, .int .i64 q.cond.op, .int .i64 q.cond.typ, .int .i64 q.cond.num, .string q.cond.text, .int .i64 q.cond.col, .slice q.cond.kh.ao q.cond.kids.length q.cond.kh.cap, .slice q.eh.ao q.exprs.length q.eh.cap, .slice q.ah.ao q.aggs.length q.ah.cap, .slice q.types.h.ao q.types.l.length q.types.h.cap, .slice q.rh.ao q.rows.length q.rh.cap, .slice q.qh.ao q.kids.length q.qh.cap] 46)) wr) (fun i _ => q.aggs.length - (intOf i).toNat)
      case atStart => exact ⟨0, Nat.zero_le _, rfl, HB2.out.mono (by simp)⟩
      case round =>
        obtain ⟨k, hk, rfl, hbw0⟩ := hrel
        have HBW := hide (show Below (w.alloc (.cells #[.int .i64 q.op, .string q.table, .int .i64 q.kind, .bool q.all, .int .i64 q.cond.op, .int .i64 q.cond.typ, .int .i64 q.cond.num, .string q.cond.text, .int .i64 q.cond.col, .slice q.cond.kh.ao q.cond.kids.length q.cond.kh.cap, .slice q.eh.ao q.exprs.length q.eh.cap, .slice q.ah.ao q.aggs.length q.ah.cap, .slice q.types.h.ao q.types.l.length q.types.h.cap, .slice q.rh.ao q.rows.length q.rh.cap, .slice q.qh.ao q.kids.length q.qh.cap] 46)).heap.size (w.alloc (.cells #[.int .i64 q.op, .string q.table, .int .i64 q.kind, .bool q.all, .int .i64 q.cond.op, .int .i64 q.cond.typ, .int .i64 q.cond.num, .string q.cond.text, .int .i64 q.cond.col, .slice q.cond.kh.ao q.cond.kids.length q.cond.kh.cap, .slice q.eh.ao q.exprs.length q.eh.cap, .slice q.ah.ao q.aggs.length q.ah.cap, .slice q.types.h.ao q.types.l.length q.types.h.cap, .slice q.rh.ao q.rows.length q.rh.cap, .slice q.qh.ao q.kids.length q.qh.cap] 46)) wr from hbw0.mono (by simp))
        clear hbw0
        have x11 := box_cell HBW.out (j := 11) rfl
        have x13 := box_cell HBW.out (j := 13) rfl
        have x14 := box_cell HBW.out (j := 14) rfl
        by_cases hlt : k < q.aggs.length
        · have hrow := HIN.out.flat.ra.mono HBW.out
          have hix := hrow.ix hlt Try.underlying42 sz74
          obtain ⟨c0, c1, c2, c3, c4, c5, c6⟩ := agg_at hrow hlt
          have HXI := hide (Agg.In.mono (HIN.out.flat.as _ (List.getElem_mem hlt)) HBW.out)
          clear hrow x13 x14
          go_wp2_with (go_at_call 33; refine (eFew_any q.aggs[k].arg _ HXI.out.2).mono ?_; rintro r w1 ⟨⟨b, rfl, -⟩, hb1⟩; have HB1 := hide hb1; clear hb1; cases b)
          · go_ret
            exact ⟨bp_false, bel1 (bel_trans HBW.out HB1.out)⟩
          · go_roundw
            case rel => exact ⟨k + 1, by omega, by go_num, (bel_trans HBW.out HB1.out).mono (by simp)⟩
            case measure => simp [intOf]; omega
        · obtain ⟨wo2, rfl⟩ : ∃ W : World, W = wr := ⟨_, rfl⟩
          have HB3 := HBW
          clear HBW
          go_wp2
          clear x11 x13 x14
          go_loopw [7] (fun i wr => ∃ k : Nat, k ≤ q.rows.length ∧ i = .int .i64 k ∧ Below (w.heap.size + 1) (w.alloc (.cells #[.int .i64 q.op, .string q.table, .int .i64 q.kind, .bool q.all, .int .i64 q.cond.op, .int .i64 q.cond.typ, .int .i64 q.cond.num, .string q.cond.text, .int .i64 q.cond.col, .slice q.cond.kh.ao q.cond.kids.length q.cond.kh.cap, .slice q.eh.ao q.exprs.length q.eh.cap, .slice q.ah.ao q.aggs.length q.ah.cap, .slice q.types.h.ao q.types.l.length q.types.h.cap, .slice q.rh.ao q.rows.length q.rh.cap, .slice q.qh.ao q.kids.length q.qh.cap] 46)) wr) (fun i _ => q.rows.length - (intOf i).toNat)
          case atStart => exact ⟨0, Nat.zero_le _, rfl, HB3.out.mono (by simp)⟩
          case round =>
            obtain ⟨k, hk, rfl, hbw0⟩ := hrel
            have HBW := hide (show Below (w.alloc (.cells #[.int .i64 q.op, .string q.table, .int .i64 q.kind, .bool q.all, .int .i64 q.cond.op, .int .i64 q.cond.typ, .int .i64 q.cond.num, .string q.cond.text, .int .i64 q.cond.col, .slice q.cond.kh.ao q.cond.kids.length q.cond.kh.cap, .slice q.eh.ao q.exprs.length q.eh.cap, .slice q.ah.ao q.aggs.length q.ah.cap, .slice q.types.h.ao q.types.l.length q.types.h.cap, .slice q.rh.ao q.rows.length q.rh.cap, .slice q.qh.ao q.kids.length q.qh.cap] 46)).heap.size (w.alloc (.cells #[.int .i64 q.op, .string q.table, .int .i64 q.kind, .bool q.all, .int .i64 q.cond.op, .int .i64 q.cond.typ, .int .i64 q.cond.num, .string q.cond.text, .int .i64 q.cond.col, .slice q.cond.kh.ao q.cond.kids.length q.cond.kh.cap, .slice q.eh.ao q.exprs.length q.eh.cap, .slice q.ah.ao q.aggs.length q.ah.cap, .slice q.types.h.ao q.types.l.length q.types.h.cap, .slice q.rh.ao q.rows.length q.rh.cap, .slice q.qh.ao q.kids.length q.qh.cap] 46)) wr from hbw0.mono (by simp))
            clear hbw0
            have x13 := box_cell HBW.out (j := 13) rfl
            have x14 := box_cell HBW.out (j := 14) rfl
            by_cases hlt : k < q.rows.length
            · have hrow := HIN.out.flat.rr.mono HBW.out
              have hix := hrow.ix hlt Try.underlying43 sz69
              simp only [Nat.mul_one] at hix
              have c0 := vl_at hrow hlt
              have hl := (HIN.out.flat.rs _ (List.getElem_mem hlt)).1.len
              clear hrow
              by_cases g7 : 40 < (q.rows[k].l.length : Int)
              · go_wp2
                go_ret
                exact ⟨bp_false, bel1 HBW.out⟩
              · go_wp2
                go_roundw
                case rel => exact ⟨k + 1, by omega, by go_num, HBW.out.mono (by simp)⟩
                case measure => simp [intOf]; omega
            · obtain ⟨wo3, rfl⟩ : ∃ W : World, W = wr := ⟨_, rfl⟩
              have HB4 := HBW
              clear HBW
              go_wp2
              clear x13 x14
              go_loopw [8] (fun i wr => ∃ k : Nat, k ≤ q.kids.length ∧ i = .int .i64 k ∧ Below (w.heap.size + 1) (w.alloc (.cells #[.int .i64 q.op, .string q.table, .int .i64 q.kind, .bool q.all, .int .i64 q.cond.op, .int .i64 q.cond.typ, .int .i64 q.cond.num, .string q.cond.text, .int .i64 q.cond.col, .slice q.cond.kh.ao q.cond.kids.length q.cond.kh.cap, .slice q.eh.ao q.exprs.length q.eh.cap, .slice q.ah.ao q.aggs.length q.ah.cap, .slice q.types.h.ao q.types.l.length q.types.h.cap, .slice q.rh.ao q.rows.length q.rh.cap, .slice q.qh.ao q.kids.length q.qh.cap] 46)) wr) (fun i _ => q.kids.length - (intOf i).toNat)
              case atStart => exact ⟨0, Nat.zero_le _, rfl, HB4.out.mono (by simp)⟩
              case round =>
                obtain ⟨k, hk, rfl, hbw0⟩ := hrel
                have HBW := hide (show Below (w.alloc (.cells #[.int .i64 q.op, .string q.table, .int .i64 q.kind, .bool q.all, .int .i64 q.cond.op, .int .i64 q.cond.typ, .int .i64 q.cond.num, .string q.cond.text, .int .i64 q.cond.col, .slice q.cond.kh.ao q.cond.kids.length q.cond.kh.cap, .slice q.eh.ao q.exprs.length q.eh.cap, .slice q.ah.ao q.aggs.length q.ah.cap, .slice q.types.h.ao q.types.l.length q.types.h.cap, .slice q.rh.ao q.rows.length q.rh.cap, .slice q.qh.ao q.kids.length q.qh.cap] 46)).heap.size (w.alloc (.cells #[.int .i64 q.op, .string q.table, .int .i64 q.kind, .bool q.all, .int .i64 q.cond.op, .int .i64 q.cond.typ, .int .i64 q.cond.num, .string q.cond.text, .int .i64 q.cond.col, .slice q.cond.kh.ao q.cond.kids.length q.cond.kh.cap, .slice q.eh.ao q.exprs.length q.eh.cap, .slice q.ah.ao q.aggs.length q.ah.cap, .slice q.types.h.ao q.types.l.length q.types.h.cap, .slice q.rh.ao q.rows.length q.rh.cap, .slice q.qh.ao q.kids.length q.qh.cap] 46)) wr from hbw0.mono (by simp))
                clear hbw0
                have x14 := box_cell HBW.out (j := 14) rfl
                by_cases hlt : k < q.kids.length
                · have hrow := HIN.out.row.mono HBW.out
                  have hix := hrow.ix hlt Try.underlying44 sz46
                  obtain ⟨⟨c0, c1, c2, c3⟩, ⟨c4, c5, c6, c7, c8, c9⟩, c10, c11, c12, c13, c14⟩ := qu_at hrow hlt
                  have HXI := hide ((HIN.out.kid _ (List.getElem_mem hlt)).mono HBW.out)
                  have HXA := hide (IH.out _ (List.getElem_mem hlt))
                  clear hrow
                  go_wp2_with (go_at_call 38; refine (HXA.out _ _ HXI.out (by omega) (by omega)).mono ?_; rintro r w1 ⟨⟨b, rfl, -⟩, hb1⟩; have HB1 := hide hb1; clear hb1; cases b)
                  · go_ret
                    exact ⟨bp_false, bel1 (bel_trans HBW.out HB1.out)⟩
                  · go_roundw
                    case rel => exact ⟨k + 1, by omega, by go_num, (bel_trans HBW.out HB1.out).mono (by simp)⟩
                    case measure => simp [intOf]; omega
                · go_wp2
                  go_ret
                  exact ⟨bp_true trivial, bel1 HBW.out⟩

end Go.Proofs.Ytmnbhdhgjbgidaa

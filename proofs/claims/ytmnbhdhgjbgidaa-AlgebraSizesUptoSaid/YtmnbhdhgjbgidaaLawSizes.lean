/- law04.Few, and the walk of law04.AlgebraSizes. -/
import Derived.Test.YtmnbhdhgjbgidaaATabs
import Derived.Test.YtmnbhdhgjbgidaaQFew
import Derived.Deep.RegionHeld3
namespace Go.Proofs.Ytmnbhdhgjbgidaa
open Go.RowKit

set_option maxRecDepth 100000 in
set_option maxHeartbeats 400000 in
theorem qFew2_any (q : Qu) (w : World) (hin : q.In w) :
    Calls Try.prog 18 #[.agg #[.int .i64 q.op, .string q.table, .int .i64 q.kind, .bool q.all, .int .i64 q.cond.op, .int .i64 q.cond.typ, .int .i64 q.cond.num, .string q.cond.text, .int .i64 q.cond.col, .slice q.cond.kh.ao q.cond.kids.length q.cond.kh.cap, .slice q.eh.ao q.exprs.length q.eh.cap, .slice q.ah.ao q.aggs.length q.ah.cap, .slice q.types.h.ao q.types.l.length q.types.h.cap, .slice q.rh.ao q.rows.length q.rh.cap, .slice q.qh.ao q.kids.length q.qh.cap]] w fun r w' => BoolPost (wrap64 (q.size : Int) ≤ 1000) r ∧ Below w.heap.size w w' := by
  have H1 := hide (hin.mono (belA (.cells #[.int .i64 q.op, .string q.table, .int .i64 q.kind, .bool q.all, .int .i64 q.cond.op, .int .i64 q.cond.typ, .int .i64 q.cond.num, .string q.cond.text, .int .i64 q.cond.col, .slice q.cond.kh.ao q.cond.kids.length q.cond.kh.cap, .slice q.eh.ao q.exprs.length q.eh.cap, .slice q.ah.ao q.aggs.length q.ah.cap, .slice q.types.h.ao q.types.l.length q.types.h.cap, .slice q.rh.ao q.rows.length q.rh.cap, .slice q.qh.ao q.kids.length q.qh.cap] 46)))
  go_enter Try.func18, Try.ntmps18
  go_wp2_with (first | (go_at_call 38; refine (qfew_any hin _ _ H1.out (by omega) (by omega)).mono ?_; rintro r w1 ⟨⟨b, rfl, -⟩, hb1⟩; have HB1 := hide hb1; obtain ⟨g1, _⟩ := bcell hb1; clear hb1; cases b) | (go_at_call 27; refine (rqsize_any hin _ (H1.out.mono HB1.out)).mono ?_; rintro r w2 ⟨rfl, hb2⟩; have HB2 := hide hb2; clear hb2))
  · go_ret
    exact ⟨bp_false, bel1 HB1.out⟩
  · go_ret
    exact ⟨⟨_, rfl, fun h => of_decide_eq_true h⟩, bel1 (bel_trans HB1.out HB2.out)⟩

set_option maxRecDepth 100000 in
set_option maxHeartbeats 2000000 in
theorem sizes_walk (q : Qu) (w : World) (hin : q.In w) (hwt : q.wt ≤ 1048576) :
    Calls Try.prog 7 #[.agg #[.int .i64 q.op, .string q.table, .int .i64 q.kind, .bool q.all, .int .i64 q.cond.op, .int .i64 q.cond.typ, .int .i64 q.cond.num, .string q.cond.text, .int .i64 q.cond.col, .slice q.cond.kh.ao q.cond.kids.length q.cond.kh.cap, .slice q.eh.ao q.exprs.length q.eh.cap, .slice q.ah.ao q.aggs.length q.ah.cap, .slice q.types.h.ao q.types.l.length q.types.h.cap, .slice q.rh.ao q.rows.length q.rh.cap, .slice q.qh.ao q.kids.length q.qh.cap]] w fun e w' => e = .returned (.bool true) ∧ Below w.heap.size w w' := by
  have HIN := hide (hin.mono (belA (.cells #[.int .i64 q.op, .string q.table, .int .i64 q.kind, .bool q.all, .int .i64 q.cond.op, .int .i64 q.cond.typ, .int .i64 q.cond.num, .string q.cond.text, .int .i64 q.cond.col, .slice q.cond.kh.ao q.cond.kids.length q.cond.kh.cap, .slice q.eh.ao q.exprs.length q.eh.cap, .slice q.ah.ao q.aggs.length q.ah.cap, .slice q.types.h.ao q.types.l.length q.types.h.cap, .slice q.rh.ao q.rows.length q.rh.cap, .slice q.qh.ao q.kids.length q.qh.cap] 46)))
  have HWT := hide hwt
  clear hin hwt
  go_enter Try.func7, Try.ntmps7
  go_wp2_with (go_at_call 18; refine (qFew2_any q _ HIN.out).mono ?_; rintro r w1 ⟨⟨c, rfl, -⟩, hb1⟩; have HB1 := hide hb1; have hs1 := hb1.size; clear hb1; cases c)
  · go_ret
    exact ⟨rfl, bel1 HB1.out⟩
  have HOX := hide (show ∀ w' : World, Below w1.heap.size w1 w' → Below (w.alloc (.cells #[.int .i64 q.op, .string q.table, .int .i64 q.kind, .bool q.all, .int .i64 q.cond.op, .int .i64 q.cond.typ, .int .i64 q.cond.num, .string q.cond.text, .int .i64 q.cond.col, .slice q.cond.kh.ao q.cond.kids.length q.cond.kh.cap, .slice q.eh.ao q.exprs.length q.eh.cap, .slice q.ah.ao q.aggs.length q.ah.cap, .slice q.types.h.ao q.types.l.length q.types.h.cap, .slice q.rh.ao q.rows.length q.rh.cap, .slice q.qh.ao q.kids.length q.qh.cap] 46)).heap.size (w.alloc (.cells #[.int .i64 q.op, .string q.table, .int .i64 q.kind, .bool q.all, .int .i64 q.cond.op, .int .i64 q.cond.typ, .int .i64 q.cond.num, .string q.cond.text, .int .i64 q.cond.col, .slice q.cond.kh.ao q.cond.kids.length q.cond.kh.cap, .slice q.eh.ao q.exprs.length q.eh.cap, .slice q.ah.ao q.aggs.length q.ah.cap, .slice q.types.h.ao q.types.l.length q.types.h.cap, .slice q.rh.ao q.rows.length q.rh.cap, .slice q.qh.ao q.kids.length q.qh.cap] 46)) w' from fun w' h => bel_trans HB1.out h)
  have HI := hide (show ∀ w' : World, Below w1.heap.size w1 w' → q.In w' from fun w' h => HIN.out.mono (HOX.out w' h))
  clear hs1
  obtain ⟨x0, hx0⟩ : ∃ v : Value, v = .int .i64 q.op := ⟨_, rfl⟩
  obtain ⟨x1, hx1⟩ : ∃ v : Value, v = .string q.table := ⟨_, rfl⟩
  obtain ⟨x2, hx2⟩ : ∃ v : Value, v = .int .i64 q.kind := ⟨_, rfl⟩
  obtain ⟨x3, hx3⟩ : ∃ v : Value, v = .bool q.all := ⟨_, rfl⟩
  obtain ⟨x4, hx4⟩ : ∃ v : Value, v = .int .i64 q.cond.op := ⟨_, rfl⟩
  obtain ⟨x5, hx5⟩ : ∃ v : Value, v = .int .i64 q.cond.typ := ⟨_, rfl⟩
  obtain ⟨x6, hx6⟩ : ∃ v : Value, v = .int .i64 q.cond.num := ⟨_, rfl⟩
  obtain ⟨x7, hx7⟩ : ∃ v : Value, v = .string q.cond.text := ⟨_, rfl⟩
  obtain ⟨x8, hx8⟩ : ∃ v : Value, v = .int .i64 q.cond.col := ⟨_, rfl⟩
  obtain ⟨x9, hx9⟩ : ∃ v : Value, v = .slice q.cond.kh.ao q.cond.kids.length q.cond.kh.cap := ⟨_, rfl⟩
  obtain ⟨x10, hx10⟩ : ∃ v : Value, v = .slice q.eh.ao q.exprs.length q.eh.cap := ⟨_, rfl⟩
  obtain ⟨x11, hx11⟩ : ∃ v : Value, v = .slice q.ah.ao q.aggs.length q.ah.cap := ⟨_, rfl⟩
  obtain ⟨x12, hx12⟩ : ∃ v : Value, v = .slice q.types.h.ao q.types.l.length q.types.h.cap := ⟨_, rfl⟩
  obtain ⟨x13, hx13⟩ : ∃ v : Value, v = .slice q.rh.ao q.rows.length q.rh.cap := ⟨_, rfl⟩
  obtain ⟨x14, hx14⟩ : ∃ v : Value, v = .slice q.qh.ao q.kids.length q.qh.cap := ⟨_, rfl⟩
  have hy0 : ∀ w' : World, Below w1.heap.size w1 w' → w'.cell? ⟨w.heap.size, 0, none⟩ = some (x0) := fun w' h => hx0 ▸ box_cell (HOX.out w' h) (j := 0) rfl
  have hy1 : ∀ w' : World, Below w1.heap.size w1 w' → w'.cell? ⟨w.heap.size, 1, none⟩ = some (x1) := fun w' h => hx1 ▸ box_cell (HOX.out w' h) (j := 1) rfl
  have hy2 : ∀ w' : World, Below w1.heap.size w1 w' → w'.cell? ⟨w.heap.size, 2, none⟩ = some (x2) := fun w' h => hx2 ▸ box_cell (HOX.out w' h) (j := 2) rfl
  have hy3 : ∀ w' : World, Below w1.heap.size w1 w' → w'.cell? ⟨w.heap.size, 3, none⟩ = some (x3) := fun w' h => hx3 ▸ box_cell (HOX.out w' h) (j := 3) rfl
  have hy4 : ∀ w' : World, Below w1.heap.size w1 w' → w'.cell? ⟨w.heap.size, 4, none⟩ = some (x4) := fun w' h => hx4 ▸ box_cell (HOX.out w' h) (j := 4) rfl
  have hy5 : ∀ w' : World, Below w1.heap.size w1 w' → w'.cell? ⟨w.heap.size, 5, none⟩ = some (x5) := fun w' h => hx5 ▸ box_cell (HOX.out w' h) (j := 5) rfl
  have hy6 : ∀ w' : World, Below w1.heap.size w1 w' → w'.cell? ⟨w.heap.size, 6, none⟩ = some (x6) := fun w' h => hx6 ▸ box_cell (HOX.out w' h) (j := 6) rfl
  have hy7 : ∀ w' : World, Below w1.heap.size w1 w' → w'.cell? ⟨w.heap.size, 7, none⟩ = some (x7) := fun w' h => hx7 ▸ box_cell (HOX.out w' h) (j := 7) rfl
  have hy8 : ∀ w' : World, Below w1.heap.size w1 w' → w'.cell? ⟨w.heap.size, 8, none⟩ = some (x8) := fun w' h => hx8 ▸ box_cell (HOX.out w' h) (j := 8) rfl
  have hy9 : ∀ w' : World, Below w1.heap.size w1 w' → w'.cell? ⟨w.heap.size, 9, none⟩ = some (x9) := fun w' h => hx9 ▸ box_cell (HOX.out w' h) (j := 9) rfl
  have hy10 : ∀ w' : World, Below w1.heap.size w1 w' → w'.cell? ⟨w.heap.size, 10, none⟩ = some (x10) := fun w' h => hx10 ▸ box_cell (HOX.out w' h) (j := 10) rfl
  have hy11 : ∀ w' : World, Below w1.heap.size w1 w' → w'.cell? ⟨w.heap.size, 11, none⟩ = some (x11) := fun w' h => hx11 ▸ box_cell (HOX.out w' h) (j := 11) rfl
  have hy12 : ∀ w' : World, Below w1.heap.size w1 w' → w'.cell? ⟨w.heap.size, 12, none⟩ = some (x12) := fun w' h => hx12 ▸ box_cell (HOX.out w' h) (j := 12) rfl
  have hy13 : ∀ w' : World, Below w1.heap.size w1 w' → w'.cell? ⟨w.heap.size, 13, none⟩ = some (x13) := fun w' h => hx13 ▸ box_cell (HOX.out w' h) (j := 13) rfl
  have hy14 : ∀ w' : World, Below w1.heap.size w1 w' → w'.cell? ⟨w.heap.size, 14, none⟩ = some (x14) := fun w' h => hx14 ▸ box_cell (HOX.out w' h) (j := 14) rfl
  have HSA := hide (show ∀ w' : World, Below w1.heap.size w1 w' → Calls Try.prog 26 #[.agg #[x0, x1, x2, x3, x4, x5, x6, x7, x8, x9, x10, x11, x12, x13, x14]] w' fun e w'' => e = .returned (.int .i64 (wrap64 (q.size : Int))) ∧ Below w'.heap.size w' w'' from fun w' h => by
    subst hx0 hx1 hx2 hx3 hx4 hx5 hx6 hx7 hx8 hx9 hx10 hx11 hx12 hx13 hx14; exact aqsize_any (HI.out w' h) w' (HI.out w' h) HWT.out)
  have HSR := hide (show ∀ w' : World, Below w1.heap.size w1 w' → Calls Try.prog 27 #[.agg #[x0, x1, x2, x3, x4, x5, x6, x7, x8, x9, x10, x11, x12, x13, x14]] w' fun e w'' => e = .returned (.int .i64 (wrap64 (q.size : Int))) ∧ Below w'.heap.size w' w'' from fun w' h => by
    subst hx0 hx1 hx2 hx3 hx4 hx5 hx6 hx7 hx8 hx9 hx10 hx11 hx12 hx13 hx14; exact rqsize_any (HI.out w' h) w' (HI.out w' h))
  have HDA := hide (show ∀ w' : World, Below w1.heap.size w1 w' → Calls Try.prog 28 #[.agg #[x0, x1, x2, x3, x4, x5, x6, x7, x8, x9, x10, x11, x12, x13, x14]] w' fun e w'' => e = .returned (.int .i64 (q.dep : Nat)) ∧ Below w'.heap.size w' w'' from fun w' h => by
    subst hx0 hx1 hx2 hx3 hx4 hx5 hx6 hx7 hx8 hx9 hx10 hx11 hx12 hx13 hx14; exact adep_any (HI.out w' h) w' (HI.out w' h) HWT.out)
  have HDR := hide (show ∀ w' : World, Below w1.heap.size w1 w' → Calls Try.prog 29 #[.agg #[x0, x1, x2, x3, x4, x5, x6, x7, x8, x9, x10, x11, x12, x13, x14]] w' fun e w'' => e = .returned (.int .i64 (q.dep : Nat)) ∧ Below w'.heap.size w' w'' from fun w' h => by
    subst hx0 hx1 hx2 hx3 hx4 hx5 hx6 hx7 hx8 hx9 hx10 hx11 hx12 hx13 hx14; exact rdep_any (HI.out w' h) w' (HI.out w' h) HWT.out)
  have HTA := hide (show ∀ w' : World, Below w1.heap.size w1 w' → Calls Try.prog 31 #[.agg #[x0, x1, x2, x3, x4, x5, x6, x7, x8, x9, x10, x11, x12, x13, x14]] w' fun e w'' => (∃ r : SL, e = .returned (.slice r.h.ao r.l.length r.h.cap) ∧ NL q r.l ∧ r.In w'') ∧ Below w'.heap.size w' w'' from fun w' h => by
    subst hx0 hx1 hx2 hx3 hx4 hx5 hx6 hx7 hx8 hx9 hx10 hx11 hx12 hx13 hx14; exact atabs_any (HI.out w' h) w' (HI.out w' h) HWT.out)
  have HTR := hide (show ∀ w' : World, Below w1.heap.size w1 w' → Calls Try.prog 32 #[.agg #[x0, x1, x2, x3, x4, x5, x6, x7, x8, x9, x10, x11, x12, x13, x14]] w' fun e w'' => (∃ r : SL, e = .returned (.slice r.h.ao r.l.length r.h.cap) ∧ NL q r.l ∧ r.In w'') ∧ Below w'.heap.size w' w'' from fun w' h => by
    subst hx0 hx1 hx2 hx3 hx4 hx5 hx6 hx7 hx8 hx9 hx10 hx11 hx12 hx13 hx14; exact rtabs_any (HI.out w' h) w' (HI.out w' h) HWT.out)
  have HFIN := hide (show ∀ w' : World, Below w1.heap.size w1 w' → Below w.heap.size w w' from fun w' h => bel1 (HOX.out w' h))
  generalize wrap64 (q.size : Int) = N at HSA HSR
  generalize q.dep = D at HDA HDR
  generalize (Value.agg #[.int .i64 q.op, .string q.table, .int .i64 q.kind, .bool q.all, .int .i64 q.cond.op, .int .i64 q.cond.typ, .int .i64 q.cond.num, .string q.cond.text, .int .i64 q.cond.col, .slice q.cond.kh.ao q.cond.kids.length q.cond.kh.cap, .slice q.eh.ao q.exprs.length q.eh.cap, .slice q.ah.ao q.aggs.length q.ah.cap, .slice q.types.h.ao q.types.l.length q.types.h.cap, .slice q.rh.ao q.rows.length q.rh.cap, .slice q.qh.ao q.kids.length q.qh.cap]) = va
  clear HOX HB1 HIN HI hx0 hx1 hx2 hx3 hx4 hx5 hx6 hx7 hx8 hx9 hx10 hx11 hx12 hx13 hx14
  as_aux_lemma =>
    go_region_held3 (fun w' => Below w1.heap.size w1 w') ((first | exact (Below.refl _ _).drew | exact bel_trans (by assumption) (by assumption))) (first
      | (go_at_call 26; refine (HSA.out _ (by assumption)).mono ?_; rintro r y1 ⟨rfl, hk1⟩)
      | (go_at_call 27; refine (HSR.out _ (by assumption)).mono ?_; rintro r y2 ⟨rfl, hk2⟩)
      | (go_at_call 28; refine (HDA.out _ (by assumption)).mono ?_; rintro r y3 ⟨rfl, hk3⟩)
      | (go_at_call 29; refine (HDR.out _ (by assumption)).mono ?_; rintro r y4 ⟨rfl, hk4⟩)
      | (go_at_call 31; refine (HTA.out _ (by assumption)).mono ?_; rintro r y5 ⟨⟨r5, rfl, hn5, hi5⟩, hk5⟩; have HN5 := hide hn5; have HI5 := hide hi5; clear hn5 hi5)
      | (go_at_call 32; refine (HTR.out _ (by assumption)).mono ?_; rintro r y6 ⟨⟨r6, rfl, hn6, hi6⟩, hk6⟩; have HN6 := hide hn6; have HI6 := hide hi6; clear hn6 hi6)
      | (go_at_call 30; refine (words_any r5 r6 _ (HI5.out.mono (by assumption)) HI6.out).mono ?_; rintro r y7 ⟨rfl, hk7⟩; rw [decide_eq_true (nl_one HN5.out HN6.out)]))
    go_wp2
    go_ret
    exact ⟨rfl, HFIN.out _ (by assumption)⟩

end Go.Proofs.Ytmnbhdhgjbgidaa

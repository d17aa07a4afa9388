/- ref04.exprs and ref04.Same. -/
import Derived.Test.YtmnbhdhgjbgidaaSameQ
namespace Go.Proofs.Ytmnbhdhgjbgidaa
open Go.RowKit

theorem box2a {w w1 : World} {c d : Array Value} {T U : TypeId} (h : Below ((w.alloc (.cells c T)).alloc (.cells d U)).heap.size ((w.alloc (.cells c T)).alloc (.cells d U)) w1) {j : Nat} {v : Value} (hv : c[j]? = some v) : w1.cell? ⟨w.heap.size, j, none⟩ = some v := by
  rw [h.cell (p := ⟨w.heap.size, j, none⟩) (by show w.heap.size < _; simp only [World.size_alloc]; omega), World.cell?_alloc_lt _ _ _ (by show w.heap.size < _; simp only [World.size_alloc]; omega), cell_of_row (w.alloc (.cells c T)) w.heap.size j c T (0, 0) (heap_alloc_new w _)]
  exact hv
theorem box2b {w w1 : World} {c d : Array Value} {T U : TypeId} (h : Below ((w.alloc (.cells c T)).alloc (.cells d U)).heap.size ((w.alloc (.cells c T)).alloc (.cells d U)) w1) {j : Nat} {v : Value} (hv : d[j]? = some v) : w1.cell? ⟨w.heap.size + 1, j, none⟩ = some v := by
  have := box_cell (w := w.alloc (.cells c T)) h hv
  simpa using this


set_option maxRecDepth 100000 in
set_option maxHeartbeats 800000 in
theorem rexprs_any (ha hb : Hd) (a b : List Ex) (w : World) (hra : Row w 6 Ex.cells ha a) (hrb : Row w 6 Ex.cells hb b) (hia : ∀ x ∈ a, x.In w) (hib : ∀ x ∈ b, x.In w) :
    Calls Try.prog 49 #[.slice ha.ao a.length ha.cap, .slice hb.ao b.length hb.cap] w fun r w' => r = .returned (.bool (eqb (a.map Ex.er) (b.map Ex.er))) ∧ Below w.heap.size w w' := by
  have hna := hra.len
  have hnb := hrb.len
  by_cases hl : a.length = b.length
  rotate_left
  · have hl' : (((a.length : Nat) : Int) != ((b.length : Nat) : Int)) = true := by simp; omega
    have HL := hide hl
    clear hl
    go_enter Try.func49, Try.ntmps49
    go_wp2
    go_ret
    exact ⟨retb (eqb_no (map_ne_len HL.out)).symm, Below.refl _ _⟩
  have hl' : (((a.length : Nat) : Int) != ((b.length : Nat) : Int)) = false := by simp [hl]
  have HL := hide hl
  clear hl
  go_enter Try.func49, Try.ntmps49
  go_wp2
  clear hl'
  go_loopw [5] (fun i wr => ∃ k : Nat, k ≤ a.length ∧ i = .int .i64 k ∧ (∀ j (ha : j < a.length) (hb : j < b.length), j < k → a[j].er = b[j].er) ∧ Below w.heap.size w wr) (fun i _ => a.length - (intOf i).toNat)
  case atStart => exact ⟨0, Nat.zero_le _, rfl, fun j _ _ h => absurd h (by omega), Below.refl _ _⟩
  case round =>
    obtain ⟨k, hk, rfl, hno, hbw⟩ := hrel
    have HN := hide hno
    have HB := hide hbw
    have hra' := hra.mono hbw
    have hrb' := hrb.mono hbw
    by_cases hlt : k < a.length
    · have hltb : k < b.length := by rw [← HL.out]; exact hlt
      have hix := hra'.ix hlt Try.underlying34 sz41
      have hjx := hrb'.ix hltb Try.underlying34 sz41
      obtain ⟨c0, c1, c2, c3, c4, c5⟩ := ex_at hra' hlt
      obtain ⟨d0, d1, d2, d3, d4, d5⟩ := ex_at hrb' hltb
      have HIA := hide ((hia _ (List.getElem_mem hlt)).mono hbw)
      have HIB := hide ((hib _ (List.getElem_mem hltb)).mono hbw)
      clear hno hbw
      obtain ⟨xa, hxa'⟩ : ∃ x, x = a[k] := ⟨_, rfl⟩
      obtain ⟨xb, hxb'⟩ : ∃ x, x = b[k] := ⟨_, rfl⟩
      rw [← hxa'] at c0 c1 c2 c3 c4 c5 HIA
      rw [← hxb'] at d0 d1 d2 d3 d4 d5 HIB
      have HXE := hide hxa'
      have HYE := hide hxb'
      clear hxa' hxb'
      go_wp2
      refine region_tail 8 mixed (by kernel_rfl) ?_
      simp only [List.take_succ_cons, List.take_zero, List.drop_succ_cons, List.drop_zero]
      repeat still_step
      refine wpStill_nil ?_
      go_wp2_with (go_at_call 48; refine (resame_any HIA.out xb _ (HIA.out.mono ((Below.refl _ _).drew)) (HIB.out.mono ((Below.refl _ _).drew))).mono ?_; rintro r w1 ⟨rfl, hb1⟩; have HB1 := hide (bel_drew hb1); clear hb1; cases hq : eqb xa.er xb.er)
      · have HQ := hide hq
        clear hq
        go_ret
        refine ⟨retb (eqb_no (map_ne_at hlt hltb ?_)).symm, HB.out.trans (HB1.out.mono HB.out.size)⟩
        rw [← HXE.out, ← HYE.out]
        exact eqb_false HQ.out
      · have HQ := hide hq
        clear hq
        go_roundw
        case rel =>
          refine ⟨k + 1, by omega, by go_num, fun j hj hj2 h => ?_, HB.out.trans (HB1.out.mono HB.out.size)⟩
          by_cases e : j = k
          · subst e; rw [← HXE.out, ← HYE.out]; exact eqb_true HQ.out
          · exact HN.out j hj hj2 (by omega)
        case measure => simp [intOf]; omega
    · clear hno hbw
      go_wp2
      go_ret
      exact ⟨retb (eqb_yes (map_eq_all HL.out (fun j h1 h2 => HN.out j h1 h2 (by omega)))).symm, HB.out⟩

set_option maxRecDepth 100000 in
set_option maxHeartbeats 400000 in
theorem rqs_no0 (a b : Qu) (w : World) (h0 : a.op ≠ b.op) : Calls Try.prog 20 #[.agg #[.int .i64 a.op, .string a.table, .int .i64 a.kind, .bool a.all, .int .i64 a.cond.op, .int .i64 a.cond.typ, .int .i64 a.cond.num, .string a.cond.text, .int .i64 a.cond.col, .slice a.cond.kh.ao a.cond.kids.length a.cond.kh.cap, .slice a.eh.ao a.exprs.length a.eh.cap, .slice a.ah.ao a.aggs.length a.ah.cap, .slice a.types.h.ao a.types.l.length a.types.h.cap, .slice a.rh.ao a.rows.length a.rh.cap, .slice a.qh.ao a.kids.length a.qh.cap], .agg #[.int .i64 b.op, .string b.table, .int .i64 b.kind, .bool b.all, .int .i64 b.cond.op, .int .i64 b.cond.typ, .int .i64 b.cond.num, .string b.cond.text, .int .i64 b.cond.col, .slice b.cond.kh.ao b.cond.kids.length b.cond.kh.cap, .slice b.eh.ao b.exprs.length b.eh.cap, .slice b.ah.ao b.aggs.length b.ah.cap, .slice b.types.h.ao b.types.l.length b.types.h.cap, .slice b.rh.ao b.rows.length b.rh.cap, .slice b.qh.ao b.kids.length b.qh.cap]] w fun r w' => r = .returned (.bool (eqb a.er b.er)) ∧ Below w.heap.size w w' := by
  have g0 : (a.op != b.op) = true := by simpa using h0
  have HH := hide h0
  clear h0
  go_enter Try.func20, Try.ntmps20
  go_wp2
  go_ret
  exact ⟨retb (eqb_no (fun e => HH.out (((qer_iff a b).1 e).1))).symm, belAA _ _⟩

set_option maxRecDepth 100000 in
set_option maxHeartbeats 400000 in
theorem rqs_no1 (a b : Qu) (w : World) (h0 : a.op = b.op) (h1 : a.table.toList ≠ b.table.toList) : Calls Try.prog 20 #[.agg #[.int .i64 a.op, .string a.table, .int .i64 a.kind, .bool a.all, .int .i64 a.cond.op, .int .i64 a.cond.typ, .int .i64 a.cond.num, .string a.cond.text, .int .i64 a.cond.col, .slice a.cond.kh.ao a.cond.kids.length a.cond.kh.cap, .slice a.eh.ao a.exprs.length a.eh.cap, .slice a.ah.ao a.aggs.length a.ah.cap, .slice a.types.h.ao a.types.l.length a.types.h.cap, .slice a.rh.ao a.rows.length a.rh.cap, .slice a.qh.ao a.kids.length a.qh.cap], .agg #[.int .i64 b.op, .string b.table, .int .i64 b.kind, .bool b.all, .int .i64 b.cond.op, .int .i64 b.cond.typ, .int .i64 b.cond.num, .string b.cond.text, .int .i64 b.cond.col, .slice b.cond.kh.ao b.cond.kids.length b.cond.kh.cap, .slice b.eh.ao b.exprs.length b.eh.cap, .slice b.ah.ao b.aggs.length b.ah.cap, .slice b.types.h.ao b.types.l.length b.types.h.cap, .slice b.rh.ao b.rows.length b.rh.cap, .slice b.qh.ao b.kids.length b.qh.cap]] w fun r w' => r = .returned (.bool (eqb a.er b.er)) ∧ Below w.heap.size w w' := by
  have g0 : (a.op != b.op) = false := by simpa using h0
  have H0 := hide h0
  clear h0
  have g1 : (!(a.table.toList == b.table.toList)) = true := by simpa using h1
  have HH := hide h1
  clear h1
  go_enter Try.func20, Try.ntmps20
  go_wp2
  go_ret
  exact ⟨retb (eqb_no (fun e => HH.out (((qer_iff a b).1 e).2.1))).symm, belAA _ _⟩

set_option maxRecDepth 100000 in
set_option maxHeartbeats 400000 in
theorem rqs_no2 (a b : Qu) (w : World) (h0 : a.op = b.op) (h1 : a.table.toList = b.table.toList) (h2 : a.kind ≠ b.kind) : Calls Try.prog 20 #[.agg #[.int .i64 a.op, .string a.table, .int .i64 a.kind, .bool a.all, .int .i64 a.cond.op, .int .i64 a.cond.typ, .int .i64 a.cond.num, .string a.cond.text, .int .i64 a.cond.col, .slice a.cond.kh.ao a.cond.kids.length a.cond.kh.cap, .slice a.eh.ao a.exprs.length a.eh.cap, .slice a.ah.ao a.aggs.length a.ah.cap, .slice a.types.h.ao a.types.l.length a.types.h.cap, .slice a.rh.ao a.rows.length a.rh.cap, .slice a.qh.ao a.kids.length a.qh.cap], .agg #[.int .i64 b.op, .string b.table, .int .i64 b.kind, .bool b.all, .int .i64 b.cond.op, .int .i64 b.cond.typ, .int .i64 b.cond.num, .string b.cond.text, .int .i64 b.cond.col, .slice b.cond.kh.ao b.cond.kids.length b.cond.kh.cap, .slice b.eh.ao b.exprs.length b.eh.cap, .slice b.ah.ao b.aggs.length b.ah.cap, .slice b.types.h.ao b.types.l.length b.types.h.cap, .slice b.rh.ao b.rows.length b.rh.cap, .slice b.qh.ao b.kids.length b.qh.cap]] w fun r w' => r = .returned (.bool (eqb a.er b.er)) ∧ Below w.heap.size w w' := by
  have g0 : (a.op != b.op) = false := by simpa using h0
  have H0 := hide h0
  clear h0
  have g1 : (!(a.table.toList == b.table.toList)) = false := by simpa using h1
  have H1 := hide h1
  clear h1
  have g2 : (a.kind != b.kind) = true := by simpa using h2
  have HH := hide h2
  clear h2
  go_enter Try.func20, Try.ntmps20
  go_wp2
  go_ret
  exact ⟨retb (eqb_no (fun e => HH.out (((qer_iff a b).1 e).2.2.1))).symm, belAA _ _⟩

set_option maxRecDepth 100000 in
set_option maxHeartbeats 400000 in
theorem rqs_no3 (a b : Qu) (w : World) (h0 : a.op = b.op) (h1 : a.table.toList = b.table.toList) (h2 : a.kind = b.kind) (h3 : a.all ≠ b.all) : Calls Try.prog 20 #[.agg #[.int .i64 a.op, .string a.table, .int .i64 a.kind, .bool a.all, .int .i64 a.cond.op, .int .i64 a.cond.typ, .int .i64 a.cond.num, .string a.cond.text, .int .i64 a.cond.col, .slice a.cond.kh.ao a.cond.kids.length a.cond.kh.cap, .slice a.eh.ao a.exprs.length a.eh.cap, .slice a.ah.ao a.aggs.length a.ah.cap, .slice a.types.h.ao a.types.l.length a.types.h.cap, .slice a.rh.ao a.rows.length a.rh.cap, .slice a.qh.ao a.kids.length a.qh.cap], .agg #[.int .i64 b.op, .string b.table, .int .i64 b.kind, .bool b.all, .int .i64 b.cond.op, .int .i64 b.cond.typ, .int .i64 b.cond.num, .string b.cond.text, .int .i64 b.cond.col, .slice b.cond.kh.ao b.cond.kids.length b.cond.kh.cap, .slice b.eh.ao b.exprs.length b.eh.cap, .slice b.ah.ao b.aggs.length b.ah.cap, .slice b.types.h.ao b.types.l.length b.types.h.cap, .slice b.rh.ao b.rows.length b.rh.cap, .slice b.qh.ao b.kids.length b.qh.cap]] w fun r w' => r = .returned (.bool (eqb a.er b.er)) ∧ Below w.heap.size w w' := by
  have g0 : (a.op != b.op) = false := by simpa using h0
  have H0 := hide h0
  clear h0
  have g1 : (!(a.table.toList == b.table.toList)) = false := by simpa using h1
  have H1 := hide h1
  clear h1
  have g2 : (a.kind != b.kind) = false := by simpa using h2
  have H2 := hide h2
  clear h2
  have g3 : (a.all == b.all) = false := by simpa using h3
  have HH := hide h3
  clear h3
  go_enter Try.func20, Try.ntmps20
  go_wp2
  go_ret
  exact ⟨retb (eqb_no (fun e => HH.out (((qer_iff a b).1 e).2.2.2.1))).symm, belAA _ _⟩

set_option maxRecDepth 100000 in
set_option maxHeartbeats 1000000 in
theorem rqs_len0 (a b : Qu) (w : World) (hia : a.In w) (hib : b.In w) (h0 : a.op = b.op) (h1 : a.table.toList = b.table.toList) (h2 : a.kind = b.kind) (h3 : a.all = b.all)  (e0 : a.aggs.length ≠ b.aggs.length) : Calls Try.prog 20 #[.agg #[.int .i64 a.op, .string a.table, .int .i64 a.kind, .bool a.all, .int .i64 a.cond.op, .int .i64 a.cond.typ, .int .i64 a.cond.num, .string a.cond.text, .int .i64 a.cond.col, .slice a.cond.kh.ao a.cond.kids.length a.cond.kh.cap, .slice a.eh.ao a.exprs.length a.eh.cap, .slice a.ah.ao a.aggs.length a.ah.cap, .slice a.types.h.ao a.types.l.length a.types.h.cap, .slice a.rh.ao a.rows.length a.rh.cap, .slice a.qh.ao a.kids.length a.qh.cap], .agg #[.int .i64 b.op, .string b.table, .int .i64 b.kind, .bool b.all, .int .i64 b.cond.op, .int .i64 b.cond.typ, .int .i64 b.cond.num, .string b.cond.text, .int .i64 b.cond.col, .slice b.cond.kh.ao b.cond.kids.length b.cond.kh.cap, .slice b.eh.ao b.exprs.length b.eh.cap, .slice b.ah.ao b.aggs.length b.ah.cap, .slice b.types.h.ao b.types.l.length b.types.h.cap, .slice b.rh.ao b.rows.length b.rh.cap, .slice b.qh.ao b.kids.length b.qh.cap]] w fun r w' => r = .returned (.bool (eqb a.er b.er)) ∧ Below w.heap.size w w' := by
  have g0 : (a.op != b.op) = false := by simpa using h0
  have H0 := hide h0
  clear h0
  have g1 : (!(a.table.toList == b.table.toList)) = false := by simpa using h1
  have H1 := hide h1
  clear h1
  have g2 : (a.kind != b.kind) = false := by simpa using h2
  have H2 := hide h2
  clear h2
  have g3 : (a.all == b.all) = true := by simpa using h3
  have H3 := hide h3
  clear h3
  have hla := hia.flat.ra.len
  have hlb := hib.flat.ra.len
  have hlc := hia.flat.rr.len
  have hld := hib.flat.rr.len
  have hle := hia.row.len
  have hlf := hib.row.len
  have HIA := hide (hia.mono (belAA (.cells #[.int .i64 a.op, .string a.table, .int .i64 a.kind, .bool a.all, .int .i64 a.cond.op, .int .i64 a.cond.typ, .int .i64 a.cond.num, .string a.cond.text, .int .i64 a.cond.col, .slice a.cond.kh.ao a.cond.kids.length a.cond.kh.cap, .slice a.eh.ao a.exprs.length a.eh.cap, .slice a.ah.ao a.aggs.length a.ah.cap, .slice a.types.h.ao a.types.l.length a.types.h.cap, .slice a.rh.ao a.rows.length a.rh.cap, .slice a.qh.ao a.kids.length a.qh.cap] 46) (.cells #[.int .i64 b.op, .string b.table, .int .i64 b.kind, .bool b.all, .int .i64 b.cond.op, .int .i64 b.cond.typ, .int .i64 b.cond.num, .string b.cond.text, .int .i64 b.cond.col, .slice b.cond.kh.ao b.cond.kids.length b.cond.kh.cap, .slice b.eh.ao b.exprs.length b.eh.cap, .slice b.ah.ao b.aggs.length b.ah.cap, .slice b.types.h.ao b.types.l.length b.types.h.cap, .slice b.rh.ao b.rows.length b.rh.cap, .slice b.qh.ao b.kids.length b.qh.cap] 46)))
  have HIB := hide (hib.mono (belAA (.cells #[.int .i64 a.op, .string a.table, .int .i64 a.kind, .bool a.all, .int .i64 a.cond.op, .int .i64 a.cond.typ, .int .i64 a.cond.num, .string a.cond.text, .int .i64 a.cond.col, .slice a.cond.kh.ao a.cond.kids.length a.cond.kh.cap, .slice a.eh.ao a.exprs.length a.eh.cap, .slice a.ah.ao a.aggs.length a.ah.cap, .slice a.types.h.ao a.types.l.length a.types.h.cap, .slice a.rh.ao a.rows.length a.rh.cap, .slice a.qh.ao a.kids.length a.qh.cap] 46) (.cells #[.int .i64 b.op, .string b.table, .int .i64 b.kind, .bool b.all, .int .i64 b.cond.op, .int .i64 b.cond.typ, .int .i64 b.cond.num, .string b.cond.text, .int .i64 b.cond.col, .slice b.cond.kh.ao b.cond.kids.length b.cond.kh.cap, .slice b.eh.ao b.exprs.length b.eh.cap, .slice b.ah.ao b.aggs.length b.ah.cap, .slice b.types.h.ao b.types.l.length b.types.h.cap, .slice b.rh.ao b.rows.length b.rh.cap, .slice b.qh.ao b.kids.length b.qh.cap] 46)))
  clear hia hib
  have hl0 : (((a.aggs.length : Nat) : Int) != ((b.aggs.length : Nat) : Int)) = true := by simp; omega
  have HN := hide e0
  clear e0
  go_enter Try.func20, Try.ntmps20
  go_wp2_with (first
    | (go_at_call 48; refine (resame_any HIA.out.flat.cd b.cond _ HIA.out.flat.cd HIB.out.flat.cd).mono ?_; rintro r w1 ⟨rfl, hb1⟩; have HB1 := hide hb1; obtain ⟨g11, _⟩ := bcell hb1; clear hb1; cases hq1 : eqb a.cond.er b.cond.er <;> (have HQ1 := hide hq1; clear hq1))
    | (go_at_call 49; refine (rexprs_any a.eh b.eh a.exprs b.exprs _ (HIA.out.flat.re.mono HB1.out) (HIB.out.flat.re.mono HB1.out) (fun x hx => (HIA.out.flat.es x hx).mono HB1.out) (fun x hx => (HIB.out.flat.es x hx).mono HB1.out)).mono ?_; rintro r w2 ⟨rfl, hb2⟩; have HB2 := hide (bel_trans HB1.out hb2); obtain ⟨g12, _⟩ := bcell HB2.out; clear hb2 g11; cases hq2 : eqb (a.exprs.map Ex.er) (b.exprs.map Ex.er) <;> (have HQ2 := hide hq2; clear hq2))
    | (go_at_call 50; refine (rints_any a.types b.types _ (HIA.out.flat.ty.mono HB2.out) (HIB.out.flat.ty.mono HB2.out)).mono ?_; rintro r w3 ⟨rfl, hb3⟩; have HB3 := hide (bel_trans HB2.out hb3); obtain ⟨g13, _⟩ := bcell HB3.out; clear hb3 g12; cases hq3 : eqb a.types.l b.types.l <;> (have HQ3 := hide hq3; clear hq3)))
  · go_ret
    exact ⟨retb (eqb_no (fun e => eqb_false HQ1.out ((qer_iff a b).1 e).2.2.2.2.1)).symm, bel2 HB1.out⟩
  · go_ret
    exact ⟨retb (eqb_no (fun e => eqb_false HQ2.out ((qer_iff a b).1 e).2.2.2.2.2.1)).symm, bel2 HB2.out⟩
  · go_ret
    exact ⟨retb (eqb_no (fun e => eqb_false HQ3.out ((qer_iff a b).1 e).2.2.2.2.2.2.2.1)).symm, bel2 HB3.out⟩
  · go_ret
    exact ⟨retb (eqb_no (fun e => map_ne_len HN.out (((qer_iff a b).1 e).2.2.2.2.2.2.1))).symm, bel2 HB3.out⟩

set_option maxRecDepth 100000 in
set_option maxHeartbeats 1000000 in
theorem rqs_len1 (a b : Qu) (w : World) (hia : a.In w) (hib : b.In w) (h0 : a.op = b.op) (h1 : a.table.toList = b.table.toList) (h2 : a.kind = b.kind) (h3 : a.all = b.all) (e0 : a.aggs.length = b.aggs.length) (e1 : a.rows.length ≠ b.rows.length) : Calls Try.prog 20 #[.agg #[.int .i64 a.op, .string a.table, .int .i64 a.kind, .bool a.all, .int .i64 a.cond.op, .int .i64 a.cond.typ, .int .i64 a.cond.num, .string a.cond.text, .int .i64 a.cond.col, .slice a.cond.kh.ao a.cond.kids.length a.cond.kh.cap, .slice a.eh.ao a.exprs.length a.eh.cap, .slice a.ah.ao a.aggs.length a.ah.cap, .slice a.types.h.ao a.types.l.length a.types.h.cap, .slice a.rh.ao a.rows.length a.rh.cap, .slice a.qh.ao a.kids.length a.qh.cap], .agg #[.int .i64 b.op, .string b.table, .int .i64 b.kind, .bool b.all, .int .i64 b.cond.op, .int .i64 b.cond.typ, .int .i64 b.cond.num, .string b.cond.text, .int .i64 b.cond.col, .slice b.cond.kh.ao b.cond.kids.length b.cond.kh.cap, .slice b.eh.ao b.exprs.length b.eh.cap, .slice b.ah.ao b.aggs.length b.ah.cap, .slice b.types.h.ao b.types.l.length b.types.h.cap, .slice b.rh.ao b.rows.length b.rh.cap, .slice b.qh.ao b.kids.length b.qh.cap]] w fun r w' => r = .returned (.bool (eqb a.er b.er)) ∧ Below w.heap.size w w' := by
  have g0 : (a.op != b.op) = false := by simpa using h0
  have H0 := hide h0
  clear h0
  have g1 : (!(a.table.toList == b.table.toList)) = false := by simpa using h1
  have H1 := hide h1
  clear h1
  have g2 : (a.kind != b.kind) = false := by simpa using h2
  have H2 := hide h2
  clear h2
  have g3 : (a.all == b.all) = true := by simpa using h3
  have H3 := hide h3
  clear h3
  have hla := hia.flat.ra.len
  have hlb := hib.flat.ra.len
  have hlc := hia.flat.rr.len
  have hld := hib.flat.rr.len
  have hle := hia.row.len
  have hlf := hib.row.len
  have HIA := hide (hia.mono (belAA (.cells #[.int .i64 a.op, .string a.table, .int .i64 a.kind, .bool a.all, .int .i64 a.cond.op, .int .i64 a.cond.typ, .int .i64 a.cond.num, .string a.cond.text, .int .i64 a.cond.col, .slice a.cond.kh.ao a.cond.kids.length a.cond.kh.cap, .slice a.eh.ao a.exprs.length a.eh.cap, .slice a.ah.ao a.aggs.length a.ah.cap, .slice a.types.h.ao a.types.l.length a.types.h.cap, .slice a.rh.ao a.rows.length a.rh.cap, .slice a.qh.ao a.kids.length a.qh.cap] 46) (.cells #[.int .i64 b.op, .string b.table, .int .i64 b.kind, .bool b.all, .int .i64 b.cond.op, .int .i64 b.cond.typ, .int .i64 b.cond.num, .string b.cond.text, .int .i64 b.cond.col, .slice b.cond.kh.ao b.cond.kids.length b.cond.kh.cap, .slice b.eh.ao b.exprs.length b.eh.cap, .slice b.ah.ao b.aggs.length b.ah.cap, .slice b.types.h.ao b.types.l.length b.types.h.cap, .slice b.rh.ao b.rows.length b.rh.cap, .slice b.qh.ao b.kids.length b.qh.cap] 46)))
  have HIB := hide (hib.mono (belAA (.cells #[.int .i64 a.op, .string a.table, .int .i64 a.kind, .bool a.all, .int .i64 a.cond.op, .int .i64 a.cond.typ, .int .i64 a.cond.num, .string a.cond.text, .int .i64 a.cond.col, .slice a.cond.kh.ao a.cond.kids.length a.cond.kh.cap, .slice a.eh.ao a.exprs.length a.eh.cap, .slice a.ah.ao a.aggs.length a.ah.cap, .slice a.types.h.ao a.types.l.length a.types.h.cap, .slice a.rh.ao a.rows.length a.rh.cap, .slice a.qh.ao a.kids.length a.qh.cap] 46) (.cells #[.int .i64 b.op, .string b.table, .int .i64 b.kind, .bool b.all, .int .i64 b.cond.op, .int .i64 b.cond.typ, .int .i64 b.cond.num, .string b.cond.text, .int .i64 b.cond.col, .slice b.cond.kh.ao b.cond.kids.length b.cond.kh.cap, .slice b.eh.ao b.exprs.length b.eh.cap, .slice b.ah.ao b.aggs.length b.ah.cap, .slice b.types.h.ao b.types.l.length b.types.h.cap, .slice b.rh.ao b.rows.length b.rh.cap, .slice b.qh.ao b.kids.length b.qh.cap] 46)))
  clear hia hib
  have hl0 : (((a.aggs.length : Nat) : Int) != ((b.aggs.length : Nat) : Int)) = false := by simp [e0]
  have HL0 := hide e0
  clear e0
  have hl1 : (((a.rows.length : Nat) : Int) != ((b.rows.length : Nat) : Int)) = true := by simp; omega
  have HN := hide e1
  clear e1
  go_enter Try.func20, Try.ntmps20
  go_wp2_with (first
    | (go_at_call 48; refine (resame_any HIA.out.flat.cd b.cond _ HIA.out.flat.cd HIB.out.flat.cd).mono ?_; rintro r w1 ⟨rfl, hb1⟩; have HB1 := hide hb1; obtain ⟨g11, _⟩ := bcell hb1; clear hb1; cases hq1 : eqb a.cond.er b.cond.er <;> (have HQ1 := hide hq1; clear hq1))
    | (go_at_call 49; refine (rexprs_any a.eh b.eh a.exprs b.exprs _ (HIA.out.flat.re.mono HB1.out) (HIB.out.flat.re.mono HB1.out) (fun x hx => (HIA.out.flat.es x hx).mono HB1.out) (fun x hx => (HIB.out.flat.es x hx).mono HB1.out)).mono ?_; rintro r w2 ⟨rfl, hb2⟩; have HB2 := hide (bel_trans HB1.out hb2); obtain ⟨g12, _⟩ := bcell HB2.out; clear hb2 g11; cases hq2 : eqb (a.exprs.map Ex.er) (b.exprs.map Ex.er) <;> (have HQ2 := hide hq2; clear hq2))
    | (go_at_call 50; refine (rints_any a.types b.types _ (HIA.out.flat.ty.mono HB2.out) (HIB.out.flat.ty.mono HB2.out)).mono ?_; rintro r w3 ⟨rfl, hb3⟩; have HB3 := hide (bel_trans HB2.out hb3); obtain ⟨g13, _⟩ := bcell HB3.out; clear hb3 g12; cases hq3 : eqb a.types.l b.types.l <;> (have HQ3 := hide hq3; clear hq3)))
  · go_ret
    exact ⟨retb (eqb_no (fun e => eqb_false HQ1.out ((qer_iff a b).1 e).2.2.2.2.1)).symm, bel2 HB1.out⟩
  · go_ret
    exact ⟨retb (eqb_no (fun e => eqb_false HQ2.out ((qer_iff a b).1 e).2.2.2.2.2.1)).symm, bel2 HB2.out⟩
  · go_ret
    exact ⟨retb (eqb_no (fun e => eqb_false HQ3.out ((qer_iff a b).1 e).2.2.2.2.2.2.2.1)).symm, bel2 HB3.out⟩
  · go_ret
    exact ⟨retb (eqb_no (fun e => map_ne_len HN.out (((qer_iff a b).1 e).2.2.2.2.2.2.2.2.1))).symm, bel2 HB3.out⟩

set_option maxRecDepth 100000 in
set_option maxHeartbeats 1000000 in
theorem rqs_len2 (a b : Qu) (w : World) (hia : a.In w) (hib : b.In w) (h0 : a.op = b.op) (h1 : a.table.toList = b.table.toList) (h2 : a.kind = b.kind) (h3 : a.all = b.all) (e0 : a.aggs.length = b.aggs.length) (e1 : a.rows.length = b.rows.length) (e2 : a.kids.length ≠ b.kids.length) : Calls Try.prog 20 #[.agg #[.int .i64 a.op, .string a.table, .int .i64 a.kind, .bool a.all, .int .i64 a.cond.op, .int .i64 a.cond.typ, .int .i64 a.cond.num, .string a.cond.text, .int .i64 a.cond.col, .slice a.cond.kh.ao a.cond.kids.length a.cond.kh.cap, .slice a.eh.ao a.exprs.length a.eh.cap, .slice a.ah.ao a.aggs.length a.ah.cap, .slice a.types.h.ao a.types.l.length a.types.h.cap, .slice a.rh.ao a.rows.length a.rh.cap, .slice a.qh.ao a.kids.length a.qh.cap], .agg #[.int .i64 b.op, .string b.table, .int .i64 b.kind, .bool b.all, .int .i64 b.cond.op, .int .i64 b.cond.typ, .int .i64 b.cond.num, .string b.cond.text, .int .i64 b.cond.col, .slice b.cond.kh.ao b.cond.kids.length b.cond.kh.cap, .slice b.eh.ao b.exprs.length b.eh.cap, .slice b.ah.ao b.aggs.length b.ah.cap, .slice b.types.h.ao b.types.l.length b.types.h.cap, .slice b.rh.ao b.rows.length b.rh.cap, .slice b.qh.ao b.kids.length b.qh.cap]] w fun r w' => r = .returned (.bool (eqb a.er b.er)) ∧ Below w.heap.size w w' := by
  have g0 : (a.op != b.op) = false := by simpa using h0
  have H0 := hide h0
  clear h0
  have g1 : (!(a.table.toList == b.table.toList)) = false := by simpa using h1
  have H1 := hide h1
  clear h1
  have g2 : (a.kind != b.kind) = false := by simpa using h2
  have H2 := hide h2
  clear h2
  have g3 : (a.all == b.all) = true := by simpa using h3
  have H3 := hide h3
  clear h3
  have hla := hia.flat.ra.len
  have hlb := hib.flat.ra.len
  have hlc := hia.flat.rr.len
  have hld := hib.flat.rr.len
  have hle := hia.row.len
  have hlf := hib.row.len
  have HIA := hide (hia.mono (belAA (.cells #[.int .i64 a.op, .string a.table, .int .i64 a.kind, .bool a.all, .int .i64 a.cond.op, .int .i64 a.cond.typ, .int .i64 a.cond.num, .string a.cond.text, .int .i64 a.cond.col, .slice a.cond.kh.ao a.cond.kids.length a.cond.kh.cap, .slice a.eh.ao a.exprs.length a.eh.cap, .slice a.ah.ao a.aggs.length a.ah.cap, .slice a.types.h.ao a.types.l.length a.types.h.cap, .slice a.rh.ao a.rows.length a.rh.cap, .slice a.qh.ao a.kids.length a.qh.cap] 46) (.cells #[.int .i64 b.op, .string b.table, .int .i64 b.kind, .bool b.all, .int .i64 b.cond.op, .int .i64 b.cond.typ, .int .i64 b.cond.num, .string b.cond.text, .int .i64 b.cond.col, .slice b.cond.kh.ao b.cond.kids.length b.cond.kh.cap, .slice b.eh.ao b.exprs.length b.eh.cap, .slice b.ah.ao b.aggs.length b.ah.cap, .slice b.types.h.ao b.types.l.length b.types.h.cap, .slice b.rh.ao b.rows.length b.rh.cap, .slice b.qh.ao b.kids.length b.qh.cap] 46)))
  have HIB := hide (hib.mono (belAA (.cells #[.int .i64 a.op, .string a.table, .int .i64 a.kind, .bool a.all, .int .i64 a.cond.op, .int .i64 a.cond.typ, .int .i64 a.cond.num, .string a.cond.text, .int .i64 a.cond.col, .slice a.cond.kh.ao a.cond.kids.length a.cond.kh.cap, .slice a.eh.ao a.exprs.length a.eh.cap, .slice a.ah.ao a.aggs.length a.ah.cap, .slice a.types.h.ao a.types.l.length a.types.h.cap, .slice a.rh.ao a.rows.length a.rh.cap, .slice a.qh.ao a.kids.length a.qh.cap] 46) (.cells #[.int .i64 b.op, .string b.table, .int .i64 b.kind, .bool b.all, .int .i64 b.cond.op, .int .i64 b.cond.typ, .int .i64 b.cond.num, .string b.cond.text, .int .i64 b.cond.col, .slice b.cond.kh.ao b.cond.kids.length b.cond.kh.cap, .slice b.eh.ao b.exprs.length b.eh.cap, .slice b.ah.ao b.aggs.length b.ah.cap, .slice b.types.h.ao b.types.l.length b.types.h.cap, .slice b.rh.ao b.rows.length b.rh.cap, .slice b.qh.ao b.kids.length b.qh.cap] 46)))
  clear hia hib
  have hl0 : (((a.aggs.length : Nat) : Int) != ((b.aggs.length : Nat) : Int)) = false := by simp [e0]
  have HL0 := hide e0
  clear e0
  have hl1 : (((a.rows.length : Nat) : Int) != ((b.rows.length : Nat) : Int)) = false := by simp [e1]
  have HL1 := hide e1
  clear e1
  have hl2 : (((a.kids.length : Nat) : Int) != ((b.kids.length : Nat) : Int)) = true := by simp; omega
  have HN := hide e2
  clear e2
  go_enter Try.func20, Try.ntmps20
  go_wp2_with (first
    | (go_at_call 48; refine (resame_any HIA.out.flat.cd b.cond _ HIA.out.flat.cd HIB.out.flat.cd).mono ?_; rintro r w1 ⟨rfl, hb1⟩; have HB1 := hide hb1; obtain ⟨g11, _⟩ := bcell hb1; clear hb1; cases hq1 : eqb a.cond.er b.cond.er <;> (have HQ1 := hide hq1; clear hq1))
    | (go_at_call 49; refine (rexprs_any a.eh b.eh a.exprs b.exprs _ (HIA.out.flat.re.mono HB1.out) (HIB.out.flat.re.mono HB1.out) (fun x hx => (HIA.out.flat.es x hx).mono HB1.out) (fun x hx => (HIB.out.flat.es x hx).mono HB1.out)).mono ?_; rintro r w2 ⟨rfl, hb2⟩; have HB2 := hide (bel_trans HB1.out hb2); obtain ⟨g12, _⟩ := bcell HB2.out; clear hb2 g11; cases hq2 : eqb (a.exprs.map Ex.er) (b.exprs.map Ex.er) <;> (have HQ2 := hide hq2; clear hq2))
    | (go_at_call 50; refine (rints_any a.types b.types _ (HIA.out.flat.ty.mono HB2.out) (HIB.out.flat.ty.mono HB2.out)).mono ?_; rintro r w3 ⟨rfl, hb3⟩; have HB3 := hide (bel_trans HB2.out hb3); obtain ⟨g13, _⟩ := bcell HB3.out; clear hb3 g12; cases hq3 : eqb a.types.l b.types.l <;> (have HQ3 := hide hq3; clear hq3)))
  · go_ret
    exact ⟨retb (eqb_no (fun e => eqb_false HQ1.out ((qer_iff a b).1 e).2.2.2.2.1)).symm, bel2 HB1.out⟩
  · go_ret
    exact ⟨retb (eqb_no (fun e => eqb_false HQ2.out ((qer_iff a b).1 e).2.2.2.2.2.1)).symm, bel2 HB2.out⟩
  · go_ret
    exact ⟨retb (eqb_no (fun e => eqb_false HQ3.out ((qer_iff a b).1 e).2.2.2.2.2.2.2.1)).symm, bel2 HB3.out⟩
  · go_ret
    exact ⟨retb (eqb_no (fun e => map_ne_len HN.out (((qer_iff a b).1 e).2.2.2.2.2.2.2.2.2))).symm, bel2 HB3.out⟩

end Go.Proofs.Ytmnbhdhgjbgidaa

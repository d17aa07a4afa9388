/- ref04.Same, the loops. -/
import Derived.Test.YtmnbhdhgjbgidaaSameR
namespace Go.Proofs.Ytmnbhdhgjbgidaa
open Go.RowKit

/-- region_tail, its goal behind a name: what stands behind the reads is not unfolded while they are walked. -/
theorem region_tailK {P : Program} {id : Nat} {Q : Exit → Act → World → Prop} {a : Act} {w : World} {l : List Oper} (n : Nat) (hm : P.follows .mixedOrders = true) (hB : Region.lexTailB .any l.toArray n = true)
    (h : ∀ K : Act → Prop, (∀ a', wpList P l.toArray Q (l.drop n) a' w.drew → K a') → wpStill P l.toArray w.drew K (l.take n) a) : (Code.region id l.toArray true).wp P Q a w := wp_region_still_tail n hm hB (h _ (fun _ h => h))

set_option maxRecDepth 100000 in
set_option maxHeartbeats 8000000 in
theorem rqs_main (a b : Qu) (w : World) (hia : a.In w) (hib : b.In w) (h0 : a.op = b.op) (h1 : a.table.toList = b.table.toList) (h2 : a.kind = b.kind) (h3 : a.all = b.all) (e0 : a.aggs.length = b.aggs.length) (e1 : a.rows.length = b.rows.length) (e2 : a.kids.length = b.kids.length)
    (IH : Hid (∀ x ∈ a.kids, ∀ (b : Qu) (w : World), x.In w → b.In w → Calls Try.prog 20 #[.agg #[.int .i64 x.op, .string x.table, .int .i64 x.kind, .bool x.all, .int .i64 x.cond.op, .int .i64 x.cond.typ, .int .i64 x.cond.num, .string x.cond.text, .int .i64 x.cond.col, .slice x.cond.kh.ao x.cond.kids.length x.cond.kh.cap, .slice x.eh.ao x.exprs.length x.eh.cap, .slice x.ah.ao x.aggs.length x.ah.cap, .slice x.types.h.ao x.types.l.length x.types.h.cap, .slice x.rh.ao x.rows.length x.rh.cap, .slice x.qh.ao x.kids.length x.qh.cap], .agg #[.int .i64 b.op, .string b.table, .int .i64 b.kind, .bool b.all, .int .i64 b.cond.op, .int .i64 b.cond.typ, .int .i64 b.cond.num, .string b.cond.text, .int .i64 b.cond.col, .slice b.cond.kh.ao b.cond.kids.length b.cond.kh.cap, .slice b.eh.ao b.exprs.length b.eh.cap, .slice b.ah.ao b.aggs.length b.ah.cap, .slice b.types.h.ao b.types.l.length b.types.h.cap, .slice b.rh.ao b.rows.length b.rh.cap, .slice b.qh.ao b.kids.length b.qh.cap]] w fun r w' => r = .returned (.bool (eqb x.er b.er)) ∧ Below w.heap.size w w')) : Calls Try.prog 20 #[.agg #[.int .i64 a.op, .string a.table, .int .i64 a.kind, .bool a.all, .int .i64 a.cond.op, .int .i64 a.cond.typ, .int .i64 a.cond.num, .string a.cond.text, .int .i64 a.cond.col, .slice a.cond.kh.ao a.cond.kids.length a.cond.kh.cap, .slice a.eh.ao a.exprs.length a.eh.cap, .slice a.ah.ao a.aggs.length a.ah.cap, .slice a.types.h.ao a.types.l.length a.types.h.cap, .slice a.rh.ao a.rows.length a.rh.cap, .slice a.qh.ao a.kids.length a.qh.cap], .agg #[.int .i64 b.op, .string b.table, .int .i64 b.kind, .bool b.all, .int .i64 b.cond.op, .int .i64 b.cond.typ, .int .i64 b.cond.num, .string b.cond.text, .int .i64 b.cond.col, .slice b.cond.kh.ao b.cond.kids.length b.cond.kh.cap, .slice b.eh.ao b.exprs.length b.eh.cap, .slice b.ah.ao b.aggs.length b.ah.cap, .slice b.types.h.ao b.types.l.length b.types.h.cap, .slice b.rh.ao b.rows.length b.rh.cap, .slice b.qh.ao b.kids.length b.qh.cap]] w fun r w' => r = .returned (.bool (eqb a.er b.er)) ∧ Below w.heap.size w w' := by
  have g0 : (a.op != b.op) = false := by simpa using h0
  have H0 := hide h0
  clear h0
  have g1 : (!(a.table.toList == b.table.toList)) = false := by simpa using h1
  have H1 := hide h1
  clear h1
  have g2 : (a.kind != b.kind) = false := by simpa using h2
  have H2 := hide h2
  clear h2
  have g3 : (a.all == b.all) = true := by simpa using h3
  have H3 := hide h3
  clear h3
  have hla := hia.flat.ra.len
  have hlb := hib.flat.ra.len
  have hlc := hia.flat.rr.len
  have hld := hib.flat.rr.len
  have hle := hia.row.len
  have hlf := hib.row.len
  have HIA := hide (hia.mono (belAA (.cells #[.int .i64 a.op, .string a.table, .int .i64 a.kind, .bool a.all, .int .i64 a.cond.op, .int .i64 a.cond.typ, .int .i64 a.cond.num, .string a.cond.text, .int .i64 a.cond.col, .slice a.cond.kh.ao a.cond.kids.length a.cond.kh.cap, .slice a.eh.ao a.exprs.length a.eh.cap, .slice a.ah.ao a.aggs.length a.ah.cap, .slice a.types.h.ao a.types.l.length a.types.h.cap, .slice a.rh.ao a.rows.length a.rh.cap, .slice a.qh.ao a.kids.length a.qh.cap] 46) (.cells #[.int .i64 b.op, .string b.table, .int .i64 b.kind, .bool b.all, .int .i64 b.cond.op, .int .i64 b.cond.typ, .int .i64 b.cond.num, .string b.cond.text, .int .i64 b.cond.col, .slice b.cond.kh.ao b.cond.kids.length b.cond.kh.cap, .slice b.eh.ao b.exprs.length b.eh.cap, .slice b.ah.ao b.aggs.length b.ah.cap, .slice b.types.h.ao b.types.l.length b.types.h.cap, .slice b.rh.ao b.rows.length b.rh.cap, .slice b.qh.ao b.kids.length b.qh.cap] 46)))
  have HIB := hide (hib.mono (belAA (.cells #[.int .i64 a.op, .string a.table, .int .i64 a.kind, .bool a.all, .int .i64 a.cond.op, .int .i64 a.cond.typ, .int .i64 a.cond.num, .string a.cond.text, .int .i64 a.cond.col, .slice a.cond.kh.ao a.cond.kids.length a.cond.kh.cap, .slice a.eh.ao a.exprs.length a.eh.cap, .slice a.ah.ao a.aggs.length a.ah.cap, .slice a.types.h.ao a.types.l.length a.types.h.cap, .slice a.rh.ao a.rows.length a.rh.cap, .slice a.qh.ao a.kids.length a.qh.cap] 46) (.cells #[.int .i64 b.op, .string b.table, .int .i64 b.kind, .bool b.all, .int .i64 b.cond.op, .int .i64 b.cond.typ, .int .i64 b.cond.num, .string b.cond.text, .int .i64 b.cond.col, .slice b.cond.kh.ao b.cond.kids.length b.cond.kh.cap, .slice b.eh.ao b.exprs.length b.eh.cap, .slice b.ah.ao b.aggs.length b.ah.cap, .slice b.types.h.ao b.types.l.length b.types.h.cap, .slice b.rh.ao b.rows.length b.rh.cap, .slice b.qh.ao b.kids.length b.qh.cap] 46)))
  clear hia hib
  have hl0 : (((a.aggs.length : Nat) : Int) != ((b.aggs.length : Nat) : Int)) = false := by simp [e0]
  have HL0 := hide e0
  clear e0
  have hl1 : (((a.rows.length : Nat) : Int) != ((b.rows.length : Nat) : Int)) = false := by simp [e1]
  have HL1 := hide e1
  clear e1
  have hl2 : (((a.kids.length : Nat) : Int) != ((b.kids.length : Nat) : Int)) = false := by simp [e2]
  have HL2 := hide e2
  clear e2
  go_enter Try.func20, Try.ntmps20
  go_wp2_with (first
    | (go_at_call 48; refine (resame_any HIA.out.flat.cd b.cond _ HIA.out.flat.cd HIB.out.flat.cd).mono ?_; rintro r w1 ⟨rfl, hb1⟩; have HB1 := hide hb1; obtain ⟨g11, _⟩ := bcell hb1; clear hb1; cases hq1 : eqb a.cond.er b.cond.er <;> (have HQ1 := hide hq1; clear hq1))
    | (go_at_call 49; refine (rexprs_any a.eh b.eh a.exprs b.exprs _ (HIA.out.flat.re.mono HB1.out) (HIB.out.flat.re.mono HB1.out) (fun x hx => (HIA.out.flat.es x hx).mono HB1.out) (fun x hx => (HIB.out.flat.es x hx).mono HB1.out)).mono ?_; rintro r w2 ⟨rfl, hb2⟩; have HB2 := hide (bel_trans HB1.out hb2); obtain ⟨g12, _⟩ := bcell HB2.out; clear hb2 g11; cases hq2 : eqb (a.exprs.map Ex.er) (b.exprs.map Ex.er) <;> (have HQ2 := hide hq2; clear hq2))
    | (go_at_call 50; refine (rints_any a.types b.types _ (HIA.out.flat.ty.mono HB2.out) (HIB.out.flat.ty.mono HB2.out)).mono ?_; rintro r w3 ⟨rfl, hb3⟩; have HB3 := hide (bel_trans HB2.out hb3); obtain ⟨g13, _⟩ := bcell HB3.out; clear hb3 g12; cases hq3 : eqb a.types.l b.types.l <;> (have HQ3 := hide hq3; clear hq3)))
  · go_ret
    exact ⟨retb (eqb_no (fun e => eqb_false HQ1.out ((qer_iff a b).1 e).2.2.2.2.1)).symm, bel2 HB1.out⟩
  · go_ret
    exact ⟨retb (eqb_no (fun e => eqb_false HQ2.out ((qer_iff a b).1 e).2.2.2.2.2.1)).symm, bel2 HB2.out⟩
  · go_ret
    exact ⟨retb (eqb_no (fun e => eqb_false HQ3.out ((qer_iff a b).1 e).2.2.2.2.2.2.2.1)).symm, bel2 HB3.out⟩
  have HW3 := hide (bel2 HB3.out)
  have hw3 : w.heap.size + 2 ≤ w3.heap.size := by have := HB3.out.size; simpa using this
  have XA11 := hide (fun wr (h : Below w3.heap.size w3 wr) => (show wr.cell? ⟨w.heap.size, 11, none⟩ = some (.slice a.ah.ao a.aggs.length a.ah.cap) from box2a (bel_trans HB3.out h) (j := 11) rfl))
  have XB11 := hide (fun wr (h : Below w3.heap.size w3 wr) => (show wr.cell? ⟨w.heap.size + 1, 11, none⟩ = some (.slice b.ah.ao b.aggs.length b.ah.cap) from box2b (bel_trans HB3.out h) (j := 11) rfl))
  have XA13 := hide (fun wr (h : Below w3.heap.size w3 wr) => (show wr.cell? ⟨w.heap.size, 13, none⟩ = some (.slice a.rh.ao a.rows.length a.rh.cap) from box2a (bel_trans HB3.out h) (j := 13) rfl))
  have XB13 := hide (fun wr (h : Below w3.heap.size w3 wr) => (show wr.cell? ⟨w.heap.size + 1, 13, none⟩ = some (.slice b.rh.ao b.rows.length b.rh.cap) from box2b (bel_trans HB3.out h) (j := 13) rfl))
  have XA14 := hide (fun wr (h : Below w3.heap.size w3 wr) => (show wr.cell? ⟨w.heap.size, 14, none⟩ = some (.slice a.qh.ao a.kids.length a.qh.cap) from box2a (bel_trans HB3.out h) (j := 14) rfl))
  have XB14 := hide (fun wr (h : Below w3.heap.size w3 wr) => (show wr.cell? ⟨w.heap.size + 1, 14, none⟩ = some (.slice b.qh.ao b.kids.length b.qh.cap) from box2b (bel_trans HB3.out h) (j := 14) rfl))
  have HIA3 := hide (HIA.out.mono HB3.out)
  have HIB3 := hide (HIB.out.mono HB3.out)
  clear HIA HIB HB1 HB2 HB3 g0 g1 g2 g3 hl0 hl1 hl2 g13
  go_loopw [5] (fun i wr => ∃ k : Nat, k ≤ a.aggs.length ∧ i = .int .i64 k ∧ (∀ j (ha : j < a.aggs.length) (hb : j < b.aggs.length), j < k → a.aggs[j].er = b.aggs[j].er) ∧ Below w3.heap.size w3 wr) (fun i _ => a.aggs.length - (intOf i).toNat)
  case atStart => exact ⟨0, Nat.zero_le _, rfl, fun j _ _ h => absurd h (by omega), Below.refl _ _⟩
  case round =>
    obtain ⟨k, hk, rfl, hno, hbw0⟩ := hrel
    have HN := hide hno
    have HBW := hide hbw0
    clear hno hbw0
    have hsz : w3.heap.size ≤ wr.heap.size := HBW.out.size
    have xa6 := XA11.out wr HBW.out
    have xb6 := XB11.out wr HBW.out
    have xa8 := XA13.out wr HBW.out
    have xb8 := XB13.out wr HBW.out
    have xa9 := XA14.out wr HBW.out
    have xb9 := XB14.out wr HBW.out
    have hws : w.heap.size + 2 ≤ wr.heap.size := by omega
    clear hsz
    by_cases hlt : k < a.aggs.length
    · have hltb : k < b.aggs.length := by rw [← HL0.out]; exact hlt
      have hra' := HIA3.out.flat.ra.mono HBW.out
      have hrb' := HIB3.out.flat.ra.mono HBW.out
      have hix := hra'.ix hlt Try.underlying42 sz74
      have hjx := hrb'.ix hltb Try.underlying42 sz74
      obtain ⟨c0, c1, c2, c3, c4, c5, c6⟩ := agg_at hra' hlt
      obtain ⟨d0, d1, d2, d3, d4, d5, d6⟩ := agg_at hrb' hltb
      have HXI := hide (Agg.In.mono (HIA3.out.flat.as _ (List.getElem_mem hlt)) HBW.out)
      have HYI := hide (Agg.In.mono (HIB3.out.flat.as _ (List.getElem_mem hltb)) HBW.out)
      clear hra' hrb' xa8 xb8 xa9 xb9
      obtain ⟨xa, hxa'⟩ : ∃ x, x = a.aggs[k] := ⟨_, rfl⟩
      obtain ⟨xb, hxb'⟩ : ∃ x, x = b.aggs[k] := ⟨_, rfl⟩
      rw [← hxa'] at c0 c1 c2 c3 c4 c5 c6 HXI
      rw [← hxb'] at d0 d1 d2 d3 d4 d5 d6 HYI
      have HXE := hide hxa'
      have HYE := hide hxb'
      clear hxa' hxb'
      by_cases hf : xa.fn = xb.fn
      · have hf' : (xa.fn != xb.fn) = false := by simp [hf]
        have HF := hide hf
        clear hf
        go_wp2
        refine region_tail 26 mixed (by kernel_rfl) ?_
        simp only [List.take_succ_cons, List.take_zero, List.drop_succ_cons, List.drop_zero]
        repeat still_step
        refine wpStill_nil ?_
        go_wp2_with (go_at_call 48; refine (resame_any HXI.out.2 xb.arg _ (HXI.out.2.mono ((Below.refl _ _).drew)) (HYI.out.2.mono ((Below.refl _ _).drew))).mono ?_; rintro r v1 ⟨rfl, hb1⟩; have HV1 := hide (bel_drew hb1); clear hb1; cases hq : eqb xa.arg.er xb.arg.er)
        · have HQ := hide hq
          clear hq
          go_ret
          refine ⟨retb (eqb_no (fun e => map_ne_at hlt hltb ?_ ((qer_iff a b).1 e).2.2.2.2.2.2.1)).symm, bel_trans HW3.out (bel_trans HBW.out HV1.out)⟩
          rw [← HXE.out, ← HYE.out, Ne, aer_iff]
          exact fun h => eqb_false HQ.out h.2
        · have HQ := hide hq
          clear hq
          go_roundw
          case rel =>
            refine ⟨k + 1, by omega, by go_num, fun j hj hj2 h => ?_, bel_trans HBW.out HV1.out⟩
            by_cases e : j = k
            · subst e; rw [← HXE.out, ← HYE.out, aer_iff]; exact ⟨HF.out, eqb_true HQ.out⟩
            · exact HN.out j hj hj2 (by omega)
          case measure => simp [intOf]; omega
      · have hf' : (xa.fn != xb.fn) = true := by simpa using hf
        have HF := hide hf
        clear hf
        go_wp2
        refine region_tailK 26 mixed (by kernel_rfl) (fun KK hKK => ?_)
        simp only [List.take_succ_cons, List.take_zero, List.drop_succ_cons, List.drop_zero] at hKK ⊢
        repeat (with_reducible refine wpStill_step (fun K hK => ?_); go_simp; with_reducible refine hK _ ?_; clear hK K)
        with_reducible refine wpStill_nil ?_
        with_reducible refine hKK _ ?_
        clear hKK
        go_wp2
        go_ret
        refine ⟨retb (eqb_no (fun e => map_ne_at hlt hltb ?_ ((qer_iff a b).1 e).2.2.2.2.2.2.1)).symm, (bel_trans HW3.out HBW.out).drew⟩
        rw [← HXE.out, ← HYE.out, Ne, aer_iff]
        exact fun h => HF.out h.1
    · have HAG := hide (map_eq_all (f := Agg.er) HL0.out (fun j h1 h2 => HN.out j h1 h2 (by omega)))
      clear HN
      obtain ⟨wo, rfl⟩ : ∃ wo : World, wo = wr := ⟨_, rfl⟩
      have HBO := HBW
      clear HBW
      go_wp2
      clear xa6 xb6 xa8 xb8 xa9 xb9 hws
      go_loopw [6] (fun i wr => ∃ k : Nat, k ≤ a.rows.length ∧ i = .int .i64 k ∧ (∀ j (ha : j < a.rows.length) (hb : j < b.rows.length), j < k → a.rows[j].er = b.rows[j].er) ∧ Below w3.heap.size w3 wr) (fun i _ => a.rows.length - (intOf i).toNat)
      case atStart => exact ⟨0, Nat.zero_le _, rfl, fun j _ _ h => absurd h (by omega), HBO.out⟩
      case round =>
        obtain ⟨k, hk, rfl, hno, hbw0⟩ := hrel
        have HN := hide hno
        have HBW := hide hbw0
        clear hno hbw0
        have hsz : w3.heap.size ≤ wr.heap.size := HBW.out.size
        have xa13 := XA13.out wr HBW.out
        have xb13 := XB13.out wr HBW.out
        have xa14 := XA14.out wr HBW.out
        have xb14 := XB14.out wr HBW.out
        have hws : w.heap.size + 2 ≤ wr.heap.size := by omega
        clear hsz
        by_cases hlt : k < a.rows.length
        · have hltb : k < b.rows.length := by rw [← HL1.out]; exact hlt
          have hra' := HIA3.out.flat.rr.mono HBW.out
          have hrb' := HIB3.out.flat.rr.mono HBW.out
          have hix := hra'.ix hlt Try.underlying43 sz69
          have hjx := hrb'.ix hltb Try.underlying43 sz69
          simp only [Nat.mul_one] at hix hjx
          have c0 := vl_at hra' hlt
          have d0 := vl_at hrb' hltb
          have HXI := hide ((HIA3.out.flat.rs _ (List.getElem_mem hlt)).mono HBW.out)
          have HYI := hide ((HIB3.out.flat.rs _ (List.getElem_mem hltb)).mono HBW.out)
          clear xa14 xb14
          obtain ⟨xa, hxa'⟩ : ∃ x, x = a.rows[k] := ⟨_, rfl⟩
          obtain ⟨xb, hxb'⟩ : ∃ x, x = b.rows[k] := ⟨_, rfl⟩
          rw [← hxa'] at c0 HXI
          rw [← hxb'] at d0 HYI
          skip
          have HXE := hide hxa'
          have HYE := hide hxb'
          clear hxa' hxb' hra' hrb'
          go_wp2
          refine region_tail 10 mixed (by kernel_rfl) ?_
          simp only [List.take_succ_cons, List.take_zero, List.drop_succ_cons, List.drop_zero]
          repeat still_step
          refine wpStill_nil ?_
          have hcz := hide (cmpR_zero xa.l xb.l)
          obtain ⟨c, hc⟩ : ∃ c, c = cmpR xa.l xb.l := ⟨_, rfl⟩
          rw [← hc] at hcz
          have HC := hide hc
          clear hc
          have hcq : c = 0 ∨ (c != 0) = true := by by_cases e : c = 0 <;> simp [e]
          rcases hcq with hc0 | hc0
          · subst hc0
            go_wp2_with (go_at_call 51; refine (cmpr_any xa xb _ (HXI.out.mono ((Below.refl _ _).drew)) (HYI.out.mono ((Below.refl _ _).drew))).mono ?_; rintro r v1 ⟨rfl, hb1⟩; rw [← HC.out]; have HV1 := hide (bel_drew hb1); clear hb1)
            go_roundw
            case rel =>
              refine ⟨k + 1, by omega, by go_num, fun j hj hj2 h => ?_, bel_trans HBW.out HV1.out⟩
              by_cases e : j = k
              · subst e; rw [← HXE.out, ← HYE.out]; exact hcz.out.1 (by simp)
              · exact HN.out j hj hj2 (by omega)
            case measure => simp [intOf]; omega
          · have HC0 := hide hc0
            go_wp2_with (go_at_call 51; refine (cmpr_any xa xb _ (HXI.out.mono ((Below.refl _ _).drew)) (HYI.out.mono ((Below.refl _ _).drew))).mono ?_; rintro r v1 ⟨rfl, hb1⟩; rw [← HC.out]; have HV1 := hide (bel_drew hb1); clear hb1)
            go_ret
            refine ⟨retb (eqb_no (fun e => map_ne_at hlt hltb ?_ ((qer_iff a b).1 e).2.2.2.2.2.2.2.2.1)).symm, bel_trans HW3.out (bel_trans HBW.out HV1.out)⟩
            rw [← HXE.out, ← HYE.out]
            exact fun h => absurd (hcz.out.2 h) (by have := HC0.out; simpa using this)
        · have HRW := hide (map_eq_all (f := VL.er) HL1.out (fun j h1 h2 => HN.out j h1 h2 (by omega)))
          clear HN
          obtain ⟨wq, rfl⟩ : ∃ wq : World, wq = wr := ⟨_, rfl⟩
          have HBQ := HBW
          clear HBW
          go_wp2
          clear xa13 xb13 xa14 xb14 hws
          go_loopw [7] (fun i wr => ∃ k : Nat, k ≤ a.kids.length ∧ i = .int .i64 k ∧ (∀ j (ha : j < a.kids.length) (hb : j < b.kids.length), j < k → a.kids[j].er = b.kids[j].er) ∧ Below w3.heap.size w3 wr) (fun i _ => a.kids.length - (intOf i).toNat)
          case atStart => exact ⟨0, Nat.zero_le _, rfl, fun j _ _ h => absurd h (by omega), HBQ.out⟩
          case round =>
            obtain ⟨k, hk, rfl, hno, hbw0⟩ := hrel
            have HN := hide hno
            have HBW := hide hbw0
            clear hno hbw0
            have hsz : w3.heap.size ≤ wr.heap.size := HBW.out.size
            have xa14 := XA14.out wr HBW.out
            have xb14 := XB14.out wr HBW.out
            have hws : w.heap.size + 2 ≤ wr.heap.size := by omega
            clear hsz
            by_cases hlt : k < a.kids.length
            · have hltb : k < b.kids.length := by rw [← HL2.out]; exact hlt
              have hra' := HIA3.out.row.mono HBW.out
              have hrb' := HIB3.out.row.mono HBW.out
              have hix := hra'.ix hlt Try.underlying44 sz46
              have hjx := hrb'.ix hltb Try.underlying44 sz46
              skip
              obtain ⟨⟨c0, c1, c2, c3⟩, ⟨c4, c5, c6, c7, c8, c9⟩, c10, c11, c12, c13, c14⟩ := qu_at hra' hlt
              obtain ⟨⟨d0, d1, d2, d3⟩, ⟨d4, d5, d6, d7, d8, d9⟩, d10, d11, d12, d13, d14⟩ := qu_at hrb' hltb
              have HXI := hide ((HIA3.out.kid _ (List.getElem_mem hlt)).mono HBW.out)
              have HYI := hide ((HIB3.out.kid _ (List.getElem_mem hltb)).mono HBW.out)
              have HXA := hide (IH.out a.kids[k] (List.getElem_mem hlt) b.kids[k])
              obtain ⟨xa, hxa'⟩ : ∃ x, x = a.kids[k] := ⟨_, rfl⟩
              obtain ⟨xb, hxb'⟩ : ∃ x, x = b.kids[k] := ⟨_, rfl⟩
              rw [← hxa'] at c0 c1 c2 c3 c4 c5 c6 c7 c8 c9 c10 c11 c12 c13 c14 HXI
              rw [← hxb'] at d0 d1 d2 d3 d4 d5 d6 d7 d8 d9 d10 d11 d12 d13 d14 HYI
              rw [← hxa', ← hxb'] at HXA
              have HXE := hide hxa'
              have HYE := hide hxb'
              clear hxa' hxb' hra' hrb'
              go_wp2
              refine region_tail 10 mixed (by kernel_rfl) ?_
              simp only [List.take_succ_cons, List.take_zero, List.drop_succ_cons, List.drop_zero]
              repeat still_step
              refine wpStill_nil ?_
              go_wp2_with (go_at_call 20; refine (HXA.out _ (HXI.out.mono ((Below.refl _ _).drew)) (HYI.out.mono ((Below.refl _ _).drew))).mono ?_; rintro r v1 ⟨rfl, hb1⟩; have HV1 := hide (bel_drew hb1); clear hb1; cases hq : eqb xa.er xb.er)
              · have HQ := hide hq
                clear hq
                go_ret
                refine ⟨retb (eqb_no (fun e => map_ne_at hlt hltb ?_ ((qer_iff a b).1 e).2.2.2.2.2.2.2.2.2)).symm, bel_trans HW3.out (bel_trans HBW.out HV1.out)⟩
                rw [← HXE.out, ← HYE.out]
                exact eqb_false HQ.out
              · have HQ := hide hq
                clear hq
                go_roundw
                case rel =>
                  refine ⟨k + 1, by omega, by go_num, fun j hj hj2 h => ?_, bel_trans HBW.out HV1.out⟩
                  by_cases e : j = k
                  · subst e; rw [← HXE.out, ← HYE.out]; exact eqb_true HQ.out
                  · exact HN.out j hj hj2 (by omega)
                case measure => simp [intOf]; omega
            · have HKD := hide (map_eq_all (f := Qu.er) HL2.out (fun j h1 h2 => HN.out j h1 h2 (by omega)))
              clear HN
              go_wp2
              go_ret
              exact ⟨retb (eqb_yes ((qer_iff a b).2 ⟨H0.out, H1.out, H2.out, H3.out, eqb_true HQ1.out, eqb_true HQ2.out, HAG.out, eqb_true HQ3.out, HRW.out, HKD.out⟩)).symm, bel_trans HW3.out HBW.out⟩

theorem rqsame_any {w0 : World} {a : Qu} (h0 : a.In w0) : ∀ (b : Qu) (w : World), a.In w → b.In w →
    Calls Try.prog 20 #[.agg #[.int .i64 a.op, .string a.table, .int .i64 a.kind, .bool a.all, .int .i64 a.cond.op, .int .i64 a.cond.typ, .int .i64 a.cond.num, .string a.cond.text, .int .i64 a.cond.col, .slice a.cond.kh.ao a.cond.kids.length a.cond.kh.cap, .slice a.eh.ao a.exprs.length a.eh.cap, .slice a.ah.ao a.aggs.length a.ah.cap, .slice a.types.h.ao a.types.l.length a.types.h.cap, .slice a.rh.ao a.rows.length a.rh.cap, .slice a.qh.ao a.kids.length a.qh.cap], .agg #[.int .i64 b.op, .string b.table, .int .i64 b.kind, .bool b.all, .int .i64 b.cond.op, .int .i64 b.cond.typ, .int .i64 b.cond.num, .string b.cond.text, .int .i64 b.cond.col, .slice b.cond.kh.ao b.cond.kids.length b.cond.kh.cap, .slice b.eh.ao b.exprs.length b.eh.cap, .slice b.ah.ao b.aggs.length b.ah.cap, .slice b.types.h.ao b.types.l.length b.types.h.cap, .slice b.rh.ao b.rows.length b.rh.cap, .slice b.qh.ao b.kids.length b.qh.cap]] w fun r w' => r = .returned (.bool (eqb a.er b.er)) ∧ Below w.heap.size w w' := by
  induction h0 with
  | mk a _ _ _ ih =>
  intro b w hia hib
  by_cases h0 : a.op = b.op
  rotate_left
  · exact rqs_no0 a b w h0
  by_cases h1 : a.table.toList = b.table.toList
  rotate_left
  · exact rqs_no1 a b w h0 h1
  by_cases h2 : a.kind = b.kind
  rotate_left
  · exact rqs_no2 a b w h0 h1 h2
  by_cases h3 : a.all = b.all
  rotate_left
  · exact rqs_no3 a b w h0 h1 h2 h3
  by_cases e0 : a.aggs.length = b.aggs.length
  rotate_left
  · exact rqs_len0 a b w hia hib h0 h1 h2 h3 e0
  by_cases e1 : a.rows.length = b.rows.length
  rotate_left
  · exact rqs_len1 a b w hia hib h0 h1 h2 h3 e0 e1
  by_cases e2 : a.kids.length = b.kids.length
  rotate_left
  · exact rqs_len2 a b w hia hib h0 h1 h2 h3 e0 e1 e2
  exact rqs_main a b w hia hib h0 h1 h2 h3 e0 e1 e2 ih

end Go.Proofs.Ytmnbhdhgjbgidaa

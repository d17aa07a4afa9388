/- algebra.Tables: the names of the tables that a query scans, sorted and compacted. -/
import Derived.Test.YtmnbhdhgjbgidaaTabs
namespace Go.Proofs.Ytmnbhdhgjbgidaa
open Go.RowKit Go.Sort

/-- Between two kids, not sorted. -/
structure NA (q : Qu) (k : Nat) (l : List Str) : Prop where
  mem : ∀ x, x ∈ l ↔ x ∈ q.own ∨ x ∈ Qu.scanss (q.kids.take k)
  len : l.length ≤ 1 + Qu.wts (q.kids.take k)
theorem na_zero (q : Qu) : NA q 0 q.own := ⟨fun x => by simp [Qu.scanss], by have := own_le q; simp [Qu.wts]; omega⟩
theorem na_step {q : Qu} {k : Nat} {l m : List Str} (h : NA q k l) (hk : k < q.kids.length) (hm : NL q.kids[k] m) : NA q (k + 1) (l ++ m) := by
  refine ⟨fun x => ?_, ?_⟩
  · rw [List.mem_append, h.mem, hm.mem, scanss_take hk, List.mem_append, or_assoc]
  · have := h.len
    have := hm.len
    rw [wts_take hk, List.length_append]
    omega
theorem na_end {q : Qu} {k : Nat} {l : List Str} (h : NA q k l) (hk : k = q.kids.length) : NL q (Lib.compact (sorted l)) := by
  subst hk
  have hc := comp_sorted l
  refine ⟨hc.1, fun x => ?_, ?_⟩
  · rw [hc.2, h.mem, List.take_length, Qu.scans_eq, List.mem_append]
  · have h1 := h.len
    rw [List.take_length] at h1
    have h2 := Lib.compact_length_le (sorted l)
    have h3 : (sorted l).length = l.length := List.length_mergeSort l
    rw [Qu.wt_eq]
    omega

/-- What the two calls of the library leave. -/
theorem sorted_left {w0 w1 : World} {B g cap n nn p : Nat} {os : Array Obj} {ss : List Str} (hown : w1.ownsRow B 9 1 (.slice (some ⟨g, 0, none⟩) n cap) n (ss.map encStr)) (hbel : Below B w0 w1) (hB : B ≤ w1.heap.size) (hlen : ss.length = n) :
    (putRow encStr (Sort.ahead (grow (putRow encStr (Sort.ahead w1 nn) g 0 (sorted ss).toArray) os) p) g 0 (Lib.compact (sorted ss) ++ List.replicate (n - (Lib.compact (sorted ss)).length) []).toArray).ownsRow B 9 1
      (.slice (some ⟨g, 0, none⟩) (Lib.compact (sorted ss)).length cap) (Lib.compact (sorted ss)).length ((Lib.compact (sorted ss)).map encStr) ∧
    Below B w0 (putRow encStr (Sort.ahead (grow (putRow encStr (Sort.ahead w1 nn) g 0 (sorted ss).toArray) os) p) g 0 (Lib.compact (sorted ss) ++ List.replicate (n - (Lib.compact (sorted ss)).length) []).toArray) := by
  have hl2 : (sorted ss).length = ss.length := List.length_mergeSort ss
  have hle := Lib.compact_length_le (sorted ss)
  subst hlen
  rcases hown.2 with ⟨h0, _⟩ | ⟨g', cap', cur, hv, hbase, hb, h1, h2, h3, h4⟩
  · cases h0
  cases hv
  have hs := ownsRow_sorted (n := nn) (os := os) (ts := sorted ss) hl2 hbase hb h1 h2 h3
  have hc := Lib.ownsRow_putRow (q := p) (k := (Lib.compact (sorted ss)).length) (ys := Lib.compact (sorted ss) ++ List.replicate (ss.length - (Lib.compact (sorted ss)).length) []) hs (by simp; omega) (by omega)
  rw [List.take_left] at hc
  exact ⟨hc, Lib.below_putRow (hbel.grown (grownBy_sorted _) hB (fun j hj => by cases hj; exact hbase)) hbase⟩

theorem own_below {w w' : World} {base n size : Nat} {e : TypeId} {v : Value} {xs : List Value} (h : w.ownsRow base e size v n xs) (hb : Below w.heap.size w w') : w'.ownsRow base e size v n xs :=
  h.kept (row := none) ⟨hb.os, hb.tape, hb.output, hb.size, fun k hk _ => hb.block k hk⟩ (by cases v.ownBlock <;> simp)

/-- append(out, m...), m a row that lies in the world, of whatever length. -/
theorem wpList_append_row {P : Program} {w : World} {ops : Array Oper} {rest : List Oper} {o : Oper} {a : Act} {Q : Exit → Act → World → Prop} {α : Type} {cells : α → List Value} (hgd : o.guard = none) (s x : Operand) (t : TypeId)
    (ho : o.op = .call { callee := .builtin .append, args := #[s, x], argTypes := #[t, t] })
    (base : Nat) (e : TypeId) (i : TypeInfo) (z : Value) (size bytes : Nat) (ht : P.underlying t = some (.slice e)) (hi : P.info? e = some i) (hz : i.zero = some z)
    (hsize : i.size = size) (hby : i.bytes = bytes) (hzs : z.cells.size = size) (hsz : 0 < size)
    (v : Value) (n : Nat) (xs : List Value) (hs : a.eval s = v) (hown : w.ownsRow base e size v n xs)
    {hd : Hd} {l : List α} (hcl : ∀ x, (cells x).length = size) (hrow : Row w size cells hd l) (hx : a.eval x = .slice hd.ao l.length hd.cap) (h1 : ∀ u ∈ l.flatMap cells, u.oneCell' = true)
    (h63 : n + l.length ≤ maxLen) (hbytes : (n + l.length) * bytes ≤ 140737488355328) (hbase : base ≤ w.heap.size)
    (h : ∀ v' w', w'.ownsRow base e size v' (n + l.length) (xs ++ l.flatMap cells) → w.grownBy w' v.ownBlock → wpList P ops Q rest (a.put o.dst v') w') : wpList P ops Q (o :: rest) a w := by
  by_cases h0 : l.length = 0
  · refine wpList_append_zero hgd s x t ho base e i size ht hi v n xs hs hown hd.ao hd.cap (by rw [hx, h0]) (h v w ?_ ⟨rfl, rfl, rfl, Nat.le_refl _, fun _ _ _ => rfl⟩)
    rw [h0, List.eq_nil_of_length_eq_zero h0]
    simpa using hown
  · obtain ⟨hao, hnw⟩ := row_news hcl hsz hrow (by omega)
    exact wpList_append_own w hgd s x t ho base e i z size bytes ht hi hz hsize hby hzs hsz v n xs hs hown ⟨hd.b, hd.o, none⟩ l.length hd.cap (l.flatMap cells) (by rw [hx, hao]) (flatMap_len hcl _) hnw h1 h63 hbytes hbase (fun v' w' h2 h3 _ => h v' w' h2 h3)

set_option maxRecDepth 100000 in
set_option maxHeartbeats 4000000 in
theorem atabs_any {w0 : World} {q : Qu} (h0 : q.In w0) : ∀ (w : World), q.In w → q.wt ≤ 1048576 →
    Calls Try.prog 31 #[.agg #[.int .i64 q.op, .string q.table, .int .i64 q.kind, .bool q.all, .int .i64 q.cond.op, .int .i64 q.cond.typ, .int .i64 q.cond.num, .string q.cond.text, .int .i64 q.cond.col, .slice q.cond.kh.ao q.cond.kids.length q.cond.kh.cap, .slice q.eh.ao q.exprs.length q.eh.cap, .slice q.ah.ao q.aggs.length q.ah.cap, .slice q.types.h.ao q.types.l.length q.types.h.cap, .slice q.rh.ao q.rows.length q.rh.cap, .slice q.qh.ao q.kids.length q.qh.cap]] w fun e w' => (∃ r : SL, e = .returned (.slice r.h.ao r.l.length r.h.cap) ∧ NL q r.l ∧ r.In w') ∧ Below w.heap.size w w' := by
  induction h0 with
  | mk q _ _ _ ih =>
  intro w hin hwt
  have IH := hide ih
  clear ih
  obtain ⟨i0, hi, hz0, hz1, hz2⟩ := info_parts info_str
  have HI := hide (And.intro hi (And.intro hz0 (And.intro hz1 hz2)))
  clear hi hz0 hz1 hz2
  have l1 := hin.row.len
  have HIN := hide (hin.mono (belA (.cells #[.int .i64 q.op, .string q.table, .int .i64 q.kind, .bool q.all, .int .i64 q.cond.op, .int .i64 q.cond.typ, .int .i64 q.cond.num, .string q.cond.text, .int .i64 q.cond.col, .slice q.cond.kh.ao q.cond.kids.length q.cond.kh.cap, .slice q.eh.ao q.exprs.length q.eh.cap, .slice q.ah.ao q.aggs.length q.ah.cap, .slice q.types.h.ao q.types.l.length q.types.h.cap, .slice q.rh.ao q.rows.length q.rh.cap, .slice q.qh.ao q.kids.length q.qh.cap] 46)))
  clear hin
  go_enter Try.func31, Try.ntmps31
  go_upto_if 8 with (fail)
  go_cut [3] (fun v wx => wx.ownsRow (w.heap.size + 1) 9 1 v q.own.length (q.own.flatMap scells) ∧ Below (w.alloc (.cells #[.int .i64 q.op, .string q.table, .int .i64 q.kind, .bool q.all, .int .i64 q.cond.op, .int .i64 q.cond.typ, .int .i64 q.cond.num, .string q.cond.text, .int .i64 q.cond.col, .slice q.cond.kh.ao q.cond.kids.length q.cond.kh.cap, .slice q.eh.ao q.exprs.length q.eh.cap, .slice q.ah.ao q.aggs.length q.ah.cap, .slice q.types.h.ao q.types.l.length q.types.h.cap, .slice q.rh.ao q.rows.length q.rh.cap, .slice q.qh.ao q.kids.length q.qh.cap] 46)).heap.size (w.alloc (.cells #[.int .i64 q.op, .string q.table, .int .i64 q.kind, .bool q.all, .int .i64 q.cond.op, .int .i64 q.cond.typ, .int .i64 q.cond.num, .string q.cond.text, .int .i64 q.cond.col, .slice q.cond.kh.ao q.cond.kids.length q.cond.kh.cap, .slice q.eh.ao q.exprs.length q.eh.cap, .slice q.ah.ao q.aggs.length q.ah.cap, .slice q.types.h.ao q.types.l.length q.types.h.cap, .slice q.rh.ao q.rows.length q.rh.cap, .slice q.qh.ao q.kids.length q.qh.cap] 46)) wx)
  case first =>
    by_cases h1 : (q.op == 1) = true
    · have HE := hide (show q.own = [q.table.data.toList] by simp at h1; simp [Qu.own, h1])
      go_wp2_with (at_builtin; refine wpList_append_own _ rfl _ _ 52 rfl (w.heap.size + 1) 9 i0 (.string ByteArray.empty) 1 16 Try.underlying52 HI.out.1 HI.out.2.1 HI.out.2.2.1 HI.out.2.2.2 rfl (by decide) _ _ _ rfl (World.ownsRow_nil _ _ _ _) ⟨w.heap.size + 1, 0, none⟩ 1 1 [.string q.table] rfl rfl (new_cells1 (l := [_])) (by intro u hu; rw [List.mem_singleton.1 hu]; rfl) (by unfold maxLen; omega) (by omega) (by simp) ?_; intro v1 w1 hown1 hgrow1 _)
      go_meet
      case rel =>
        have hb := grown1 (Below.refl (w.alloc (.cells #[.int .i64 q.op, .string q.table, .int .i64 q.kind, .bool q.all, .int .i64 q.cond.op, .int .i64 q.cond.typ, .int .i64 q.cond.num, .string q.cond.text, .int .i64 q.cond.col, .slice q.cond.kh.ao q.cond.kids.length q.cond.kh.cap, .slice q.eh.ao q.exprs.length q.eh.cap, .slice q.ah.ao q.aggs.length q.ah.cap, .slice q.types.h.ao q.types.l.length q.types.h.cap, .slice q.rh.ao q.rows.length q.rh.cap, .slice q.qh.ao q.kids.length q.qh.cap] 46)).heap.size (w.alloc (.cells #[.int .i64 q.op, .string q.table, .int .i64 q.kind, .bool q.all, .int .i64 q.cond.op, .int .i64 q.cond.typ, .int .i64 q.cond.num, .string q.cond.text, .int .i64 q.cond.col, .slice q.cond.kh.ao q.cond.kids.length q.cond.kh.cap, .slice q.eh.ao q.exprs.length q.eh.cap, .slice q.ah.ao q.aggs.length q.ah.cap, .slice q.types.h.ao q.types.l.length q.types.h.cap, .slice q.rh.ao q.rows.length q.rh.cap, .slice q.qh.ao q.kids.length q.qh.cap] 46))) (Nat.le_refl _) hgrow1 (fun b hb => by cases hb)
        rw [HE.out]
        exact ⟨by simpa [scells] using hown1, hb⟩
    · have h1' : (q.op == 1) = false := by simpa using h1
      have HE := hide (show q.own = [] by simp at h1; simp [Qu.own, h1])
      clear h1
      go_wp2
      go_meet
      case rel => exact ⟨by rw [HE.out]; exact World.ownsRow_nil _ _ _ _, Below.refl _ _⟩
  case rest =>
  obtain ⟨hown0, hbw0⟩ := hcut
  have HO0 := hide hown0
  have HB0 := hide hbw0
  have x14 := box_cell hbw0 (j := 14) rfl
  clear hown0 hbw0
  go_wp2
  clear x14
  go_loopw [3, 17] (fun v i wr => ∃ (k : Nat) (L : List Str), k ≤ q.kids.length ∧ i = .int .i64 k ∧ NA q k L ∧ wr.ownsRow (w.heap.size + 1) 9 1 v L.length (L.flatMap scells) ∧ Below (w.alloc (.cells #[.int .i64 q.op, .string q.table, .int .i64 q.kind, .bool q.all, .int .i64 q.cond.op, .int .i64 q.cond.typ, .int .i64 q.cond.num, .string q.cond.text, .int .i64 q.cond.col, .slice q.cond.kh.ao q.cond.kids.length q.cond.kh.cap, .slice q.eh.ao q.exprs.length q.eh.cap, .slice q.ah.ao q.aggs.length q.ah.cap, .slice q.types.h.ao q.types.l.length q.types.h.cap, .slice q.rh.ao q.rows.length q.rh.cap, .slice q.qh.ao q.kids.length q.qh.cap] 46)).heap.size (w.alloc (.cells #[.int .i64 q.op, .string q.table, .int .i64 q.kind, .bool q.all, .int .i64 q.cond.op, .int .i64 q.cond.typ, .int .i64 q.cond.num, .string q.cond.text, .int .i64 q.cond.col, .slice q.cond.kh.ao q.cond.kids.length q.cond.kh.cap, .slice q.eh.ao q.exprs.length q.eh.cap, .slice q.ah.ao q.aggs.length q.ah.cap, .slice q.types.h.ao q.types.l.length q.types.h.cap, .slice q.rh.ao q.rows.length q.rh.cap, .slice q.qh.ao q.kids.length q.qh.cap] 46)) wr) (fun _ i _ => q.kids.length - (intOf i).toNat)
  case atStart => exact ⟨0, q.own, Nat.zero_le _, rfl, na_zero q, HO0.out, HB0.out⟩
  case round =>
    clear HO0 HB0
    obtain ⟨k, L, hk, rfl, hna, hown, hbw⟩ := hrel
    have HNA := hide hna
    have HO := hide hown
    have HBW := hide hbw
    clear hna hown hbw
    have hsz : w.heap.size + 1 ≤ wr.heap.size := by have := HBW.out.size; simpa using this
    by_cases hlt : k < q.kids.length
    · have hlti : (k : Int) < q.kids.length := by omega
      have hrow := HIN.out.row.mono HBW.out
      have hix := hrow.ix hlt Try.underlying44 sz46
      obtain ⟨⟨c0, c1, c2, c3⟩, ⟨c4, c5, c6, c7, c8, c9⟩, ⟨c10, c11, c12, c13, c14⟩⟩ := qu_at hrow hlt
      have hbk := hrow.blk hlt
      have HXI := hide ((HIN.out.kid _ (List.getElem_mem hlt)).mono HBW.out)
      have HWK := hide (Nat.le_trans (Qu.wt_kid (List.getElem_mem hlt)) hwt)
      have HIH := hide (IH.out _ (List.getElem_mem hlt))
      have HSTEP := hide (fun m (hm : NL q.kids[k] m) => na_step HNA.out hlt hm)
      have HLEN := hide (show ∀ m, NL q.kids[k] m → L.length + m.length ≤ 1048576 from fun m hm => by
        have h1 := HNA.out.len
        have h2 := hm.len
        have h3 := wts_take hlt
        have h4 := wts_take_le q.kids (k + 1)
        have h5 := Qu.wt_eq q
        omega)
      clear hrow
      generalize q.kids[k] = x at *
      go_wp2_with (first
        | (go_at_call 31; refine (HIH.out _ (HXI.out.mono (belA _)) HWK.out).mono ?_; rintro e w2 ⟨⟨m, rfl, hnl, hmi⟩, hb2⟩; have HNL := hide hnl; have HMI := hide hmi; have HB2 := hide (bel_trans (belA _) hb2); have HO2 := hide (own_below HO.out HB2.out); have HL2 := hide (HLEN.out _ hnl); have hs2 := HB2.out.size; clear hnl hmi hb2)
        | (at_builtin; refine wpList_append_row rfl (.tmp 21) (.tmp 23) 52 rfl (w.heap.size + 1) 9 i0 (.string ByteArray.empty) 1 16 Try.underlying52 HI.out.1 HI.out.2.1 HI.out.2.2.1 HI.out.2.2.2 rfl (by decide) _ _ _ rfl HO2.out sc_len HMI.out rfl sc_ones (by have := HL2.out; unfold maxLen; omega) (by have := HL2.out; omega) (by omega) ?_; intro v3 w3 hown3 hgrow3))
      go_roundw
      case rel =>
        refine ⟨k + 1, L ++ m.l, by omega, by go_num, HSTEP.out _ HNL.out, ?_, ?_⟩
        · rw [List.length_append, List.flatMap_append]; exact hown3
        · exact (bel_trans HBW.out HB2.out).grown hgrow3 (by simp; omega) (fun b hb => (by simpa using (HO2.out.lt b hb).1))
      case measure => simp [intOf]; omega
    · have hlti : ¬ (k : Int) < q.kids.length := by omega
      have HNE := hide (na_end HNA.out (by omega))
      have HLL := hide (show L.length ≤ 1048576 by
        have h1 := HNA.out.len
        have h4 := wts_take_le q.kids k
        have h5 := Qu.wt_eq q
        omega)
      have ho := HO.out
      rw [sc_map] at ho
      rcases Classical.em (u3 = .slice none 0 0) with hv | hv
      · subst hv
        have HL := hide (show L = [] by
          rcases ho.2 with ⟨_, h⟩ | ⟨g', cap', cur, h, _⟩
          · exact List.eq_nil_of_length_eq_zero h
          · cases h)
        clear ho
        go_wp2_with (first
          | (go_at_call 59; refine (Try.slices_Sort_string_none none 0 wr).mono ?_; rintro e w5 ⟨rfl, rfl⟩)
          | (go_at_call 60; refine (Try.slices_Compact_string_empty none 0 _).mono ?_; rintro e w6 ⟨rfl, rfl⟩))
        go_ret
        have hne := HNE.out
        have hnil : Lib.compact (sorted []) = [] := List.eq_nil_of_length_eq_zero (by
          have h1 := Lib.compact_length_le (sorted [])
          have h2 : (sorted []).length = 0 := List.length_mergeSort _
          omega)
        rw [HL.out, hnil] at hne
        exact ⟨⟨⟨nilHd, []⟩, rfl, hne, Row.nil _ _ _⟩, (belA _).trans (HBW.out.mono (by simp))⟩
      · obtain ⟨g, cap, rfl, hbg, hgl, hncap, hcm, hlen, hH⟩ := Lib.holds_of_ownsRow ho hv
        have HOW := hide ho
        have hl2 : (sorted L).length = L.length := List.length_mergeSort L
        have HSO := hide (Try.slices_Sort_string g 0 cap L wr hH hgl (by have := HLL.out; omega))
        have HCP := hide (fun (nn : Nat) (os : Array Obj) => Try.slices_Compact_string g 0 cap (sorted L) (grow (putRow encStr (Sort.ahead wr nn) g 0 (sorted L).toArray) os)
          (holds_grow encStr _ os g 0 _ (by simpa [putRow, mapBlock, Sort.ahead] using hgl) (holds_putRow encStr _ g 0 _ _ (holds_ahead encStr wr nn g 0 _ hH) (by rw [List.size_toArray, hl2]; simp))) (by have := HLL.out; omega) (by omega))
        rw [hl2] at HCP
        clear ho hH hv hl2
        go_wp2_with (first
          | (go_at_call 59; refine HSO.out.mono ?_; rintro e w5 ⟨rfl, nn, os, rfl⟩)
          | (go_at_call 60; refine (HCP.out nn os).mono ?_; rintro e w6 ⟨rfl, p, rfl⟩))
        go_ret
        have hs := sorted_left (nn := nn) (os := os) (p := p) HOW.out (HBW.out.mono (B' := w.heap.size + 1) (by simp)) hsz rfl
        have ho := hs.1
        rw [← sc_map] at ho
        obtain ⟨r, hv, hr, hin2⟩ := sl_mk ho
        exact ⟨⟨r, congrArg Ending.returned hv, by rw [hr]; exact HNE.out, hin2⟩, (belA _).trans (hs.2.mono (by omega))⟩
end Go.Proofs.Ytmnbhdhgjbgidaa

/- ref04.Tables, algebra.Tables: the names of the tables that a query scans, ascending, each once. -/
import Derived.Test.YtmnbhdhgjbgidaaWords
import Derived.Test.YtmnbhdhgjbgidaaDep
import Derived.Test.YtmnbhdhgjbgidaaShelfSort
import Derived.Sort.OwnSorted
import Derived.Lib.OwnBridge
import Derived.Lib.RowBridge
namespace Go.Proofs.Ytmnbhdhgjbgidaa
open Go.RowKit

mutual
/-- The names that a query scans. -/
def Qu.scans : Qu → List Str
  | ⟨op, table, _, _, _, _, _, _, _, _, _, _, _, kids⟩ => (if op = 1 then [table.data.toList] else []) ++ Qu.scanss kids
def Qu.scanss : List Qu → List Str
  | [] => []
  | k :: r => Qu.scans k ++ Qu.scanss r
end
def Qu.own (q : Qu) : List Str := if q.op = 1 then [q.table.data.toList] else []
theorem Qu.scans_eq (q : Qu) : q.scans = q.own ++ Qu.scanss q.kids := by cases q; rw [Qu.scans]; rfl
theorem scanss_snoc (l : List Qu) (x : Qu) : Qu.scanss (l ++ [x]) = Qu.scanss l ++ x.scans := by
  induction l with
  | nil => simp [Qu.scanss]
  | cons a l ih => simp only [List.cons_append, Qu.scanss, ih, List.append_assoc]
theorem scanss_take {l : List Qu} {k : Nat} (h : k < l.length) : Qu.scanss (l.take (k + 1)) = Qu.scanss (l.take k) ++ l[k].scans := by
  rw [List.take_succ_eq_append_getElem h, scanss_snoc]
theorem wts_snoc (l : List Qu) (x : Qu) : Qu.wts (l ++ [x]) = Qu.wts l + x.wt := by
  induction l with
  | nil => simp [Qu.wts]
  | cons a l ih => simp only [List.cons_append, Qu.wts, ih]; omega
theorem wts_take {l : List Qu} {k : Nat} (h : k < l.length) : Qu.wts (l.take (k + 1)) = Qu.wts (l.take k) + l[k].wt := by
  rw [List.take_succ_eq_append_getElem h, wts_snoc]
theorem wts_take_le (l : List Qu) (k : Nat) : Qu.wts (l.take k) ≤ Qu.wts l := by
  induction l generalizing k with
  | nil => simp
  | cons a l ih =>
    cases k with
    | zero => simp [Qu.wts]
    | succ k => rw [List.take_succ_cons, Qu.wts, Qu.wts]; have := ih k; omega
theorem own_asc (q : Qu) : Asc q.own := by unfold Qu.own; split <;> simp [Asc]
theorem own_le (q : Qu) : q.own.length ≤ 1 := by unfold Qu.own; split <;> simp
theorem ins_len : ∀ (l : List Str) (s : Str), (ins l s).length ≤ l.length + 1
  | [], s => by simp [ins]
  | a :: l, s => by
    unfold ins
    split
    · have := ins_len l s; simp; omega
    · split <;> simp
theorem inss_len : ∀ (m l : List Str), (m.foldl ins l).length ≤ l.length + m.length
  | [], l => by simp
  | s :: m, l => by rw [List.foldl_cons]; have := inss_len m (ins l s); have := ins_len l s; simp; omega

/-- A name list of a query: ascending, just its scans, not longer than the query. -/
structure NL (q : Qu) (l : List Str) : Prop where
  asc : Asc l
  mem : ∀ x, x ∈ l ↔ x ∈ q.scans
  len : l.length ≤ q.wt
theorem nl_one {q : Qu} {a b : List Str} (ha : NL q a) (hb : NL q b) : a = b := asc_ext ha.asc hb.asc (fun x => (ha.mem x).trans (hb.mem x).symm)

/-- Between two kids. -/
structure NK (q : Qu) (k : Nat) (l : List Str) : Prop where
  asc : Asc l
  mem : ∀ x, x ∈ l ↔ x ∈ q.own ∨ x ∈ Qu.scanss (q.kids.take k)
  len : l.length ≤ 1 + Qu.wts (q.kids.take k)
theorem nk_zero (q : Qu) : NK q 0 q.own := ⟨own_asc q, fun x => by simp [Qu.scanss], by have := own_le q; simp [Qu.wts]; omega⟩
theorem nk_step {q : Qu} {k : Nat} {l m : List Str} (h : NK q k l) (hk : k < q.kids.length) (hm : NL q.kids[k] m) : NK q (k + 1) (m.foldl ins l) := by
  refine ⟨inss_asc m h.asc, fun x => ?_, ?_⟩
  · rw [inss_mem, h.mem, hm.mem, scanss_take hk, List.mem_append, or_assoc]
  · have := inss_len m l
    have := h.len
    have := hm.len
    rw [wts_take hk]
    omega
theorem nk_end {q : Qu} {k : Nat} {l : List Str} (h : NK q k l) (hk : k = q.kids.length) : NL q l := by
  subst hk
  refine ⟨h.asc, fun x => ?_, ?_⟩
  · rw [h.mem, List.take_length, Qu.scans_eq, List.mem_append]
  · have := h.len
    rw [List.take_length] at this
    rw [Qu.wt_eq]
    omega

set_option maxRecDepth 100000 in
set_option maxHeartbeats 4000000 in
theorem rtabs_any {w0 : World} {q : Qu} (h0 : q.In w0) : ∀ (w : World), q.In w → q.wt ≤ 1048576 →
    Calls Try.prog 32 #[.agg #[.int .i64 q.op, .string q.table, .int .i64 q.kind, .bool q.all, .int .i64 q.cond.op, .int .i64 q.cond.typ, .int .i64 q.cond.num, .string q.cond.text, .int .i64 q.cond.col, .slice q.cond.kh.ao q.cond.kids.length q.cond.kh.cap, .slice q.eh.ao q.exprs.length q.eh.cap, .slice q.ah.ao q.aggs.length q.ah.cap, .slice q.types.h.ao q.types.l.length q.types.h.cap, .slice q.rh.ao q.rows.length q.rh.cap, .slice q.qh.ao q.kids.length q.qh.cap]] w fun e w' => (∃ r : SL, e = .returned (.slice r.h.ao r.l.length r.h.cap) ∧ NL q r.l ∧ r.In w') ∧ Below w.heap.size w w' := by
  induction h0 with
  | mk q _ _ _ ih =>
  intro w hin hwt
  have IH := hide ih
  clear ih
  obtain ⟨i0, hi, hz0, hz1, hz2⟩ := info_parts info_str
  have HI := hide (And.intro hi (And.intro hz0 (And.intro hz1 hz2)))
  clear hi hz0 hz1 hz2
  have l1 := hin.row.len
  have HIN := hide (hin.mono (belA (.cells #[.int .i64 q.op, .string q.table, .int .i64 q.kind, .bool q.all, .int .i64 q.cond.op, .int .i64 q.cond.typ, .int .i64 q.cond.num, .string q.cond.text, .int .i64 q.cond.col, .slice q.cond.kh.ao q.cond.kids.length q.cond.kh.cap, .slice q.eh.ao q.exprs.length q.eh.cap, .slice q.ah.ao q.aggs.length q.ah.cap, .slice q.types.h.ao q.types.l.length q.types.h.cap, .slice q.rh.ao q.rows.length q.rh.cap, .slice q.qh.ao q.kids.length q.qh.cap] 46)))
  clear hin
  go_enter Try.func32, Try.ntmps32
  go_upto_if 9 with (fail)
  go_cut [3] (fun v wx => (∃ r : SL, v = .slice r.h.ao r.l.length r.h.cap ∧ r.l = q.own ∧ r.In wx) ∧ Below (w.alloc (.cells #[.int .i64 q.op, .string q.table, .int .i64 q.kind, .bool q.all, .int .i64 q.cond.op, .int .i64 q.cond.typ, .int .i64 q.cond.num, .string q.cond.text, .int .i64 q.cond.col, .slice q.cond.kh.ao q.cond.kids.length q.cond.kh.cap, .slice q.eh.ao q.exprs.length q.eh.cap, .slice q.ah.ao q.aggs.length q.ah.cap, .slice q.types.h.ao q.types.l.length q.types.h.cap, .slice q.rh.ao q.rows.length q.rh.cap, .slice q.qh.ao q.kids.length q.qh.cap] 46)).heap.size (w.alloc (.cells #[.int .i64 q.op, .string q.table, .int .i64 q.kind, .bool q.all, .int .i64 q.cond.op, .int .i64 q.cond.typ, .int .i64 q.cond.num, .string q.cond.text, .int .i64 q.cond.col, .slice q.cond.kh.ao q.cond.kids.length q.cond.kh.cap, .slice q.eh.ao q.exprs.length q.eh.cap, .slice q.ah.ao q.aggs.length q.ah.cap, .slice q.types.h.ao q.types.l.length q.types.h.cap, .slice q.rh.ao q.rows.length q.rh.cap, .slice q.qh.ao q.kids.length q.qh.cap] 46)) wx)
  case first =>
    by_cases h1 : (q.op == 1) = true
    · have HE := hide (show q.own = [q.table.data.toList] by simp at h1; simp [Qu.own, h1])
      go_wp2_with (at_builtin; refine wpList_append_own _ rfl _ _ 52 rfl (w.heap.size + 1) 9 i0 (.string ByteArray.empty) 1 16 Try.underlying52 HI.out.1 HI.out.2.1 HI.out.2.2.1 HI.out.2.2.2 rfl (by decide) _ _ _ rfl (World.ownsRow_nil _ _ _ _) ⟨w.heap.size + 1, 0, none⟩ 1 1 [.string q.table] rfl rfl (new_cells1 (l := [_])) (by intro u hu; rw [List.mem_singleton.1 hu]; rfl) (by unfold maxLen; omega) (by omega) (by simp) ?_; intro v1 w1 hown1 hgrow1 _)
      go_meet
      case rel =>
        have hb := grown1 (Below.refl (w.alloc (.cells #[.int .i64 q.op, .string q.table, .int .i64 q.kind, .bool q.all, .int .i64 q.cond.op, .int .i64 q.cond.typ, .int .i64 q.cond.num, .string q.cond.text, .int .i64 q.cond.col, .slice q.cond.kh.ao q.cond.kids.length q.cond.kh.cap, .slice q.eh.ao q.exprs.length q.eh.cap, .slice q.ah.ao q.aggs.length q.ah.cap, .slice q.types.h.ao q.types.l.length q.types.h.cap, .slice q.rh.ao q.rows.length q.rh.cap, .slice q.qh.ao q.kids.length q.qh.cap] 46)).heap.size (w.alloc (.cells #[.int .i64 q.op, .string q.table, .int .i64 q.kind, .bool q.all, .int .i64 q.cond.op, .int .i64 q.cond.typ, .int .i64 q.cond.num, .string q.cond.text, .int .i64 q.cond.col, .slice q.cond.kh.ao q.cond.kids.length q.cond.kh.cap, .slice q.eh.ao q.exprs.length q.eh.cap, .slice q.ah.ao q.aggs.length q.ah.cap, .slice q.types.h.ao q.types.l.length q.types.h.cap, .slice q.rh.ao q.rows.length q.rh.cap, .slice q.qh.ao q.kids.length q.qh.cap] 46))) (Nat.le_refl _) hgrow1 (fun b hb => by cases hb)
        have ho := hown1
        rw [show [] ++ [Value.string q.table] = q.own.flatMap scells by rw [HE.out]; simp [scells]] at ho
        obtain ⟨r, hv, hr, hin2⟩ := sl_mk ho
        exact ⟨⟨r, hv, hr, hin2⟩, hb⟩
    · have h1' : (q.op == 1) = false := by simpa using h1
      have HE := hide (show q.own = [] by simp at h1; simp [Qu.own, h1])
      clear h1
      go_wp2
      go_meet
      case rel => exact ⟨⟨⟨nilHd, []⟩, rfl, HE.out.symm, Row.nil _ _ _⟩, Below.refl _ _⟩
  case rest =>
  obtain ⟨⟨r0, rfl, hr0, hin0⟩, hbw0⟩ := hcut
  have HR0 := hide hr0
  have HIN0 := hide hin0
  have HB0 := hide hbw0
  clear hr0 hin0 hbw0
  go_wp2
  go_loopw [3, 4] (fun v i wr => ∃ (k : Nat) (r : SL), k ≤ q.kids.length ∧ i = .int .i64 k ∧ v = .slice r.h.ao r.l.length r.h.cap ∧ NK q k r.l ∧ r.In wr ∧ Below (w.alloc (.cells #[.int .i64 q.op, .string q.table, .int .i64 q.kind, .bool q.all, .int .i64 q.cond.op, .int .i64 q.cond.typ, .int .i64 q.cond.num, .string q.cond.text, .int .i64 q.cond.col, .slice q.cond.kh.ao q.cond.kids.length q.cond.kh.cap, .slice q.eh.ao q.exprs.length q.eh.cap, .slice q.ah.ao q.aggs.length q.ah.cap, .slice q.types.h.ao q.types.l.length q.types.h.cap, .slice q.rh.ao q.rows.length q.rh.cap, .slice q.qh.ao q.kids.length q.qh.cap] 46)).heap.size (w.alloc (.cells #[.int .i64 q.op, .string q.table, .int .i64 q.kind, .bool q.all, .int .i64 q.cond.op, .int .i64 q.cond.typ, .int .i64 q.cond.num, .string q.cond.text, .int .i64 q.cond.col, .slice q.cond.kh.ao q.cond.kids.length q.cond.kh.cap, .slice q.eh.ao q.exprs.length q.eh.cap, .slice q.ah.ao q.aggs.length q.ah.cap, .slice q.types.h.ao q.types.l.length q.types.h.cap, .slice q.rh.ao q.rows.length q.rh.cap, .slice q.qh.ao q.kids.length q.qh.cap] 46)) wr) (fun _ i _ => q.kids.length - (intOf i).toNat)
  case atStart => exact ⟨0, r0, Nat.zero_le _, rfl, rfl, by rw [HR0.out]; exact nk_zero q, HIN0.out, HB0.out⟩
  case round =>
    clear HR0 HIN0 HB0
    obtain ⟨k, r, hk, rfl, rfl, hnk, hrin, hbw⟩ := hrel
    have HNK := hide hnk
    have HRI := hide hrin
    have HBW := hide hbw
    clear hnk hrin hbw
    have x14 := box_cell HBW.out (j := 14) rfl
    by_cases hlt : k < q.kids.length
    · have hlti : (k : Int) < q.kids.length := by omega
      have hrow := HIN.out.row.mono HBW.out
      have hix := hrow.ix hlt Try.underlying44 sz46
      obtain ⟨⟨c0, c1, c2, c3⟩, ⟨c4, c5, c6, c7, c8, c9⟩, ⟨c10, c11, c12, c13, c14⟩⟩ := qu_at hrow hlt
      have hbk := hrow.blk hlt
      have HXI := hide ((HIN.out.kid _ (List.getElem_mem hlt)).mono HBW.out)
      have HWK := hide (Nat.le_trans (Qu.wt_kid (List.getElem_mem hlt)) hwt)
      have HIH := hide (IH.out _ (List.getElem_mem hlt))
      have HSTEP := hide (fun m (hm : NL q.kids[k] m) => nk_step HNK.out hlt hm)
      have HLEN := hide (show ∀ m, NL q.kids[k] m → r.l.length + m.length ≤ 1048576 from fun m hm => by
        have h1 := HNK.out.len
        have h2 := hm.len
        have h3 := wts_take hlt
        have h4 := wts_take_le q.kids (k + 1)
        have h5 := Qu.wt_eq q
        omega)
      clear hrow
      generalize q.kids[k] = x at *
      go_wp2_with (go_at_call 32; refine (HIH.out _ HXI.out HWK.out).mono ?_; rintro e w2 ⟨⟨m, rfl, hnl, hmi⟩, hb2⟩; have HNL := hide hnl; have HMI := hide hmi; have HB2 := hide hb2; have hml := Row.len hmi; clear hnl hmi hb2)
      clear c0 c1 c2 c3 c4 c5 c6 c7 c8 c9 c10 c11 c12 c13 c14 x14 hix hbk
      go_loopw [3, 6] (fun v i wx => ∃ (p : Nat) (u : SL), p ≤ m.l.length ∧ i = .int .i64 p ∧ v = .slice u.h.ao u.l.length u.h.cap ∧ u.l = (m.l.take p).foldl ins r.l ∧ u.In wx ∧ Below w2.heap.size w2 wx) (fun _ i _ => m.l.length - (intOf i).toNat)
      case atStart => exact ⟨0, r, Nat.zero_le _, rfl, rfl, by simp, HRI.out.mono HB2.out, Below.refl _ _⟩
      case round =>
        obtain ⟨p, u, hp, rfl, rfl, hul, hui, hbx⟩ := hrel
        have HUL := hide hul
        have HUI := hide hui
        have HBX := hide hbx
        have HM2 := hide (HMI.out.mono hbx)
        clear hul hui hbx
        by_cases hpt : p < m.l.length
        · have hpti : (p : Int) < m.l.length := by omega
          have hix := SL.ix HM2.out hpt
          have c0 := str_at HM2.out hpt
          have HUB := hide (show u.l.length ≤ 1048576 by
            have h1 := inss_len (m.l.take p) r.l
            rw [← HUL.out] at h1
            have h2 := HLEN.out m.l HNL.out
            have h3 : (m.l.take p).length ≤ m.l.length := by rw [List.length_take]; omega
            omega)
          go_wp2_with (go_at_call 61; refine (insert_any u m.l[p] _ HUI.out HUB.out).mono ?_; rintro e w3 ⟨⟨u2, rfl, hu2, hu2i⟩, hb3⟩; have HU2 := hide hu2; have HU2I := hide hu2i; have HB3 := hide hb3; clear hu2 hu2i hb3)
          go_roundw
          case rel =>
            refine ⟨p + 1, u2, by omega, by go_num, rfl, ?_, HU2I.out, bel_trans HBX.out HB3.out⟩
            rw [HU2.out, HUL.out, List.take_succ_eq_append_getElem hpt, List.foldl_append]
            rfl
          case measure => simp [intOf]; omega
        · have hpti : ¬ (p : Int) < m.l.length := by omega
          have HE := hide (show u.l = m.l.foldl ins r.l by rw [HUL.out, show p = m.l.length by omega, List.take_length])
          go_wp2
          go_roundw
          case rel => exact ⟨k + 1, u, by omega, by go_num, rfl, by rw [HE.out]; exact HSTEP.out _ HNL.out, HUI.out, bel_trans HBW.out (bel_trans HB2.out HBX.out)⟩
          case measure => simp [intOf]; omega
    · have hlti : ¬ (k : Int) < q.kids.length := by omega
      go_wp2
      go_ret
      exact ⟨⟨r, rfl, nk_end HNK.out (by omega), HRI.out⟩, (belA _).trans (HBW.out.mono (by simp))⟩
end Go.Proofs.Ytmnbhdhgjbgidaa

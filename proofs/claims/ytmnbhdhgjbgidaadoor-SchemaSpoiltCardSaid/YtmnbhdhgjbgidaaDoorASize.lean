/- expression.Size, algebra.expressions, algebra.Size. -/
import Derived.Test.YtmnbhdhgjbgidaaDoorASizeT
namespace Go.Proofs.YtmnbhdhgjbgidaaDoor
open Go.RowKit

set_option maxRecDepth 100000 in
set_option maxHeartbeats 400000 in
theorem esize_any {w0 : World} {e : Ex} (h0 : e.In w0) : ∀ w : World, e.In w →
    Calls Tryd.prog 59 #[.agg #[.int .i64 e.op, .int .i64 e.typ, .int .i64 e.num, .string e.text, .int .i64 e.col, .slice e.kh.ao e.kids.length e.kh.cap]] w fun r w' => r = .returned (.int .i64 (wrap64 (e.size : Int))) ∧ Below w.heap.size w w' := by
  induction h0 with
  | mk e _ _ _ ih =>
  intro w hin
  have IH := hide ih
  clear ih
  have hn := hin.row.len
  go_enter Tryd.func59, Tryd.ntmps59
  go_wp2
  go_loopw [3, 9] (fun v i wr => ∃ k : Nat, k ≤ e.kids.length ∧ i = .int .i64 k ∧ v = .int .i64 (wrap64 ((1 + Ex.sizes (e.kids.take k) : Nat) : Int)) ∧ Below w.heap.size w wr) (fun _ i _ => e.kids.length - (intOf i).toNat)
  case atStart => exact ⟨0, Nat.zero_le _, rfl, by simp [Ex.sizes, wrap64], belA _⟩
  case round =>
    obtain ⟨k, hk, rfl, rfl, hbw⟩ := hrel
    have HB := hide hbw
    have hin' := hin.mono hbw
    clear hbw
    generalize hV : wrap64 ((1 + Ex.sizes (e.kids.take k) : Nat) : Int) = V
    have HV := hide hV
    clear hV
    by_cases hlt : k < e.kids.length
    · have hlti : (k : Int) < e.kids.length := by omega
      have hix := hin'.row.ix hlt Tryd.underlying37 sz41
      obtain ⟨c0, c1, c2, c3, c4, c5⟩ := ex_at hin'.row hlt
      have hkin := hide (hin'.kid _ (List.getElem_mem hlt))
      go_wp2_with (go_at_call 59; refine (IH.out _ (List.getElem_mem hlt) _ (hkin.out.mono (belA _))).mono ?_; rintro r w1 ⟨rfl, hb1⟩; have HB1 := hide hb1; clear hb1)
      go_roundw
      case rel =>
        refine ⟨k + 1, by omega, by go_num, ?_, bel_trans HB.out (bel_trans (belA _) HB1.out)⟩
        rw [← HV.out, wrap_add, Ex.sizes_take hlt]
        exact val_eq (by congr 1; omega)
      case measure => simp [intOf]; omega
    · have hlti : ¬ (k : Int) < e.kids.length := by omega
      go_wp2
      go_ret
      have hk' : k = e.kids.length := by omega
      refine ⟨ret1 ?_, HB.out⟩
      rw [← HV.out, hk', List.take_length, Ex.size_eq]


/-- The expressions that a query uses. -/
def Qu.qex (q : Qu) : List Ex := q.qcs ++ q.qes ++ q.qas
theorem qex_size (q : Qu) : Ex.sizes q.qex = q.csz + q.esz + q.asz := by unfold Qu.qex; rw [sizes_append, sizes_append, qcs_size, qes_size, qas_size]
/-- The expressions of a query, its first k aggregates'. -/
def AL (q : Qu) (k : Nat) : List Ex := q.qcs ++ q.qes ++ ((q.aggs.take k).filter fun a => a.fn != 1).map Agg.arg
theorem AL_skip {q : Qu} {k : Nat} (h : k < q.aggs.length) (hf : q.aggs[k].fn = 1) : AL q (k + 1) = AL q k := by
  unfold AL; rw [fil_take h, if_pos hf, List.append_nil]
theorem AL_take {q : Qu} {k : Nat} (h : k < q.aggs.length) (hf : ¬ q.aggs[k].fn = 1) : AL q (k + 1) = AL q k ++ [q.aggs[k].arg] := by
  unfold AL; rw [fil_take h, if_neg hf, List.append_assoc (q.qcs ++ q.qes)]
theorem AL_len (q : Qu) (k : Nat) : (AL q k).length ≤ 1 + q.exprs.length + q.aggs.length := by
  unfold AL
  rw [List.length_append, List.length_append, List.length_map]
  have h1 : q.qcs.length ≤ 1 := by unfold Qu.qcs; split <;> simp
  have h2 : q.qes.length ≤ q.exprs.length := by unfold Qu.qes; split <;> simp
  have h3 := List.length_filter_le (fun a : Agg => a.fn != 1) (q.aggs.take k)
  rw [List.length_take] at h3
  omega

set_option maxRecDepth 100000 in
set_option maxHeartbeats 2000000 in
theorem exprs_any {q : Qu} (w : World) (hin : q.In w) (he : q.exprs.length ≤ 1048576) (ha : q.aggs.length ≤ 1048576) :
    Calls Tryd.prog 58 #[.agg #[.int .i64 q.op, .string q.table, .int .i64 q.kind, .bool q.all, .int .i64 q.cond.op, .int .i64 q.cond.typ, .int .i64 q.cond.num, .string q.cond.text, .int .i64 q.cond.col, .slice q.cond.kh.ao q.cond.kids.length q.cond.kh.cap, .slice q.eh.ao q.exprs.length q.eh.cap, .slice q.ah.ao q.aggs.length q.ah.cap, .slice q.types.h.ao q.types.l.length q.types.h.cap, .slice q.rh.ao q.rows.length q.rh.cap, .slice q.qh.ao q.kids.length q.qh.cap]] w fun r w' => (∃ hd : Hd, r = .returned (.slice hd.ao q.qex.length hd.cap) ∧ Row w' 6 Ex.cells hd q.qex) ∧ Below w.heap.size w w' := by
  obtain ⟨i0, hi, hz0, hz1, hz2⟩ := info_parts info_ex
  have HI := hide (And.intro hi (And.intro hz0 (And.intro hz1 hz2)))
  clear hi hz0 hz1 hz2
  have HIN := hide (hin.mono (belA (.cells #[.int .i64 q.op, .string q.table, .int .i64 q.kind, .bool q.all, .int .i64 q.cond.op, .int .i64 q.cond.typ, .int .i64 q.cond.num, .string q.cond.text, .int .i64 q.cond.col, .slice q.cond.kh.ao q.cond.kids.length q.cond.kh.cap, .slice q.eh.ao q.exprs.length q.eh.cap, .slice q.ah.ao q.aggs.length q.ah.cap, .slice q.types.h.ao q.types.l.length q.types.h.cap, .slice q.rh.ao q.rows.length q.rh.cap, .slice q.qh.ao q.kids.length q.qh.cap] 57)))
  clear hin
  go_enter Tryd.func58, Tryd.ntmps58
  go_upto_block 0 with (fail)
  go_cut [3] (fun v wx => wx.ownsRow (w.heap.size + 1) 45 6 v (q.qcs ++ q.qes).length ((q.qcs ++ q.qes).flatMap Ex.cells) ∧ Below (w.alloc (.cells #[.int .i64 q.op, .string q.table, .int .i64 q.kind, .bool q.all, .int .i64 q.cond.op, .int .i64 q.cond.typ, .int .i64 q.cond.num, .string q.cond.text, .int .i64 q.cond.col, .slice q.cond.kh.ao q.cond.kids.length q.cond.kh.cap, .slice q.eh.ao q.exprs.length q.eh.cap, .slice q.ah.ao q.aggs.length q.ah.cap, .slice q.types.h.ao q.types.l.length q.types.h.cap, .slice q.rh.ao q.rows.length q.rh.cap, .slice q.qh.ao q.kids.length q.qh.cap] 57)).heap.size (w.alloc (.cells #[.int .i64 q.op, .string q.table, .int .i64 q.kind, .bool q.all, .int .i64 q.cond.op, .int .i64 q.cond.typ, .int .i64 q.cond.num, .string q.cond.text, .int .i64 q.cond.col, .slice q.cond.kh.ao q.cond.kids.length q.cond.kh.cap, .slice q.eh.ao q.exprs.length q.eh.cap, .slice q.ah.ao q.aggs.length q.ah.cap, .slice q.types.h.ao q.types.l.length q.types.h.cap, .slice q.rh.ao q.rows.length q.rh.cap, .slice q.qh.ao q.kids.length q.qh.cap] 57)) wx)
  case first =>
    have hnil := World.ownsRow_nil (w.alloc (.cells #[.int .i64 q.op, .string q.table, .int .i64 q.kind, .bool q.all, .int .i64 q.cond.op, .int .i64 q.cond.typ, .int .i64 q.cond.num, .string q.cond.text, .int .i64 q.cond.col, .slice q.cond.kh.ao q.cond.kids.length q.cond.kh.cap, .slice q.eh.ao q.exprs.length q.eh.cap, .slice q.ah.ao q.aggs.length q.ah.cap, .slice q.types.h.ao q.types.l.length q.types.h.cap, .slice q.rh.ao q.rows.length q.rh.cap, .slice q.qh.ao q.kids.length q.qh.cap] 57)) (w.heap.size + 1) 45 6
    by_cases h3 : (q.op == 3) = true
    · have HE := hide (show q.qcs ++ q.qes = [q.cond] by simp at h3; simp [Qu.qcs, Qu.qes, h3])
      go_wp2_with (at_builtin; refine wpList_append_own _ rfl _ _ 37 rfl (w.heap.size + 1) 45 i0 (.agg #[.int .i64 0, .int .i64 0, .int .i64 0, .string ByteArray.empty, .int .i64 0, .slice none 0 0]) 6 72 Tryd.underlying37 HI.out.1 HI.out.2.1 HI.out.2.2.1 HI.out.2.2.2 rfl (by decide) _ _ _ rfl (World.ownsRow_nil _ _ _ _) ⟨w.heap.size + 1, 0, none⟩ 1 1 [.int .i64 q.cond.op, .int .i64 q.cond.typ, .int .i64 q.cond.num, .string q.cond.text, .int .i64 q.cond.col, .slice q.cond.kh.ao q.cond.kids.length q.cond.kh.cap] rfl rfl (new_cells1 (l := [.int .i64 q.cond.op, .int .i64 q.cond.typ, .int .i64 q.cond.num, .string q.cond.text, .int .i64 q.cond.col, .slice q.cond.kh.ao q.cond.kids.length q.cond.kh.cap])) (ex_one (x := q.cond)) (by unfold maxLen; omega) (by omega) (by simp <;> omega) ?_; intro v1 w1 hown1 hgrow1 _)
      go_meet
      case rel =>
        refine ⟨by rw [HE.out]; simpa using hown1, ?_⟩
        exact grown1 (Below.refl _ _) (Nat.le_refl _) hgrow1 (fun b hb => by cases hb)
    have h3' : (q.op == 3) = false := by simpa using h3
    by_cases h5 : (q.op == 5) = true
    · have HE := hide (show q.qcs ++ q.qes = [q.cond] by simp at h5; simp [Qu.qcs, Qu.qes, h5])
      clear h3
      go_wp2_with (at_builtin; refine wpList_append_own _ rfl _ _ 37 rfl (w.heap.size + 1) 45 i0 (.agg #[.int .i64 0, .int .i64 0, .int .i64 0, .string ByteArray.empty, .int .i64 0, .slice none 0 0]) 6 72 Tryd.underlying37 HI.out.1 HI.out.2.1 HI.out.2.2.1 HI.out.2.2.2 rfl (by decide) _ _ _ rfl (World.ownsRow_nil _ _ _ _) ⟨w.heap.size + 1, 0, none⟩ 1 1 [.int .i64 q.cond.op, .int .i64 q.cond.typ, .int .i64 q.cond.num, .string q.cond.text, .int .i64 q.cond.col, .slice q.cond.kh.ao q.cond.kids.length q.cond.kh.cap] rfl rfl (new_cells1 (l := [.int .i64 q.cond.op, .int .i64 q.cond.typ, .int .i64 q.cond.num, .string q.cond.text, .int .i64 q.cond.col, .slice q.cond.kh.ao q.cond.kids.length q.cond.kh.cap])) (ex_one (x := q.cond)) (by unfold maxLen; omega) (by omega) (by simp <;> omega) ?_; intro v1 w1 hown1 hgrow1 _)
      go_meet
      case rel =>
        refine ⟨by rw [HE.out]; simpa using hown1, ?_⟩
        exact grown1 (Below.refl _ _) (Nat.le_refl _) hgrow1 (fun b hb => by cases hb)
    have h5' : (q.op == 5) = false := by simpa using h5
    have hc : q.qcs = [] := by simp at h3 h5; simp [Qu.qcs, h3, h5]
    by_cases hx : q.op = 4 ∨ q.op = 10
    · have HE := hide (show q.qcs ++ q.qes = q.exprs by rw [hc]; simp [Qu.qes, hx])
      clear h3 h5 hc
      by_cases h0 : q.exprs.length = 0
      · have h0' := hide (List.eq_nil_of_length_eq_zero h0)
        have H0 := hide h0
        clear h0
        by_cases h4 : (q.op == 4) = true
        · clear hx
          go_wp2_with (at_builtin; refine wpList_append_zero rfl _ _ 37 rfl (w.heap.size + 1) 45 i0 6 Tryd.underlying37 HI.out.1 _ _ _ rfl (World.ownsRow_nil _ _ _ _) q.eh.ao q.eh.cap (congrArg (fun n => Value.slice q.eh.ao n q.eh.cap) H0.out) ?_)
          go_meet
          case rel =>
            have e1 : (q.qcs ++ q.qes).length = 0 := by rw [HE.out]; exact H0.out
            have e2 : (q.qcs ++ q.qes).flatMap Ex.cells = [] := by rw [HE.out, h0'.out]; rfl
            rw [e1, e2]
            exact ⟨hnil, Below.refl _ _⟩
        · have h4' : (q.op == 4) = false := by simpa using h4
          have h10 : (q.op == 10) = true := by simp at h4; simp [h4] at hx; simp [hx]
          clear hx h4
          go_wp2_with (at_builtin; refine wpList_append_zero rfl _ _ 37 rfl (w.heap.size + 1) 45 i0 6 Tryd.underlying37 HI.out.1 _ _ _ rfl (World.ownsRow_nil _ _ _ _) q.eh.ao q.eh.cap (congrArg (fun n => Value.slice q.eh.ao n q.eh.cap) H0.out) ?_)
          go_meet
          case rel =>
            have e1 : (q.qcs ++ q.qes).length = 0 := by rw [HE.out]; exact H0.out
            have e2 : (q.qcs ++ q.qes).flatMap Ex.cells = [] := by rw [HE.out, h0'.out]; rfl
            rw [e1, e2]
            exact ⟨hnil, Below.refl _ _⟩
      · obtain ⟨hao, hnews⟩ := row_news exc_len (by decide) HIN.out.flat.re (by omega)
        have HAO := hide hao
        clear hao
        by_cases h4 : (q.op == 4) = true
        · clear hx h0
          go_wp2_with (at_builtin; refine wpList_append_own _ rfl _ _ 37 rfl (w.heap.size + 1) 45 i0 (.agg #[.int .i64 0, .int .i64 0, .int .i64 0, .string ByteArray.empty, .int .i64 0, .slice none 0 0]) 6 72 Tryd.underlying37 HI.out.1 HI.out.2.1 HI.out.2.2.1 HI.out.2.2.2 rfl (by decide) _ _ _ rfl (World.ownsRow_nil _ _ _ _) ⟨q.eh.b, q.eh.o, none⟩ q.exprs.length q.eh.cap (q.exprs.flatMap Ex.cells) (congrArg (fun a => Value.slice a q.exprs.length q.eh.cap) HAO.out) (flatMap_len exc_len _) hnews ex_ones (by unfold maxLen; omega) (by omega) (by simp <;> omega) ?_; intro v1 w1 hown1 hgrow1 _)
          go_meet
          case rel =>
            refine ⟨by rw [HE.out]; simpa using hown1, ?_⟩
            exact (Below.refl _ _).grown hgrow1 (Nat.le_refl _) (fun b hb => by cases hb)
        · have h4' : (q.op == 4) = false := by simpa using h4
          have h10 : (q.op == 10) = true := by simp at h4; simp [h4] at hx; simp [hx]
          clear hx h4 h0
          go_wp2_with (at_builtin; refine wpList_append_own _ rfl _ _ 37 rfl (w.heap.size + 1) 45 i0 (.agg #[.int .i64 0, .int .i64 0, .int .i64 0, .string ByteArray.empty, .int .i64 0, .slice none 0 0]) 6 72 Tryd.underlying37 HI.out.1 HI.out.2.1 HI.out.2.2.1 HI.out.2.2.2 rfl (by decide) _ _ _ rfl (World.ownsRow_nil _ _ _ _) ⟨q.eh.b, q.eh.o, none⟩ q.exprs.length q.eh.cap (q.exprs.flatMap Ex.cells) (congrArg (fun a => Value.slice a q.exprs.length q.eh.cap) HAO.out) (flatMap_len exc_len _) hnews ex_ones (by unfold maxLen; omega) (by omega) (by simp <;> omega) ?_; intro v1 w1 hown1 hgrow1 _)
          go_meet
          case rel =>
            refine ⟨by rw [HE.out]; simpa using hown1, ?_⟩
            exact (Below.refl _ _).grown hgrow1 (Nat.le_refl _) (fun b hb => by cases hb)
    · have HE := hide (show q.qcs ++ q.qes = [] by rw [hc]; simp [Qu.qes, hx])
      have h4' : (q.op == 4) = false := by simp at hx; simp [hx]
      have h10' : (q.op == 10) = false := by simp at hx; simp [hx]
      clear h3 h5 hc hx
      go_wp2
      go_meet
      case rel => exact ⟨by rw [HE.out]; simpa using hnil, Below.refl _ _⟩
  case rest =>
  obtain ⟨hown, hbw⟩ := hcut
  have HO := hide hown
  have HB := hide hbw
  have hx0 := box_cell hbw (j := 0) rfl
  have hx6 := box_cell hbw (j := 11) rfl
  clear hown hbw
  by_cases h10 : (q.op == 10) = true
  · have HE := hide (show q.qas = (q.aggs.filter fun a => a.fn != 1).map Agg.arg by simp at h10; simp [Qu.qas, h10])
    go_wp2
    clear hx0 hx6
    go_loopw [3, 29] (fun v i wr => ∃ k : Nat, k ≤ q.aggs.length ∧ i = .int .i64 k ∧ wr.ownsRow (w.heap.size + 1) 45 6 v (AL q k).length ((AL q k).flatMap Ex.cells) ∧ Below (w.alloc (.cells #[.int .i64 q.op, .string q.table, .int .i64 q.kind, .bool q.all, .int .i64 q.cond.op, .int .i64 q.cond.typ, .int .i64 q.cond.num, .string q.cond.text, .int .i64 q.cond.col, .slice q.cond.kh.ao q.cond.kids.length q.cond.kh.cap, .slice q.eh.ao q.exprs.length q.eh.cap, .slice q.ah.ao q.aggs.length q.ah.cap, .slice q.types.h.ao q.types.l.length q.types.h.cap, .slice q.rh.ao q.rows.length q.rh.cap, .slice q.qh.ao q.kids.length q.qh.cap] 57)).heap.size (w.alloc (.cells #[.int .i64 q.op, .string q.table, .int .i64 q.kind, .bool q.all, .int .i64 q.cond.op, .int .i64 q.cond.typ, .int .i64 q.cond.num, .string q.cond.text, .int .i64 q.cond.col, .slice q.cond.kh.ao q.cond.kids.length q.cond.kh.cap, .slice q.eh.ao q.exprs.length q.eh.cap, .slice q.ah.ao q.aggs.length q.ah.cap, .slice q.types.h.ao q.types.l.length q.types.h.cap, .slice q.rh.ao q.rows.length q.rh.cap, .slice q.qh.ao q.kids.length q.qh.cap] 57)) wr) (fun _ i _ => q.aggs.length - (intOf i).toNat)
    case atStart => exact ⟨0, Nat.zero_le _, rfl, by simpa [AL] using HO.out, HB.out⟩
    case round =>
      clear HO HB
      obtain ⟨k, hk, rfl, hown, hbw⟩ := hrel
      have HO := hide hown
      have HB := hide hbw
      clear hown hbw
      by_cases hlt : k < q.aggs.length
      · have hlti : (k : Int) < q.aggs.length := by omega
        have hrow := HIN.out.flat.ra.mono HB.out
        have hix := hrow.ix hlt Tryd.underlying53 sz74
        have hbk := hrow.blk hlt
        obtain ⟨c0, c1, c2, c3, c4, c5, c6⟩ := agg_at hrow hlt
        have hbs : w.heap.size + 1 ≤ wr.heap.size := by have := HB.out.size; simpa using this
        have hal := AL_len q k
        clear hrow
        by_cases hf : q.aggs[k].fn = 1
        · have HF := hide (AL_skip hlt hf)
          have hf' : (q.aggs[k].fn != 1) = false := by simp [hf]
          clear hf
          go_wp2
          go_roundw
          case rel => exact ⟨k + 1, by omega, by go_num, by rw [HF.out]; exact HO.out.alloc _, bel_trans HB.out (belA _)⟩
          case measure => simp [intOf]; omega
        · have HF := hide (AL_take hlt hf)
          have hf' : (q.aggs[k].fn != 1) = true := by simp [hf]
          clear hf
          go_wp2_with (at_builtin; refine wpList_append_own _ rfl _ _ 37 rfl (w.heap.size + 1) 45 i0 (.agg #[.int .i64 0, .int .i64 0, .int .i64 0, .string ByteArray.empty, .int .i64 0, .slice none 0 0]) 6 72 Tryd.underlying37 HI.out.1 HI.out.2.1 HI.out.2.2.1 HI.out.2.2.2 rfl (by decide) _ _ _ rfl ((HO.out.alloc _).alloc _) ⟨wr.heap.size + 1, 0, none⟩ 1 1 [.int .i64 q.aggs[k].arg.op, .int .i64 q.aggs[k].arg.typ, .int .i64 q.aggs[k].arg.num, .string q.aggs[k].arg.text, .int .i64 q.aggs[k].arg.col, .slice q.aggs[k].arg.kh.ao q.aggs[k].arg.kids.length q.aggs[k].arg.kh.cap] rfl rfl (new_cells1 (l := [.int .i64 q.aggs[k].arg.op, .int .i64 q.aggs[k].arg.typ, .int .i64 q.aggs[k].arg.num, .string q.aggs[k].arg.text, .int .i64 q.aggs[k].arg.col, .slice q.aggs[k].arg.kh.ao q.aggs[k].arg.kids.length q.aggs[k].arg.kh.cap])) (ex_one (x := q.aggs[k].arg)) (by unfold maxLen; omega) (by omega) (by simp <;> omega) ?_; intro v1 w1 hown1 hgrow1 _)
          go_roundw
          case rel =>
            refine ⟨k + 1, by omega, by go_num, ?_, ?_⟩
            · rw [HF.out, List.length_append, List.flatMap_append]
              simpa using hown1
            · exact (HB.out.trans ((belAA _ _).mono HB.out.size)).grown hgrow1 (by simp; omega) (fun b hb => (by simpa using (HO.out.lt b hb).1))
          case measure => simp [intOf]; omega
      · have hlti : ¬ (k : Int) < q.aggs.length := by omega
        have HE2 := hide (show AL q k = q.qex by unfold Qu.qex; rw [HE.out]; unfold AL; rw [show k = q.aggs.length by omega, List.take_length])
        go_wp2
        go_ret
        have ho := HO.out
        rw [HE2.out] at ho
        obtain ⟨hd, hv, hr⟩ := own_row exc_len (by decide) ho
        exact ⟨⟨hd, congrArg Ending.returned hv, hr⟩, (belA _).trans (HB.out.mono (by simp))⟩
  · have h10' : (q.op == 10) = false := by simpa using h10
    have HE := hide (show q.qas = [] by simp at h10; simp [Qu.qas, h10])
    clear h10
    go_wp2
    go_ret
    have ho := HO.out
    rw [show q.qcs ++ q.qes = q.qex by unfold Qu.qex; rw [HE.out, List.append_nil]] at ho
    obtain ⟨hd, hv, hr⟩ := own_row exc_len (by decide) ho
    exact ⟨⟨hd, congrArg Ending.returned hv, hr⟩, (belA _).trans (HB.out.mono (by simp))⟩

end Go.Proofs.YtmnbhdhgjbgidaaDoor

/- ref04.Size: the size of a query, as an int (modulo 2^64). -/
import Derived.Test.YtmnbhdhgjbgidaaDoorSz
import Derived.Deep.DeepCutAuto
import Derived.Deep.CutBlock
namespace Go.Proofs.YtmnbhdhgjbgidaaDoor
open Go.RowKit

def asize (a : Agg) : Nat := if a.fn = 1 then 0 else a.arg.size
def rsize (r : VL) : Nat := r.l.length
mutual
def Qu.size : Qu → Nat
  | ⟨op, _, _, _, cond, _, exprs, _, aggs, _, _, rows, _, kids⟩ =>
    1 + (if op = 3 ∨ op = 5 then cond.size else 0) + (if op = 4 ∨ op = 10 then Ex.sizes exprs else 0) + (if op = 10 then (aggs.map asize).sum else 0) + (rows.map rsize).sum + Qu.sizes kids
def Qu.sizes : List Qu → Nat
  | [] => 0
  | k :: r => Qu.size k + Qu.sizes r
end
def Qu.csz (q : Qu) : Nat := if q.op = 3 ∨ q.op = 5 then q.cond.size else 0
def Qu.esz (q : Qu) : Nat := if q.op = 4 ∨ q.op = 10 then Ex.sizes q.exprs else 0
def Qu.asz (q : Qu) : Nat := if q.op = 10 then (q.aggs.map asize).sum else 0
theorem Qu.size_eq (q : Qu) : q.size = 1 + q.csz + q.esz + q.asz + (q.rows.map rsize).sum + Qu.sizes q.kids := by cases q; rw [Qu.size]; rfl
theorem Qu.sizes_snoc (l : List Qu) (x : Qu) : Qu.sizes (l ++ [x]) = Qu.sizes l + x.size := by
  induction l with
  | nil => simp [Qu.sizes]
  | cons a l ih => simp only [List.cons_append, Qu.sizes, ih]; omega
theorem Qu.sizes_take {l : List Qu} {k : Nat} (h : k < l.length) : Qu.sizes (l.take (k + 1)) = Qu.sizes (l.take k) + l[k].size := by
  rw [List.take_succ_eq_append_getElem h, Qu.sizes_snoc]
theorem sum_take {α : Type} (f : α → Nat) {l : List α} {k : Nat} (h : k < l.length) : ((l.take (k + 1)).map f).sum = ((l.take k).map f).sum + f l[k] := by
  rw [List.take_succ_eq_append_getElem h, List.map_append, List.sum_append]; simp
theorem wrap_add1 (a b : Int) : wrap64 (wrap64 a + b) = wrap64 (a + b) := by unfold wrap64; omega
theorem wrap_small {n : Nat} (h : n ≤ 9223372036854775807) : wrap64 (n : Int) = n := by unfold wrap64; omega
theorem val_eq {a b : Int} (h : a = b) : Value.int .i64 a = .int .i64 b := by rw [h]

set_option maxRecDepth 100000 in
set_option maxHeartbeats 4000000 in
theorem rqsize_any {w0 : World} {q : Qu} (h0 : q.In w0) : ∀ (w : World), q.In w →
    Calls Tryd.prog 38 #[.agg #[.int .i64 q.op, .string q.table, .int .i64 q.kind, .bool q.all, .int .i64 q.cond.op, .int .i64 q.cond.typ, .int .i64 q.cond.num, .string q.cond.text, .int .i64 q.cond.col, .slice q.cond.kh.ao q.cond.kids.length q.cond.kh.cap, .slice q.eh.ao q.exprs.length q.eh.cap, .slice q.ah.ao q.aggs.length q.ah.cap, .slice q.types.h.ao q.types.l.length q.types.h.cap, .slice q.rh.ao q.rows.length q.rh.cap, .slice q.qh.ao q.kids.length q.qh.cap]] w fun r w' => r = .returned (.int .i64 (wrap64 (q.size : Int))) ∧ Below w.heap.size w w' := by
  induction h0 with
  | mk q _ _ _ ih =>
  intro w hin
  have IH := hide ih
  clear ih
  have l1 := hin.row.len
  have l2 := hin.flat.re.len
  have l3 := hin.flat.ra.len
  have l5 := hin.flat.rr.len
  have HIN := hide (hin.mono (belA (.cells #[.int .i64 q.op, .string q.table, .int .i64 q.kind, .bool q.all, .int .i64 q.cond.op, .int .i64 q.cond.typ, .int .i64 q.cond.num, .string q.cond.text, .int .i64 q.cond.col, .slice q.cond.kh.ao q.cond.kids.length q.cond.kh.cap, .slice q.eh.ao q.exprs.length q.eh.cap, .slice q.ah.ao q.aggs.length q.ah.cap, .slice q.types.h.ao q.types.l.length q.types.h.cap, .slice q.rh.ao q.rows.length q.rh.cap, .slice q.qh.ao q.kids.length q.qh.cap] 57)))
  clear hin
  go_enter Tryd.func38, Tryd.ntmps38
  go_upto_region 2 with (fail)
  go_cut [15] (fun v wx => ∃ b : Bool, v = .bool b ∧ Hid (b = decide (q.op = 3 ∨ q.op = 5)) ∧ wx = w.alloc (.cells #[.int .i64 q.op, .string q.table, .int .i64 q.kind, .bool q.all, .int .i64 q.cond.op, .int .i64 q.cond.typ, .int .i64 q.cond.num, .string q.cond.text, .int .i64 q.cond.col, .slice q.cond.kh.ao q.cond.kids.length q.cond.kh.cap, .slice q.eh.ao q.exprs.length q.eh.cap, .slice q.ah.ao q.aggs.length q.ah.cap, .slice q.types.h.ao q.types.l.length q.types.h.cap, .slice q.rh.ao q.rows.length q.rh.cap, .slice q.qh.ao q.kids.length q.qh.cap] 57))
  case first =>
    by_cases h3 : (q.op == 3) = true
    · have E := hide (show true = decide (q.op = 3 ∨ q.op = 5) by simp at h3; simp [h3])
      go_wp2
      go_meet
      case rel => exact ⟨_, rfl, E, rfl⟩
    · have h3' : (q.op == 3) = false := by simpa using h3
      have E := hide (show (q.op == 5) = decide (q.op = 3 ∨ q.op = 5) by simp at h3; simp [h3]; rfl)
      clear h3
      cases h5 : (q.op == 5)
      · have E' : Hid (false = decide (q.op = 3 ∨ q.op = 5)) := by rw [← h5]; exact E
        clear E
        go_wp2
        go_meet
        case rel => exact ⟨_, rfl, E', rfl⟩
      · have E' : Hid (true = decide (q.op = 3 ∨ q.op = 5)) := by rw [← h5]; exact E
        clear E
        go_wp2
        go_meet
        case rel => exact ⟨_, rfl, E', rfl⟩
  case rest =>
  obtain ⟨b, rfl, HE, rfl⟩ := hcut
  go_upto_if 15 with (fail)
  go_cut [3] (fun v wx => v = .int .i64 (wrap64 ((1 + q.csz : Nat) : Int)) ∧ Below (w.alloc (.cells #[.int .i64 q.op, .string q.table, .int .i64 q.kind, .bool q.all, .int .i64 q.cond.op, .int .i64 q.cond.typ, .int .i64 q.cond.num, .string q.cond.text, .int .i64 q.cond.col, .slice q.cond.kh.ao q.cond.kids.length q.cond.kh.cap, .slice q.eh.ao q.exprs.length q.eh.cap, .slice q.ah.ao q.aggs.length q.ah.cap, .slice q.types.h.ao q.types.l.length q.types.h.cap, .slice q.rh.ao q.rows.length q.rh.cap, .slice q.qh.ao q.kids.length q.qh.cap] 57)).heap.size (w.alloc (.cells #[.int .i64 q.op, .string q.table, .int .i64 q.kind, .bool q.all, .int .i64 q.cond.op, .int .i64 q.cond.typ, .int .i64 q.cond.num, .string q.cond.text, .int .i64 q.cond.col, .slice q.cond.kh.ao q.cond.kids.length q.cond.kh.cap, .slice q.eh.ao q.exprs.length q.eh.cap, .slice q.ah.ao q.aggs.length q.ah.cap, .slice q.types.h.ao q.types.l.length q.types.h.cap, .slice q.rh.ao q.rows.length q.rh.cap, .slice q.qh.ao q.kids.length q.qh.cap] 57)) wx)
  case first =>
    cases b
    · have hz := hide (show q.csz = 0 by unfold Qu.csz; rw [if_neg (of_decide_eq_false HE.out.symm)])
      go_wp2
      go_meet
      case rel => exact ⟨val_eq (by rw [hz.out]; simp [wrap64]), Below.refl _ _⟩
    · have hz := hide (show q.csz = q.cond.size by unfold Qu.csz; rw [if_pos (of_decide_eq_true HE.out.symm)])
      go_wp2_with (go_at_call 69; refine (rsize_any HIN.out.flat.cd _ HIN.out.flat.cd).mono ?_; rintro r w1 ⟨rfl, hb1⟩; have HB1 := hide hb1; clear hb1)
      go_meet
      case rel =>
        refine ⟨val_eq ?_, HB1.out⟩
        rw [hz.out, Int.add_comm, wrap_add1]
        congr 1
        omega
  case rest =>
  obtain ⟨rfl, hb0⟩ := hcut
  have HB0 := hide hb0
  clear hb0 HE b
  generalize hV0 : wrap64 ((1 + q.csz : Nat) : Int) = V0
  have HV0 := hide hV0
  clear hV0
  obtain ⟨wa, rfl⟩ : ∃ W : World, W = wc := ⟨_, rfl⟩
  go_upto_block 0 with (fail)
  go_cut [3] (fun v wx => v = .int .i64 (wrap64 ((1 + q.csz + q.esz : Nat) : Int)) ∧ Below (w.alloc (.cells #[.int .i64 q.op, .string q.table, .int .i64 q.kind, .bool q.all, .int .i64 q.cond.op, .int .i64 q.cond.typ, .int .i64 q.cond.num, .string q.cond.text, .int .i64 q.cond.col, .slice q.cond.kh.ao q.cond.kids.length q.cond.kh.cap, .slice q.eh.ao q.exprs.length q.eh.cap, .slice q.ah.ao q.aggs.length q.ah.cap, .slice q.types.h.ao q.types.l.length q.types.h.cap, .slice q.rh.ao q.rows.length q.rh.cap, .slice q.qh.ao q.kids.length q.qh.cap] 57)).heap.size (w.alloc (.cells #[.int .i64 q.op, .string q.table, .int .i64 q.kind, .bool q.all, .int .i64 q.cond.op, .int .i64 q.cond.typ, .int .i64 q.cond.num, .string q.cond.text, .int .i64 q.cond.col, .slice q.cond.kh.ao q.cond.kids.length q.cond.kh.cap, .slice q.eh.ao q.exprs.length q.eh.cap, .slice q.ah.ao q.aggs.length q.ah.cap, .slice q.types.h.ao q.types.l.length q.types.h.cap, .slice q.rh.ao q.rows.length q.rh.cap, .slice q.qh.ao q.kids.length q.qh.cap] 57)) wx)
  case first =>
    by_cases h4 : (q.op == 4) = true
    · have HE := hide (show q.esz = Ex.sizes q.exprs by simp at h4; unfold Qu.esz; rw [if_pos (.inl h4)])
      go_wp2_with fail
      go_loopw [3, 4] (fun v i wr => ∃ k : Nat, k ≤ q.exprs.length ∧ i = .int .i64 k ∧ v = .int .i64 (wrap64 ((1 + q.csz + Ex.sizes (q.exprs.take k) : Nat) : Int)) ∧ Below (w.heap.size + 1) (w.alloc (.cells #[.int .i64 q.op, .string q.table, .int .i64 q.kind, .bool q.all, .int .i64 q.cond.op, .int .i64 q.cond.typ, .int .i64 q.cond.num, .string q.cond.text, .int .i64 q.cond.col, .slice q.cond.kh.ao q.cond.kids.length q.cond.kh.cap, .slice q.eh.ao q.exprs.length q.eh.cap, .slice q.ah.ao q.aggs.length q.ah.cap, .slice q.types.h.ao q.types.l.length q.types.h.cap, .slice q.rh.ao q.rows.length q.rh.cap, .slice q.qh.ao q.kids.length q.qh.cap] 57)) wr) (fun _ i _ => q.exprs.length - (intOf i).toNat)
      case atStart => exact ⟨0, Nat.zero_le _, rfl, val_eq (by rw [← HV0.out]; simp [Ex.sizes]), HB0.out.mono (by simp)⟩
      case round =>
        obtain ⟨k, hk, rfl, rfl, hbw0⟩ := hrel
        have HBW := hide (show Below (w.alloc (.cells #[.int .i64 q.op, .string q.table, .int .i64 q.kind, .bool q.all, .int .i64 q.cond.op, .int .i64 q.cond.typ, .int .i64 q.cond.num, .string q.cond.text, .int .i64 q.cond.col, .slice q.cond.kh.ao q.cond.kids.length q.cond.kh.cap, .slice q.eh.ao q.exprs.length q.eh.cap, .slice q.ah.ao q.aggs.length q.ah.cap, .slice q.types.h.ao q.types.l.length q.types.h.cap, .slice q.rh.ao q.rows.length q.rh.cap, .slice q.qh.ao q.kids.length q.qh.cap] 57)).heap.size (w.alloc (.cells #[.int .i64 q.op, .string q.table, .int .i64 q.kind, .bool q.all, .int .i64 q.cond.op, .int .i64 q.cond.typ, .int .i64 q.cond.num, .string q.cond.text, .int .i64 q.cond.col, .slice q.cond.kh.ao q.cond.kids.length q.cond.kh.cap, .slice q.eh.ao q.exprs.length q.eh.cap, .slice q.ah.ao q.aggs.length q.ah.cap, .slice q.types.h.ao q.types.l.length q.types.h.cap, .slice q.rh.ao q.rows.length q.rh.cap, .slice q.qh.ao q.kids.length q.qh.cap] 57)) wr from hbw0.mono (by simp))
        clear hbw0
        have x0 := box_cell HBW.out (j := 0) rfl
        have x10 := box_cell HBW.out (j := 10) rfl
        generalize hV : wrap64 ((1 + q.csz + Ex.sizes (q.exprs.take k) : Nat) : Int) = V
        have HV := hide hV
        clear hV
        by_cases hlt : k < q.exprs.length
        · have hrow := HIN.out.flat.re.mono HBW.out
          have hix := hrow.ix hlt Tryd.underlying37 sz41
          obtain ⟨c0, c1, c2, c3, c4, c5⟩ := ex_at hrow hlt
          have HXI := hide ((HIN.out.flat.es _ (List.getElem_mem hlt)).mono HBW.out)
          clear hrow
          go_wp2_with (go_at_call 69; refine (rsize_any HXI.out _ HXI.out).mono ?_; rintro r w1 ⟨rfl, hb1⟩; have HB1 := hide hb1; clear hb1)
          go_roundw
          case rel =>
            refine ⟨k + 1, by omega, by go_num, val_eq ?_, (bel_trans HBW.out HB1.out).mono (by simp)⟩
            rw [← HV.out, wrap_add, Ex.sizes_take hlt]
            congr 1
            omega
          case measure => simp [intOf]; omega
        · go_wp2
          go_meet
          case rel =>
            have hk' : k = q.exprs.length := by omega
            refine ⟨val_eq ?_, HBW.out⟩
            rw [← HV.out, HE.out, hk', List.take_length]
    · have h4' : (q.op == 4) = false := by simpa using h4
      by_cases h10 : (q.op == 10) = true
      · have HE := hide (show q.esz = Ex.sizes q.exprs by simp at h10; unfold Qu.esz; rw [if_pos (.inr h10)])
        clear h4
        go_wp2_with fail
        go_loopw [3, 4] (fun v i wr => ∃ k : Nat, k ≤ q.exprs.length ∧ i = .int .i64 k ∧ v = .int .i64 (wrap64 ((1 + q.csz + Ex.sizes (q.exprs.take k) : Nat) : Int)) ∧ Below (w.heap.size + 1) (w.alloc (.cells #[.int .i64 q.op, .string q.table, .int .i64 q.kind, .bool q.all, .int .i64 q.cond.op, .int .i64 q.cond.typ, .int .i64 q.cond.num, .string q.cond.text, .int .i64 q.cond.col, .slice q.cond.kh.ao q.cond.kids.length q.cond.kh.cap, .slice q.eh.ao q.exprs.length q.eh.cap, .slice q.ah.ao q.aggs.length q.ah.cap, .slice q.types.h.ao q.types.l.length q.types.h.cap, .slice q.rh.ao q.rows.length q.rh.cap, .slice q.qh.ao q.kids.length q.qh.cap] 57)) wr) (fun _ i _ => q.exprs.length - (intOf i).toNat)
        case atStart => exact ⟨0, Nat.zero_le _, rfl, val_eq (by rw [← HV0.out]; simp [Ex.sizes]), HB0.out.mono (by simp)⟩
        case round =>
          obtain ⟨k, hk, rfl, rfl, hbw0⟩ := hrel
          have HBW := hide (show Below (w.alloc (.cells #[.int .i64 q.op, .string q.table, .int .i64 q.kind, .bool q.all, .int .i64 q.cond.op, .int .i64 q.cond.typ, .int .i64 q.cond.num, .string q.cond.text, .int .i64 q.cond.col, .slice q.cond.kh.ao q.cond.kids.length q.cond.kh.cap, .slice q.eh.ao q.exprs.length q.eh.cap, .slice q.ah.ao q.aggs.length q.ah.cap, .slice q.types.h.ao q.types.l.length q.types.h.cap, .slice q.rh.ao q.rows.length q.rh.cap, .slice q.qh.ao q.kids.length q.qh.cap] 57)).heap.size (w.alloc (.cells #[.int .i64 q.op, .string q.table, .int .i64 q.kind, .bool q.all, .int .i64 q.cond.op, .int .i64 q.cond.typ, .int .i64 q.cond.num, .string q.cond.text, .int .i64 q.cond.col, .slice q.cond.kh.ao q.cond.kids.length q.cond.kh.cap, .slice q.eh.ao q.exprs.length q.eh.cap, .slice q.ah.ao q.aggs.length q.ah.cap, .slice q.types.h.ao q.types.l.length q.types.h.cap, .slice q.rh.ao q.rows.length q.rh.cap, .slice q.qh.ao q.kids.length q.qh.cap] 57)) wr from hbw0.mono (by simp))
          clear hbw0
          have x0 := box_cell HBW.out (j := 0) rfl
          have x10 := box_cell HBW.out (j := 10) rfl
          generalize hV : wrap64 ((1 + q.csz + Ex.sizes (q.exprs.take k) : Nat) : Int) = V
          have HV := hide hV
          clear hV
          by_cases hlt : k < q.exprs.length
          · have hrow := HIN.out.flat.re.mono HBW.out
            have hix := hrow.ix hlt Tryd.underlying37 sz41
            obtain ⟨c0, c1, c2, c3, c4, c5⟩ := ex_at hrow hlt
            have HXI := hide ((HIN.out.flat.es _ (List.getElem_mem hlt)).mono HBW.out)
            clear hrow
            go_wp2_with (go_at_call 69; refine (rsize_any HXI.out _ HXI.out).mono ?_; rintro r w1 ⟨rfl, hb1⟩; have HB1 := hide hb1; clear hb1)
            go_roundw
            case rel =>
              refine ⟨k + 1, by omega, by go_num, val_eq ?_, (bel_trans HBW.out HB1.out).mono (by simp)⟩
              rw [← HV.out, wrap_add, Ex.sizes_take hlt]
              congr 1
              omega
            case measure => simp [intOf]; omega
          · go_wp2
            go_meet
            case rel =>
              have hk' : k = q.exprs.length := by omega
              refine ⟨val_eq ?_, HBW.out⟩
              rw [← HV.out, HE.out, hk', List.take_length]
      · have h10' : (q.op == 10) = false := by simpa using h10
        have HE := hide (show q.esz = 0 by simp at h4 h10; unfold Qu.esz; rw [if_neg (by rintro (h | h); exact h4 h; exact h10 h)])
        clear h4 h10
        have x0 := box_cell HB0.out (j := 0) rfl
        have x10 := box_cell HB0.out (j := 10) rfl
        go_wp2_with fail
        go_loopw [3, 4] (fun v i wr => v = .int .i64 V0 ∧ i = .int .i64 0 ∧ wr = wa) (fun _ _ _ => 0)
        case atStart => exact ⟨rfl, rfl, rfl⟩
        case round =>
          obtain ⟨rfl, rfl, rfl⟩ := hrel
          by_cases hlt : 0 < q.exprs.length
          all_goals
            go_wp2
            go_meet
            case rel => exact ⟨val_eq (by rw [← HV0.out, HE.out]; rfl), HB0.out⟩
  case rest =>
  obtain ⟨rfl, hb0⟩ := hcut
  have HB1 := hide hb0
  clear hb0 HB0 HV0 V0
  generalize hV0 : wrap64 ((1 + q.csz + q.esz : Nat) : Int) = V0
  have HV0 := hide hV0
  clear hV0
  obtain ⟨wb, rfl⟩ : ∃ W : World, W = wc := ⟨_, rfl⟩
  go_upto_block 2 with (fail)
  go_cut [3] (fun v wx => v = .int .i64 (wrap64 ((1 + q.csz + q.esz + q.asz : Nat) : Int)) ∧ Below (w.alloc (.cells #[.int .i64 q.op, .string q.table, .int .i64 q.kind, .bool q.all, .int .i64 q.cond.op, .int .i64 q.cond.typ, .int .i64 q.cond.num, .string q.cond.text, .int .i64 q.cond.col, .slice q.cond.kh.ao q.cond.kids.length q.cond.kh.cap, .slice q.eh.ao q.exprs.length q.eh.cap, .slice q.ah.ao q.aggs.length q.ah.cap, .slice q.types.h.ao q.types.l.length q.types.h.cap, .slice q.rh.ao q.rows.length q.rh.cap, .slice q.qh.ao q.kids.length q.qh.cap] 57)).heap.size (w.alloc (.cells #[.int .i64 q.op, .string q.table, .int .i64 q.kind, .bool q.all, .int .i64 q.cond.op, .int .i64 q.cond.typ, .int .i64 q.cond.num, .string q.cond.text, .int .i64 q.cond.col, .slice q.cond.kh.ao q.cond.kids.length q.cond.kh.cap, .slice q.eh.ao q.exprs.length q.eh.cap, .slice q.ah.ao q.aggs.length q.ah.cap, .slice q.types.h.ao q.types.l.length q.types.h.cap, .slice q.rh.ao q.rows.length q.rh.cap, .slice q.qh.ao q.kids.length q.qh.cap] 57)) wx)
  case first =>
    by_cases h10 : (q.op == 10) = true
    · have HE := hide (show q.asz = (q.aggs.map asize).sum by simp at h10; unfold Qu.asz; rw [if_pos h10])
      go_wp2_with fail
      go_loopw [3, 5] (fun v i wr => ∃ k : Nat, k ≤ q.aggs.length ∧ i = .int .i64 k ∧ v = .int .i64 (wrap64 ((1 + q.csz + q.esz + ((q.aggs.take k).map asize).sum : Nat) : Int)) ∧ Below (w.heap.size + 1) (w.alloc (.cells #[.int .i64 q.op, .string q.table, .int .i64 q.kind, .bool q.all, .int .i64 q.cond.op, .int .i64 q.cond.typ, .int .i64 q.cond.num, .string q.cond.text, .int .i64 q.cond.col, .slice q.cond.kh.ao q.cond.kids.length q.cond.kh.cap, .slice q.eh.ao q.exprs.length q.eh.cap, .slice q.ah.ao q.aggs.length q.ah.cap, .slice q.types.h.ao q.types.l.length q.types.h.cap, .slice q.rh.ao q.rows.length q.rh.cap, .slice q.qh.ao q.kids.length q.qh.cap] 57)) wr) (fun _ i _ => q.aggs.length - (intOf i).toNat)
      case atStart => exact ⟨0, Nat.zero_le _, rfl, val_eq (by rw [← HV0.out]; simp), HB1.out.mono (by simp)⟩
      case round =>
        obtain ⟨k, hk, rfl, rfl, hbw0⟩ := hrel
        have HBW := hide (show Below (w.alloc (.cells #[.int .i64 q.op, .string q.table, .int .i64 q.kind, .bool q.all, .int .i64 q.cond.op, .int .i64 q.cond.typ, .int .i64 q.cond.num, .string q.cond.text, .int .i64 q.cond.col, .slice q.cond.kh.ao q.cond.kids.length q.cond.kh.cap, .slice q.eh.ao q.exprs.length q.eh.cap, .slice q.ah.ao q.aggs.length q.ah.cap, .slice q.types.h.ao q.types.l.length q.types.h.cap, .slice q.rh.ao q.rows.length q.rh.cap, .slice q.qh.ao q.kids.length q.qh.cap] 57)).heap.size (w.alloc (.cells #[.int .i64 q.op, .string q.table, .int .i64 q.kind, .bool q.all, .int .i64 q.cond.op, .int .i64 q.cond.typ, .int .i64 q.cond.num, .string q.cond.text, .int .i64 q.cond.col, .slice q.cond.kh.ao q.cond.kids.length q.cond.kh.cap, .slice q.eh.ao q.exprs.length q.eh.cap, .slice q.ah.ao q.aggs.length q.ah.cap, .slice q.types.h.ao q.types.l.length q.types.h.cap, .slice q.rh.ao q.rows.length q.rh.cap, .slice q.qh.ao q.kids.length q.qh.cap] 57)) wr from hbw0.mono (by simp))
        clear hbw0
        have x0 := box_cell HBW.out (j := 0) rfl
        have x11 := box_cell HBW.out (j := 11) rfl
        generalize hV : wrap64 ((1 + q.csz + q.esz + ((q.aggs.take k).map asize).sum : Nat) : Int) = V
        have HV := hide hV
        clear hV
        by_cases hlt : k < q.aggs.length
        · have hrow := HIN.out.flat.ra.mono HBW.out
          have hix := hrow.ix hlt Tryd.underlying53 sz74
          obtain ⟨c0, c1, c2, c3, c4, c5, c6⟩ := agg_at hrow hlt
          have HXI := hide (Agg.In.mono (HIN.out.flat.as _ (List.getElem_mem hlt)) HBW.out)
          clear hrow
          have HS := hide (sum_take asize hlt)
          obtain ⟨xa, hxa⟩ : ∃ x, x = q.aggs[k] := ⟨_, rfl⟩
          rw [← hxa] at c0 c1 c2 c3 c4 c5 c6 HXI HS
          clear hxa
          by_cases hf : xa.fn = 1
          · have HA := hide (show asize xa = 0 by unfold asize; rw [if_pos hf])
            have hf' : (xa.fn != 1) = false := by simp [hf]
            clear hf
            go_wp2
            go_roundw
            case rel =>
              refine ⟨k + 1, by omega, by go_num, val_eq ?_, HBW.out.mono (by simp)⟩
              rw [← HV.out, HS.out, HA.out]
              rfl
            case measure => simp [intOf]; omega
          · have HA := hide (show asize xa = xa.arg.size by unfold asize; rw [if_neg hf])
            have hf' : (xa.fn != 1) = true := by simpa using hf
            clear hf
            go_wp2_with (go_at_call 69; refine (rsize_any HXI.out.2 _ HXI.out.2).mono ?_; rintro r w1 ⟨rfl, hb1⟩; have HB3 := hide hb1; clear hb1)
            go_roundw
            case rel =>
              refine ⟨k + 1, by omega, by go_num, val_eq ?_, (bel_trans HBW.out HB3.out).mono (by simp)⟩
              rw [← HV.out, wrap_add, HS.out, HA.out]
              congr 1
              omega
            case measure => simp [intOf]; omega
        · go_wp2
          go_meet
          case rel =>
            have hk' : k = q.aggs.length := by omega
            refine ⟨val_eq ?_, HBW.out⟩
            rw [← HV.out, HE.out, hk', List.take_length]
    · have h10' : (q.op == 10) = false := by simpa using h10
      have HE := hide (show q.asz = 0 by simp at h10; unfold Qu.asz; rw [if_neg h10])
      clear h10
      have x0 := box_cell HB1.out (j := 0) rfl
      have x11 := box_cell HB1.out (j := 11) rfl
      go_wp2_with fail
      go_loopw [3, 5] (fun v i wr => v = .int .i64 V0 ∧ i = .int .i64 0 ∧ wr = wb) (fun _ _ _ => 0)
      case atStart => exact ⟨rfl, rfl, rfl⟩
      case round =>
        obtain ⟨rfl, rfl, rfl⟩ := hrel
        by_cases hlt : 0 < q.aggs.length
        all_goals
          go_wp2
          go_meet
          case rel => exact ⟨val_eq (by rw [← HV0.out, HE.out]; rfl), HB1.out⟩
  case rest =>
  obtain ⟨rfl, hb0⟩ := hcut
  have HB2 := hide hb0
  clear hb0 HB1 HV0 V0
  generalize hV0 : wrap64 ((1 + q.csz + q.esz + q.asz : Nat) : Int) = V0
  have HV0 := hide hV0
  clear hV0
  obtain ⟨wd, rfl⟩ : ∃ W : World, W = wc := ⟨_, rfl⟩
  go_wp2
  go_loopw [3, 6] (fun v i wr => ∃ k : Nat, k ≤ q.rows.length ∧ i = .int .i64 k ∧ v = .int .i64 (wrap64 ((1 + q.csz + q.esz + q.asz + ((q.rows.take k).map rsize).sum : Nat) : Int)) ∧ Below (w.heap.size + 1) (w.alloc (.cells #[.int .i64 q.op, .string q.table, .int .i64 q.kind, .bool q.all, .int .i64 q.cond.op, .int .i64 q.cond.typ, .int .i64 q.cond.num, .string q.cond.text, .int .i64 q.cond.col, .slice q.cond.kh.ao q.cond.kids.length q.cond.kh.cap, .slice q.eh.ao q.exprs.length q.eh.cap, .slice q.ah.ao q.aggs.length q.ah.cap, .slice q.types.h.ao q.types.l.length q.types.h.cap, .slice q.rh.ao q.rows.length q.rh.cap, .slice q.qh.ao q.kids.length q.qh.cap] 57)) wr) (fun _ i _ => q.rows.length - (intOf i).toNat)
  case atStart => exact ⟨0, Nat.zero_le _, rfl, val_eq (by rw [← HV0.out]; simp), HB2.out.mono (by simp)⟩
  case round =>
    obtain ⟨k, hk, rfl, rfl, hbw0⟩ := hrel
    have HBW := hide (show Below (w.alloc (.cells #[.int .i64 q.op, .string q.table, .int .i64 q.kind, .bool q.all, .int .i64 q.cond.op, .int .i64 q.cond.typ, .int .i64 q.cond.num, .string q.cond.text, .int .i64 q.cond.col, .slice q.cond.kh.ao q.cond.kids.length q.cond.kh.cap, .slice q.eh.ao q.exprs.length q.eh.cap, .slice q.ah.ao q.aggs.length q.ah.cap, .slice q.types.h.ao q.types.l.length q.types.h.cap, .slice q.rh.ao q.rows.length q.rh.cap, .slice q.qh.ao q.kids.length q.qh.cap] 57)).heap.size (w.alloc (.cells #[.int .i64 q.op, .string q.table, .int .i64 q.kind, .bool q.all, .int .i64 q.cond.op, .int .i64 q.cond.typ, .int .i64 q.cond.num, .string q.cond.text, .int .i64 q.cond.col, .slice q.cond.kh.ao q.cond.kids.length q.cond.kh.cap, .slice q.eh.ao q.exprs.length q.eh.cap, .slice q.ah.ao q.aggs.length q.ah.cap, .slice q.types.h.ao q.types.l.length q.types.h.cap, .slice q.rh.ao q.rows.length q.rh.cap, .slice q.qh.ao q.kids.length q.qh.cap] 57)) wr from hbw0.mono (by simp))
    clear hbw0
    have x13 := box_cell HBW.out (j := 13) rfl
    generalize hV : wrap64 ((1 + q.csz + q.esz + q.asz + ((q.rows.take k).map rsize).sum : Nat) : Int) = V
    have HV := hide hV
    clear hV
    by_cases hlt : k < q.rows.length
    · have hrow := HIN.out.flat.rr.mono HBW.out
      have hix := hrow.ix hlt Tryd.underlying54 sz69
      simp only [Nat.mul_one] at hix
      have c0 := vl_at hrow hlt
      have hl := (HIN.out.flat.rs _ (List.getElem_mem hlt)).1.len
      clear hrow
      have HS := hide (sum_take rsize hlt)
      go_wp2
      go_roundw
      case rel =>
        refine ⟨k + 1, by omega, by go_num, val_eq ?_, HBW.out.mono (by simp)⟩
        rw [← HV.out, wrap_add1, HS.out]
        congr 1
        show _ = ((_ + (_ + q.rows[k].l.length) : Nat) : Int)
        omega
      case measure => simp [intOf]; omega
    · obtain ⟨wo, rfl⟩ : ∃ W : World, W = wr := ⟨_, rfl⟩
      have HB3 := HBW
      clear HBW
      go_wp2
      have HVR := hide (show wrap64 ((1 + q.csz + q.esz + q.asz + (q.rows.map rsize).sum : Nat) : Int) = V by rw [← HV.out, show k = q.rows.length by omega, List.take_length])
      clear HV x13
      go_loopw [3, 7] (fun v i wr => ∃ k : Nat, k ≤ q.kids.length ∧ i = .int .i64 k ∧ v = .int .i64 (wrap64 ((1 + q.csz + q.esz + q.asz + (q.rows.map rsize).sum + Qu.sizes (q.kids.take k) : Nat) : Int)) ∧ Below (w.heap.size + 1) (w.alloc (.cells #[.int .i64 q.op, .string q.table, .int .i64 q.kind, .bool q.all, .int .i64 q.cond.op, .int .i64 q.cond.typ, .int .i64 q.cond.num, .string q.cond.text, .int .i64 q.cond.col, .slice q.cond.kh.ao q.cond.kids.length q.cond.kh.cap, .slice q.eh.ao q.exprs.length q.eh.cap, .slice q.ah.ao q.aggs.length q.ah.cap, .slice q.types.h.ao q.types.l.length q.types.h.cap, .slice q.rh.ao q.rows.length q.rh.cap, .slice q.qh.ao q.kids.length q.qh.cap] 57)) wr) (fun _ i _ => q.kids.length - (intOf i).toNat)
      case atStart => exact ⟨0, Nat.zero_le _, rfl, val_eq (by rw [← HVR.out]; simp [Qu.sizes]), HB3.out.mono (by simp)⟩
      case round =>
        obtain ⟨k, hk, rfl, rfl, hbw0⟩ := hrel
        have HBW := hide (show Below (w.alloc (.cells #[.int .i64 q.op, .string q.table, .int .i64 q.kind, .bool q.all, .int .i64 q.cond.op, .int .i64 q.cond.typ, .int .i64 q.cond.num, .string q.cond.text, .int .i64 q.cond.col, .slice q.cond.kh.ao q.cond.kids.length q.cond.kh.cap, .slice q.eh.ao q.exprs.length q.eh.cap, .slice q.ah.ao q.aggs.length q.ah.cap, .slice q.types.h.ao q.types.l.length q.types.h.cap, .slice q.rh.ao q.rows.length q.rh.cap, .slice q.qh.ao q.kids.length q.qh.cap] 57)).heap.size (w.alloc (.cells #[.int .i64 q.op, .string q.table, .int .i64 q.kind, .bool q.all, .int .i64 q.cond.op, .int .i64 q.cond.typ, .int .i64 q.cond.num, .string q.cond.text, .int .i64 q.cond.col, .slice q.cond.kh.ao q.cond.kids.length q.cond.kh.cap, .slice q.eh.ao q.exprs.length q.eh.cap, .slice q.ah.ao q.aggs.length q.ah.cap, .slice q.types.h.ao q.types.l.length q.types.h.cap, .slice q.rh.ao q.rows.length q.rh.cap, .slice q.qh.ao q.kids.length q.qh.cap] 57)) wr from hbw0.mono (by simp))
        clear hbw0
        have x14 := box_cell HBW.out (j := 14) rfl
        generalize hV : wrap64 ((1 + q.csz + q.esz + q.asz + (q.rows.map rsize).sum + Qu.sizes (q.kids.take k) : Nat) : Int) = V
        have HV := hide hV
        clear hV
        by_cases hlt : k < q.kids.length
        · have hrow := HIN.out.row.mono HBW.out
          have hix := hrow.ix hlt Tryd.underlying55 sz46
          obtain ⟨⟨c0, c1, c2, c3⟩, ⟨c4, c5, c6, c7, c8, c9⟩, c10, c11, c12, c13, c14⟩ := qu_at hrow hlt
          have HXI := hide ((HIN.out.kid _ (List.getElem_mem hlt)).mono HBW.out)
          have HXA := hide (IH.out _ (List.getElem_mem hlt))
          clear hrow
          go_wp2_with (go_at_call 38; refine (HXA.out _ HXI.out).mono ?_; rintro r w1 ⟨rfl, hb1⟩; have HB3 := hide hb1; clear hb1)
          go_roundw
          case rel =>
            refine ⟨k + 1, by omega, by go_num, val_eq ?_, (bel_trans HBW.out HB3.out).mono (by simp)⟩
            rw [← HV.out, wrap_add, Qu.sizes_take hlt]
            congr 1
            omega
          case measure => simp [intOf]; omega
        · go_wp2
          go_ret
          have hk' : k = q.kids.length := by omega
          refine ⟨ret1 ?_, bel1 HBW.out⟩
          rw [← HV.out, hk', List.take_length, Qu.size_eq]

end Go.Proofs.YtmnbhdhgjbgidaaDoor

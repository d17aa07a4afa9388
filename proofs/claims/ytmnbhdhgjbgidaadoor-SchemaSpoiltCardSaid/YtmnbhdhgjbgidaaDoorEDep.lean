/- expression.Depth, ref02.Depth: the depth of an expression. -/
import Derived.Test.YtmnbhdhgjbgidaaDoorETyp
namespace Go.Proofs.YtmnbhdhgjbgidaaDoor
open Go.RowKit

mutual
def Ex.dep : Ex → Nat
  | ⟨_, _, _, _, _, _, kids⟩ => Ex.deps kids + 1
def Ex.deps : List Ex → Nat
  | [] => 0
  | k :: r => Nat.max (Ex.dep k) (Ex.deps r)
end
theorem Ex.dep_eq (q : Ex) : q.dep = Ex.deps q.kids + 1 := by cases q; rw [Ex.dep]
theorem Ex.deps_snoc (l : List Ex) (x : Ex) : Ex.deps (l ++ [x]) = Nat.max (Ex.deps l) x.dep := by
  induction l with
  | nil => simp [Ex.deps]
  | cons a l ih =>
    simp only [List.cons_append, Ex.deps, ih, Nat.max_def]
    repeat' split
    all_goals omega
theorem Ex.deps_take {l : List Ex} {k : Nat} (h : k < l.length) : Ex.deps (l.take (k + 1)) = Nat.max (Ex.deps (l.take k)) l[k].dep := by
  rw [List.take_succ_eq_append_getElem h, Ex.deps_snoc]
mutual
theorem Ex.dep_le : ∀ q : Ex, q.dep ≤ q.size
  | ⟨_, _, _, _, _, _, kids⟩ => by rw [Ex.dep, Ex.size]; have := Ex.deps_le kids; omega
theorem Ex.deps_le : ∀ l : List Ex, Ex.deps l ≤ Ex.sizes l
  | [] => by simp [Ex.deps]
  | k :: r => by
    rw [Ex.deps, Ex.sizes]
    have h1 := Ex.dep_le k
    have h2 := Ex.deps_le r
    exact Nat.max_le.2 ⟨by omega, by omega⟩
end
theorem Ex.size_kid {q k : Ex} (h : k ∈ q.kids) : k.size ≤ q.size := by
  have h1 := sizes_mem q.kids k h
  have h2 := Ex.size_eq q
  omega

set_option maxRecDepth 100000 in
set_option maxHeartbeats 4000000 in
theorem edep_any {w0 : World} {q : Ex} (h0 : q.In w0) : ∀ (w : World), q.In w → q.size ≤ 1000000 →
    Calls Tryd.prog 86 #[.agg #[.int .i64 q.op, .int .i64 q.typ, .int .i64 q.num, .string q.text, .int .i64 q.col, .slice q.kh.ao q.kids.length q.kh.cap]] w fun r w' => r = .returned (.int .i64 (q.dep : Nat)) ∧ Below w.heap.size w w' := by
  induction h0 with
  | mk q _ _ _ ih =>
  intro w hin hwt
  have IH := hide ih
  clear ih
  have l1 := hin.row.len
  have HDL := hide (Nat.le_trans (Ex.dep_le q) hwt)
  have HIN := hide (hin.mono (belA (.cells #[.int .i64 q.op, .int .i64 q.typ, .int .i64 q.num, .string q.text, .int .i64 q.col, .slice q.kh.ao q.kids.length q.kh.cap] 45)))
  clear hin
  go_enter Tryd.func86, Tryd.ntmps86
  go_wp2
  go_loopw [3, 9] (fun v i wr => ∃ k : Nat, k ≤ q.kids.length ∧ i = .int .i64 k ∧ v = .int .i64 ((Ex.deps (q.kids.take k) : Nat) : Int) ∧ Below (w.alloc (.cells #[.int .i64 q.op, .int .i64 q.typ, .int .i64 q.num, .string q.text, .int .i64 q.col, .slice q.kh.ao q.kids.length q.kh.cap] 45)).heap.size (w.alloc (.cells #[.int .i64 q.op, .int .i64 q.typ, .int .i64 q.num, .string q.text, .int .i64 q.col, .slice q.kh.ao q.kids.length q.kh.cap] 45)) wr) (fun _ i _ => q.kids.length - (intOf i).toNat)
  case atStart => exact ⟨0, Nat.zero_le _, rfl, val_eq (by simp [Ex.deps]), Below.refl _ _⟩
  case round =>
    obtain ⟨k, hk, rfl, rfl, hbw⟩ := hrel
    have HBW := hide hbw
    clear hbw
    by_cases hlt : k < q.kids.length
    · have hlti : (k : Int) < q.kids.length := by omega
      have hrow := HIN.out.row.mono HBW.out
      have hix := hrow.ix hlt Tryd.underlying37 sz41
      obtain ⟨c0, c1, c2, c3, c4, c5⟩ := ex_at hrow hlt
      have hbk := hrow.blk hlt
      have HXI := hide ((HIN.out.kid _ (List.getElem_mem hlt)).mono HBW.out)
      have HWK := hide (Nat.le_trans (Ex.size_kid (List.getElem_mem hlt)) hwt)
      have HIH := hide (IH.out _ (List.getElem_mem hlt))
      have HST := hide (Ex.deps_take hlt)
      generalize Ex.deps (q.kids.take k) = V at *
      clear hrow
      generalize q.kids[k] = x at *
      go_wp2_with (go_at_call 86; refine (HIH.out _ (HXI.out.mono (belA _)) HWK.out).mono ?_; rintro r w2 ⟨rfl, hb2⟩; have HB2 := hide (bel_trans (belA _) hb2); clear hb2)
      go_roundw
      case rel => exact ⟨k + 1, by omega, by go_num, val_eq (by rw [HST.out]; show max (V : Int) (x.dep : Int) = ((max V x.dep : Nat) : Int); omega), bel_trans HBW.out HB2.out⟩
      case measure => simp [intOf]; omega
    · have hlti : ¬ (k : Int) < q.kids.length := by omega
      have HE := hide (show q.dep = Ex.deps (q.kids.take k) + 1 by rw [show k = q.kids.length by omega, List.take_length, Ex.dep_eq])
      have hsm : (Ex.deps (q.kids.take k)) + 1 ≤ 1000000 := by rw [← HE.out]; exact HDL.out
      go_wp2
      go_ret
      refine ⟨ret1 ?_, (belA _).trans (HBW.out.mono (by simp))⟩
      rw [HE.out]; omega

set_option maxRecDepth 100000 in
set_option maxHeartbeats 4000000 in
theorem redep_any {w0 : World} {q : Ex} (h0 : q.In w0) : ∀ (w : World), q.In w → q.size ≤ 1000000 →
    Calls Tryd.prog 88 #[.agg #[.int .i64 q.op, .int .i64 q.typ, .int .i64 q.num, .string q.text, .int .i64 q.col, .slice q.kh.ao q.kids.length q.kh.cap]] w fun r w' => r = .returned (.int .i64 (q.dep : Nat)) ∧ Below w.heap.size w w' := by
  induction h0 with
  | mk q _ _ _ ih =>
  intro w hin hwt
  have IH := hide ih
  clear ih
  have l1 := hin.row.len
  have HDL := hide (Nat.le_trans (Ex.dep_le q) hwt)
  have HIN := hide (hin.mono (belA (.cells #[.int .i64 q.op, .int .i64 q.typ, .int .i64 q.num, .string q.text, .int .i64 q.col, .slice q.kh.ao q.kids.length q.kh.cap] 45)))
  clear hin
  go_enter Tryd.func88, Tryd.ntmps88
  go_wp2
  go_loopw [3, 4] (fun v i wr => ∃ k : Nat, k ≤ q.kids.length ∧ i = .int .i64 k ∧ v = .int .i64 ((Ex.deps (q.kids.take k) : Nat) : Int) ∧ Below (w.alloc (.cells #[.int .i64 q.op, .int .i64 q.typ, .int .i64 q.num, .string q.text, .int .i64 q.col, .slice q.kh.ao q.kids.length q.kh.cap] 45)).heap.size (w.alloc (.cells #[.int .i64 q.op, .int .i64 q.typ, .int .i64 q.num, .string q.text, .int .i64 q.col, .slice q.kh.ao q.kids.length q.kh.cap] 45)) wr) (fun _ i _ => q.kids.length - (intOf i).toNat)
  case atStart => exact ⟨0, Nat.zero_le _, rfl, val_eq (by simp [Ex.deps]), Below.refl _ _⟩
  case round =>
    obtain ⟨k, hk, rfl, rfl, hbw⟩ := hrel
    have HBW := hide hbw
    clear hbw
    have x5 := box_cell HBW.out (j := 5) rfl
    by_cases hlt : k < q.kids.length
    · have hlti : (k : Int) < q.kids.length := by omega
      have hrow := HIN.out.row.mono HBW.out
      have hix := hrow.ix hlt Tryd.underlying37 sz41
      obtain ⟨c0, c1, c2, c3, c4, c5⟩ := ex_at hrow hlt
      have hbk := hrow.blk hlt
      have HXI := hide ((HIN.out.kid _ (List.getElem_mem hlt)).mono HBW.out)
      have HWK := hide (Nat.le_trans (Ex.size_kid (List.getElem_mem hlt)) hwt)
      have HIH := hide (IH.out _ (List.getElem_mem hlt))
      have HST := hide (Ex.deps_take hlt)
      generalize Ex.deps (q.kids.take k) = V at *
      clear hrow
      generalize q.kids[k] = x at *
      go_wp2_with (go_at_call 88; refine (HIH.out _ HXI.out HWK.out).mono ?_; rintro r w2 ⟨rfl, hb2⟩; have HB2 := hide hb2; clear hb2)
      go_roundw
      case rel => exact ⟨k + 1, by omega, by go_num, val_eq (by rw [HST.out]; show max (V : Int) (x.dep : Int) = ((max V x.dep : Nat) : Int); omega), bel_trans HBW.out HB2.out⟩
      case measure => simp [intOf]; omega
    · have hlti : ¬ (k : Int) < q.kids.length := by omega
      have HE := hide (show q.dep = Ex.deps (q.kids.take k) + 1 by rw [show k = q.kids.length by omega, List.take_length, Ex.dep_eq])
      have hsm : (Ex.deps (q.kids.take k)) + 1 ≤ 1000000 := by rw [← HE.out]; exact HDL.out
      go_wp2
      go_ret
      refine ⟨ret1 ?_, (belA _).trans (HBW.out.mono (by simp))⟩
      rw [HE.out]; omega

/-- The type of an expression, with the limits. -/
noncomputable def Ex.typ2 (ts : List Int) (e : Ex) : Int × Int := if 200 < e.size then (0, 8) else if 24 < e.dep then (0, 13) else e.ty ts

set_option maxRecDepth 100000 in
set_option maxHeartbeats 4000000 in
theorem etype_any {w0 : World} {e : Ex} (h0 : e.In w0) (ts : IL) (w : World) (hts : ts.In w) (hin : e.In w) (hf : OpsAt w) (hsz : e.size ≤ 1000000) :
    Calls Tryd.prog 49 #[.slice ts.h.ao ts.l.length ts.h.cap, .agg #[.int .i64 e.op, .int .i64 e.typ, .int .i64 e.num, .string e.text, .int .i64 e.col, .slice e.kh.ao e.kids.length e.kh.cap]] w fun r w' => r = .returned (.tuple #[.int .i64 (e.typ2 ts.l).1, .int .i64 (e.typ2 ts.l).2]) ∧ Below w.heap.size w w' := by
  have HB0 := hide (belA (w := w) (.cells #[.int .i64 e.op, .int .i64 e.typ, .int .i64 e.num, .string e.text, .int .i64 e.col, .slice e.kh.ao e.kids.length e.kh.cap] 45))
  have HSZ := hide (show wrap64 (e.size : Int) = e.size from wrap_small (by omega))
  have HE0 := hide h0
  have HTS := hide (hts.mono HB0.out)
  have HIN := hide (hin.mono HB0.out)
  have HF := hide (hf.mono HB0.out)
  have hdl := Ex.dep_le e
  clear hts hin hf
  by_cases h200 : 200 < e.size
  · have h200' : (200 : Int) < (e.size : Int) := by omega
    have HR := hide (show e.typ2 ts.l = (0, 8) by unfold Ex.typ2; rw [if_pos h200])
    go_enter Tryd.func49, Tryd.ntmps49
    go_wp2_with (go_at_call 59; refine (esize_any HE0.out _ HIN.out).mono ?_; rintro r w1 ⟨rfl, hb1⟩; rw [HSZ.out]; have HB1 := hide hb1; clear hb1)
    go_ret2
    exact ⟨ret_tt HR.out.symm, bel1 HB1.out⟩
  have h200' : ¬ (200 : Int) < (e.size : Int) := by omega
  by_cases h24 : 24 < e.dep
  · have h24' : (24 : Int) < (e.dep : Int) := by omega
    have HR := hide (show e.typ2 ts.l = (0, 13) by unfold Ex.typ2; rw [if_neg h200, if_pos h24])
    go_enter Tryd.func49, Tryd.ntmps49
    go_wp2_with (first
      | (go_at_call 59; refine (esize_any HE0.out _ HIN.out).mono ?_; rintro r w1 ⟨rfl, hb1⟩; rw [HSZ.out]; have HB1 := hide hb1; have y0 := box_cell HB1.out (j := 0) rfl; have y1 := box_cell HB1.out (j := 1) rfl; have y2 := box_cell HB1.out (j := 2) rfl; have y3 := box_cell HB1.out (j := 3) rfl; have y4 := box_cell HB1.out (j := 4) rfl; have y5 := box_cell HB1.out (j := 5) rfl; clear hb1)
      | (go_at_call 86; refine (edep_any HE0.out _ (HIN.out.mono HB1.out) hsz).mono ?_; rintro r w2 ⟨rfl, hb2⟩; have HB2 := hide (bel_trans HB1.out hb2); clear hb2))
    go_ret2
    exact ⟨ret_tt HR.out.symm, bel1 HB2.out⟩
  · have h24' : ¬ (24 : Int) < (e.dep : Int) := by omega
    have HR := hide (show e.typ2 ts.l = e.ty ts.l by unfold Ex.typ2; rw [if_neg h200, if_neg h24])
    go_enter Tryd.func49, Tryd.ntmps49
    go_wp2_with (first
      | (go_at_call 59; refine (esize_any HE0.out _ HIN.out).mono ?_; rintro r w1 ⟨rfl, hb1⟩; rw [HSZ.out]; have HB1 := hide hb1; have y0 := box_cell HB1.out (j := 0) rfl; have y1 := box_cell HB1.out (j := 1) rfl; have y2 := box_cell HB1.out (j := 2) rfl; have y3 := box_cell HB1.out (j := 3) rfl; have y4 := box_cell HB1.out (j := 4) rfl; have y5 := box_cell HB1.out (j := 5) rfl; clear hb1)
      | (go_at_call 86; refine (edep_any HE0.out _ (HIN.out.mono HB1.out) hsz).mono ?_; rintro r w2 ⟨rfl, hb2⟩; have HB2 := hide (bel_trans HB1.out hb2); clear hb2; clear y0 y1 y2 y3 y4 y5; have z0 := box_cell HB2.out (j := 0) rfl; have z1 := box_cell HB2.out (j := 1) rfl; have z2 := box_cell HB2.out (j := 2) rfl; have z3 := box_cell HB2.out (j := 3) rfl; have z4 := box_cell HB2.out (j := 4) rfl; have z5 := box_cell HB2.out (j := 5) rfl)
      | (go_at_call 87; refine (etyp_any HE0.out ts _ (HTS.out.mono HB2.out) (HIN.out.mono HB2.out) (HF.out.mono HB2.out) hsz).mono ?_; rintro r w3 ⟨rfl, hb3⟩; rw [← HR.out]; have HB3 := hide (bel_trans HB2.out hb3); clear hb3))
    go_ret2
    exact ⟨rfl, bel1 HB3.out⟩
end Go.Proofs.YtmnbhdhgjbgidaaDoor

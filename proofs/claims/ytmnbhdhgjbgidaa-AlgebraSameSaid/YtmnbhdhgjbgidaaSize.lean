/- ref02.Size, law02.few, law02.Few. -/
import Derived.Test.YtmnbhdhgjbgidaaSame
namespace Go.Proofs.Ytmnbhdhgjbgidaa
open Go.RowKit

theorem sz41 : (Try.prog.info? 41).map (·.size) = some 6 := by kernel_rfl

mutual
def Ex.size : Ex → Nat
  | ⟨_, _, _, _, _, _, kids⟩ => 1 + Ex.sizes kids
def Ex.sizes : List Ex → Nat
  | [] => 0
  | k :: r => Ex.size k + Ex.sizes r
end
theorem Ex.size_eq (e : Ex) : e.size = 1 + Ex.sizes e.kids := by cases e; rw [Ex.size]
theorem Ex.sizes_snoc (l : List Ex) (x : Ex) : Ex.sizes (l ++ [x]) = Ex.sizes l + x.size := by
  induction l with
  | nil => simp [Ex.sizes]
  | cons a l ih => simp only [List.cons_append, Ex.sizes, ih]; omega
theorem Ex.sizes_take {l : List Ex} {k : Nat} (h : k < l.length) : Ex.sizes (l.take (k + 1)) = Ex.sizes (l.take k) + l[k].size := by
  rw [List.take_succ_eq_append_getElem h, Ex.sizes_snoc]

theorem wrap_add (a b : Int) : wrap64 (wrap64 a + wrap64 b) = wrap64 (a + b) := by unfold wrap64; omega

set_option maxRecDepth 100000 in
set_option maxHeartbeats 400000 in
theorem rsize_any {w0 : World} {e : Ex} (h0 : e.In w0) : ∀ w : World, e.In w →
    Calls Try.prog 58 #[.agg #[.int .i64 e.op, .int .i64 e.typ, .int .i64 e.num, .string e.text, .int .i64 e.col, .slice e.kh.ao e.kids.length e.kh.cap]] w
      fun r w' => r = .returned (.int .i64 (wrap64 (e.size : Int))) ∧ Below w.heap.size w w' := by
  induction h0 with
  | mk e _ _ _ ih =>
  intro w hin
  have IH := hide ih
  clear ih
  have hn := hin.row.len
  go_enter Try.func58, Try.ntmps58
  go_wp2
  go_loopw [3, 4] (fun v i wr => ∃ k : Nat, k ≤ e.kids.length ∧ i = .int .i64 k ∧ v = .int .i64 (wrap64 ((1 + Ex.sizes (e.kids.take k) : Nat) : Int)) ∧ Below (w.heap.size + 1) (w.alloc (.cells #[.int .i64 e.op, .int .i64 e.typ, .int .i64 e.num, .string e.text, .int .i64 e.col, .slice e.kh.ao e.kids.length e.kh.cap] 41)) wr) (fun _ i _ => e.kids.length - (intOf i).toNat)
  case atStart => exact ⟨0, Nat.zero_le _, rfl, by simp [Ex.sizes, wrap64], Below.refl _ _⟩
  case round =>
    obtain ⟨k, hk, rfl, rfl, hbw0⟩ := hrel
    have hbw : Below w.heap.size w wr := (belA _).trans (hbw0.mono (by omega))
    have HB := hide hbw
    have HB0 := hide hbw0
    have hin' := hin.mono hbw
    have hbox : wr.cell? ⟨w.heap.size, 5, none⟩ = some (.slice e.kh.ao e.kids.length e.kh.cap) := by rw [hbw0.cell (by simp)]; simp [go_sem]
    have hszl : w.heap.size + 1 ≤ wr.heap.size := by have := hbw0.size; simpa using this
    clear hbw0 hbw
    generalize hV : wrap64 ((1 + Ex.sizes (e.kids.take k) : Nat) : Int) = V
    have HV := hide hV
    clear hV
    by_cases hlt : k < e.kids.length
    · have hix := hin'.row.ix hlt Try.underlying34 sz41
      obtain ⟨c0, c1, c2, c3, c4, c5⟩ := ex_at hin'.row hlt
      have hkin := hide (hin'.kid _ (List.getElem_mem hlt))
      go_wp2_with (go_at_call 58; refine (IH.out _ (List.getElem_mem hlt) _ hkin.out).mono ?_; rintro r w1 ⟨rfl, hb1⟩; have HB1 := hide hb1; clear hb1)
      go_roundw
      case rel =>
        refine ⟨k + 1, by omega, by go_num, ?_, HB0.out.trans (HB1.out.mono hszl)⟩
        rw [← HV.out, wrap_add, Ex.sizes_take hlt]
        congr 3
        omega
      case measure => simp [intOf]; omega
    · go_wp2
      go_ret
      have hk' : k = e.kids.length := by omega
      refine ⟨ret1 ?_, HB.out⟩
      rw [← HV.out, hk', List.take_length, Ex.size_eq]


set_option maxRecDepth 100000 in
set_option maxHeartbeats 400000 in
theorem efew_any {w0 : World} {e : Ex} (h0 : e.In w0) : ∀ (w : World) (d : Int), e.In w → 0 ≤ d → d ≤ 61 →
    Calls Try.prog 62 #[.agg #[.int .i64 e.op, .int .i64 e.typ, .int .i64 e.num, .string e.text, .int .i64 e.col, .slice e.kh.ao e.kids.length e.kh.cap], .int .i64 d] w
      fun r w' => BoolPost True r ∧ Below w.heap.size w w' := by
  induction h0 with
  | mk e _ _ _ ih =>
  intro w d hin hd0 hd1
  have IH := hide ih
  clear ih
  have hn := hin.row.len
  by_cases h1 : 60 < d
  · go_enter Try.func62, Try.ntmps62
    go_wp2
    go_ret
    exact ⟨bp_false, belA _⟩
  by_cases h2 : 12 < (e.kids.length : Int)
  · go_enter Try.func62, Try.ntmps62
    go_wp2
    go_ret
    exact ⟨bp_false, belA _⟩
  by_cases h3 : 200 < (e.text.size : Int)
  · go_enter Try.func62, Try.ntmps62
    go_wp2
    go_ret
    exact ⟨bp_false, belA _⟩
  go_enter Try.func62, Try.ntmps62
  go_wp2
  go_loopw [5] (fun i wr => ∃ k : Nat, k ≤ e.kids.length ∧ i = .int .i64 k ∧ Below (w.heap.size + 1) (w.alloc (.cells #[.int .i64 e.op, .int .i64 e.typ, .int .i64 e.num, .string e.text, .int .i64 e.col, .slice e.kh.ao e.kids.length e.kh.cap] 41)) wr) (fun i _ => e.kids.length - (intOf i).toNat)
  case atStart => exact ⟨0, Nat.zero_le _, rfl, Below.refl _ _⟩
  case round =>
    obtain ⟨k, hk, rfl, hbw0⟩ := hrel
    have hbw : Below w.heap.size w wr := (belA _).trans (hbw0.mono (by omega))
    have HB := hide hbw
    have HB0 := hide hbw0
    have hin' := hin.mono hbw
    have hbox : wr.cell? ⟨w.heap.size, 5, none⟩ = some (.slice e.kh.ao e.kids.length e.kh.cap) := by rw [hbw0.cell (by simp)]; simp [go_sem]
    have hszl : w.heap.size + 1 ≤ wr.heap.size := by have := hbw0.size; simpa using this
    clear hbw0 hbw
    by_cases hlt : k < e.kids.length
    · have hix := hin'.row.ix hlt Try.underlying34 sz41
      obtain ⟨c0, c1, c2, c3, c4, c5⟩ := ex_at hin'.row hlt
      have hkin := hide (hin'.kid _ (List.getElem_mem hlt))
      go_wp2_with (go_at_call 62; refine (IH.out _ (List.getElem_mem hlt) _ _ hkin.out (by omega) (by omega)).mono ?_; rintro r w1 ⟨⟨b, rfl, -⟩, hb1⟩; have HB1 := hide hb1; clear hb1)
      · go_ret
        exact ⟨bp_false, HB.out.trans (HB1.out.mono HB.out.size)⟩
      · go_roundw
        case rel => exact ⟨k + 1, by omega, by go_num, HB0.out.trans (HB1.out.mono hszl)⟩
        case measure => simp [intOf]; omega
    · go_wp2
      go_ret
      exact ⟨bp_true trivial, HB.out⟩
set_option maxHeartbeats 400000 in
theorem eFew_any (e : Ex) (w : World) (hin : e.In w) :
    Calls Try.prog 33 #[.agg #[.int .i64 e.op, .int .i64 e.typ, .int .i64 e.num, .string e.text, .int .i64 e.col, .slice e.kh.ao e.kids.length e.kh.cap]] w
      fun r w' => BoolPost True r ∧ Below w.heap.size w w' := by
  have hin1 := hin.mono (belA (.cells #[.int .i64 e.op, .int .i64 e.typ, .int .i64 e.num, .string e.text, .int .i64 e.col, .slice e.kh.ao e.kids.length e.kh.cap] 41))
  have H1 := hide hin1
  clear hin1
  go_enter Try.func33, Try.ntmps33
  go_wp2_with (first | (go_at_call 62; refine (efew_any hin _ _ H1.out (by omega) (by omega)).mono ?_; rintro r w1 ⟨⟨b, rfl, -⟩, hb1⟩; have HB1 := hide hb1; obtain ⟨g1, _⟩ := bcell hb1; clear hb1; cases b) | (go_at_call 58; refine (rsize_any hin _ (H1.out.mono HB1.out)).mono ?_; rintro r w2 ⟨rfl, hb2⟩; have HB2 := hide hb2; clear hb2))
  · go_ret
    exact ⟨bp_false, bel1 HB1.out⟩
  · go_ret
    exact ⟨bp_any, bel1 (bel_trans HB1.out HB2.out)⟩

end Go.Proofs.Ytmnbhdhgjbgidaa

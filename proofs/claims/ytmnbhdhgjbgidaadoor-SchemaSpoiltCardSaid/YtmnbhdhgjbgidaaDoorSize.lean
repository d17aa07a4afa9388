/- ref02.Size, law02.few, law02.Few. -/
import Derived.Test.YtmnbhdhgjbgidaaDoorSame
namespace Go.Proofs.YtmnbhdhgjbgidaaDoor
open Go.RowKit

theorem sz41 : (Tryd.prog.info? 45).map (·.size) = some 6 := by kernel_rfl

mutual
def Ex.size : Ex → Nat
  | ⟨_, _, _, _, _, _, kids⟩ => 1 + Ex.sizes kids
def Ex.sizes : List Ex → Nat
  | [] => 0
  | k :: r => Ex.size k + Ex.sizes r
end
theorem Ex.size_eq (e : Ex) : e.size = 1 + Ex.sizes e.kids := by cases e; rw [Ex.size]
theorem Ex.sizes_snoc (l : List Ex) (x : Ex) : Ex.sizes (l ++ [x]) = Ex.sizes l + x.size := by
  induction l with
  | nil => simp [Ex.sizes]
  | cons a l ih => simp only [List.cons_append, Ex.sizes, ih]; omega
theorem Ex.sizes_take {l : List Ex} {k : Nat} (h : k < l.length) : Ex.sizes (l.take (k + 1)) = Ex.sizes (l.take k) + l[k].size := by
  rw [List.take_succ_eq_append_getElem h, Ex.sizes_snoc]

theorem wrap_add (a b : Int) : wrap64 (wrap64 a + wrap64 b) = wrap64 (a + b) := by unfold wrap64; omega

set_option maxRecDepth 100000 in
set_option maxHeartbeats 400000 in
theorem rsize_any {w0 : World} {e : Ex} (h0 : e.In w0) : ∀ w : World, e.In w →
    Calls Tryd.prog 69 #[.agg #[.int .i64 e.op, .int .i64 e.typ, .int .i64 e.num, .string e.text, .int .i64 e.col, .slice e.kh.ao e.kids.length e.kh.cap]] w
      fun r w' => r = .returned (.int .i64 (wrap64 (e.size : Int))) ∧ Below w.heap.size w w' := by
  induction h0 with
  | mk e _ _ _ ih =>
  intro w hin
  have IH := hide ih
  clear ih
  have hn := hin.row.len
  go_enter Tryd.func69, Tryd.ntmps69
  go_wp2
  go_loopw [3, 4] (fun v i wr => ∃ k : Nat, k ≤ e.kids.length ∧ i = .int .i64 k ∧ v = .int .i64 (wrap64 ((1 + Ex.sizes (e.kids.take k) : Nat) : Int)) ∧ Below (w.heap.size + 1) (w.alloc (.cells #[.int .i64 e.op, .int .i64 e.typ, .int .i64 e.num, .string e.text, .int .i64 e.col, .slice e.kh.ao e.kids.length e.kh.cap] 45)) wr) (fun _ i _ => e.kids.length - (intOf i).toNat)
  case atStart => exact ⟨0, Nat.zero_le _, rfl, by simp [Ex.sizes, wrap64], Below.refl _ _⟩
  case round =>
    obtain ⟨k, hk, rfl, rfl, hbw0⟩ := hrel
    have hbw : Below w.heap.size w wr := (belA _).trans (hbw0.mono (by omega))
    have HB := hide hbw
    have HB0 := hide hbw0
    have hin' := hin.mono hbw
    have hbox : wr.cell? ⟨w.heap.size, 5, none⟩ = some (.slice e.kh.ao e.kids.length e.kh.cap) := by rw [hbw0.cell (by simp)]; simp [go_sem]
    have hszl : w.heap.size + 1 ≤ wr.heap.size := by have := hbw0.size; simpa using this
    clear hbw0 hbw
    generalize hV : wrap64 ((1 + Ex.sizes (e.kids.take k) : Nat) : Int) = V
    have HV := hide hV
    clear hV
    by_cases hlt : k < e.kids.length
    · have hix := hin'.row.ix hlt Tryd.underlying37 sz41
      obtain ⟨c0, c1, c2, c3, c4, c5⟩ := ex_at hin'.row hlt
      have hkin := hide (hin'.kid _ (List.getElem_mem hlt))
      go_wp2_with (go_at_call 69; refine (IH.out _ (List.getElem_mem hlt) _ hkin.out).mono ?_; rintro r w1 ⟨rfl, hb1⟩; have HB1 := hide hb1; clear hb1)
      go_roundw
      case rel =>
        refine ⟨k + 1, by omega, by go_num, ?_, HB0.out.trans (HB1.out.mono hszl)⟩
        rw [← HV.out, wrap_add, Ex.sizes_take hlt]
        congr 3
        omega
      case measure => simp [intOf]; omega
    · go_wp2
      go_ret
      have hk' : k = e.kids.length := by omega
      refine ⟨ret1 ?_, HB.out⟩
      rw [← HV.out, hk', List.take_length, Ex.size_eq]



end Go.Proofs.YtmnbhdhgjbgidaaDoor

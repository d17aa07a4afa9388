/- expression.apply: the rest. -/
import Derived.Test.YtlkhiihehaiinaaDoorFApp
import Derived.LoopTactic
namespace Go.Proofs.YtlkhiihehaiinaaDoor
open Go.RowKit


set_option maxRecDepth 100000 in
set_option maxHeartbeats 4000000 in
theorem ap_13 (r : VL) (w : World) (hr : r.In w) (hl : 0 < r.l.length) : Calls Tryd.prog 71 #[.int .i64 13, .slice r.h.ao r.l.length r.h.cap] w fun e w' => e = .returned (.agg #[.int .i64 (applyV 13 r.l).kind, .int .i64 (applyV 13 r.l).num, .string (applyV 13 r.l).text]) ∧ Below w.heap.size w w' := by
  have h0 : 0 < r.l.length := by omega
  obtain ⟨hix0, hbb, c0, c1, c2⟩ := apl0 hr h0
  have hwf := hr.2
  obtain ⟨a, ha⟩ : ∃ a, r.l[0] = a := ⟨_, rfl⟩
  have hga := getD_of h0 ha
  rw [ha] at c0 c1 c2
  have hasz : (a.text.size : Int) ≤ 9223372036854775807 := by have := (hwf a (ha ▸ List.getElem_mem h0)).2.2; unfold maxLen at this; omega
  have hres : applyV 13 r.l = if a.kind = 3 then numV a.text.size else nulV := by unfold applyV; dsimp only; rw [hga]; simp
  rw [hres]
  obtain ⟨ak, an, av⟩ := a
  dsimp only at *
  clear hga hres ha hwf hr
  by_cases h3 : ak = 3
  · subst h3
    rw [if_pos rfl]
    go_enter Tryd.func71, Tryd.ntmps71
    go_wp2
    exact bodyPost_ret (v := .agg #[.int .i64 1, .int .i64 av.size, .string ⟨#[]⟩]) (by simp [results, Tryd.results71, go_sem]) rfl ⟨rfl, belA _⟩
  · rw [if_neg h3]
    have hb : (ak == 3) = false := beq_eq_false_iff_ne.2 h3
    clear h3
    go_enter Tryd.func71, Tryd.ntmps71
    go_wp2
    exact bodyPost_ret (v := .agg #[.int .i64 0, .int .i64 0, .string ⟨#[]⟩]) (by simp [results, Tryd.results71, go_sem]) rfl ⟨rfl, belA _⟩

set_option maxRecDepth 100000 in
set_option maxHeartbeats 4000000 in
theorem ap_27 (r : VL) (w : World) (hr : r.In w) (hl : 1 < r.l.length) : Calls Tryd.prog 71 #[.int .i64 27, .slice r.h.ao r.l.length r.h.cap] w fun e w' => e = .returned (.agg #[.int .i64 (applyV 27 r.l).kind, .int .i64 (applyV 27 r.l).num, .string (applyV 27 r.l).text]) ∧ Below w.heap.size w w' := by
  have h0 : 0 < r.l.length := by omega
  obtain ⟨hix0, hbb, c0, c1, c2⟩ := apl0 hr h0
  have hwf := hr.2
  obtain ⟨a, ha⟩ : ∃ a, r.l[0] = a := ⟨_, rfl⟩
  have hga := getD_of h0 ha
  rw [ha] at c0 c1 c2
  obtain ⟨p, hix1, d0, d1, d2⟩ := apl1 hr hl
  obtain ⟨b, hb⟩ : ∃ b, r.l[1] = b := ⟨_, rfl⟩
  have hgb := getD_of hl hb
  rw [hb] at d0 d1 d2
  have hres : applyV 27 r.l = if a.kind = 0 then b else a := by unfold applyV; dsimp only; rw [hga, hgb]; simp
  rw [hres]
  obtain ⟨ak, an, av⟩ := a
  dsimp only at *
  clear hga hgb hres ha hb hwf hr
  by_cases h3 : ak = 0
  · subst h3
    rw [if_pos rfl]
    go_enter Tryd.func71, Tryd.ntmps71
    go_wp2
    exact bodyPost_ret (v := .agg #[.int .i64 b.kind, .int .i64 b.num, .string b.text]) (by simp [results, Tryd.results71, go_sem]) rfl ⟨rfl, belA _⟩
  · rw [if_neg h3]
    have hb : (ak == 0) = false := beq_eq_false_iff_ne.2 h3
    clear h3
    go_enter Tryd.func71, Tryd.ntmps71
    go_wp2
    exact bodyPost_ret (v := .agg #[.int .i64 ak, .int .i64 an, .string av]) (by simp [results, Tryd.results71, go_sem]) rfl ⟨rfl, belA _⟩

set_option maxRecDepth 100000 in
theorem ap_1 (r : VL) (w : World) : Calls Tryd.prog 71 #[.int .i64 1, .slice r.h.ao r.l.length r.h.cap] w fun e w' => e = .returned (.agg #[.int .i64 (applyV 1 r.l).kind, .int .i64 (applyV 1 r.l).num, .string (applyV 1 r.l).text]) ∧ Below w.heap.size w w' := by
  have hres : applyV 1 r.l = nulV := by unfold applyV; simp
  rw [hres]
  · go_enter Tryd.func71, Tryd.ntmps71
    go_wp2
    exact bodyPost_ret (v := .agg #[.int .i64 0, .int .i64 0, .string ⟨#[]⟩]) (by simp [results, Tryd.results71, go_sem]) rfl ⟨rfl, belA _⟩

theorem vl_tail {w : World} {b o cap : Nat} {l : List V} (hM : VL.In w ⟨⟨some ⟨b, o, none⟩, cap⟩, l⟩) (h1 : 1 ≤ l.length) : VL.In w ⟨⟨some ⟨b, o + 3, none⟩, cap - 1⟩, l.tail⟩ := by
  obtain ⟨⟨g1, g2, g3, g4⟩, g5⟩ := hM
  dsimp only at g1 g2 g3 g4 g5
  refine ⟨⟨by show l.tail.length ≤ cap - 1; rw [List.length_tail]; omega, by show cap - 1 ≤ maxLen; omega, fun hp => ⟨rfl, (g3 (by omega)).2⟩, fun i hi j v hv => ?_⟩, fun n hn => g5 n (List.mem_of_mem_tail hn)⟩
  have hi1 : i < l.tail.length := hi
  have hi2 : i + 1 < l.length := by rw [List.length_tail] at hi1; omega
  dsimp only at hv
  rw [List.getElem_tail] at hv
  have h6 : w.cell? ⟨b, o + (i + 1) * 3 + j, none⟩ = some v := g4 (i + 1) hi2 j v hv
  show w.cell? ⟨b, o + 3 + i * 3 + j, none⟩ = some v
  rw [← h6]
  congr 2
  omega
def inF (a : V) (l : List V) (k : Nat) : V := (l.take k).foldl (fun o x => orV o (eqV a x)) (bV false)
theorem inF_succ (a : V) (l : List V) {k : Nat} (hk : k < l.length) : inF a l (k + 1) = orV (inF a l k) (eqV a l[k]) := by
  unfold inF
  rw [List.take_succ_eq_append_getElem hk, List.foldl_append]
  rfl
theorem inF_all (a : V) (l : List V) : inF a l l.length = inV a l := by unfold inF inV; rw [List.take_length]
end Go.Proofs.YtlkhiihehaiinaaDoor

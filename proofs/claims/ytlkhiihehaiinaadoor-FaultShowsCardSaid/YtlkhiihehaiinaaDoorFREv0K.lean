/- ref02.Eval: what its parts are; a column. -/
import Derived.Test.YtlkhiihehaiinaaDoorFRarK
import Derived.Test.YtlkhiihehaiinaaDoorGK
namespace Go.Proofs.YtlkhiihehaiinaaDoor
open Go.RowKit

set_option maxRecDepth 100000 in
set_option maxHeartbeats 1000000 in
theorem rkids_any (op : Int) (n : Nat) (w : World) : Calls Tryd.prog 28 #[.int .i64 op, .int .i64 (n : Nat)] w fun e w' => e = .returned (.bool (kidsOk op n)) ∧ Below w.heap.size w w' := by
  by_cases h5 : op ≤ 5
  · have HR := hide (show kidsOk op n = decide (n = 0) by unfold kidsOk; rw [if_pos h5])
    go_enter Tryd.func28, Tryd.ntmps28
    go_wp2
    all_goals go_ret
    all_goals exact ⟨retb (by rw [HR.out]; first | rfl | (rw [Bool.eq_iff_iff]; simp; try omega)), Below.refl _ _⟩

  by_cases h11 : op = 11
  · subst h11
    have HR := hide (show kidsOk 11 n = decide (n = 1) by simp [kidsOk])
    go_enter Tryd.func28, Tryd.ntmps28
    go_wp2
    all_goals go_ret
    all_goals exact ⟨retb (by rw [HR.out]; first | rfl | (rw [Bool.eq_iff_iff]; simp; try omega)), Below.refl _ _⟩

  by_cases h13 : op = 13
  · subst h13
    have HR := hide (show kidsOk 13 n = decide (n = 1) by simp [kidsOk])
    go_enter Tryd.func28, Tryd.ntmps28
    go_wp2
    all_goals go_ret
    all_goals exact ⟨retb (by rw [HR.out]; first | rfl | (rw [Bool.eq_iff_iff]; simp; try omega)), Below.refl _ _⟩

  by_cases h21 : op = 21
  · subst h21
    have HR := hide (show kidsOk 21 n = decide (n = 1) by simp [kidsOk])
    go_enter Tryd.func28, Tryd.ntmps28
    go_wp2
    all_goals go_ret
    all_goals exact ⟨retb (by rw [HR.out]; first | rfl | (rw [Bool.eq_iff_iff]; simp; try omega)), Below.refl _ _⟩

  by_cases h24 : op = 24
  · subst h24
    have HR := hide (show kidsOk 24 n = decide (n = 1) by simp [kidsOk])
    go_enter Tryd.func28, Tryd.ntmps28
    go_wp2
    all_goals go_ret
    all_goals exact ⟨retb (by rw [HR.out]; first | rfl | (rw [Bool.eq_iff_iff]; simp; try omega)), Below.refl _ _⟩

  by_cases h25 : op = 25
  · subst h25
    have HR := hide (show kidsOk 25 n = decide (n = 1) by simp [kidsOk])
    go_enter Tryd.func28, Tryd.ntmps28
    go_wp2
    all_goals go_ret
    all_goals exact ⟨retb (by rw [HR.out]; first | rfl | (rw [Bool.eq_iff_iff]; simp; try omega)), Below.refl _ _⟩

  by_cases h26 : op = 26
  · subst h26
    have HR := hide (show kidsOk 26 n = decide (n = 3) by simp [kidsOk])
    go_enter Tryd.func28, Tryd.ntmps28
    go_wp2
    all_goals go_ret
    all_goals exact ⟨retb (by rw [HR.out]; first | rfl | (rw [Bool.eq_iff_iff]; simp; try omega)), Below.refl _ _⟩

  by_cases h28 : op = 28
  · subst h28
    have HR := hide (show kidsOk 28 n = decide (2 ≤ n) by simp [kidsOk])
    go_enter Tryd.func28, Tryd.ntmps28
    go_wp2
    all_goals go_ret
    all_goals exact ⟨retb (by rw [HR.out]; first | rfl | (rw [Bool.eq_iff_iff]; simp; try omega)), Below.refl _ _⟩

  have HR := hide (show kidsOk op n = decide (n = 2) by unfold kidsOk; rw [if_neg h5, if_neg (by omega), if_neg h26, if_neg h28])
  have b11 : (op == 11) = false := by simpa using h11
  have b13 : (op == 13) = false := by simpa using h13
  have b21 : (op == 21) = false := by simpa using h21
  have b24 : (op == 24) = false := by simpa using h24
  have b25 : (op == 25) = false := by simpa using h25
  have b26 : (op == 26) = false := by simpa using h26
  have b28 : (op == 28) = false := by simpa using h28
  go_enter Tryd.func28, Tryd.ntmps28
  go_wp2
  all_goals go_ret
  all_goals exact ⟨retb (by rw [HR.out]; first | rfl | (rw [Bool.eq_iff_iff]; simp; try omega)), Below.refl _ _⟩

def REv (r : VL) (y : Ex) : Prop := ∀ w : World, y.In w → r.In w → Calls Tryd.prog 11 #[.agg #[.int .i64 y.op, .int .i64 y.typ, .int .i64 y.num, .string y.text, .int .i64 y.col, .slice y.kh.ao y.kids.length y.kh.cap], .slice r.h.ao r.l.length r.h.cap] w
  fun e' w' => e' = .returned (.agg #[.int .i64 (y.va r.l).kind, .int .i64 (y.va r.l).num, .string (y.va r.l).text]) ∧ Below w.heap.size w w'
/-- Since y but the box g (a value's) was written, and memory made. -/
structure RS (g : Nat) (y x : World) : Prop where
  gr : y.grownBy x (some g)
  bx : ∃ v0 v1 v2, Box x g #[v0, v1, v2] 24
theorem RS.start {g : Nat} {y : World} {v0 v1 v2 : Value} (h : Box y g #[v0, v1, v2] 24) : RS g y y := ⟨World.grownBy.refl _ _, _, _, _, h⟩
theorem RS.drew {g : Nat} {y x : World} (h : RS g y x) : RS g y x.drew := ⟨⟨h.gr.os, h.gr.tape, h.gr.output, h.gr.size, h.gr.block⟩, by obtain ⟨v0, v1, v2, hb⟩ := h.bx; exact ⟨v0, v1, v2, hb⟩⟩
theorem RS.call {g : Nat} {y x z : World} (h : RS g y x) (hb : Below x.heap.size x z) : RS g y z := ⟨⟨hb.os.trans h.gr.os, hb.tape.trans h.gr.tape, hb.output.trans h.gr.output, Nat.le_trans h.gr.size hb.size, fun k hk hne => (hb.block k (Nat.lt_of_lt_of_le hk h.gr.size)).trans (h.gr.block k hk hne)⟩, by obtain ⟨v0, v1, v2, hq⟩ := h.bx; exact ⟨v0, v1, v2, hq.below hb⟩⟩
theorem RS.set {g : Nat} {y x : World} (h : RS g y x) (a b c : Value) : RS g y (((x.setCell ⟨g, 0, none⟩ a).setCell ⟨g, 1, none⟩ b).setCell ⟨g, 2, none⟩ c) := by
  obtain ⟨h1, v0, v1, v2, hq⟩ := h
  exact ⟨h1.trans (set3 _ _ _ _ _), a, b, c, boxs3 hq _ _ _⟩
theorem RS.fin {w y x : World} {g : Nat} (h : RS g y x) (hb : Below w.heap.size w y) (hg : w.heap.size ≤ g) (a b c : Value) : Below w.heap.size w (((x.setCell ⟨g, 0, none⟩ a).setCell ⟨g, 1, none⟩ b).setCell ⟨g, 2, none⟩ c) :=
  hb.grown (h.set a b c).gr hb.size (fun k hk => by injection hk with hk; omega)
theorem RS.at {g b o : Nat} {y x : World} {v : Value} (h : RS g y x) (hne : b ≠ g) (hc : y.cell? ⟨b, o, none⟩ = some v) : x.cell? ⟨b, o, none⟩ = some v := h.gr.cell hc (fun e => hne (Option.some.inj e))

set_option maxRecDepth 100000 in
set_option maxHeartbeats 4000000 in
theorem rev_col (r : VL) (i : Nat) (hi : i < r.l.length) : REv r (colE i) := by
  intro w _ hr
  have hixr := hr.1.ix hi Tryd.underlying28 szval
  obtain ⟨c0, c1, c2⟩ := val_at hr.1 hi
  have hbb := hr.1.blk (by omega)
  rw [col_va r.l hi]
  obtain ⟨a, ha⟩ : ∃ a, r.l[i] = a := ⟨_, rfl⟩
  rw [ha] at c0 c1 c2 ⊢
  generalize r.h.o + i * 3 = p at *
  have hile : (i : Int) < r.l.length := by omega
  have hi0 : ¬ (i : Int) < 0 := by omega
  have hlen := hr.1.len
  clear ha hr
  unfold colE
  go_enter Tryd.func11, Tryd.ntmps11
  go_wp2_with (go_at_call 28; refine (rkids_any 5 0 _).mono ?_; rintro e x1 ⟨rfl, hb⟩; rw [show kidsOk 5 0 = true from rfl]; have HS1 := hide (SE.start hb); clear hb; have k5 := HS1.out.be.cell (j := 5) rfl)
  go_loopw [6, 5] (fun t v wr => t = .int .i64 0 ∧ v = .slice none 0 0 ∧ Hid (SE w #[.int .i64 5, .int .i64 0, .int .i64 0, .string ⟨#[]⟩, .int .i64 (i : Nat), .slice none 0 0] wr)) (fun _ _ _ => 0)
  case atStart => exact ⟨rfl, rfl, HS1⟩
  case round =>
    clear k5
    obtain ⟨rfl, rfl, HS2⟩ := hrel
    have k0 := HS2.out.be.cell (j := 0) rfl
    have k4 := HS2.out.be.cell (j := 4) rfl
    have k5 := HS2.out.be.cell (j := 5) rfl
    have e0 := HS2.out.br.cell (j := 0) rfl
    have e1 := HS2.out.br.cell (j := 1) rfl
    have e2 := HS2.out.br.cell (j := 2) rfl
    have f0 := HS2.out.br.fr 0
    have f1 := HS2.out.br.fr 1
    have f2 := HS2.out.br.fr 2
    have d0 : wr.cell? ⟨r.h.b, p, none⟩ = some (.int .i64 a.kind) := by rw [HS2.out.bel.cell (p := ⟨r.h.b, p, none⟩) hbb]; exact c0
    have d1 : wr.cell? ⟨r.h.b, p + 1, none⟩ = some (.int .i64 a.num) := by rw [HS2.out.bel.cell (p := ⟨r.h.b, p + 1, none⟩) hbb]; exact c1
    have d2 : wr.cell? ⟨r.h.b, p + 2, none⟩ = some (.string a.text) := by rw [HS2.out.bel.cell (p := ⟨r.h.b, p + 2, none⟩) hbb]; exact c2
    clear c0 c1 c2
    go_wp2
    exact bodyPost_ret (v := .agg #[.int .i64 a.kind, .int .i64 a.num, .string a.text]) (by simp [results, Tryd.results11, go_sem, e0, e1, e2]) rfl ⟨rfl, HS2.out.fin _ _ _⟩
end Go.Proofs.YtlkhiihehaiinaaDoor

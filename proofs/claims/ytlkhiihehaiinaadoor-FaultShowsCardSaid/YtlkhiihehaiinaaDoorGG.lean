/- expression.find: what an operation is. -/
import Derived.Test.YtlkhiihehaiinaaDoorData
import Derived.Test.YtlkhiihehaiinaaDoorKit
import Derived.Test.YtlkhiihehaiinaaDoorGA
import Derived.Test.YtlkhiihehaiinaaDoorGF
import Derived.BigRegion
import Derived.Deep.QuietTactic
import Derived.BigQuiet
namespace Go.Proofs.YtlkhiihehaiinaaDoor
open Go.RowKit

/-- The table of the operations: word, Kids, their types, own type. -/
def ops : List (ByteArray × Int × Int × Int) := [(⟨#[]⟩, 0, 0, 0), (⟨#[110, 117, 108, 108]⟩, 0, 0, 0), (⟨#[105, 110, 116]⟩, 0, 0, 1), (⟨#[98, 111, 111, 108]⟩, 0, 0, 2), (⟨#[116, 101, 120, 116]⟩, 0, 0, 3), (⟨#[99, 111, 108, 117, 109, 110]⟩, 0, 0, 0), (⟨#[97, 100, 100]⟩, 2, 1, 1), (⟨#[115, 117, 98]⟩, 2, 1, 1), (⟨#[109, 117, 108]⟩, 2, 1, 1), (⟨#[100, 105, 118]⟩, 2, 1, 1), (⟨#[109, 111, 100]⟩, 2, 1, 1), (⟨#[110, 101, 103]⟩, 1, 1, 1), (⟨#[99, 111, 110, 99, 97, 116]⟩, 2, 2, 3), (⟨#[108, 101, 110, 103, 116, 104]⟩, 1, 2, 1), (⟨#[101, 113]⟩, 2, 4, 2), (⟨#[110, 101]⟩, 2, 4, 2), (⟨#[108, 116]⟩, 2, 4, 2), (⟨#[108, 101]⟩, 2, 4, 2), (⟨#[103, 116]⟩, 2, 4, 2), (⟨#[103, 101]⟩, 2, 4, 2), (⟨#[115, 97, 109, 101]⟩, 2, 4, 2), (⟨#[105, 115, 110, 117, 108, 108]⟩, 1, 5, 2), (⟨#[97, 110, 100]⟩, 2, 3, 2), (⟨#[111, 114]⟩, 2, 3, 2), (⟨#[110, 111, 116]⟩, 1, 3, 2), (⟨#[105, 115, 116, 114, 117, 101]⟩, 1, 3, 2), (⟨#[99, 97, 115, 101]⟩, 3, 6, 0), (⟨#[99, 111, 97, 108, 101, 115, 99, 101]⟩, 2, 4, 0), (⟨#[105, 110]⟩, 2, 4, 2)]
theorem ops_len : ops.length = 29 := rfl
def OpsAt (w : World) : Prop := ∀ (i : Nat) (h : i < ops.length), w.cell? ⟨3, i * 4, none⟩ = some (.string ops[i].1) ∧ w.cell? ⟨3, i * 4 + 1, none⟩ = some (.int .i64 ops[i].2.1) ∧ w.cell? ⟨3, i * 4 + 2, none⟩ = some (.int .i64 ops[i].2.2.1) ∧ w.cell? ⟨3, i * 4 + 3, none⟩ = some (.int .i64 ops[i].2.2.2)
theorem OpsAt.lt {w : World} (h : OpsAt w) : 3 < w.heap.size := World.block_lt_of_cell? w ⟨3, 0 * 4, none⟩ (h 0 (by decide)).1
theorem OpsAt.mono {w w' : World} (h : OpsAt w) (hb : Below w.heap.size w w') : OpsAt w' := fun i hi => by
  obtain ⟨h1, h2, h3, h4⟩ := h i hi
  exact ⟨by rw [hb.cell (p := ⟨3, _, none⟩) h.lt]; exact h1, by rw [hb.cell (p := ⟨3, _, none⟩) h.lt]; exact h2, by rw [hb.cell (p := ⟨3, _, none⟩) h.lt]; exact h3, by rw [hb.cell (p := ⟨3, _, none⟩) h.lt]; exact h4⟩

theorem ops_word (i : Nat) (hi : i < ops.length) (h0 : 0 < i) : (ops[i].1.toList == []) = false := by
  have hl := ops_len
  have hc : i = 1 ∨ i = 2 ∨ i = 3 ∨ i = 4 ∨ i = 5 ∨ i = 6 ∨ i = 7 ∨ i = 8 ∨ i = 9 ∨ i = 10 ∨ i = 11 ∨ i = 12 ∨ i = 13 ∨ i = 14 ∨ i = 15 ∨ i = 16 ∨ i = 17 ∨ i = 18 ∨ i = 19 ∨ i = 20 ∨ i = 21 ∨ i = 22 ∨ i = 23 ∨ i = 24 ∨ i = 25 ∨ i = 26 ∨ i = 27 ∨ i = 28 := by omega
  rcases hc with rfl | rfl | rfl | rfl | rfl | rfl | rfl | rfl | rfl | rfl | rfl | rfl | rfl | rfl | rfl | rfl | rfl | rfl | rfl | rfl | rfl | rfl | rfl | rfl | rfl | rfl | rfl | rfl <;> simp [ops]

set_option maxRecDepth 100000 in
set_option maxHeartbeats 800000 in
theorem find_op (i : Nat) (hi : i < ops.length) (h0 : 0 < i) (w : World) (hf : OpsAt w) :
    Calls Tryd.prog 81 #[.int .i64 (i : Nat)] w fun e w' => e = .returned (.tuple #[.agg #[.string ops[i].1, .int .i64 ops[i].2.1, .int .i64 ops[i].2.2.1, .int .i64 ops[i].2.2.2], .bool true]) ∧ Below w.heap.size w w' := by
  have hl := ops_len
  have hlt := hf.lt
  obtain ⟨c0, c1, c2, c3⟩ := hf i hi
  have hne := ops_word i hi h0
  have hi1 : ¬ (i : Int) < 0 := by omega
  have hi2 : ¬ (29 : Int) ≤ (i : Int) := by omega
  generalize ops[i] = f at *
  go_enter Tryd.func81, Tryd.ntmps81
  go_wp2
  exact bodyPost_ret (v := .tuple #[.agg #[.string f.1, .int .i64 f.2.1, .int .i64 f.2.2.1, .int .i64 f.2.2.2], .bool true]) (by simp [results, Tryd.results81, go_sem]) rfl ⟨rfl, belA _⟩

set_option maxRecDepth 100000 in
set_option maxHeartbeats 800000 in
theorem find_none (n : Int) (hn : n < 1 ∨ 28 < n) (w : World) (hf : OpsAt w) :
    Calls Tryd.prog 81 #[.int .i64 n] w fun e w' => e = .returned (.tuple #[.agg #[.string ⟨#[]⟩, .int .i64 0, .int .i64 0, .int .i64 0], .bool false]) ∧ Below w.heap.size w w' := by
  have hlt := hf.lt
  by_cases h0 : n < 0
  · go_enter Tryd.func81, Tryd.ntmps81
    go_wp2
    exact bodyPost_ret (v := .tuple #[.agg #[.string ⟨#[]⟩, .int .i64 0, .int .i64 0, .int .i64 0], .bool false]) (by simp [results, Tryd.results81, go_sem]) rfl ⟨rfl, belA _⟩
  · by_cases h29 : (29 : Int) ≤ n
    · go_enter Tryd.func81, Tryd.ntmps81
      go_wp2
      exact bodyPost_ret (v := .tuple #[.agg #[.string ⟨#[]⟩, .int .i64 0, .int .i64 0, .int .i64 0], .bool false]) (by simp [results, Tryd.results81, go_sem]) rfl ⟨rfl, belA _⟩
    · obtain rfl : n = 0 := by omega
      obtain ⟨c0, c1, c2, c3⟩ := hf 0 (by decide)
      have c0' : w.cell? ⟨3, 0, none⟩ = some (.string ⟨#[]⟩) := c0
      clear c0 c1 c2 c3
      go_enter Tryd.func81, Tryd.ntmps81
      go_wp2
      exact bodyPost_ret (v := .tuple #[.agg #[.string ⟨#[]⟩, .int .i64 0, .int .i64 0, .int .i64 0], .bool false]) (by simp [results, Tryd.results81, go_sem]) rfl ⟨rfl, belA _⟩
end Go.Proofs.YtlkhiihehaiinaaDoor

/- expression.known: what an expression's operation is, and whether it has the right number of Kids. -/
namespace Go.Proofs.YtlkhiihehaiinaaDoor
open Go.RowKit

def cntB (i k : Int) (n : Nat) : Bool := ((n : Int) == k) || ((i == 28) && decide (k < n))
set_option maxRecDepth 100000 in
set_option maxHeartbeats 4000000 in
theorem known_hit (nm : ByteArray) (kd ty ow : Int) (i : Nat) (hfind : ∀ w : World, OpsAt w → Calls Tryd.prog 81 #[.int .i64 (i : Nat)] w fun e w' => e = .returned (.tuple #[.agg #[.string nm, .int .i64 kd, .int .i64 ty, .int .i64 ow], .bool true]) ∧ Below w.heap.size w w')
    (typ num : Int) (text : ByteArray) (col : Int) (ko : Option Addr) (n : Nat) (kc : Nat) (w : World) (hf : OpsAt w) :
    Calls Tryd.prog 69 #[.agg #[.int .i64 (i : Nat), .int .i64 typ, .int .i64 num, .string text, .int .i64 col, .slice ko n kc]] w
      fun e w' => e = .returned (.tuple #[.agg #[.string nm, .int .i64 kd, .int .i64 ty, .int .i64 ow], .bool true, .bool (cntB i kd n)]) ∧ Below w.heap.size w w' := by
  have HF := hide (hf.mono (belAA (.cells #[.int .i64 (i : Nat), .int .i64 typ, .int .i64 num, .string text, .int .i64 col, .slice ko n kc] 31) (.cells #[.string ⟨#[]⟩, .int .i64 0, .int .i64 0, .int .i64 0] 95)))
  have HFD := hide hfind
  clear hf hfind
  obtain ⟨b1, h1⟩ : ∃ b, ((n : Int) == kd) = b := ⟨_, rfl⟩
  obtain ⟨b2, h2⟩ : ∃ b, ((i : Int) == 28) = b := ⟨_, rfl⟩
  have HR := hide (show cntB i kd n = (b1 || (b2 && decide (kd < n))) by unfold cntB; rw [h1, h2])
  cases b1
  · cases b2
    · have HR := hide (HR.out.trans (show _ = false from rfl))
      go_enter Tryd.func69, Tryd.ntmps69
      go_wp2_with (go_at_call 81; refine (HFD.out _ HF.out).mono ?_; rintro e w1 ⟨rfl, hb1⟩; have HB := hide hb1; have k0 := (box1 hb1).cell (j := 0) rfl; have f0 := (box2 hb1).fr 0; have f1 := (box2 hb1).fr 1; have f2 := (box2 hb1).fr 2; have f3 := (box2 hb1).fr 3; have e0 := (box2 hb1).cell (j := 0) rfl; have e1 := (box2 hb1).cell (j := 1) rfl; have e2 := (box2 hb1).cell (j := 2) rfl; have e3 := (box2 hb1).cell (j := 3) rfl; clear hb1)
      have hB2 := boxs4 (box2 HB.out) (.string nm) (.int .i64 kd) (.int .i64 ty) (.int .i64 ow)
      have hB1 := (box1 HB.out).grown (set4 w1 (w.heap.size + 1) (.string nm) (.int .i64 kd) (.int .i64 ty) (.int .i64 ow)) (by simp)
      have hbl := (bel2 HB.out).grown (set4 w1 (w.heap.size + 1) (.string nm) (.int .i64 kd) (.int .i64 ty) (.int .i64 ow)) (bel2 HB.out).size (fun k hk => by injection hk with hk; omega)
      clear k0 f0 f1 f2 f3 e0 e1 e2 e3 HB
      generalize (((w1.setCell ⟨w.heap.size + 1, 0, none⟩ (.string nm)).setCell ⟨w.heap.size + 1, 1, none⟩ (.int .i64 kd)).setCell ⟨w.heap.size + 1, 2, none⟩ (.int .i64 ty)).setCell ⟨w.heap.size + 1, 3, none⟩ (.int .i64 ow) = W at *
      have k0 := hB1.cell (j := 0) rfl
      have k5 := hB1.cell (j := 5) rfl
      have f0 := hB2.fr 0
      have f1 := hB2.fr 1
      have f2 := hB2.fr 2
      have f3 := hB2.fr 3
      have e0 := hB2.cell (j := 0) rfl
      have e1 := hB2.cell (j := 1) rfl
      have e2 := hB2.cell (j := 2) rfl
      have e3 := hB2.cell (j := 3) rfl
      have HBL := hide hbl
      clear hB1 hB2 hbl
      go_region
      go_wp2
      exact bodyPost_ret (v := .tuple #[.agg #[.string nm, .int .i64 kd, .int .i64 ty, .int .i64 ow], .bool true, .bool false]) (by simp [results, Tryd.results69, go_sem, e0, e1, e2, e3]; try omega) rfl ⟨by rw [HR.out], (HBL.out.grown (set4 _ _ _ _ _ _) HBL.out.size (fun k hk => by injection hk with hk; omega)).drew⟩
    · by_cases h3 : kd < (n : Int)
      · have HR := hide (HR.out.trans (show _ = true by simp [h3]))
        go_enter Tryd.func69, Tryd.ntmps69
        go_wp2_with (go_at_call 81; refine (HFD.out _ HF.out).mono ?_; rintro e w1 ⟨rfl, hb1⟩; have HB := hide hb1; have k0 := (box1 hb1).cell (j := 0) rfl; have f0 := (box2 hb1).fr 0; have f1 := (box2 hb1).fr 1; have f2 := (box2 hb1).fr 2; have f3 := (box2 hb1).fr 3; have e0 := (box2 hb1).cell (j := 0) rfl; have e1 := (box2 hb1).cell (j := 1) rfl; have e2 := (box2 hb1).cell (j := 2) rfl; have e3 := (box2 hb1).cell (j := 3) rfl; clear hb1)
        have hB2 := boxs4 (box2 HB.out) (.string nm) (.int .i64 kd) (.int .i64 ty) (.int .i64 ow)
        have hB1 := (box1 HB.out).grown (set4 w1 (w.heap.size + 1) (.string nm) (.int .i64 kd) (.int .i64 ty) (.int .i64 ow)) (by simp)
        have hbl := (bel2 HB.out).grown (set4 w1 (w.heap.size + 1) (.string nm) (.int .i64 kd) (.int .i64 ty) (.int .i64 ow)) (bel2 HB.out).size (fun k hk => by injection hk with hk; omega)
        clear k0 f0 f1 f2 f3 e0 e1 e2 e3 HB
        generalize (((w1.setCell ⟨w.heap.size + 1, 0, none⟩ (.string nm)).setCell ⟨w.heap.size + 1, 1, none⟩ (.int .i64 kd)).setCell ⟨w.heap.size + 1, 2, none⟩ (.int .i64 ty)).setCell ⟨w.heap.size + 1, 3, none⟩ (.int .i64 ow) = W at *
        have k0 := hB1.cell (j := 0) rfl
        have k5 := hB1.cell (j := 5) rfl
        have f0 := hB2.fr 0
        have f1 := hB2.fr 1
        have f2 := hB2.fr 2
        have f3 := hB2.fr 3
        have e0 := hB2.cell (j := 0) rfl
        have e1 := hB2.cell (j := 1) rfl
        have e2 := hB2.cell (j := 2) rfl
        have e3 := hB2.cell (j := 3) rfl
        have HBL := hide hbl
        clear hB1 hB2 hbl
        go_region
        go_wp2
        exact bodyPost_ret (v := .tuple #[.agg #[.string nm, .int .i64 kd, .int .i64 ty, .int .i64 ow], .bool true, .bool true]) (by simp [results, Tryd.results69, go_sem, e0, e1, e2, e3]; try omega) rfl ⟨by rw [HR.out], (HBL.out.grown (set4 _ _ _ _ _ _) HBL.out.size (fun k hk => by injection hk with hk; omega)).drew⟩
      · have HR := hide (HR.out.trans (show _ = false by simp [h3]))
        go_enter Tryd.func69, Tryd.ntmps69
        go_wp2_with (go_at_call 81; refine (HFD.out _ HF.out).mono ?_; rintro e w1 ⟨rfl, hb1⟩; have HB := hide hb1; have k0 := (box1 hb1).cell (j := 0) rfl; have f0 := (box2 hb1).fr 0; have f1 := (box2 hb1).fr 1; have f2 := (box2 hb1).fr 2; have f3 := (box2 hb1).fr 3; have e0 := (box2 hb1).cell (j := 0) rfl; have e1 := (box2 hb1).cell (j := 1) rfl; have e2 := (box2 hb1).cell (j := 2) rfl; have e3 := (box2 hb1).cell (j := 3) rfl; clear hb1)
        have hB2 := boxs4 (box2 HB.out) (.string nm) (.int .i64 kd) (.int .i64 ty) (.int .i64 ow)
        have hB1 := (box1 HB.out).grown (set4 w1 (w.heap.size + 1) (.string nm) (.int .i64 kd) (.int .i64 ty) (.int .i64 ow)) (by simp)
        have hbl := (bel2 HB.out).grown (set4 w1 (w.heap.size + 1) (.string nm) (.int .i64 kd) (.int .i64 ty) (.int .i64 ow)) (bel2 HB.out).size (fun k hk => by injection hk with hk; omega)
        clear k0 f0 f1 f2 f3 e0 e1 e2 e3 HB
        generalize (((w1.setCell ⟨w.heap.size + 1, 0, none⟩ (.string nm)).setCell ⟨w.heap.size + 1, 1, none⟩ (.int .i64 kd)).setCell ⟨w.heap.size + 1, 2, none⟩ (.int .i64 ty)).setCell ⟨w.heap.size + 1, 3, none⟩ (.int .i64 ow) = W at *
        have k0 := hB1.cell (j := 0) rfl
        have k5 := hB1.cell (j := 5) rfl
        have f0 := hB2.fr 0
        have f1 := hB2.fr 1
        have f2 := hB2.fr 2
        have f3 := hB2.fr 3
        have e0 := hB2.cell (j := 0) rfl
        have e1 := hB2.cell (j := 1) rfl
        have e2 := hB2.cell (j := 2) rfl
        have e3 := hB2.cell (j := 3) rfl
        have HBL := hide hbl
        clear hB1 hB2 hbl
        go_region
        go_wp2
        exact bodyPost_ret (v := .tuple #[.agg #[.string nm, .int .i64 kd, .int .i64 ty, .int .i64 ow], .bool true, .bool false]) (by simp [results, Tryd.results69, go_sem, e0, e1, e2, e3]; try omega) rfl ⟨by rw [HR.out], (HBL.out.grown (set4 _ _ _ _ _ _) HBL.out.size (fun k hk => by injection hk with hk; omega)).drew⟩
  · have HR := hide (HR.out.trans (show _ = true from rfl))
    go_enter Tryd.func69, Tryd.ntmps69
    go_wp2_with (go_at_call 81; refine (HFD.out _ HF.out).mono ?_; rintro e w1 ⟨rfl, hb1⟩; have HB := hide hb1; have k0 := (box1 hb1).cell (j := 0) rfl; have f0 := (box2 hb1).fr 0; have f1 := (box2 hb1).fr 1; have f2 := (box2 hb1).fr 2; have f3 := (box2 hb1).fr 3; have e0 := (box2 hb1).cell (j := 0) rfl; have e1 := (box2 hb1).cell (j := 1) rfl; have e2 := (box2 hb1).cell (j := 2) rfl; have e3 := (box2 hb1).cell (j := 3) rfl; clear hb1)
    have hB2 := boxs4 (box2 HB.out) (.string nm) (.int .i64 kd) (.int .i64 ty) (.int .i64 ow)
    have hB1 := (box1 HB.out).grown (set4 w1 (w.heap.size + 1) (.string nm) (.int .i64 kd) (.int .i64 ty) (.int .i64 ow)) (by simp)
    have hbl := (bel2 HB.out).grown (set4 w1 (w.heap.size + 1) (.string nm) (.int .i64 kd) (.int .i64 ty) (.int .i64 ow)) (bel2 HB.out).size (fun k hk => by injection hk with hk; omega)
    clear k0 f0 f1 f2 f3 e0 e1 e2 e3 HB
    generalize (((w1.setCell ⟨w.heap.size + 1, 0, none⟩ (.string nm)).setCell ⟨w.heap.size + 1, 1, none⟩ (.int .i64 kd)).setCell ⟨w.heap.size + 1, 2, none⟩ (.int .i64 ty)).setCell ⟨w.heap.size + 1, 3, none⟩ (.int .i64 ow) = W at *
    have k0 := hB1.cell (j := 0) rfl
    have k5 := hB1.cell (j := 5) rfl
    have f0 := hB2.fr 0
    have f1 := hB2.fr 1
    have f2 := hB2.fr 2
    have f3 := hB2.fr 3
    have e0 := hB2.cell (j := 0) rfl
    have e1 := hB2.cell (j := 1) rfl
    have e2 := hB2.cell (j := 2) rfl
    have e3 := hB2.cell (j := 3) rfl
    have HBL := hide hbl
    clear hB1 hB2 hbl
    go_region
    go_wp2
    exact bodyPost_ret (v := .tuple #[.agg #[.string nm, .int .i64 kd, .int .i64 ty, .int .i64 ow], .bool true, .bool true]) (by simp [results, Tryd.results69, go_sem, e0, e1, e2, e3]; try omega) rfl ⟨by rw [HR.out], (HBL.out.grown (set4 _ _ _ _ _ _) HBL.out.size (fun k hk => by injection hk with hk; omega)).drew⟩

set_option maxRecDepth 100000 in
set_option maxHeartbeats 4000000 in
theorem known_miss (op typ num : Int) (text : ByteArray) (col : Int) (ko : Option Addr) (n : Nat) (kc : Nat) (hop : op < 1 ∨ 28 < op) (w : World) (hf : OpsAt w) :
    Calls Tryd.prog 69 #[.agg #[.int .i64 op, .int .i64 typ, .int .i64 num, .string text, .int .i64 col, .slice ko n kc]] w
      fun e w' => e = .returned (.tuple #[.agg #[.string ⟨#[]⟩, .int .i64 0, .int .i64 0, .int .i64 0], .bool false, .bool false]) ∧ Below w.heap.size w w' := by
  have HF := hide (hf.mono (belAA (.cells #[.int .i64 op, .int .i64 typ, .int .i64 num, .string text, .int .i64 col, .slice ko n kc] 31) (.cells #[.string ⟨#[]⟩, .int .i64 0, .int .i64 0, .int .i64 0] 95)))
  clear hf
  go_enter Tryd.func69, Tryd.ntmps69
  go_wp2_with (go_at_call 81; refine (find_none op hop _ HF.out).mono ?_; rintro e w1 ⟨rfl, hb1⟩; have HB := hide hb1; have k0 := (box1 hb1).cell (j := 0) rfl; have f0 := (box2 hb1).fr 0; have f1 := (box2 hb1).fr 1; have f2 := (box2 hb1).fr 2; have f3 := (box2 hb1).fr 3; have e0 := (box2 hb1).cell (j := 0) rfl; have e1 := (box2 hb1).cell (j := 1) rfl; have e2 := (box2 hb1).cell (j := 2) rfl; have e3 := (box2 hb1).cell (j := 3) rfl; clear hb1)
  have hB2 := boxs4 (box2 HB.out) (.string ⟨#[]⟩) (.int .i64 0) (.int .i64 0) (.int .i64 0)
  have hB1 := (box1 HB.out).grown (set4 w1 (w.heap.size + 1) (.string ⟨#[]⟩) (.int .i64 0) (.int .i64 0) (.int .i64 0)) (by simp)
  have hbl := (bel2 HB.out).grown (set4 w1 (w.heap.size + 1) (.string ⟨#[]⟩) (.int .i64 0) (.int .i64 0) (.int .i64 0)) (bel2 HB.out).size (fun k hk => by injection hk with hk; omega)
  clear k0 f0 f1 f2 f3 e0 e1 e2 e3 HB
  generalize (((w1.setCell ⟨w.heap.size + 1, 0, none⟩ (.string ⟨#[]⟩)).setCell ⟨w.heap.size + 1, 1, none⟩ (.int .i64 0)).setCell ⟨w.heap.size + 1, 2, none⟩ (.int .i64 0)).setCell ⟨w.heap.size + 1, 3, none⟩ (.int .i64 0) = W at *
  have k0 := hB1.cell (j := 0) rfl
  have k5 := hB1.cell (j := 5) rfl
  have f0 := hB2.fr 0
  have f1 := hB2.fr 1
  have f2 := hB2.fr 2
  have f3 := hB2.fr 3
  have e0 := hB2.cell (j := 0) rfl
  have e1 := hB2.cell (j := 1) rfl
  have e2 := hB2.cell (j := 2) rfl
  have e3 := hB2.cell (j := 3) rfl
  have HBL := hide hbl
  clear hB1 hB2 hbl
  go_region
  go_wp2
  exact bodyPost_ret (v := .tuple #[.agg #[.string ⟨#[]⟩, .int .i64 0, .int .i64 0, .int .i64 0], .bool false, .bool false]) (by simp [results, Tryd.results69, go_sem, e0, e1, e2, e3]; try omega) rfl ⟨rfl, (HBL.out.grown (set4 _ _ _ _ _ _) HBL.out.size (fun k hk => by injection hk with hk; omega)).drew⟩
end Go.Proofs.YtlkhiihehaiinaaDoor

/- What an expression is for a row, plainly; expression.known at any expression. -/
namespace Go.Proofs.YtlkhiihehaiinaaDoor
open Go.RowKit

def kidsOk (op : Int) (n : Nat) : Bool :=
  if op ≤ 5 then decide (n = 0) else if op = 11 ∨ op = 13 ∨ op = 21 ∨ op = 24 ∨ op = 25 then decide (n = 1) else if op = 26 then decide (n = 3) else if op = 28 then decide (2 ≤ n) else decide (n = 2)
def knownB (op : Int) (n : Nat) : Bool := decide (1 ≤ op ∧ op ≤ 28) && kidsOk op n
/-- An expression whose Kids are these values. -/
noncomputable def topV (op num : Int) (text : ByteArray) (col : Int) (row L : List V) : V :=
  if knownB op L.length = false then nulV
  else if op = 2 then ⟨1, num, ⟨#[]⟩⟩ else if op = 3 then ⟨2, num, ⟨#[]⟩⟩ else if op = 4 then ⟨3, 0, text⟩
  else if op = 5 then (if 0 ≤ col ∧ col < row.length then row.getD col.toNat nulV else nulV)
  else if op = 26 then (if truV (L.getD 0 nulV) = 1 then L.getD 1 nulV else L.getD 2 nulV)
  else applyV op L
mutual
noncomputable def Ex.va (row : List V) : Ex → V
  | ⟨op, _, num, text, col, _, kids⟩ => topV op num text col row (Ex.vaL row kids)
noncomputable def Ex.vaL (row : List V) : List Ex → List V
  | [] => []
  | k :: r => Ex.va row k :: Ex.vaL row r
end
theorem Ex.vaL_eq (row : List V) : ∀ l : List Ex, Ex.vaL row l = l.map (Ex.va row)
  | [] => by simp [Ex.vaL]
  | k :: r => by simp [Ex.vaL, Ex.vaL_eq row r]
theorem Ex.va_eq (row : List V) (e : Ex) : e.va row = topV e.op e.num e.text e.col row (e.kids.map (Ex.va row)) := by
  obtain ⟨op, typ, num, text, col, kh, kids⟩ := e
  rw [Ex.va, Ex.vaL_eq]
theorem getD_wf {l : List V} (h : ∀ v ∈ l, v.wf) (k : Nat) : (l.getD k nulV).wf := by
  rw [List.getD_eq_getElem?_getD]
  cases hk : l[k]? with
  | none => exact nul_wf
  | some x => exact h x (List.mem_of_getElem? hk)
theorem in_wf (a : V) (l : List V) : (inV a l).wf := by
  unfold inV
  have : ∀ (l : List V) (o : V), o.wf → (l.foldl (fun o x => orV o (eqV a x)) o).wf := by
    intro l
    induction l with
    | nil => intro o h; exact h
    | cons x l ih => intro o _; exact ih _ (or_wf _ _)
  exact this l _ (bV_wf _)
theorem ite_wf {c : Prop} [Decidable c] {a b : V} (ha : a.wf) (hb : b.wf) : (if c then a else b).wf := by by_cases h : c; rw [if_pos h]; exact ha; rw [if_neg h]; exact hb
theorem apply_wf (op : Int) {l : List V} (h : ∀ v ∈ l, v.wf) : (applyV op l).wf := by
  have h0 := getD_wf h 0
  have h1 := getD_wf h 1
  exact ite_wf (arith_wf _) (ite_wf (arith_wf _) (ite_wf (ite_wf (numV_wf ⟨by omega, by have := h0.2.2; unfold maxLen at this; omega⟩) nul_wf) (ite_wf (eq_wf _ _) (ite_wf (not_wf _) (ite_wf (less_wf _ _) (ite_wf (not_wf _) (ite_wf (less_wf _ _) (ite_wf (not_wf _) (ite_wf (bV_wf _) (ite_wf (bV_wf _) (ite_wf (and_wf _ _) (ite_wf (or_wf _ _) (ite_wf (not_wf _) (ite_wf (bV_wf _) (ite_wf (ite_wf h1 h0) (ite_wf (in_wf _ _) (nul_wf)))))))))))))))))
theorem top_wf {op num : Int} {text : ByteArray} {col : Int} {row L : List V} (hn : int64 num) (ht : text.size ≤ maxLen) (hr : ∀ v ∈ row, v.wf) (hL : ∀ v ∈ L, v.wf) : (topV op num text col row L).wf := by
  unfold topV
  split
  · exact nul_wf
  split
  · exact ⟨i64_lit rfl, hn, Nat.zero_le _⟩
  split
  · exact ⟨i64_lit rfl, hn, Nat.zero_le _⟩
  split
  · exact ⟨i64_lit rfl, i64_lit rfl, ht⟩
  split
  · split
    · exact getD_wf hr _
    · exact nul_wf
  split
  · split <;> exact getD_wf hL _
  · exact apply_wf _ hL
theorem Ex.va_wf {w : World} {row : List V} (hr : ∀ v ∈ row, v.wf) {e : Ex} (h : e.In w) : (e.va row).wf := by
  induction h with
  | mk e hw hrow hk ih =>
    rw [Ex.va_eq]
    refine top_wf hw.2.2.1 hw.2.2.2.1 hr ?_
    intro v hv
    obtain ⟨k, hk2, rfl⟩ := List.mem_map.1 hv
    exact ih k hk2
theorem cnt_kids (i : Nat) (h0 : 0 < i) (hi : i < ops.length) (n : Nat) : cntB (i : Nat) ops[i].2.1 n = kidsOk (i : Nat) n := by
  have hl := ops_len
  have hc : i = 1 ∨ i = 2 ∨ i = 3 ∨ i = 4 ∨ i = 5 ∨ i = 6 ∨ i = 7 ∨ i = 8 ∨ i = 9 ∨ i = 10 ∨ i = 11 ∨ i = 12 ∨ i = 13 ∨ i = 14 ∨ i = 15 ∨ i = 16 ∨ i = 17 ∨ i = 18 ∨ i = 19 ∨ i = 20 ∨ i = 21 ∨ i = 22 ∨ i = 23 ∨ i = 24 ∨ i = 25 ∨ i = 26 ∨ i = 27 ∨ i = 28 := by omega
  rcases hc with rfl | rfl | rfl | rfl | rfl | rfl | rfl | rfl | rfl | rfl | rfl | rfl | rfl | rfl | rfl | rfl | rfl | rfl | rfl | rfl | rfl | rfl | rfl | rfl | rfl | rfl | rfl | rfl <;> rw [Bool.eq_iff_iff] <;> simp [ops, cntB, kidsOk] <;> first | omega | exact ⟨fun h => by rcases h with h | h; omega; have := of_decide_eq_true h; omega, fun h => by by_cases h2 : n = 2; exact .inl (by omega); exact .inr (decide_eq_true (by omega))⟩
theorem known_any (op typ num : Int) (text : ByteArray) (col : Int) (ko : Option Addr) (n kc : Nat) (w : World) (hf : OpsAt w) :
    Calls Tryd.prog 69 #[.agg #[.int .i64 op, .int .i64 typ, .int .i64 num, .string text, .int .i64 col, .slice ko n kc]] w
      fun e w' => (∃ nm kd ty ow is, e = .returned (.tuple #[.agg #[.string nm, .int .i64 kd, .int .i64 ty, .int .i64 ow], .bool is, .bool (knownB op n)])) ∧ Below w.heap.size w w' := by
  by_cases h : 1 ≤ op ∧ op ≤ 28
  · obtain ⟨i, rfl⟩ : ∃ i : Nat, op = i := ⟨op.toNat, by omega⟩
    have h0 : 0 < i := by omega
    have hi : i < ops.length := by rw [ops_len]; omega
    have hk : knownB (i : Int) n = kidsOk (i : Int) n := by unfold knownB; rw [decide_eq_true h, Bool.true_and]
    refine (known_hit ops[i].1 ops[i].2.1 ops[i].2.2.1 ops[i].2.2.2 i (fun w hw => find_op i hi h0 w hw) typ num text col ko n kc w hf).mono ?_
    rintro e w' ⟨rfl, hb⟩
    exact ⟨⟨_, _, _, _, _, by rw [hk, cnt_kids i h0 hi]⟩, hb⟩
  · have hk : knownB op n = false := by unfold knownB; rw [decide_eq_false h, Bool.false_and]
    refine (known_miss op typ num text col ko n kc (by omega) w hf).mono ?_
    rintro e w' ⟨rfl, hb⟩
    exact ⟨⟨_, _, _, _, _, by rw [hk]⟩, hb⟩
end Go.Proofs.YtlkhiihehaiinaaDoor

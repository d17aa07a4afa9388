/- expression.known: what an expression's operation is, and whether it has the right number of Kids. -/
import Derived.Test.YtlkhiihehaiinaaDoorFOps
import Derived.Test.YtlkhiihehaiinaaDoorFBox
import Derived.BigRegion
import Derived.Deep.QuietTactic
import Derived.BigQuiet
namespace Go.Proofs.YtlkhiihehaiinaaDoor
open Go.RowKit

def cntB (i k : Int) (n : Nat) : Bool := ((n : Int) == k) || ((i == 28) && decide (k < n))
set_option maxRecDepth 100000 in
set_option maxHeartbeats 4000000 in
theorem known_hit (nm : ByteArray) (kd ty ow : Int) (i : Nat) (hfind : ∀ w : World, OpsAt w → Calls Tryd.prog 81 #[.int .i64 (i : Nat)] w fun e w' => e = .returned (.tuple #[.agg #[.string nm, .int .i64 kd, .int .i64 ty, .int .i64 ow], .bool true]) ∧ Below w.heap.size w w')
    (typ num : Int) (text : ByteArray) (col : Int) (ko : Option Addr) (n : Nat) (kc : Nat) (w : World) (hf : OpsAt w) :
    Calls Tryd.prog 69 #[.agg #[.int .i64 (i : Nat), .int .i64 typ, .int .i64 num, .string text, .int .i64 col, .slice ko n kc]] w
      fun e w' => e = .returned (.tuple #[.agg #[.string nm, .int .i64 kd, .int .i64 ty, .int .i64 ow], .bool true, .bool (cntB i kd n)]) ∧ Below w.heap.size w w' := by
  have HF := hide (hf.mono (belAA (.cells #[.int .i64 (i : Nat), .int .i64 typ, .int .i64 num, .string text, .int .i64 col, .slice ko n kc] 31) (.cells #[.string ⟨#[]⟩, .int .i64 0, .int .i64 0, .int .i64 0] 95)))
  have HFD := hide hfind
  clear hf hfind
  obtain ⟨b1, h1⟩ : ∃ b, ((n : Int) == kd) = b := ⟨_, rfl⟩
  obtain ⟨b2, h2⟩ : ∃ b, ((i : Int) == 28) = b := ⟨_, rfl⟩
  have HR := hide (show cntB i kd n = (b1 || (b2 && decide (kd < n))) by unfold cntB; rw [h1, h2])
  cases b1
  · cases b2
    · have HR := hide (HR.out.trans (show _ = false from rfl))
      go_enter Tryd.func69, Tryd.ntmps69
      go_wp2_with (go_at_call 81; refine (HFD.out _ HF.out).mono ?_; rintro e w1 ⟨rfl, hb1⟩; have HB := hide hb1; have k0 := (box1 hb1).cell (j := 0) rfl; have f0 := (box2 hb1).fr 0; have f1 := (box2 hb1).fr 1; have f2 := (box2 hb1).fr 2; have f3 := (box2 hb1).fr 3; have e0 := (box2 hb1).cell (j := 0) rfl; have e1 := (box2 hb1).cell (j := 1) rfl; have e2 := (box2 hb1).cell (j := 2) rfl; have e3 := (box2 hb1).cell (j := 3) rfl; clear hb1)
      have hB2 := boxs4 (box2 HB.out) (.string nm) (.int .i64 kd) (.int .i64 ty) (.int .i64 ow)
      have hB1 := (box1 HB.out).grown (set4 w1 (w.heap.size + 1) (.string nm) (.int .i64 kd) (.int .i64 ty) (.int .i64 ow)) (by simp)
      have hbl := (bel2 HB.out).grown (set4 w1 (w.heap.size + 1) (.string nm) (.int .i64 kd) (.int .i64 ty) (.int .i64 ow)) (bel2 HB.out).size (fun k hk => by injection hk with hk; omega)
      clear k0 f0 f1 f2 f3 e0 e1 e2 e3 HB
      generalize (((w1.setCell ⟨w.heap.size + 1, 0, none⟩ (.string nm)).setCell ⟨w.heap.size + 1, 1, none⟩ (.int .i64 kd)).setCell ⟨w.heap.size + 1, 2, none⟩ (.int .i64 ty)).setCell ⟨w.heap.size + 1, 3, none⟩ (.int .i64 ow) = W at *
      have k0 := hB1.cell (j := 0) rfl
      have k5 := hB1.cell (j := 5) rfl
      have f0 := hB2.fr 0
      have f1 := hB2.fr 1
      have f2 := hB2.fr 2
      have f3 := hB2.fr 3
      have e0 := hB2.cell (j := 0) rfl
      have e1 := hB2.cell (j := 1) rfl
      have e2 := hB2.cell (j := 2) rfl
      have e3 := hB2.cell (j := 3) rfl
      have HBL := hide hbl
      clear hB1 hB2 hbl
      go_region
      go_wp2
      exact bodyPost_ret (v := .tuple #[.agg #[.string nm, .int .i64 kd, .int .i64 ty, .int .i64 ow], .bool true, .bool false]) (by simp [results, Tryd.results69, go_sem, e0, e1, e2, e3]; try omega) rfl ⟨by rw [HR.out], (HBL.out.grown (set4 _ _ _ _ _ _) HBL.out.size (fun k hk => by injection hk with hk; omega)).drew⟩
    · by_cases h3 : kd < (n : Int)
      · have HR := hide (HR.out.trans (show _ = true by simp [h3]))
        go_enter Tryd.func69, Tryd.ntmps69
        go_wp2_with (go_at_call 81; refine (HFD.out _ HF.out).mono ?_; rintro e w1 ⟨rfl, hb1⟩; have HB := hide hb1; have k0 := (box1 hb1).cell (j := 0) rfl; have f0 := (box2 hb1).fr 0; have f1 := (box2 hb1).fr 1; have f2 := (box2 hb1).fr 2; have f3 := (box2 hb1).fr 3; have e0 := (box2 hb1).cell (j := 0) rfl; have e1 := (box2 hb1).cell (j := 1) rfl; have e2 := (box2 hb1).cell (j := 2) rfl; have e3 := (box2 hb1).cell (j := 3) rfl; clear hb1)
        have hB2 := boxs4 (box2 HB.out) (.string nm) (.int .i64 kd) (.int .i64 ty) (.int .i64 ow)
        have hB1 := (box1 HB.out).grown (set4 w1 (w.heap.size + 1) (.string nm) (.int .i64 kd) (.int .i64 ty) (.int .i64 ow)) (by simp)
        have hbl := (bel2 HB.out).grown (set4 w1 (w.heap.size + 1) (.string nm) (.int .i64 kd) (.int .i64 ty) (.int .i64 ow)) (bel2 HB.out).size (fun k hk => by injection hk with hk; omega)
        clear k0 f0 f1 f2 f3 e0 e1 e2 e3 HB
        generalize (((w1.setCell ⟨w.heap.size + 1, 0, none⟩ (.string nm)).setCell ⟨w.heap.size + 1, 1, none⟩ (.int .i64 kd)).setCell ⟨w.heap.size + 1, 2, none⟩ (.int .i64 ty)).setCell ⟨w.heap.size + 1, 3, none⟩ (.int .i64 ow) = W at *
        have k0 := hB1.cell (j := 0) rfl
        have k5 := hB1.cell (j := 5) rfl
        have f0 := hB2.fr 0
        have f1 := hB2.fr 1
        have f2 := hB2.fr 2
        have f3 := hB2.fr 3
        have e0 := hB2.cell (j := 0) rfl
        have e1 := hB2.cell (j := 1) rfl
        have e2 := hB2.cell (j := 2) rfl
        have e3 := hB2.cell (j := 3) rfl
        have HBL := hide hbl
        clear hB1 hB2 hbl
        go_region
        go_wp2
        exact bodyPost_ret (v := .tuple #[.agg #[.string nm, .int .i64 kd, .int .i64 ty, .int .i64 ow], .bool true, .bool true]) (by simp [results, Tryd.results69, go_sem, e0, e1, e2, e3]; try omega) rfl ⟨by rw [HR.out], (HBL.out.grown (set4 _ _ _ _ _ _) HBL.out.size (fun k hk => by injection hk with hk; omega)).drew⟩
      · have HR := hide (HR.out.trans (show _ = false by simp [h3]))
        go_enter Tryd.func69, Tryd.ntmps69
        go_wp2_with (go_at_call 81; refine (HFD.out _ HF.out).mono ?_; rintro e w1 ⟨rfl, hb1⟩; have HB := hide hb1; have k0 := (box1 hb1).cell (j := 0) rfl; have f0 := (box2 hb1).fr 0; have f1 := (box2 hb1).fr 1; have f2 := (box2 hb1).fr 2; have f3 := (box2 hb1).fr 3; have e0 := (box2 hb1).cell (j := 0) rfl; have e1 := (box2 hb1).cell (j := 1) rfl; have e2 := (box2 hb1).cell (j := 2) rfl; have e3 := (box2 hb1).cell (j := 3) rfl; clear hb1)
        have hB2 := boxs4 (box2 HB.out) (.string nm) (.int .i64 kd) (.int .i64 ty) (.int .i64 ow)
        have hB1 := (box1 HB.out).grown (set4 w1 (w.heap.size + 1) (.string nm) (.int .i64 kd) (.int .i64 ty) (.int .i64 ow)) (by simp)
        have hbl := (bel2 HB.out).grown (set4 w1 (w.heap.size + 1) (.string nm) (.int .i64 kd) (.int .i64 ty) (.int .i64 ow)) (bel2 HB.out).size (fun k hk => by injection hk with hk; omega)
        clear k0 f0 f1 f2 f3 e0 e1 e2 e3 HB
        generalize (((w1.setCell ⟨w.heap.size + 1, 0, none⟩ (.string nm)).setCell ⟨w.heap.size + 1, 1, none⟩ (.int .i64 kd)).setCell ⟨w.heap.size + 1, 2, none⟩ (.int .i64 ty)).setCell ⟨w.heap.size + 1, 3, none⟩ (.int .i64 ow) = W at *
        have k0 := hB1.cell (j := 0) rfl
        have k5 := hB1.cell (j := 5) rfl
        have f0 := hB2.fr 0
        have f1 := hB2.fr 1
        have f2 := hB2.fr 2
        have f3 := hB2.fr 3
        have e0 := hB2.cell (j := 0) rfl
        have e1 := hB2.cell (j := 1) rfl
        have e2 := hB2.cell (j := 2) rfl
        have e3 := hB2.cell (j := 3) rfl
        have HBL := hide hbl
        clear hB1 hB2 hbl
        go_region
        go_wp2
        exact bodyPost_ret (v := .tuple #[.agg #[.string nm, .int .i64 kd, .int .i64 ty, .int .i64 ow], .bool true, .bool false]) (by simp [results, Tryd.results69, go_sem, e0, e1, e2, e3]; try omega) rfl ⟨by rw [HR.out], (HBL.out.grown (set4 _ _ _ _ _ _) HBL.out.size (fun k hk => by injection hk with hk; omega)).drew⟩
  · have HR := hide (HR.out.trans (show _ = true from rfl))
    go_enter Tryd.func69, Tryd.ntmps69
    go_wp2_with (go_at_call 81; refine (HFD.out _ HF.out).mono ?_; rintro e w1 ⟨rfl, hb1⟩; have HB := hide hb1; have k0 := (box1 hb1).cell (j := 0) rfl; have f0 := (box2 hb1).fr 0; have f1 := (box2 hb1).fr 1; have f2 := (box2 hb1).fr 2; have f3 := (box2 hb1).fr 3; have e0 := (box2 hb1).cell (j := 0) rfl; have e1 := (box2 hb1).cell (j := 1) rfl; have e2 := (box2 hb1).cell (j := 2) rfl; have e3 := (box2 hb1).cell (j := 3) rfl; clear hb1)
    have hB2 := boxs4 (box2 HB.out) (.string nm) (.int .i64 kd) (.int .i64 ty) (.int .i64 ow)
    have hB1 := (box1 HB.out).grown (set4 w1 (w.heap.size + 1) (.string nm) (.int .i64 kd) (.int .i64 ty) (.int .i64 ow)) (by simp)
    have hbl := (bel2 HB.out).grown (set4 w1 (w.heap.size + 1) (.string nm) (.int .i64 kd) (.int .i64 ty) (.int .i64 ow)) (bel2 HB.out).size (fun k hk => by injection hk with hk; omega)
    clear k0 f0 f1 f2 f3 e0 e1 e2 e3 HB
    generalize (((w1.setCell ⟨w.heap.size + 1, 0, none⟩ (.string nm)).setCell ⟨w.heap.size + 1, 1, none⟩ (.int .i64 kd)).setCell ⟨w.heap.size + 1, 2, none⟩ (.int .i64 ty)).setCell ⟨w.heap.size + 1, 3, none⟩ (.int .i64 ow) = W at *
    have k0 := hB1.cell (j := 0) rfl
    have k5 := hB1.cell (j := 5) rfl
    have f0 := hB2.fr 0
    have f1 := hB2.fr 1
    have f2 := hB2.fr 2
    have f3 := hB2.fr 3
    have e0 := hB2.cell (j := 0) rfl
    have e1 := hB2.cell (j := 1) rfl
    have e2 := hB2.cell (j := 2) rfl
    have e3 := hB2.cell (j := 3) rfl
    have HBL := hide hbl
    clear hB1 hB2 hbl
    go_region
    go_wp2
    exact bodyPost_ret (v := .tuple #[.agg #[.string nm, .int .i64 kd, .int .i64 ty, .int .i64 ow], .bool true, .bool true]) (by simp [results, Tryd.results69, go_sem, e0, e1, e2, e3]; try omega) rfl ⟨by rw [HR.out], (HBL.out.grown (set4 _ _ _ _ _ _) HBL.out.size (fun k hk => by injection hk with hk; omega)).drew⟩

set_option maxRecDepth 100000 in
set_option maxHeartbeats 4000000 in
theorem known_miss (op typ num : Int) (text : ByteArray) (col : Int) (ko : Option Addr) (n : Nat) (kc : Nat) (hop : op < 1 ∨ 28 < op) (w : World) (hf : OpsAt w) :
    Calls Tryd.prog 69 #[.agg #[.int .i64 op, .int .i64 typ, .int .i64 num, .string text, .int .i64 col, .slice ko n kc]] w
      fun e w' => e = .returned (.tuple #[.agg #[.string ⟨#[]⟩, .int .i64 0, .int .i64 0, .int .i64 0], .bool false, .bool false]) ∧ Below w.heap.size w w' := by
  have HF := hide (hf.mono (belAA (.cells #[.int .i64 op, .int .i64 typ, .int .i64 num, .string text, .int .i64 col, .slice ko n kc] 31) (.cells #[.string ⟨#[]⟩, .int .i64 0, .int .i64 0, .int .i64 0] 95)))
  clear hf
  go_enter Tryd.func69, Tryd.ntmps69
  go_wp2_with (go_at_call 81; refine (find_none op hop _ HF.out).mono ?_; rintro e w1 ⟨rfl, hb1⟩; have HB := hide hb1; have k0 := (box1 hb1).cell (j := 0) rfl; have f0 := (box2 hb1).fr 0; have f1 := (box2 hb1).fr 1; have f2 := (box2 hb1).fr 2; have f3 := (box2 hb1).fr 3; have e0 := (box2 hb1).cell (j := 0) rfl; have e1 := (box2 hb1).cell (j := 1) rfl; have e2 := (box2 hb1).cell (j := 2) rfl; have e3 := (box2 hb1).cell (j := 3) rfl; clear hb1)
  have hB2 := boxs4 (box2 HB.out) (.string ⟨#[]⟩) (.int .i64 0) (.int .i64 0) (.int .i64 0)
  have hB1 := (box1 HB.out).grown (set4 w1 (w.heap.size + 1) (.string ⟨#[]⟩) (.int .i64 0) (.int .i64 0) (.int .i64 0)) (by simp)
  have hbl := (bel2 HB.out).grown (set4 w1 (w.heap.size + 1) (.string ⟨#[]⟩) (.int .i64 0) (.int .i64 0) (.int .i64 0)) (bel2 HB.out).size (fun k hk => by injection hk with hk; omega)
  clear k0 f0 f1 f2 f3 e0 e1 e2 e3 HB
  generalize (((w1.setCell ⟨w.heap.size + 1, 0, none⟩ (.string ⟨#[]⟩)).setCell ⟨w.heap.size + 1, 1, none⟩ (.int .i64 0)).setCell ⟨w.heap.size + 1, 2, none⟩ (.int .i64 0)).setCell ⟨w.heap.size + 1, 3, none⟩ (.int .i64 0) = W at *
  have k0 := hB1.cell (j := 0) rfl
  have k5 := hB1.cell (j := 5) rfl
  have f0 := hB2.fr 0
  have f1 := hB2.fr 1
  have f2 := hB2.fr 2
  have f3 := hB2.fr 3
  have e0 := hB2.cell (j := 0) rfl
  have e1 := hB2.cell (j := 1) rfl
  have e2 := hB2.cell (j := 2) rfl
  have e3 := hB2.cell (j := 3) rfl
  have HBL := hide hbl
  clear hB1 hB2 hbl
  go_region
  go_wp2
  exact bodyPost_ret (v := .tuple #[.agg #[.string ⟨#[]⟩, .int .i64 0, .int .i64 0, .int .i64 0], .bool false, .bool false]) (by simp [results, Tryd.results69, go_sem, e0, e1, e2, e3]; try omega) rfl ⟨rfl, (HBL.out.grown (set4 _ _ _ _ _ _) HBL.out.size (fun k hk => by injection hk with hk; omega)).drew⟩
end Go.Proofs.YtlkhiihehaiinaaDoor

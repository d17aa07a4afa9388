/- ref02.kids, plain, all: the right number of Kids, the fields that are not used. -/
import Derived.Test.YtmnbhdhgjbgidaaDoorEDep
namespace Go.Proofs.YtmnbhdhgjbgidaaDoor
open Go.RowKit


set_option maxRecDepth 100000 in
set_option maxHeartbeats 1000000 in
theorem rkids_any (op : Int) (n : Nat) (w : World) : Calls Tryd.prog 106 #[.int .i64 op, .int .i64 (n : Nat)] w fun e w' => e = .returned (.bool (kidsOk op n)) ∧ Below w.heap.size w w' := by
  by_cases h5 : op ≤ 5
  · have HR := hide (show kidsOk op n = decide (n = 0) by unfold kidsOk; rw [if_pos h5])
    go_enter Tryd.func106, Tryd.ntmps106
    go_wp2
    all_goals go_ret
    all_goals exact ⟨retb (by rw [HR.out]; first | rfl | (rw [Bool.eq_iff_iff]; simp; try omega)), Below.refl _ _⟩

  by_cases h11 : op = 11
  · subst h11
    have HR := hide (show kidsOk 11 n = decide (n = 1) by simp [kidsOk])
    go_enter Tryd.func106, Tryd.ntmps106
    go_wp2
    all_goals go_ret
    all_goals exact ⟨retb (by rw [HR.out]; first | rfl | (rw [Bool.eq_iff_iff]; simp; try omega)), Below.refl _ _⟩

  by_cases h13 : op = 13
  · subst h13
    have HR := hide (show kidsOk 13 n = decide (n = 1) by simp [kidsOk])
    go_enter Tryd.func106, Tryd.ntmps106
    go_wp2
    all_goals go_ret
    all_goals exact ⟨retb (by rw [HR.out]; first | rfl | (rw [Bool.eq_iff_iff]; simp; try omega)), Below.refl _ _⟩

  by_cases h21 : op = 21
  · subst h21
    have HR := hide (show kidsOk 21 n = decide (n = 1) by simp [kidsOk])
    go_enter Tryd.func106, Tryd.ntmps106
    go_wp2
    all_goals go_ret
    all_goals exact ⟨retb (by rw [HR.out]; first | rfl | (rw [Bool.eq_iff_iff]; simp; try omega)), Below.refl _ _⟩

  by_cases h24 : op = 24
  · subst h24
    have HR := hide (show kidsOk 24 n = decide (n = 1) by simp [kidsOk])
    go_enter Tryd.func106, Tryd.ntmps106
    go_wp2
    all_goals go_ret
    all_goals exact ⟨retb (by rw [HR.out]; first | rfl | (rw [Bool.eq_iff_iff]; simp; try omega)), Below.refl _ _⟩

  by_cases h25 : op = 25
  · subst h25
    have HR := hide (show kidsOk 25 n = decide (n = 1) by simp [kidsOk])
    go_enter Tryd.func106, Tryd.ntmps106
    go_wp2
    all_goals go_ret
    all_goals exact ⟨retb (by rw [HR.out]; first | rfl | (rw [Bool.eq_iff_iff]; simp; try omega)), Below.refl _ _⟩

  by_cases h26 : op = 26
  · subst h26
    have HR := hide (show kidsOk 26 n = decide (n = 3) by simp [kidsOk])
    go_enter Tryd.func106, Tryd.ntmps106
    go_wp2
    all_goals go_ret
    all_goals exact ⟨retb (by rw [HR.out]; first | rfl | (rw [Bool.eq_iff_iff]; simp; try omega)), Below.refl _ _⟩

  by_cases h28 : op = 28
  · subst h28
    have HR := hide (show kidsOk 28 n = decide (2 ≤ n) by simp [kidsOk])
    go_enter Tryd.func106, Tryd.ntmps106
    go_wp2
    all_goals go_ret
    all_goals exact ⟨retb (by rw [HR.out]; first | rfl | (rw [Bool.eq_iff_iff]; simp; try omega)), Below.refl _ _⟩

  have HR := hide (show kidsOk op n = decide (n = 2) by unfold kidsOk; rw [if_neg h5, if_neg (by omega), if_neg h26, if_neg h28])
  have b11 : (op == 11) = false := by simpa using h11
  have b13 : (op == 13) = false := by simpa using h13
  have b21 : (op == 21) = false := by simpa using h21
  have b24 : (op == 24) = false := by simpa using h24
  have b25 : (op == 25) = false := by simpa using h25
  have b26 : (op == 26) = false := by simpa using h26
  have b28 : (op == 28) = false := by simpa using h28
  go_enter Tryd.func106, Tryd.ntmps106
  go_wp2
  all_goals go_ret
  all_goals exact ⟨retb (by rw [HR.out]; first | rfl | (rw [Bool.eq_iff_iff]; simp; try omega)), Below.refl _ _⟩

set_option maxRecDepth 100000 in
set_option maxHeartbeats 1000000 in
theorem rall_any (l : IL) (t : Int) (w : World) (hin : l.In w) : Calls Tryd.prog 121 #[.slice l.h.ao l.l.length l.h.cap, .int .i64 t] w fun e w' => e = .returned (.bool (alla t l.l)) ∧ Below w.heap.size w w' := by
  have hn := hin.1.len
  go_enter Tryd.func121, Tryd.ntmps121
  go_wp2
  go_loopw [5] (fun i wr => ∃ k : Nat, k ≤ l.l.length ∧ i = .int .i64 k ∧ (∀ j (hj : j < l.l.length), j < k → l.l[j] = t) ∧ wr = w) (fun i _ => l.l.length - (intOf i).toNat)
  case atStart => exact ⟨0, Nat.zero_le _, rfl, fun j _ h => absurd h (by omega), rfl⟩
  case round =>
    obtain ⟨k, hk, rfl, hno, rfl⟩ := hrel
    have HN := hide hno
    clear hno
    by_cases hlt : k < l.l.length
    · have hix := IL.ix hin hlt
      have c0 := int_at hin.1 hlt
      by_cases he : l.l[k] = t
      · have HEQ := hide he
        have hb : (l.l[k] == t) = true := by simpa using he
        clear he
        go_wp2
        go_roundw
        case rel =>
          refine ⟨k + 1, by omega, by go_num, fun j hj h => ?_, trivial⟩
          by_cases e : j = k
          · subst e; exact HEQ.out
          · exact HN.out j hj (by omega)
        case measure => simp [intOf]; omega
      · have HR := hide (show alla t l.l = false by unfold alla; rw [List.all_eq_false]; exact ⟨l.l[k], List.getElem_mem hlt, by simpa using he⟩)
        have hb : (l.l[k] == t) = false := by simpa using he
        clear he
        go_wp2
        go_ret
        exact ⟨retb (by rw [HR.out]), Below.refl _ _⟩
    · have HR := hide (show alla t l.l = true by
        unfold alla; rw [List.all_eq_true]
        intro x hx
        obtain ⟨j, hj, rfl⟩ := List.getElem_of_mem hx
        simpa using HN.out j hj (by omega))
      go_wp2
      go_ret
      exact ⟨retb (by rw [HR.out]), Below.refl _ _⟩

set_option maxRecDepth 100000 in
set_option maxHeartbeats 2000000 in
theorem rplain_1 (typ num : Int) (text : ByteArray) (col : Int) (ko : Option Addr) (kl kc : Nat) (w : World) :
    Calls Tryd.prog 105 #[.agg #[.int .i64 1, .int .i64 typ, .int .i64 num, .string text, .int .i64 col, .slice ko kl kc]] w fun e w' => e = .returned (.bool (decide (1 ≤ typ ∧ typ ≤ 3) && (num == 0) && (text.toList == []) && (col == 0))) ∧ Below w.heap.size w w' := by
  go_enter Tryd.func105, Tryd.ntmps105
  go_wp2
  all_goals go_ret
  all_goals first
    | exact ⟨retb (by simp [*]; try omega), belAA _ _⟩
    | exact ⟨retb (by simp [*]; try omega), bel_set HB.out⟩
    | exact ⟨retb (by simp [*]; try omega), bel2 HB.out⟩
    | trace_state

set_option maxRecDepth 100000 in
set_option maxHeartbeats 2000000 in
theorem rplain_2 (typ num : Int) (text : ByteArray) (col : Int) (ko : Option Addr) (kl kc : Nat) (w : World) :
    Calls Tryd.prog 105 #[.agg #[.int .i64 2, .int .i64 typ, .int .i64 num, .string text, .int .i64 col, .slice ko kl kc]] w fun e w' => e = .returned (.bool (inR num && (typ == 0) && (text.toList == []) && (col == 0))) ∧ Below w.heap.size w w' := by
  go_enter Tryd.func105, Tryd.ntmps105
  go_wp2
  all_goals go_ret
  all_goals first
    | exact ⟨retb (by simp [*, inR]; try omega), belAA _ _⟩
    | exact ⟨retb (by simp [*, inR]; try omega), bel_set HB.out⟩
    | exact ⟨retb (by simp [*, inR]; try omega), bel2 HB.out⟩
    | trace_state

set_option maxRecDepth 100000 in
set_option maxHeartbeats 2000000 in
theorem rplain_3 (typ num : Int) (text : ByteArray) (col : Int) (ko : Option Addr) (kl kc : Nat) (w : World) :
    Calls Tryd.prog 105 #[.agg #[.int .i64 3, .int .i64 typ, .int .i64 num, .string text, .int .i64 col, .slice ko kl kc]] w fun e w' => e = .returned (.bool (in01 num && (typ == 0) && (text.toList == []) && (col == 0))) ∧ Below w.heap.size w w' := by
  by_cases h0 : num = 0
  · subst h0
    rw [show in01 0 = true from rfl]
    go_enter Tryd.func105, Tryd.ntmps105
    go_wp2
    all_goals go_ret
    all_goals exact ⟨retb (by simp [*]), belAA _ _⟩
  by_cases h1 : num = 1
  · subst h1
    rw [show in01 1 = true from rfl]
    go_enter Tryd.func105, Tryd.ntmps105
    go_wp2
    all_goals go_ret
    all_goals exact ⟨retb (by simp [*]), belAA _ _⟩
  · have b0 : (num != 0) = true := by simpa using h0
    have b1 : (num != 1) = true := by simpa using h1
    rw [show in01 num = false from decide_eq_false (by omega)]
    clear h0 h1
    go_enter Tryd.func105, Tryd.ntmps105
    go_wp2
    all_goals go_ret
    all_goals exact ⟨retb (by simp [*]), belAA _ _⟩

set_option maxRecDepth 100000 in
set_option maxHeartbeats 2000000 in
theorem rplain_4 (typ num : Int) (text : ByteArray) (col : Int) (ko : Option Addr) (kl kc : Nat) (w : World) (ht : text.size ≤ maxLen) :
    Calls Tryd.prog 105 #[.agg #[.int .i64 4, .int .i64 typ, .int .i64 num, .string text, .int .i64 col, .slice ko kl kc]] w fun e w' => e = .returned (.bool (txt text && (typ == 0) && (num == 0) && (col == 0))) ∧ Below w.heap.size w w' := by
  have htx : ∃ b, txt text = b := ⟨_, rfl⟩
  obtain ⟨b, hb0⟩ := htx
  have HTX := hide hb0
  rw [hb0]
  clear hb0
  cases b
  all_goals go_enter Tryd.func105, Tryd.ntmps105
  all_goals go_wp2_with (go_at_call 97; refine (rvalid_text _ _ ht).mono ?_; rintro e w1 ⟨rfl, hb⟩; rw [HTX.out]; have HB := hide hb; have a1 := (box1 hb).cell (j := 1) rfl; have a0 := (box1 hb).cell (j := 0) rfl; have a2 := (box1 hb).cell (j := 2) rfl; have a3 := (box1 hb).cell (j := 3) rfl; have a4 := (box1 hb).cell (j := 4) rfl; have b3 := box2 hb; have y1 := b3.cell (j := 1) rfl; have y2 := b3.cell (j := 2) rfl; have y3 := b3.cell (j := 3) rfl; have y4 := b3.cell (j := 4) rfl; have f3 := b3.fr 3; clear hb b3)
  all_goals go_ret
  all_goals first
    | exact ⟨retb (by simp [*]; try omega), belAA _ _⟩
    | exact ⟨retb (by simp [*]; try omega), bel_set HB.out⟩
    | exact ⟨retb (by simp [*]; try omega), bel2 HB.out⟩
    | trace_state

set_option maxRecDepth 100000 in
set_option maxHeartbeats 2000000 in
theorem rplain_5 (typ num : Int) (text : ByteArray) (col : Int) (ko : Option Addr) (kl kc : Nat) (w : World) :
    Calls Tryd.prog 105 #[.agg #[.int .i64 5, .int .i64 typ, .int .i64 num, .string text, .int .i64 col, .slice ko kl kc]] w fun e w' => e = .returned (.bool ((typ == 0) && (num == 0) && (text.toList == []))) ∧ Below w.heap.size w w' := by
  go_enter Tryd.func105, Tryd.ntmps105
  go_wp2
  all_goals go_ret
  all_goals first
    | exact ⟨retb (by simp [*]; try omega), belAA _ _⟩
    | exact ⟨retb (by simp [*]; try omega), bel_set HB.out⟩
    | exact ⟨retb (by simp [*]; try omega), bel2 HB.out⟩
    | trace_state

set_option maxRecDepth 100000 in
set_option maxHeartbeats 2000000 in
theorem rplain_oi (op typ num : Int) (text : ByteArray) (col : Int) (ko : Option Addr) (kl kc : Nat) (w : World) (h1 : (op == 1) = false) (h2 : (op == 2) = false) (h3 : (op == 3) = false) (h4 : (op == 4) = false) (h5 : (op == 5) = false) (hlo : 1 ≤ op) (hhi : op ≤ 28) :
    Calls Tryd.prog 105 #[.agg #[.int .i64 op, .int .i64 typ, .int .i64 num, .string text, .int .i64 col, .slice ko kl kc]] w fun e w' => e = .returned (.bool ((typ == 0) && (num == 0) && (text.toList == []) && (col == 0))) ∧ Below w.heap.size w w' := by
  go_enter Tryd.func105, Tryd.ntmps105
  go_wp2
  all_goals go_ret
  all_goals first
    | exact ⟨retb (by simp [*]; try omega), belAA _ _⟩
    | exact ⟨retb (by simp [*]; try omega), bel_set HB.out⟩
    | exact ⟨retb (by simp [*]; try omega), bel2 HB.out⟩
    | trace_state


set_option maxRecDepth 100000 in
set_option maxHeartbeats 2000000 in
theorem rplain_oo (op typ num : Int) (text : ByteArray) (col : Int) (ko : Option Addr) (kl kc : Nat) (w : World) (h1 : (op == 1) = false) (h2 : (op == 2) = false) (h3 : (op == 3) = false) (h4 : (op == 4) = false) (h5 : (op == 5) = false) (ho : op < 1 ∨ 28 < op) :
    Calls Tryd.prog 105 #[.agg #[.int .i64 op, .int .i64 typ, .int .i64 num, .string text, .int .i64 col, .slice ko kl kc]] w fun e w' => e = .returned (.bool false) ∧ Below w.heap.size w w' := by
  by_cases hlo : 1 ≤ op
  · have hhi : ¬ op ≤ 28 := by omega
    clear ho
    go_enter Tryd.func105, Tryd.ntmps105
    go_wp2
    go_ret
    exact ⟨rfl, belAA _ _⟩
  · clear ho
    go_enter Tryd.func105, Tryd.ntmps105
    go_wp2
    go_ret
    exact ⟨rfl, belAA _ _⟩

theorem rplain_v (op typ num : Int) (text : ByteArray) (col : Int) (ko : Option Addr) (kl kc : Nat) (w : World) (ht : text.size ≤ maxLen) :
    Calls Tryd.prog 105 #[.agg #[.int .i64 op, .int .i64 typ, .int .i64 num, .string text, .int .i64 col, .slice ko kl kc]] w fun r w' => r = .returned (.bool (decide (1 ≤ op ∧ op ≤ 28) && plainE op typ num text col)) ∧ Below w.heap.size w w' := by
  unfold plainE
  by_cases h1 : op = 1
  · rw [h1]; exact rplain_1 _ _ _ _ _ _ _ _
  by_cases h2 : op = 2
  · rw [h2]; exact rplain_2 _ _ _ _ _ _ _ _
  by_cases h3 : op = 3
  · rw [h3]; exact rplain_3 _ _ _ _ _ _ _ _
  by_cases h4 : op = 4
  · rw [h4]; exact rplain_4 _ _ _ _ _ _ _ _ ht
  by_cases h5 : op = 5
  · rw [h5]; exact rplain_5 _ _ _ _ _ _ _ _
  rw [if_neg h1, if_neg h2, if_neg h3, if_neg h4, if_neg h5]
  by_cases hr : 1 ≤ op ∧ op ≤ 28
  · rw [decide_eq_true hr, Bool.true_and]
    exact rplain_oi _ _ _ _ _ _ _ _ _ (by simpa using h1) (by simpa using h2) (by simpa using h3) (by simpa using h4) (by simpa using h5) hr.1 hr.2
  · rw [decide_eq_false hr, Bool.false_and]
    exact rplain_oo _ _ _ _ _ _ _ _ _ (by simpa using h1) (by simpa using h2) (by simpa using h3) (by simpa using h4) (by simpa using h5) (by omega)
end Go.Proofs.YtmnbhdhgjbgidaaDoor

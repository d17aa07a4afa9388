/- expression.clean: whether the fields that an operation does not use are zero. -/
import Derived.Test.YtmnbhdhgjbgidaaDoorOps
import Derived.Test.YtmnbhdhgjbgidaaDoorText
import Derived.Test.YtmnbhdhgjbgidaaDoorMade
namespace Go.Proofs.YtmnbhdhgjbgidaaDoor
open Go.RowKit

noncomputable def plainE (op typ num : Int) (text : ByteArray) (col : Int) : Bool :=
  if op = 1 then decide (1 ≤ typ ∧ typ ≤ 3) && (num == 0) && (text.toList == []) && (col == 0)
  else if op = 2 then inR num && (typ == 0) && (text.toList == []) && (col == 0)
  else if op = 3 then in01 num && (typ == 0) && (text.toList == []) && (col == 0)
  else if op = 4 then txt text && (typ == 0) && (num == 0) && (col == 0)
  else if op = 5 then (typ == 0) && (num == 0) && (text.toList == [])
  else (typ == 0) && (num == 0) && (text.toList == []) && (col == 0)

set_option maxRecDepth 100000 in
set_option maxHeartbeats 400000 in
theorem istype_any (n : Int) (w : World) : Calls Tryd.prog 103 #[.int .i64 n] w fun e w' => e = .returned (.bool (decide (1 ≤ n ∧ n ≤ 3))) ∧ Below w.heap.size w w' := by
  by_cases h1 : n = 1
  · subst h1
    go_enter Tryd.func103, Tryd.ntmps103
    go_wp2
    go_ret
    exact ⟨rfl, Below.refl _ _⟩
  · by_cases h2 : n = 2
    · subst h2
      go_enter Tryd.func103, Tryd.ntmps103
      go_wp2
      go_ret
      exact ⟨rfl, Below.refl _ _⟩
    · by_cases h3 : n = 3
      · subst h3
        go_enter Tryd.func103, Tryd.ntmps103
        go_wp2
        go_ret
        exact ⟨rfl, Below.refl _ _⟩
      · have h1' : (n == 1) = false := by simpa using h1
        have h2' : (n == 2) = false := by simpa using h2
        have h3' : (n == 3) = false := by simpa using h3
        have HG := hide (show decide (1 ≤ n ∧ n ≤ 3) = false from decide_eq_false (by omega))
        go_enter Tryd.func103, Tryd.ntmps103
        go_wp2
        go_ret
        exact ⟨by rw [HG.out]; rfl, Below.refl _ _⟩

theorem box2 {w w1 : World} {c d : Array Value} {T U : TypeId} (hb : Below ((w.alloc (.cells c T)).alloc (.cells d U)).heap.size ((w.alloc (.cells c T)).alloc (.cells d U)) w1) : Box w1 (w.heap.size + 1) d U := by
  have := (Box.new (w.alloc (.cells c T)) d U).below hb
  simpa only [World.size_alloc] using this
theorem bel_set {w w1 : World} {c d : Array Value} {T U : TypeId} {j : Nat} {v : Value} (hb : Below ((w.alloc (.cells c T)).alloc (.cells d U)).heap.size ((w.alloc (.cells c T)).alloc (.cells d U)) w1) : Below w.heap.size w (w1.setCell ⟨w.heap.size + 1, j, none⟩ v) :=
  (bel2 hb).grown (gb_set _ _ _ _) (bel2 hb).size (fun k hk => by injection hk with hk; omega)

set_option maxRecDepth 100000 in
set_option maxHeartbeats 2000000 in
theorem eclean_1 (typ num : Int) (text : ByteArray) (col : Int) (ko : Option Addr) (kl kc : Nat) (w : World) :
    Calls Tryd.prog 102 #[.agg #[.int .i64 1, .int .i64 typ, .int .i64 num, .string text, .int .i64 col, .slice ko kl kc]] w fun e w' => e = .returned (.bool (decide (1 ≤ typ ∧ typ ≤ 3) && (num == 0) && (text.toList == []) && (col == 0))) ∧ Below w.heap.size w w' := by
  go_enter Tryd.func102, Tryd.ntmps102
  go_wp2_with (go_at_call 103; refine (istype_any _ _).mono ?_; rintro e w1 ⟨rfl, hb⟩; have HB := hide hb; have b3 := box2 hb; have y1 := b3.cell (j := 1) rfl; have y2 := b3.cell (j := 2) rfl; have y3 := b3.cell (j := 3) rfl; have y4 := b3.cell (j := 4) rfl; have f1 := b3.fr 1; have f2 := b3.fr 2; have f3 := b3.fr 3; clear hb b3)
  all_goals go_ret
  all_goals first
    | exact ⟨by simp [*], bel_set HB.out⟩
    | trace_state
set_option maxRecDepth 100000 in
set_option maxHeartbeats 2000000 in
theorem eclean_2 (typ num : Int) (text : ByteArray) (col : Int) (ko : Option Addr) (kl kc : Nat) (w : World) :
    Calls Tryd.prog 102 #[.agg #[.int .i64 2, .int .i64 typ, .int .i64 num, .string text, .int .i64 col, .slice ko kl kc]] w fun e w' => e = .returned (.bool (inR num && (typ == 0) && (text.toList == []) && (col == 0))) ∧ Below w.heap.size w w' := by
  go_enter Tryd.func102, Tryd.ntmps102
  go_wp2_with (go_at_call 93; refine (vvalid_int _ _).mono ?_; rintro e w1 ⟨rfl, hb⟩; have HB := hide hb; have b3 := box2 hb; have y1 := b3.cell (j := 1) rfl; have y2 := b3.cell (j := 2) rfl; have y3 := b3.cell (j := 3) rfl; have y4 := b3.cell (j := 4) rfl; have f1 := b3.fr 1; have f2 := b3.fr 2; have f3 := b3.fr 3; clear hb b3)
  all_goals go_ret
  all_goals exact ⟨by simp [*], bel_set HB.out⟩
set_option maxRecDepth 100000 in
set_option maxHeartbeats 2000000 in
theorem eclean_3 (typ num : Int) (text : ByteArray) (col : Int) (ko : Option Addr) (kl kc : Nat) (w : World) :
    Calls Tryd.prog 102 #[.agg #[.int .i64 3, .int .i64 typ, .int .i64 num, .string text, .int .i64 col, .slice ko kl kc]] w fun e w' => e = .returned (.bool (in01 num && (typ == 0) && (text.toList == []) && (col == 0))) ∧ Below w.heap.size w w' := by
  go_enter Tryd.func102, Tryd.ntmps102
  go_wp2_with (go_at_call 93; refine (vvalid_bool _ _).mono ?_; rintro e w1 ⟨rfl, hb⟩; have HB := hide hb; have b3 := box2 hb; have y1 := b3.cell (j := 1) rfl; have y2 := b3.cell (j := 2) rfl; have y3 := b3.cell (j := 3) rfl; have y4 := b3.cell (j := 4) rfl; have f1 := b3.fr 1; have f2 := b3.fr 2; have f3 := b3.fr 3; clear hb b3)
  all_goals go_ret
  all_goals exact ⟨by simp [*], bel_set HB.out⟩
set_option maxRecDepth 100000 in
set_option maxHeartbeats 2000000 in
theorem eclean_4 (typ num : Int) (text : ByteArray) (col : Int) (ko : Option Addr) (kl kc : Nat) (w : World) (ht : text.size ≤ maxLen) :
    Calls Tryd.prog 102 #[.agg #[.int .i64 4, .int .i64 typ, .int .i64 num, .string text, .int .i64 col, .slice ko kl kc]] w fun e w' => e = .returned (.bool (txt text && (typ == 0) && (num == 0) && (col == 0))) ∧ Below w.heap.size w w' := by
  go_enter Tryd.func102, Tryd.ntmps102
  go_wp2_with (go_at_call 93; refine (vvalid_text _ _ ht).mono ?_; rintro e w1 ⟨rfl, hb⟩; have HB := hide hb; have b3 := box2 hb; have y1 := b3.cell (j := 1) rfl; have y2 := b3.cell (j := 2) rfl; have y3 := b3.cell (j := 3) rfl; have y4 := b3.cell (j := 4) rfl; have f1 := b3.fr 1; have f2 := b3.fr 2; have f3 := b3.fr 3; clear hb b3)
  all_goals go_ret
  all_goals exact ⟨by simp [*], bel_set HB.out⟩
set_option maxRecDepth 100000 in
set_option maxHeartbeats 2000000 in
theorem eclean_5 (typ num : Int) (text : ByteArray) (col : Int) (ko : Option Addr) (kl kc : Nat) (w : World) :
    Calls Tryd.prog 102 #[.agg #[.int .i64 5, .int .i64 typ, .int .i64 num, .string text, .int .i64 col, .slice ko kl kc]] w fun e w' => e = .returned (.bool ((typ == 0) && (num == 0) && (text.toList == []))) ∧ Below w.heap.size w w' := by
  go_enter Tryd.func102, Tryd.ntmps102
  go_wp2
  all_goals go_ret
  all_goals first
    | exact ⟨by simp [*], belAA _ _⟩
    | exact ⟨by simp [*], (belAA _ _).grown (gb_set _ _ _ _) (belAA _ _).size (fun k hk => by injection hk with hk; omega)⟩
set_option maxRecDepth 100000 in
set_option maxHeartbeats 2000000 in
theorem eclean_o (op typ num : Int) (text : ByteArray) (col : Int) (ko : Option Addr) (kl kc : Nat) (w : World) (h1 : (op == 1) = false) (h2 : (op == 2) = false) (h3 : (op == 3) = false) (h4 : (op == 4) = false) (h5 : (op == 5) = false) :
    Calls Tryd.prog 102 #[.agg #[.int .i64 op, .int .i64 typ, .int .i64 num, .string text, .int .i64 col, .slice ko kl kc]] w fun e w' => e = .returned (.bool ((typ == 0) && (num == 0) && (text.toList == []) && (col == 0))) ∧ Below w.heap.size w w' := by
  go_enter Tryd.func102, Tryd.ntmps102
  go_wp2
  all_goals go_ret
  all_goals first
    | exact ⟨by simp [*], belAA _ _⟩
    | exact ⟨by simp [*], (belAA _ _).grown (gb_set _ _ _ _) (belAA _ _).size (fun k hk => by injection hk with hk; omega)⟩

theorem eclean_any (e : Ex) (w : World) (ht : e.text.size ≤ maxLen) :
    Calls Tryd.prog 102 #[.agg #[.int .i64 e.op, .int .i64 e.typ, .int .i64 e.num, .string e.text, .int .i64 e.col, .slice e.kh.ao e.kids.length e.kh.cap]] w fun r w' => r = .returned (.bool (plainE e.op e.typ e.num e.text e.col)) ∧ Below w.heap.size w w' := by
  unfold plainE
  by_cases h1 : e.op = 1
  · rw [h1]; exact eclean_1 _ _ _ _ _ _ _ _
  by_cases h2 : e.op = 2
  · rw [h2]; exact eclean_2 _ _ _ _ _ _ _ _
  by_cases h3 : e.op = 3
  · rw [h3]; exact eclean_3 _ _ _ _ _ _ _ _
  by_cases h4 : e.op = 4
  · rw [h4]; exact eclean_4 _ _ _ _ _ _ _ _ ht
  by_cases h5 : e.op = 5
  · rw [h5]; exact eclean_5 _ _ _ _ _ _ _ _
  rw [if_neg h1, if_neg h2, if_neg h3, if_neg h4, if_neg h5]
  exact eclean_o _ _ _ _ _ _ _ _ _ (by simpa using h1) (by simpa using h2) (by simpa using h3) (by simpa using h4) (by simpa using h5)
end Go.Proofs.YtmnbhdhgjbgidaaDoor

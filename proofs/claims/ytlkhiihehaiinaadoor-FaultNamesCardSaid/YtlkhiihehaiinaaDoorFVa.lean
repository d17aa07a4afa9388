/- Values, plainly: what the functions of package value answer. And value.Truth, Bool, truth, Same, Equal, Not, And, Or. -/
import Derived.Test.YtlkhiihehaiinaaDoorFTyV
import Derived.Test.YtlkhiihehaiinaaDoorFBox
import Derived.Deep.RegionHeld3
import Derived.Deep.QuietTactic
import Derived.BigQuiet
namespace Go.Proofs.YtlkhiihehaiinaaDoor
open Go.RowKit

def nulV : V := ⟨0, 0, ⟨#[]⟩⟩
def bV (b : Bool) : V := ⟨2, if b then 1 else 0, ⟨#[]⟩⟩
def boolV (n : Int) : V := if n = 0 ∨ n = 1 then ⟨2, n, ⟨#[]⟩⟩ else nulV
def truV (a : V) : Int := if a.kind = 2 then (if a.num = 1 then 1 else 0) else 2
def sameB (a b : V) : Bool := (a.kind == b.kind) && (a.num == b.num) && (a.text.toList == b.text.toList)
def eqV (a b : V) : V := if a.kind = 0 ∨ b.kind = 0 then nulV else bV (sameB a b)
def cmpS (s t : ByteArray) : Int := if Op.bytesLess s.toList t.toList then -1 else if s.toList == t.toList then 0 else 1
def cmpI (s t : Int) : Int := if s < t then -1 else if t < s then 1 else 0
def cmpV (a b : V) : Int := if cmpI a.kind b.kind ≠ 0 then cmpI a.kind b.kind else if cmpI a.num b.num ≠ 0 then cmpI a.num b.num else cmpS a.text b.text
def lessV (a b : V) : V := if a.kind = 0 ∨ b.kind = 0 then nulV else bV (decide (cmpV a b < 0))
def notV (a : V) : V := if truV a = 2 then nulV else bV (truV a == 0)
def andV (a b : V) : V := if truV a = 0 ∨ truV b = 0 then bV false else if truV a = 2 ∨ truV b = 2 then nulV else bV true
def orV (a b : V) : V := if truV a = 1 ∨ truV b = 1 then bV true else if truV a = 2 ∨ truV b = 2 then nulV else bV false
def numV (n : Int) : V := ⟨1, n, ⟨#[]⟩⟩
def txtV (s : ByteArray) : V := ⟨3, 0, s⟩

theorem truV_cases (a : V) : truV a = 0 ∨ truV a = 1 ∨ truV a = 2 := by
  unfold truV
  by_cases h : a.kind = 2
  · rw [if_pos h]; by_cases h1 : a.num = 1 <;> simp [h1]
  · rw [if_neg h]; simp

/-- value.null holds the null. -/
def NulAt (w : World) : Prop := w.cell? ⟨2, 0, none⟩ = some (.int .i64 0) ∧ w.cell? ⟨2, 1, none⟩ = some (.int .i64 0) ∧ w.cell? ⟨2, 2, none⟩ = some (.string ⟨#[]⟩)
theorem NulAt.lt {w : World} (h : NulAt w) : 2 < w.heap.size := World.block_lt_of_cell? w ⟨2, 0, none⟩ h.1
theorem NulAt.mono {w w' : World} (h : NulAt w) (hb : Below w.heap.size w w') : NulAt w' :=
  ⟨by rw [hb.cell (p := ⟨2, 0, none⟩) h.lt]; exact h.1, by rw [hb.cell (p := ⟨2, 1, none⟩) h.lt]; exact h.2.1, by rw [hb.cell (p := ⟨2, 2, none⟩) h.lt]; exact h.2.2⟩

set_option maxRecDepth 100000 in
theorem vtru_any (a : V) (w : World) : Calls Tryd.prog 70 #[.agg #[.int .i64 a.kind, .int .i64 a.num, .string a.text]] w fun e w' => e = .returned (.int .i64 (truV a)) ∧ Below w.heap.size w w' := by
  obtain ⟨k, n, s⟩ := a
  by_cases hk : k = 2
  · subst hk
    by_cases hn : n = 1
    · subst hn
      go_enter Tryd.func70, Tryd.ntmps70
      go_wp2
      go_ret
      exact ⟨rfl, belA _⟩
    · have hb : (n == 1) = false := beq_eq_false_iff_ne.2 hn
      have hr : truV ⟨2, n, s⟩ = 0 := by unfold truV; rw [if_pos rfl, if_neg hn]
      rw [hr]
      clear hn
      go_enter Tryd.func70, Tryd.ntmps70
      go_wp2
      go_ret
      exact ⟨rfl, belA _⟩
  · have hb : (k != 2) = true := bne_iff_ne.2 hk
    have hr : truV ⟨k, n, s⟩ = 2 := by unfold truV; rw [if_neg hk]
    rw [hr]
    clear hk
    go_enter Tryd.func70, Tryd.ntmps70
    go_wp2
    go_ret
    exact ⟨rfl, belA _⟩

set_option maxRecDepth 100000 in
theorem vbool_any (n : Int) (w : World) (hw : NulAt w) : Calls Tryd.prog 88 #[.int .i64 n] w fun e w' => e = .returned (.agg #[.int .i64 (boolV n).kind, .int .i64 (boolV n).num, .string (boolV n).text]) ∧ Below w.heap.size w w' := by
  obtain ⟨n0, n1, n2⟩ := hw.mono (belA (.cells #[.int .i64 0, .int .i64 0, .string ⟨#[]⟩] 24))
  by_cases h0 : n = 0
  · subst h0
    go_enter Tryd.func88, Tryd.ntmps88
    go_wp2
    exact bodyPost_ret (v := .agg #[.int .i64 2, .int .i64 0, .string ⟨#[]⟩]) (by simp [results, Tryd.results88, go_sem]) rfl ⟨rfl, belA _⟩
  by_cases h1 : n = 1
  · subst h1
    go_enter Tryd.func88, Tryd.ntmps88
    go_wp2
    exact bodyPost_ret (v := .agg #[.int .i64 2, .int .i64 1, .string ⟨#[]⟩]) (by simp [results, Tryd.results88, go_sem]) rfl ⟨rfl, belA _⟩
  · have hr : boolV n = nulV := by unfold boolV; rw [if_neg (by omega)]
    rw [hr]
    have b0 : (n != 0) = true := bne_iff_ne.2 h0
    have b1 : (n != 1) = true := bne_iff_ne.2 h1
    clear h0 h1
    go_enter Tryd.func88, Tryd.ntmps88
    go_wp2
    exact bodyPost_ret (v := .agg #[.int .i64 0, .int .i64 0, .string ⟨#[]⟩]) (by simp [results, Tryd.results88, go_sem]) rfl ⟨rfl, belA _⟩

theorem set3 (w : World) (g : Nat) (a b c : Value) : w.grownBy (((w.setCell ⟨g, 0, none⟩ a).setCell ⟨g, 1, none⟩ b).setCell ⟨g, 2, none⟩ c) (some g) := ((gb_set _ _ _ _).trans (gb_set _ _ _ _)).trans (gb_set _ _ _ _)
theorem belset3 {n₀ : Nat} {w x : World} (h : Below n₀ w x) (hn : n₀ ≤ w.heap.size) {g : Nat} (hg : n₀ ≤ g) (a b c : Value) : Below n₀ w (((x.setCell ⟨g, 0, none⟩ a).setCell ⟨g, 1, none⟩ b).setCell ⟨g, 2, none⟩ c) :=
  h.grown (set3 _ _ _ _ _) (Nat.le_trans hn h.size) (fun k hk => by injection hk with hk; omega)
theorem boxes2 {w x : World} {c0 c1 : Array Value} {T U : TypeId} (hb : Below ((w.alloc (.cells c0 T)).alloc (.cells c1 U)).heap.size ((w.alloc (.cells c0 T)).alloc (.cells c1 U)) x) : Box x w.heap.size c0 T ∧ Box x (w.heap.size + 1) c1 U ∧ Below w.heap.size w x :=
  ⟨box1 hb, box2 hb, bel2 hb⟩
theorem boxes3 {w x : World} {c0 c1 c2 : Array Value} {T U V : TypeId} (hb : Below (((w.alloc (.cells c0 T)).alloc (.cells c1 U)).alloc (.cells c2 V)).heap.size (((w.alloc (.cells c0 T)).alloc (.cells c1 U)).alloc (.cells c2 V)) x) : Box x w.heap.size c0 T ∧ Box x (w.heap.size + 1) c1 U ∧ Box x (w.heap.size + 2) c2 V ∧ Below w.heap.size w x := by
  have h1 : Below ((w.alloc (.cells c0 T)).alloc (.cells c1 U)).heap.size ((w.alloc (.cells c0 T)).alloc (.cells c1 U)) x := bel_trans (belA _) hb
  refine ⟨box1 h1, box2 h1, ?_, bel3 hb⟩
  have := (Box.new ((w.alloc (.cells c0 T)).alloc (.cells c1 U)) c2 V).below hb
  simpa only [World.size_alloc] using this

set_option maxRecDepth 100000 in
theorem vsame_any (a b : V) (w : World) : Calls Tryd.prog 85 #[.agg #[.int .i64 a.kind, .int .i64 a.num, .string a.text], .agg #[.int .i64 b.kind, .int .i64 b.num, .string b.text]] w fun e w' => e = .returned (.bool (sameB a b)) ∧ Below w.heap.size w w' := by
  go_enter Tryd.func85, Tryd.ntmps85
  go_wp2
  all_goals go_ret
  all_goals exact ⟨retb (by unfold sameB; simp [*]), belAA _ _⟩

set_option maxRecDepth 100000 in
theorem vtruth_any (b : Bool) (w : World) (hw : NulAt w) : Calls Tryd.prog 96 #[.bool b] w fun e w' => e = .returned (.agg #[.int .i64 (bV b).kind, .int .i64 (bV b).num, .string (bV b).text]) ∧ Below w.heap.size w w' := by
  have HW := hide (hw.mono (belA (.cells #[.int .i64 0, .int .i64 0, .string ⟨#[]⟩] 24)))
  clear hw
  cases b
  · go_enter Tryd.func96, Tryd.ntmps96
    go_wp2_with (go_at_call 88; refine (vbool_any 0 _ HW.out).mono ?_; rintro e x ⟨rfl, hb⟩; have HB := hide hb; have hx := ((Box.new _ _ _).below hb); have e0 := hx.cell (j := 0) rfl; have e1 := hx.cell (j := 1) rfl; have e2 := hx.cell (j := 2) rfl; have f0 := hx.fr 0; have f1 := hx.fr 1; have f2 := hx.fr 2; clear hx hb)
    exact bodyPost_ret (v := .agg #[.int .i64 (boolV 0).kind, .int .i64 (boolV 0).num, .string (boolV 0).text]) (by simp [results, Tryd.results96, go_sem, e0, e1, e2]) rfl ⟨rfl, belset3 (bel1 HB.out) (Nat.le_refl _) (Nat.le_refl _) _ _ _⟩
  · go_enter Tryd.func96, Tryd.ntmps96
    go_wp2_with (go_at_call 88; refine (vbool_any 1 _ HW.out).mono ?_; rintro e x ⟨rfl, hb⟩; have HB := hide hb; have hx := ((Box.new _ _ _).below hb); have e0 := hx.cell (j := 0) rfl; have e1 := hx.cell (j := 1) rfl; have e2 := hx.cell (j := 2) rfl; have f0 := hx.fr 0; have f1 := hx.fr 1; have f2 := hx.fr 2; clear hx hb)
    exact bodyPost_ret (v := .agg #[.int .i64 (boolV 1).kind, .int .i64 (boolV 1).num, .string (boolV 1).text]) (by simp [results, Tryd.results96, go_sem, e0, e1, e2]) rfl ⟨rfl, belset3 (bel1 HB.out) (Nat.le_refl _) (Nat.le_refl _) _ _ _⟩

theorem kind_b {a : Int} (h : a ≠ 0) : (a == 0) = false := beq_eq_false_iff_ne.2 h
end Go.Proofs.YtlkhiihehaiinaaDoor

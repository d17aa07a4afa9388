/- ref36.through, join: lists of numbers of the call's own. -/
import Derived.Test.YtlkhiihehaiinaaDoorFWords
import Derived.Laws.AppendOwnNone
import Derived.ArgAppend
namespace Go.Proofs.YtlkhiihehaiinaaDoor
open Go.RowKit

theorem info3 : (Tryd.prog.info? 3).map (fun i => (i.zero, i.size, i.bytes)) = some (some (.int .i64 0), 1, 8) := by kernel_rfl
theorem il_mk {w : World} {base : Nat} {v : Value} {n : Nat} {xs : List Int} {e : TypeId} (h : w.ownsRow base e 1 v n (xs.flatMap icells)) (hw : ∀ n ∈ xs, int64 n) : ∃ r : IL, v = .slice r.h.ao r.l.length r.h.cap ∧ r.l = xs ∧ r.In w := by
  obtain ⟨hd, rfl, hr⟩ := own_row (size := 1) (cells := icells) (fun _ => rfl) (by decide) h
  exact ⟨⟨hd, xs⟩, rfl, rfl, hr, hw⟩
theorem szil2 : (Tryd.prog.info? 34).map (·.size) = some 1 := by kernel_rfl
/-- The numbers a, a + 1, .. : n of them. -/
def ints (a : Int) : Nat → List Int
  | 0 => []
  | n + 1 => a :: ints (a + 1) n
theorem ints_len (n : Nat) : ∀ a, (ints a n).length = n := by
  induction n with
  | zero => intro a; rfl
  | succ n ih => intro a; simp [ints, ih]
theorem ints_snoc (n : Nat) : ∀ a, ints a (n + 1) = ints a n ++ [a + n] := by
  induction n with
  | zero => intro a; simp [ints]
  | succ n ih =>
    intro a
    have h := ih (a + 1)
    show a :: ints (a + 1) (n + 1) = a :: (ints (a + 1) n ++ _)
    rw [h]
    have e : a + 1 + (n : Int) = a + ((n + 1 : Nat) : Int) := by omega
    rw [e]
theorem ints_mem (n : Nat) : ∀ a x, x ∈ ints a n → a ≤ x ∧ x < a + n := by
  induction n with
  | zero => intro a x h; cases h
  | succ n ih =>
    intro a x h
    rcases List.mem_cons.1 h with rfl | h
    · omega
    · have := ih _ _ h; omega
theorem flat_snoc (xs : List Int) (x : Int) : (xs ++ [x]).flatMap icells = xs.flatMap icells ++ [.int .i64 x] := by simp [List.flatMap_append]
def ILis (l : List Int) (v : Value) (w : World) : Prop := ∃ r : IL, v = .slice r.h.ao r.l.length r.h.cap ∧ r.l = l ∧ r.In w
theorem ILis.mono {l : List Int} {v : Value} {w w' : World} (h : ILis l v w) (hb : Below w.heap.size w w') : ILis l v w' := by
  obtain ⟨r, h1, h2, h3⟩ := h
  exact ⟨r, h1, h2, h3.mono hb⟩

set_option maxRecDepth 100000 in
set_option maxHeartbeats 1000000 in
theorem through_any (a : Int) (n : Nat) (w : World) (ha : 0 ≤ a) (hs : a + n ≤ 1000) (b : Int) (hb : b = a + n - 1) :
    Calls Tryd.prog 46 #[.int .i64 a, .int .i64 b] w fun e w' => (∃ v, e = .returned v ∧ ILis (ints a n) v w') ∧ Below w.heap.size w w' := by
  subst hb
  obtain ⟨i0, hi, hz0, hz1, hz2⟩ := info_parts info3
  have HI := hide (And.intro hi (And.intro hz0 (And.intro hz1 hz2)))
  clear hi hz0 hz1 hz2
  go_enter Tryd.func46, Tryd.ntmps46
  go_wp2
  go_loopw [0, 5] (fun i v wr => ∃ (k : Nat) (u : Value), u = v ∧ k ≤ n ∧ i = .int .i64 (a + k) ∧ wr.ownsRow w.heap.size 3 1 v k ((ints a k).flatMap icells) ∧ Below w.heap.size w wr) (fun i _ _ => (a + n - intOf i).toNat)
  case atStart => exact ⟨0, _, rfl, Nat.zero_le _, by simp, World.ownsRow_nil _ _ _ _, Below.refl _ _⟩
  case round =>
    obtain ⟨k, u, rfl, hk, rfl, hown, hbw⟩ := hrel
    have HB := hide hbw
    have HO := hide hown
    clear hbw hown
    by_cases hlt : k < n
    · have hle : a + (k : Int) ≤ a + n - 1 := by omega
      have hw1 : IntKind.i64.wrap (a + (k : Int) + 1) = a + ((k + 1 : Nat) : Int) := by rw [IntKind.wrap_i64]; omega
      go_wp2_with (at_builtin; refine wpList_append_own _ rfl _ _ 34 rfl w.heap.size 3 i0 (.int .i64 0) 1 8 Tryd.underlying34 HI.out.1 HI.out.2.1 HI.out.2.2.1 HI.out.2.2.2 rfl (by decide) _ _ _ rfl (HO.out.alloc _) ⟨wr.heap.size, 0, none⟩ 1 1 [.int .i64 (a + k)] rfl rfl ?c1 ?c2 ?c3 ?c4 ?c5 ?_)
      case c1 => exact new_cells (l := [_])
      case c2 => exact one_int
      case c3 => unfold maxLen; omega
      case c4 => omega
      case c5 => have := HB.out.size; simp; omega
      intro v' w1 hown' hgrow _
      have HO' := hide (show w1.ownsRow w.heap.size 3 1 v' (k + 1) ((ints a (k + 1)).flatMap icells) by rw [ints_snoc, flat_snoc]; exact hown')
      have HG := hide hgrow
      clear hown' hgrow
      go_wp2
      go_roundw
      case rel =>
        refine ⟨k + 1, _, rfl, by omega, by go_num, HO'.out, ?_⟩
        exact grown1 HB.out HB.out.size HG.out (fun b hb => (HO.out.lt b hb).1)
      case measure => simp [intOf]; omega
    · have hk' : k = n := by omega
      have hle : ¬ a + (k : Int) ≤ a + n - 1 := by omega
      have HF := hide (show ILis (ints a n) u wr from by
        have ho := HO.out
        rw [hk'] at ho
        obtain ⟨r, hv, hr, hin2⟩ := il_mk ho (fun x hx => by have := ints_mem _ _ _ hx; constructor <;> omega)
        exact ⟨r, hv, hr, hin2⟩)
      go_wp2
      go_ret
      exact ⟨⟨_, rfl, HF.out⟩, HB.out⟩

theorem flat_ints (xs : List IL) : (xs.flatMap IL.l).flatMap icells = xs.flatMap (fun r => r.l.flatMap icells) := by
  induction xs with
  | nil => rfl
  | cons x xs ih => simp only [List.flatMap_cons, List.flatMap_append, ih]
theorem icells_len (l : List Int) : (l.flatMap icells).length = l.length := by induction l with | nil => rfl | cons x l ih => simp only [List.flatMap_cons, List.length_append, ih, List.length_cons, List.length_nil]; omega
theorem icells_one (l : List Int) : ∀ u ∈ l.flatMap icells, u.oneCell' = true := by
  intro u hu
  obtain ⟨x, _, hx⟩ := List.mem_flatMap.1 hu
  simp at hx
  subst hx
  rfl
theorem icells_at (l : List Int) (j : Nat) (u : Value) (h : (l.flatMap icells)[j]? = some u) : ∃ hj : j < l.length, u = .int .i64 l[j] := by
  have h1 := (List.getElem?_eq_some_iff.1 h).1
  rw [icells_len] at h1
  have h2 := flatMap_at (cells := icells) (size := 1) (fun _ => rfl) l j 0 h1 (by decide)
  simp only [Nat.mul_one, Nat.add_zero] at h2
  rw [h] at h2
  exact ⟨h1, by injection h2⟩
theorem il_cells {w : World} {r : IL} (h : r.In w) (j : Nat) (u : Value) (hu : (r.l.flatMap icells)[j]? = some u) : w.cell? ((⟨r.h.b, r.h.o, none⟩ : Addr).add j) = some u := by
  obtain ⟨hj, rfl⟩ := icells_at _ _ _ hu
  rw [Addr.add_lit]
  exact int_at h.1 hj
def jlen (xs : List IL) : Nat := (xs.flatMap IL.l).length
theorem take_snoc {α : Type} (xs : List α) {k : Nat} (hk : k < xs.length) : xs.take (k + 1) = xs.take k ++ [xs[k]] := List.take_succ_eq_append_getElem hk

set_option maxRecDepth 100000 in
set_option maxHeartbeats 1000000 in
theorem join_any (h : Hd) (xs : List IL) (w : World) (hr : Row w 1 IL.cells h xs) (hin : ∀ u ∈ xs, u.In w ∧ 0 < u.l.length) (hs : (xs.flatMap IL.l).length ≤ 1000) :
    Calls Tryd.prog 47 #[.slice h.ao xs.length h.cap] w fun e w' => (∃ v, e = .returned v ∧ ILis (xs.flatMap IL.l) v w') ∧ Below w.heap.size w w' := by
  have hn := hr.len
  obtain ⟨i0, hi, hz0, hz1, hz2⟩ := info_parts info3
  have HI := hide (And.intro hi (And.intro hz0 (And.intro hz1 hz2)))
  clear hi hz0 hz1 hz2
  go_enter Tryd.func47, Tryd.ntmps47
  go_wp2
  go_loopw [8, 3] (fun i v wr => ∃ (k : Nat) (u : Value), u = v ∧ k ≤ xs.length ∧ i = .int .i64 k ∧ wr.ownsRow w.heap.size 3 1 v (jlen (xs.take k)) (((xs.take k).flatMap IL.l).flatMap icells) ∧ Below w.heap.size w wr) (fun i _ _ => (xs.length - (intOf i).toNat))
  case atStart => exact ⟨0, _, rfl, Nat.zero_le _, rfl, World.ownsRow_nil _ _ _ _, Below.refl _ _⟩
  case round =>
    obtain ⟨k, u, rfl, hk, rfl, hown, hbw⟩ := hrel
    have HB := hide hbw
    have HO := hide hown
    have hr' := hr.mono hbw
    by_cases hlt : k < xs.length
    · obtain ⟨hx, hx0⟩ := hin _ (List.getElem_mem hlt)
      have hx' := hx.mono hbw
      have hix := hr'.ix hlt Tryd.underlying90 szil2
      have c0 := il_at hr' hlt
      have hbb := hr'.blk hlt
      have hao := (hx'.1.2.2.1 hx0).1
      rw [hao] at c0
      have HX := hide hx'
      obtain ⟨y, hy⟩ : ∃ y, xs[k] = y := ⟨_, rfl⟩
      rw [hy] at c0 HX
      have hlen : ((xs.take (k + 1)).flatMap IL.l) = ((xs.take k).flatMap IL.l) ++ y.l := by rw [take_snoc xs hlt, List.flatMap_append, hy]; simp
      have hle : ((xs.take (k + 1)).flatMap IL.l).length ≤ 1000 := by
        have h1 : xs.flatMap IL.l = (xs.take (k + 1)).flatMap IL.l ++ (xs.drop (k + 1)).flatMap IL.l := by rw [← List.flatMap_append, List.take_append_drop]
        rw [h1, List.length_append] at hs
        omega
      rw [hlen, List.length_append] at hle
      have hle2 : jlen (xs.take k) + y.l.length ≤ 1000 := hle
      clear hle
      have HL := hide hlen
      clear hbw hown hx hx' hao hlen hy hr' hx0
      go_wp2_with (at_builtin; refine wpList_append_own _ rfl _ _ 34 rfl w.heap.size 3 i0 (.int .i64 0) 1 8 Tryd.underlying34 HI.out.1 HI.out.2.1 HI.out.2.2.1 HI.out.2.2.2 rfl (by decide) _ _ _ rfl HO.out ⟨y.h.b, y.h.o, none⟩ y.l.length y.h.cap (y.l.flatMap icells) rfl ?c0 ?c1 ?c2 ?c3 ?c4 ?c5 ?_)
      case c0 => rw [icells_len]; omega
      case c1 => exact il_cells HX.out
      case c2 => exact icells_one _
      case c3 => unfold maxLen; omega
      case c4 => omega
      case c5 => exact HB.out.size
      intro v' w1 hown' hgrow _
      have HO' := hide (show w1.ownsRow w.heap.size 3 1 v' (jlen (xs.take (k + 1))) (((xs.take (k + 1)).flatMap IL.l).flatMap icells) by unfold jlen; rw [HL.out, List.length_append, List.flatMap_append]; exact hown')
      have HG := hide hgrow
      clear hown' hgrow
      go_wp2
      go_roundw
      case rel =>
        refine ⟨k + 1, _, rfl, by omega, by go_num, HO'.out, ?_⟩
        exact HB.out.grown HG.out HB.out.size (fun b hb => (HO.out.lt b hb).1)
      case measure => simp [intOf]; omega
    · have hk' : k = xs.length := by omega
      have HF := hide (show ILis (xs.flatMap IL.l) u wr from by
        have ho := HO.out
        rw [hk', List.take_length] at ho
        obtain ⟨r, hv, hr, hin2⟩ := il_mk ho (fun x hx => by obtain ⟨y, hy, hx⟩ := List.mem_flatMap.1 hx; exact (hin y hy).1.2 x hx)
        exact ⟨r, hv, hr, hin2⟩)
      clear hbw hown hr'
      go_wp2
      go_ret
      exact ⟨⟨_, rfl, HF.out⟩, HB.out⟩
end Go.Proofs.YtlkhiihehaiinaaDoor

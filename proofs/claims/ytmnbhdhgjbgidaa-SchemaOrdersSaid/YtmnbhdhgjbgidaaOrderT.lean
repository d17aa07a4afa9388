/- The targets of a schema's tables, as the plain law of the order has them. -/
import Derived.Test.YtmnbhdhgjbgidaaTarget
import Derived.Test.YtmnbhdhgjbgidaaOrderPlain
namespace Go.Proofs.Ytmnbhdhgjbgidaa
open Go.RowKit

/-- The table that a foreign key names. -/
def tnum (s : Sch) (b : ByteArray) : Nat := (s.tabs.findIdx? (named b)).getD 0
/-- For each table the tables that it references. -/
def tgts (s : Sch) : List (List Nat) := s.tabs.map fun t => t.fors.map fun f => tnum s f.tab
/-- Each foreign key of table i names a table. -/
def found (s : Sch) (i : Nat) : Prop := ∀ (h : i < s.tabs.length) k (hk : k < s.tabs[i].fors.length), fok (named (s.tabs[i].fors[k].tab)) s.tabs = true
def allFound (s : Sch) : Prop := ∀ i, found s i

theorem tgts_len (s : Sch) : (tgts s).length = s.tabs.length := by simp [tgts]
theorem tgts_at (s : Sch) {i : Nat} (hi : i < s.tabs.length) : (tgts s)[i]'(by rw [tgts_len]; exact hi) = s.tabs[i].fors.map fun f => tnum s f.tab := by simp [tgts]
theorem fi_tnum (s : Sch) (b : ByteArray) : fi (named b) s.tabs = ((tnum s b : Nat) : Int) := rfl
theorem tnum_lt {s : Sch} {b : ByteArray} (h : fok (named b) s.tabs = true) : tnum s b < s.tabs.length := by
  unfold fok at h
  unfold tnum
  obtain ⟨k, hk⟩ := Option.isSome_iff_exists.1 h
  rw [hk]
  exact (List.findIdx?_eq_some_iff_getElem.1 hk).1
theorem tgtI_at (s : Sch) {i k : Nat} (hi : i < s.tabs.length) (hk : k < s.tabs[i].fors.length) : tgtI s i k = ((tnum s s.tabs[i].fors[k].tab : Nat) : Int) := by
  unfold tgtI; rw [tgtN_hit s i k hi hk]; rfl
theorem tgtB_at (s : Sch) {i k : Nat} (hi : i < s.tabs.length) (hk : k < s.tabs[i].fors.length) : tgtB s i k = fok (named s.tabs[i].fors[k].tab) s.tabs := by
  unfold tgtB; rw [tgtN_hit s i k hi hk]
/-- A table is ready when it is not taken and each of its foreign keys' tables is. -/
theorem rdy_iff (s : Sch) (D : List Nat) {i : Nat} (hi : i < s.tabs.length) : rdy (tgts s) D i ↔ i ∉ D ∧ ∀ k (hk : k < s.tabs[i].fors.length), tnum s s.tabs[i].fors[k].tab ∈ D := by
  unfold rdy
  refine and_congr Iff.rfl ?_
  constructor
  · intro h k hk
    refine h (by rw [tgts_len]; exact hi) _ ?_
    rw [tgts_at s hi]
    exact List.mem_map.2 ⟨_, List.getElem_mem hk, rfl⟩
  · intro h h2 t ht
    rw [tgts_at s hi] at ht
    obtain ⟨f, hf, rfl⟩ := List.mem_map.1 ht
    obtain ⟨k, hk, rfl⟩ := List.getElem_of_mem hf
    exact h k hk

theorem took_lt {T : List (List Nat)} {D : List Nat} (h : Took T D) : ∀ i ∈ D, i < T.length := by
  induction h with
  | nil => intro i hi; cases hi
  | snoc hD hi ih =>
    intro j hj
    rcases List.mem_append.1 hj with h | h
    · exact ih j h
    · rw [List.mem_singleton.1 h]; exact hi.1

/-- For each table whether it is taken. -/
def bits (D : List Nat) (n : Nat) : List Value := (List.range n).map fun i => .bool (decide (i ∈ D))
theorem bits_len (D : List Nat) (n : Nat) : (bits D n).length = n := by simp [bits]
theorem bits_at (D : List Nat) {n i : Nat} (h : i < n) : (bits D n)[i]? = some (.bool (decide (i ∈ D))) := by simp [bits, h]
theorem bits_set (D : List Nat) {n i : Nat} (_h : i < n) : (bits D n).set i (.bool true) = bits (D ++ [i]) n := by
  apply List.ext_getElem
  · simp [bits]
  · intro j h1 h2
    rw [List.getElem_set]
    by_cases e : i = j
    · subst e; simp [bits]
    · rw [if_neg e]
      have e' : ¬ j = i := fun h => e h.symm
      simp [bits, e']

end Go.Proofs.Ytmnbhdhgjbgidaa

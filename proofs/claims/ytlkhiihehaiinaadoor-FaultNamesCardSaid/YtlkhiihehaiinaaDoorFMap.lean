/- fault.switches: a map of texts that the call makes; which are in it. -/
import Derived.Test.YtlkhiihehaiinaaDoorFRFind
import Derived.Test.YtlkhiihehaiinaaDoorFBox
import Derived.Maps.OwnSet
import Derived.StringKeys
namespace Go.Proofs.YtlkhiihehaiinaaDoor
open Go.RowKit Go.Maps Go.WideShapes Go.MapKept Go.WideMaps

abbrev SK : Keyed Tryd.prog 9 := string_keyed Tryd.underlying9
set_option maxRecDepth 10000
/-- Block m is a map that holds the texts S with true, and no others; 'any': is there one? -/
def Texts (x : World) (m : Nat) (S : ByteArray → Bool) (any : Bool) : Prop :=
  ∃ (n : Nat) (D : DataW Unit), n ≤ 1000000 ∧ x.ownsMap Tryd.prog 9 (plainElem Tryd.prog 4) m n D ∧ (∀ s : ByteArray, D.atKey (.string s.data.toList) (.lit (.bool false)) = .lit (.bool (S s))) ∧ (Maps.size D = 0 ↔ any = false)
theorem Texts.lt {x : World} {m : Nat} {S : ByteArray → Bool} {any : Bool} (h : Texts x m S any) : m < x.heap.size := by obtain ⟨n, D, _, h, _⟩ := h; exact h.lt
theorem Texts.grown {x y : World} {m : Nat} {S : ByteArray → Bool} {any : Bool} {row : Option Nat} (h : Texts x m S any) (hg : x.grownBy y row) (hne : some m ≠ row) : Texts y m S any := by
  obtain ⟨n, D, h1, h2, h3⟩ := h
  exact ⟨n, D, h1, h2.kept hg hne, h3⟩
theorem Texts.below {x y : World} {m : Nat} {S : ByteArray → Bool} {any : Bool} (h : Texts x m S any) (hb : Below x.heap.size x y) : Texts y m S any := h.grown (only_below hb none) (by simp)
theorem Texts.new (w : World) : Texts (w.alloc (.map #[] 0)) w.heap.size (fun _ => false) false :=
  ⟨0, .map [], by omega, World.ownsMap_made _ _ _ _, fun _ => rfl, by simp [Maps.size]⟩
theorem zeroB (w : World) : (zeroValue 4).run Tryd.prog w = .ok (.bool false) w := by kernel_rfl
theorem plainB_inv {v : Value} {z : DataW Unit × List MemPlace} (h : plainElem Tryd.prog 4 v = some z) : ∃ b, v = .bool b ∧ z.1 = .lit (.bool b) := by
  have hu := Tryd.underlying4
  unfold plainElem at h
  generalize Tryd.prog.underlying 4 = u at h hu
  subst hu
  cases v <;> simp at h
  exact ⟨_, rfl, by rw [← h]⟩
theorem Texts.look {x : World} {m : Nat} {S : ByteArray → Bool} {any : Bool} (h : Texts x m S any) (s : ByteArray) (hs : s.size ≤ maxLen) : (Instr.lookup 71 (.map (some m)) (.string s) false).run Tryd.prog x = .ok (.bool (S s)) x := by
  obtain ⟨n, D, _, h2, h3, _⟩ := h
  obtain ⟨v, ps, hrun, hv⟩ := h2.lookup SK Tryd.underlying71 (zeroB x) (plainElem_bool Tryd.underlying4 false) (keyOf_string_mk Tryd.underlying9 hs)
  obtain ⟨b, rfl, hb⟩ := plainB_inv hv
  rw [h3] at hb
  injection hb with hb
  injection hb with hb
  rw [hb]
  exact hrun
theorem Texts.len {x : World} {m : Nat} {S : ByteArray → Bool} {any : Bool} (h : Texts x m S any) (ty : TypeId) : ∃ c : Nat, (Builtin.len_ #[71] ty #[.map (some m)]).run Tryd.prog x = .ok (.int .i64 c) x ∧ (c = 0 ↔ any = false) := by
  obtain ⟨n, D, _, h2, _, h4⟩ := h
  exact ⟨_, h2.len Tryd.underlying71 ty, h4⟩
theorem data_inj {s t : ByteArray} (h : s.data.toList = t.data.toList) : s = t := ByteArray.ext (Array.toList_inj.1 h)
/-- As Texts, with a bound on the number of stores. -/
def TextsN (x : World) (m n : Nat) (S : ByteArray → Bool) (any : Bool) : Prop :=
  ∃ (D : DataW Unit), x.ownsMap Tryd.prog 9 (plainElem Tryd.prog 4) m n D ∧ (∀ s : ByteArray, D.atKey (.string s.data.toList) (.lit (.bool false)) = .lit (.bool (S s))) ∧ (Maps.size D = 0 ↔ any = false)
theorem TextsN.texts {x : World} {m n : Nat} {S : ByteArray → Bool} {any : Bool} (h : TextsN x m n S any) (hn : n ≤ 1000000) : Texts x m S any := by obtain ⟨D, h⟩ := h; exact ⟨n, D, hn, h⟩
theorem TextsN.grown {x y : World} {m n : Nat} {S : ByteArray → Bool} {any : Bool} {row : Option Nat} (h : TextsN x m n S any) (hg : x.grownBy y row) (hne : some m ≠ row) : TextsN y m n S any := by
  obtain ⟨D, h2, h3⟩ := h
  exact ⟨D, h2.kept hg hne, h3⟩
theorem TextsN.below {x y : World} {m n : Nat} {S : ByteArray → Bool} {any : Bool} (h : TextsN x m n S any) (hb : Below x.heap.size x y) : TextsN y m n S any := h.grown (only_below hb none) (by simp)
theorem TextsN.more {x : World} {m n : Nat} {S : ByteArray → Bool} {any : Bool} (h : TextsN x m n S any) : TextsN x m (n + 1) S any := by obtain ⟨D, h2, h3⟩ := h; exact ⟨D, h2.mono (Nat.le_succ _), h3⟩
theorem TextsN.new (w : World) : TextsN (w.alloc (.map #[] 0)) w.heap.size 0 (fun _ => false) false := ⟨.map [], World.ownsMap_made _ _ _ _, fun _ => rfl, by simp [Maps.size]⟩
theorem TextsN.put {x : World} {m n : Nat} {S : ByteArray → Bool} {any : Bool} (h : TextsN x m n S any) (s : ByteArray) (hs : s.size ≤ maxLen) (hn : n < 1000000) :
    ∃ y, (Instr.mapUpdate 71 (.map (some m)) (.string s) (.bool true)).run Tryd.prog x = .ok () y ∧ TextsN y m (n + 1) (fun t => S t || decide (t = s)) true ∧ x.grownBy y (some m) := by
  obtain ⟨D, h2, h3, h4⟩ := h
  have hkey := keyOf_string_mk Tryd.underlying9 hs
  obtain ⟨y, hrun, hown, hg⟩ := h2.update SK Tryd.underlying71 (by unfold maxLen; omega) hkey (plainElem_bool Tryd.underlying4 true)
  refine ⟨y, hrun, ⟨_, hown, fun t => ?_, ?_⟩, hg⟩
  · by_cases ht : t = s
    · subst ht
      rw [Maps.atKey_put_same h2.isMap (SK.key hkey)]; simp
    · rw [Maps.atKey_put_other (fun e => ht (data_inj (by injection e))), h3]; simp [ht]
  · have := Maps.size_put (k := .string s.data.toList) (h2.tidy SK) (.lit (.bool true))
    rw [this]
    constructor
    · intro h
      split at h
      · rename_i hh
        -- the key is there: the size is not nought
        obtain ⟨es, rfl, hp⟩ := h2.tidy SK
        rw [Maps.has_eq] at hh
        rw [Maps.size_eq] at h
        rw [List.eq_nil_of_length_eq_zero h] at hh
        cases hh
      · omega
    · intro h; cases h
end Go.Proofs.YtlkhiihehaiinaaDoor

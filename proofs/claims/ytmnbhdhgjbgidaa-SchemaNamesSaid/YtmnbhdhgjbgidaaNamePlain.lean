/- Names: what the two tests of a string say of each other. Plain lists. -/
import Derived.Lib.IndexMore
namespace Go.Proofs.Ytmnbhdhgjbgidaa

/-- The reserved words. -/
def words : List (List UInt8) := [[115, 101, 108, 101, 99, 116],
  [100, 105, 115, 116, 105, 110, 99, 116],
  [97, 108, 108],
  [102, 114, 111, 109],
  [119, 104, 101, 114, 101],
  [103, 114, 111, 117, 112],
  [98, 121],
  [104, 97, 118, 105, 110, 103],
  [97, 115],
  [111, 110],
  [117, 110, 105, 111, 110],
  [101, 120, 99, 101, 112, 116],
  [105, 110, 116, 101, 114, 115, 101, 99, 116],
  [106, 111, 105, 110],
  [105, 110, 110, 101, 114],
  [108, 101, 102, 116],
  [114, 105, 103, 104, 116],
  [102, 117, 108, 108],
  [99, 114, 111, 115, 115],
  [115, 101, 109, 105],
  [97, 110, 116, 105],
  [97, 110, 100],
  [111, 114],
  [110, 111, 116],
  [105, 115],
  [110, 117, 108, 108],
  [116, 114, 117, 101],
  [102, 97, 108, 115, 101],
  [105, 110],
  [99, 97, 115, 101],
  [119, 104, 101, 110],
  [116, 104, 101, 110],
  [101, 108, 115, 101],
  [101, 110, 100],
  [118, 97, 108, 117, 101, 115],
  [116, 97, 98, 108, 101],
  [112, 114, 105, 109, 97, 114, 121],
  [117, 110, 105, 113, 117, 101],
  [102, 111, 114, 101, 105, 103, 110],
  [114, 101, 102, 101, 114, 101, 110, 99, 101, 115],
  [99, 104, 101, 99, 107],
  [105, 110, 116],
  [98, 111, 111, 108],
  [116, 101, 120, 116],
  [99, 111, 117, 110, 116],
  [115, 117, 109],
  [109, 105, 110],
  [109, 97, 120],
  [99, 111, 97, 108, 101, 115, 99, 101],
  [108, 101, 110, 103, 116, 104],
  [115, 97, 109, 101],
  [109, 111, 100]]
/-- A blank, and behind each word a blank. -/
def glue : List (List UInt8) → List UInt8
  | [] => [32]
  | w :: r => 32 :: w ++ glue r

theorem words_ok : ∀ w ∈ words, 32 ∉ w := by decide +kernel
theorem glue_head (W : List (List UInt8)) : ∃ t, glue W = 32 :: t := by
  cases W with
  | nil => exact ⟨[], rfl⟩
  | cons w r => exact ⟨_, rfl⟩

/-- sub stands somewhere in s. -/
def Occ (s sub : List UInt8) : Prop := ∃ a b, s = a ++ (sub ++ b)
theorem occ_cons {c : UInt8} {s sub : List UInt8} : Occ (c :: s) sub ↔ (∃ b, c :: s = sub ++ b) ∨ Occ s sub := by
  constructor
  · rintro ⟨a, b, h⟩
    cases a with
    | nil => exact .inl ⟨b, by simpa using h⟩
    | cons x a => exact .inr ⟨a, b, by simpa using (List.cons.inj h).2⟩
  · rintro (⟨b, h⟩ | ⟨a, b, h⟩)
    · exact ⟨[], b, by simpa using h⟩
    · exact ⟨c :: a, b, by simp [h]⟩
theorem occ_skip {t sub : List UInt8} : ∀ (w : List UInt8), 32 ∉ w → Occ (w ++ t) (32 :: sub) → Occ t (32 :: sub)
  | [], _, h => h
  | c :: w, hw, h => by
    rcases occ_cons.1 h with ⟨b, hb⟩ | h
    · have := (List.cons.inj hb).1
      exact absurd (by simp [this]) hw
    · exact occ_skip w (fun h' => hw (List.mem_cons_of_mem _ h')) h
theorem pre_eq : ∀ (l w : List UInt8) (t b : List UInt8), 32 ∉ l → 32 ∉ w → w ++ 32 :: t = l ++ 32 :: b → w = l
  | [], [], _, _, _, _, _ => rfl
  | [], c :: w, _, _, _, hw, h => absurd (by simp [(List.cons.inj h).1]) hw
  | c :: l, [], _, _, hl, _, h => absurd (by simp [← (List.cons.inj h).1]) hl
  | c :: l, d :: w, t, b, hl, hw, h => by
    obtain ⟨h1, h2⟩ := List.cons.inj h
    rw [h1, pre_eq l w t b (fun h' => hl (List.mem_cons_of_mem _ h')) (fun h' => hw (List.mem_cons_of_mem _ h')) h2]
theorem occ_glue {l : List UInt8} (hl : 32 ∉ l) (hne : l ≠ []) : ∀ (W : List (List UInt8)), (∀ w ∈ W, 32 ∉ w) → (Occ (glue W) (32 :: (l ++ [32])) ↔ l ∈ W)
  | [], _ => by
    constructor
    · rintro ⟨a, b, h⟩
      have := congrArg List.length h
      simp [glue] at this
      omega
    · intro h; cases h
  | w :: W, hW => by
    have ih := occ_glue hl hne W (fun x hx => hW x (List.mem_cons_of_mem _ hx))
    obtain ⟨t, ht⟩ := glue_head W
    have hw := hW w (List.mem_cons_self ..)
    constructor
    · intro h
      rcases occ_cons.1 (show Occ (32 :: (w ++ glue W)) _ from h) with ⟨b, hb⟩ | h
      · have h2 := (List.cons.inj hb).2
        rw [ht] at h2
        have := pre_eq l w t b hl hw (by simpa using h2)
        rw [this]; exact List.mem_cons_self ..
      · exact List.mem_cons_of_mem _ (ih.1 (occ_skip w hw h))
    · intro h
      rcases List.mem_cons.1 h with rfl | h
      · exact ⟨[], t, by show 32 :: l ++ glue W = _; rw [ht]; simp⟩
      · obtain ⟨a, b, hab⟩ := ih.2 h
        exact ⟨32 :: (w ++ a), b, by show 32 :: w ++ glue W = _; rw [hab]; simp⟩

theorem index_iff : ∀ (s sub : List UInt8), sub ≠ [] → (0 ≤ Lib.index s sub ↔ Occ s sub)
  | [], sub, hs => by
    constructor
    · intro h
      unfold Lib.index at h
      cases sub with
      | nil => exact absurd rfl hs
      | cons a t => simp at h
    · rintro ⟨a, b, h⟩
      have := congrArg List.length h
      cases sub with
      | nil => exact absurd rfl hs
      | cons x t => simp at this
  | c :: s, sub, hs => by
    have ih := index_iff s sub hs
    rw [occ_cons]
    unfold Lib.index
    by_cases hp : sub.isPrefixOf (c :: s) = true
    · rw [if_pos hp]
      obtain ⟨b, hb⟩ := List.isPrefixOf_iff_prefix.1 hp
      exact ⟨fun _ => .inl ⟨b, hb.symm⟩, fun _ => by omega⟩
    · rw [if_neg hp]
      have hn : ¬ ∃ b, c :: s = sub ++ b := fun ⟨b, hb⟩ => hp (List.isPrefixOf_iff_prefix.2 ⟨b, hb.symm⟩)
      have hge := Lib.index_ge s sub
      by_cases hm : (Lib.index s sub == -1) = true
      · rw [if_pos hm]
        have : Lib.index s sub = -1 := by simpa using hm
        constructor
        · intro h; omega
        · rintro (h | h)
          · exact absurd h hn
          · have := ih.2 h; omega
      · rw [if_neg hm]
        have : Lib.index s sub ≠ -1 := by simpa using hm
        constructor
        · intro h; exact .inr (ih.1 (by omega))
        · rintro (h | h)
          · exact absurd h hn
          · have := ih.2 h; omega
theorem contains_iff (s sub : List UInt8) (h : sub ≠ []) : Lib.contains s sub = true ↔ Occ s sub := by
  unfold Lib.contains
  rw [decide_eq_true_iff]
  exact index_iff s sub h
theorem reserved_iff {l : List UInt8} (hl : 32 ∉ l) (hne : l ≠ []) : Lib.contains (glue words) (32 :: (l ++ [32])) = true ↔ l ∈ words := by
  rw [contains_iff _ _ (by simp)]
  exact occ_glue hl hne words words_ok

end Go.Proofs.Ytmnbhdhgjbgidaa

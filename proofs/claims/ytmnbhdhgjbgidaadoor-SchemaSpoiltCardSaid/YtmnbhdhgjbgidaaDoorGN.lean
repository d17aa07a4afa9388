/- Names: what the two tests of a string say of each other. Plain lists. -/
import Derived.Test.YtmnbhdhgjbgidaaDoorSameE
import Derived.Test.YtmnbhdhgjbgidaaDoorShelfD
import Derived.Lib.IndexMore
namespace Go.Proofs.YtmnbhdhgjbgidaaDoor

/-- The reserved words. -/
def words : List (List UInt8) := [[115, 101, 108, 101, 99, 116],
  [100, 105, 115, 116, 105, 110, 99, 116],
  [97, 108, 108],
  [102, 114, 111, 109],
  [119, 104, 101, 114, 101],
  [103, 114, 111, 117, 112],
  [98, 121],
  [104, 97, 118, 105, 110, 103],
  [97, 115],
  [111, 110],
  [117, 110, 105, 111, 110],
  [101, 120, 99, 101, 112, 116],
  [105, 110, 116, 101, 114, 115, 101, 99, 116],
  [106, 111, 105, 110],
  [105, 110, 110, 101, 114],
  [108, 101, 102, 116],
  [114, 105, 103, 104, 116],
  [102, 117, 108, 108],
  [99, 114, 111, 115, 115],
  [115, 101, 109, 105],
  [97, 110, 116, 105],
  [97, 110, 100],
  [111, 114],
  [110, 111, 116],
  [105, 115],
  [110, 117, 108, 108],
  [116, 114, 117, 101],
  [102, 97, 108, 115, 101],
  [105, 110],
  [99, 97, 115, 101],
  [119, 104, 101, 110],
  [116, 104, 101, 110],
  [101, 108, 115, 101],
  [101, 110, 100],
  [118, 97, 108, 117, 101, 115],
  [116, 97, 98, 108, 101],
  [112, 114, 105, 109, 97, 114, 121],
  [117, 110, 105, 113, 117, 101],
  [102, 111, 114, 101, 105, 103, 110],
  [114, 101, 102, 101, 114, 101, 110, 99, 101, 115],
  [99, 104, 101, 99, 107],
  [105, 110, 116],
  [98, 111, 111, 108],
  [116, 101, 120, 116],
  [99, 111, 117, 110, 116],
  [115, 117, 109],
  [109, 105, 110],
  [109, 97, 120],
  [99, 111, 97, 108, 101, 115, 99, 101],
  [108, 101, 110, 103, 116, 104],
  [115, 97, 109, 101],
  [109, 111, 100]]
/-- A blank, and behind each word a blank. -/
def glue : List (List UInt8) → List UInt8
  | [] => [32]
  | w :: r => 32 :: w ++ glue r

theorem words_ok : ∀ w ∈ words, 32 ∉ w := by decide +kernel
theorem glue_head (W : List (List UInt8)) : ∃ t, glue W = 32 :: t := by
  cases W with
  | nil => exact ⟨[], rfl⟩
  | cons w r => exact ⟨_, rfl⟩

/-- sub stands somewhere in s. -/
def Occ (s sub : List UInt8) : Prop := ∃ a b, s = a ++ (sub ++ b)
theorem occ_cons {c : UInt8} {s sub : List UInt8} : Occ (c :: s) sub ↔ (∃ b, c :: s = sub ++ b) ∨ Occ s sub := by
  constructor
  · rintro ⟨a, b, h⟩
    cases a with
    | nil => exact .inl ⟨b, by simpa using h⟩
    | cons x a => exact .inr ⟨a, b, by simpa using (List.cons.inj h).2⟩
  · rintro (⟨b, h⟩ | ⟨a, b, h⟩)
    · exact ⟨[], b, by simpa using h⟩
    · exact ⟨c :: a, b, by simp [h]⟩
theorem occ_skip {t sub : List UInt8} : ∀ (w : List UInt8), 32 ∉ w → Occ (w ++ t) (32 :: sub) → Occ t (32 :: sub)
  | [], _, h => h
  | c :: w, hw, h => by
    rcases occ_cons.1 h with ⟨b, hb⟩ | h
    · have := (List.cons.inj hb).1
      exact absurd (by simp [this]) hw
    · exact occ_skip w (fun h' => hw (List.mem_cons_of_mem _ h')) h
theorem pre_eq : ∀ (l w : List UInt8) (t b : List UInt8), 32 ∉ l → 32 ∉ w → w ++ 32 :: t = l ++ 32 :: b → w = l
  | [], [], _, _, _, _, _ => rfl
  | [], c :: w, _, _, _, hw, h => absurd (by simp [(List.cons.inj h).1]) hw
  | c :: l, [], _, _, hl, _, h => absurd (by simp [← (List.cons.inj h).1]) hl
  | c :: l, d :: w, t, b, hl, hw, h => by
    obtain ⟨h1, h2⟩ := List.cons.inj h
    rw [h1, pre_eq l w t b (fun h' => hl (List.mem_cons_of_mem _ h')) (fun h' => hw (List.mem_cons_of_mem _ h')) h2]
theorem occ_glue {l : List UInt8} (hl : 32 ∉ l) (hne : l ≠ []) : ∀ (W : List (List UInt8)), (∀ w ∈ W, 32 ∉ w) → (Occ (glue W) (32 :: (l ++ [32])) ↔ l ∈ W)
  | [], _ => by
    constructor
    · rintro ⟨a, b, h⟩
      have := congrArg List.length h
      simp [glue] at this
      omega
    · intro h; cases h
  | w :: W, hW => by
    have ih := occ_glue hl hne W (fun x hx => hW x (List.mem_cons_of_mem _ hx))
    obtain ⟨t, ht⟩ := glue_head W
    have hw := hW w (List.mem_cons_self ..)
    constructor
    · intro h
      rcases occ_cons.1 (show Occ (32 :: (w ++ glue W)) _ from h) with ⟨b, hb⟩ | h
      · have h2 := (List.cons.inj hb).2
        rw [ht] at h2
        have := pre_eq l w t b hl hw (by simpa using h2)
        rw [this]; exact List.mem_cons_self ..
      · exact List.mem_cons_of_mem _ (ih.1 (occ_skip w hw h))
    · intro h
      rcases List.mem_cons.1 h with rfl | h
      · exact ⟨[], t, by show 32 :: l ++ glue W = _; rw [ht]; simp⟩
      · obtain ⟨a, b, hab⟩ := ih.2 h
        exact ⟨32 :: (w ++ a), b, by show 32 :: w ++ glue W = _; rw [hab]; simp⟩

theorem index_iff : ∀ (s sub : List UInt8), sub ≠ [] → (0 ≤ Lib.index s sub ↔ Occ s sub)
  | [], sub, hs => by
    constructor
    · intro h
      unfold Lib.index at h
      cases sub with
      | nil => exact absurd rfl hs
      | cons a t => simp at h
    · rintro ⟨a, b, h⟩
      have := congrArg List.length h
      cases sub with
      | nil => exact absurd rfl hs
      | cons x t => simp at this
  | c :: s, sub, hs => by
    have ih := index_iff s sub hs
    rw [occ_cons]
    unfold Lib.index
    by_cases hp : sub.isPrefixOf (c :: s) = true
    · rw [if_pos hp]
      obtain ⟨b, hb⟩ := List.isPrefixOf_iff_prefix.1 hp
      exact ⟨fun _ => .inl ⟨b, hb.symm⟩, fun _ => by omega⟩
    · rw [if_neg hp]
      have hn : ¬ ∃ b, c :: s = sub ++ b := fun ⟨b, hb⟩ => hp (List.isPrefixOf_iff_prefix.2 ⟨b, hb.symm⟩)
      have hge := Lib.index_ge s sub
      by_cases hm : (Lib.index s sub == -1) = true
      · rw [if_pos hm]
        have : Lib.index s sub = -1 := by simpa using hm
        constructor
        · intro h; omega
        · rintro (h | h)
          · exact absurd h hn
          · have := ih.2 h; omega
      · rw [if_neg hm]
        have : Lib.index s sub ≠ -1 := by simpa using hm
        constructor
        · intro h; exact .inr (ih.1 (by omega))
        · rintro (h | h)
          · exact absurd h hn
          · have := ih.2 h; omega
theorem contains_iff (s sub : List UInt8) (h : sub ≠ []) : Lib.contains s sub = true ↔ Occ s sub := by
  unfold Lib.contains
  rw [decide_eq_true_iff]
  exact index_iff s sub h
theorem reserved_iff {l : List UInt8} (hl : 32 ∉ l) (hne : l ≠ []) : Lib.contains (glue words) (32 :: (l ++ [32])) = true ↔ l ∈ words := by
  rw [contains_iff _ _ (by simp)]
  exact occ_glue hl hne words words_ok

end Go.Proofs.YtmnbhdhgjbgidaaDoor

/- schema.Name and ref03.Name: which strings are names. -/
namespace Go.Proofs.YtmnbhdhgjbgidaaDoor
open Go.RowKit

theorem sz9 : (Tryd.prog.info? 9).map (·.size) = some 1 := by kernel_rfl
def lett (c : Int) : Bool := decide (97 ≤ c ∧ c ≤ 122)
def vch (c : Int) : Bool := lett c || decide (48 ≤ c ∧ c ≤ 57) || decide (c = 95)
abbrev scells (b : ByteArray) : List Value := [.string b]
def resWords : List ByteArray := [⟨#[115, 101, 108, 101, 99, 116]⟩,
  ⟨#[100, 105, 115, 116, 105, 110, 99, 116]⟩,
  ⟨#[97, 108, 108]⟩,
  ⟨#[102, 114, 111, 109]⟩,
  ⟨#[119, 104, 101, 114, 101]⟩,
  ⟨#[103, 114, 111, 117, 112]⟩,
  ⟨#[98, 121]⟩,
  ⟨#[104, 97, 118, 105, 110, 103]⟩,
  ⟨#[97, 115]⟩,
  ⟨#[111, 110]⟩,
  ⟨#[117, 110, 105, 111, 110]⟩,
  ⟨#[101, 120, 99, 101, 112, 116]⟩,
  ⟨#[105, 110, 116, 101, 114, 115, 101, 99, 116]⟩,
  ⟨#[106, 111, 105, 110]⟩,
  ⟨#[105, 110, 110, 101, 114]⟩,
  ⟨#[108, 101, 102, 116]⟩,
  ⟨#[114, 105, 103, 104, 116]⟩,
  ⟨#[102, 117, 108, 108]⟩,
  ⟨#[99, 114, 111, 115, 115]⟩,
  ⟨#[115, 101, 109, 105]⟩,
  ⟨#[97, 110, 116, 105]⟩,
  ⟨#[97, 110, 100]⟩,
  ⟨#[111, 114]⟩,
  ⟨#[110, 111, 116]⟩,
  ⟨#[105, 115]⟩,
  ⟨#[110, 117, 108, 108]⟩,
  ⟨#[116, 114, 117, 101]⟩,
  ⟨#[102, 97, 108, 115, 101]⟩,
  ⟨#[105, 110]⟩,
  ⟨#[99, 97, 115, 101]⟩,
  ⟨#[119, 104, 101, 110]⟩,
  ⟨#[116, 104, 101, 110]⟩,
  ⟨#[101, 108, 115, 101]⟩,
  ⟨#[101, 110, 100]⟩,
  ⟨#[118, 97, 108, 117, 101, 115]⟩,
  ⟨#[116, 97, 98, 108, 101]⟩,
  ⟨#[112, 114, 105, 109, 97, 114, 121]⟩,
  ⟨#[117, 110, 105, 113, 117, 101]⟩,
  ⟨#[102, 111, 114, 101, 105, 103, 110]⟩,
  ⟨#[114, 101, 102, 101, 114, 101, 110, 99, 101, 115]⟩,
  ⟨#[99, 104, 101, 99, 107]⟩,
  ⟨#[105, 110, 116]⟩,
  ⟨#[98, 111, 111, 108]⟩,
  ⟨#[116, 101, 120, 116]⟩,
  ⟨#[99, 111, 117, 110, 116]⟩,
  ⟨#[115, 117, 109]⟩,
  ⟨#[109, 105, 110]⟩,
  ⟨#[109, 97, 120]⟩,
  ⟨#[99, 111, 97, 108, 101, 115, 99, 101]⟩,
  ⟨#[108, 101, 110, 103, 116, 104]⟩,
  ⟨#[115, 97, 109, 101]⟩,
  ⟨#[109, 111, 100]⟩]
theorem words_res : words = resWords.map (·.data.toList) := rfl
theorem res_len : resWords.length = 52 := rfl
theorem mem_words {s : ByteArray} : s.data.toList ∈ words ↔ s ∈ resWords := by
  rw [words_res, List.mem_map]
  constructor
  · rintro ⟨a, ha, h⟩
    rw [← Go.WideShapes.bytes_inj h]; exact ha
  · exact fun h => ⟨s, h, rfl⟩
theorem str_at {w : World} {h : Hd} {i : Nat} {xs : List ByteArray} (hr : Row w 1 scells h xs) (hi : i < xs.length) : w.cell? ⟨h.b, h.o + i, none⟩ = some (.string xs[i]) := by
  have := hr.2.2.2 i hi 0 _ rfl
  simpa using this

/-- What a name is. -/
structure IsName (s : ByteArray) : Prop where
  lo : 1 ≤ s.size
  hi : s.size ≤ 16
  fst : ∀ h : 0 < s.size, lett ((s[0]'h).toNat : Int) = true
  all : ∀ j (h : j < s.size), vch ((s[j]'h).toNat : Int) = true
  new : s ∉ resWords
theorem no_blank {s : ByteArray} (h : ∀ j (h : j < s.size), vch ((s[j]'h).toNat : Int) = true) : 32 ∉ s.data.toList := by
  intro hm
  obtain ⟨j, hj, he⟩ := List.getElem_of_mem hm
  have hj' : j < s.size := by simpa using hj
  have := h j hj'
  have e : (s[j]'hj') = 32 := he
  rw [e] at this
  exact absurd this (by decide)
theorem data_ne {s : ByteArray} (h : 1 ≤ s.size) : s.data.toList ≠ [] := by
  intro e
  have h2 : s.data.toList.length = 0 := by rw [e]; rfl
  have h3 : s.data.toList.length = s.size := by simp
  omega
theorem glue_iff {s : ByteArray} (hs : 1 ≤ s.size) (h : ∀ j (h : j < s.size), vch ((s[j]'h).toNat : Int) = true) : Lib.contains (glue words) (32 :: (s.data.toList ++ [32])) = true ↔ s ∈ resWords := by
  rw [reserved_iff (no_blank h) (data_ne hs), mem_words]

open Classical in
noncomputable def pb (p : Prop) : Bool := decide p
theorem pb_yes {p : Prop} (h : p) : pb p = true := by unfold pb; simp [h]
theorem pb_no {p : Prop} (h : ¬ p) : pb p = false := by unfold pb; simp [h]

set_option maxHeartbeats 400000 in
theorem letter_any (c : Int) (w : World) : Calls Tryd.prog 43 #[.int .u8 c] w fun e w' => e = .returned (.bool (lett c)) ∧ w = w' := by
  by_cases h1 : 97 ≤ c
  · by_cases h2 : c ≤ 122
    · have hr := hide (show lett c = true by unfold lett; exact decide_eq_true ⟨h1, h2⟩)
      go_enter Tryd.func43, Tryd.ntmps43
      go_wp2
      go_ret
      exact ⟨retb hr.out.symm, rfl⟩
    · have hr := hide (show lett c = false by unfold lett; exact decide_eq_false (fun h => h2 h.2))
      go_enter Tryd.func43, Tryd.ntmps43
      go_wp2
      go_ret
      exact ⟨retb hr.out.symm, rfl⟩
  · have hr := hide (show lett c = false by unfold lett; exact decide_eq_false (fun h => h1 h.1))
    go_enter Tryd.func43, Tryd.ntmps43
    go_wp2
    go_ret
    exact ⟨retb hr.out.symm, rfl⟩

set_option maxRecDepth 100000 in
set_option maxHeartbeats 400000 in
theorem reserved_any (w : World) : Calls Tryd.prog 53 #[] w fun e w' => (∃ h : Hd, e = .returned (.slice h.ao resWords.length h.cap) ∧ Row w' 1 scells h resWords) ∧ Below w.heap.size w w' := by
  go_enter Tryd.func53, Tryd.ntmps53
  go_wp2
  go_ret
  refine ⟨⟨⟨some ⟨w.heap.size, 0, none⟩, 52⟩, rfl, Nat.le_of_eq rfl, (by show 52 ≤ maxLen; unfold maxLen; omega), fun _ => ⟨rfl, by simp [Hd.b]⟩, fun i hi j v hv => ?_⟩, belA _⟩
  have hj : j = 0 := by
    have := (List.getElem?_eq_some_iff.1 hv).1
    simpa using this
  subst hj
  have hv' : Value.string resWords[i] = v := by simpa using hv
  subst hv'
  show (w.alloc (.cells _ _)).cell? ⟨w.heap.size, 0 + i * 1 + 0, none⟩ = _
  rw [cell_of_row (w.alloc (.cells _ _)) w.heap.size _ _ _ (0, 0) (heap_alloc_new w _)]
  have : ∀ i (hi : i < resWords.length), (resWords.map Value.string)[i]? = some (.string resWords[i]) := fun i hi => by simp [hi]
  have h2 := this i hi
  simpa [resWords] using h2

theorem contains_res (r : ByteArray) (hr : r.data.toList = glue words) (s : ByteArray) : Lib.contains r.data.toList ((⟨#[32]⟩ ++ s ++ ⟨#[32]⟩ : ByteArray)).data.toList = Lib.contains (glue words) (32 :: (s.data.toList ++ [32])) := by
  rw [hr]
  simp
theorem contains_any (r : ByteArray) (hr : r.data.toList = glue words) (hz : r.size < 4294967281) (s : ByteArray) (w : World) (h : w.ShapedOpen Tryd.prog) : Calls Tryd.prog 44 #[.string r, .string (⟨#[32]⟩ ++ s ++ ⟨#[32]⟩)] w fun e w' => e = .returned (.bool (Lib.contains (glue words) (32 :: (s.data.toList ++ [32])))) ∧ w' = w := by
  obtain ⟨t, ht⟩ : ∃ t : ByteArray, t = ⟨#[32]⟩ ++ s ++ ⟨#[32]⟩ := ⟨_, rfl⟩
  have h2 := contains_res r hr s
  rw [← ht] at h2 ⊢
  have h1 := Tryd.strings_Contains_shaped r t w h hz
  rw [h2] at h1
  exact h1


theorem empty_ne {s : ByteArray} (h : ¬ s.size = 0) : s.toList.isEmpty = false := by
  rw [Lib.toList_data]
  cases hl : s.data.toList with
  | nil =>
    have h2 : s.data.toList.length = 0 := by rw [hl]; rfl
    have h3 : s.data.toList.length = s.size := by simp
    omega
  | cons _ _ => rfl

set_option maxRecDepth 100000 in
set_option maxHeartbeats 800000 in
theorem name_empty (s : ByteArray) (w : World) (h0 : s.size = 0) :
    Calls Tryd.prog 21 #[.string s] w fun e w' => e = .returned (.bool (pb (IsName s))) ∧ w = w' := by
  have hr := hide (pb_no (p := IsName s) (fun h => by have := h.lo; omega))
  have he : s.toList.isEmpty = true := by
    rw [Lib.toList_data]
    have h3 : s.data.toList.length = s.size := by simp
    rw [List.eq_nil_of_length_eq_zero (h3.trans h0)]; rfl
  go_enter Tryd.func21, Tryd.ntmps21
  go_wp2
  go_ret
  exact ⟨retb hr.out.symm, rfl⟩

set_option maxRecDepth 100000 in
set_option maxHeartbeats 800000 in
theorem name_long (s : ByteArray) (w : World) (h0 : ¬ s.size = 0) (h16 : 16 < (s.size : Int)) (hs : s.size ≤ 9223372036854775807) :
    Calls Tryd.prog 21 #[.string s] w fun e w' => e = .returned (.bool (pb (IsName s))) ∧ w = w' := by
  have hr := hide (pb_no (p := IsName s) (fun h => by have := h.hi; omega))
  have hne := empty_ne h0
  go_enter Tryd.func21, Tryd.ntmps21
  go_wp2
  go_ret
  exact ⟨retb hr.out.symm, rfl⟩

set_option maxRecDepth 100000 in
set_option maxHeartbeats 800000 in
theorem name_first (s : ByteArray) (w : World) (h0 : ¬ s.size = 0) (hpos : 0 < s.size) (h16 : ¬ 16 < (s.size : Int)) (hl0 : lett ((s[0]'hpos).toNat : Int) = false) :
    Calls Tryd.prog 21 #[.string s] w fun e w' => e = .returned (.bool (pb (IsName s))) ∧ w = w' := by
  have hr := hide (pb_no (p := IsName s) (fun h => by have := h.fst hpos; rw [hl0] at this; cases this))
  have hne := empty_ne h0
  have HL := hide hl0
  clear hl0
  go_enter Tryd.func21, Tryd.ntmps21
  go_wp2_with (go_at_call 43; refine (letter_any _ _).mono ?_; rintro e w1 ⟨rfl, rfl⟩; rw [HL.out])
  go_ret
  exact ⟨retb hr.out.symm, rfl⟩


set_option maxRecDepth 100000 in
set_option maxHeartbeats 1000000 in
theorem name_word (s : ByteArray) (w : World) (hsh : w.ShapedOpen Tryd.prog) (h0 : ¬ s.size = 0) (hpos : 0 < s.size) (h16 : ¬ 16 < (s.size : Int)) (hl0 : lett ((s[0]'hpos).toNat : Int) = true) (hq : Lib.contains (glue words) (32 :: (s.data.toList ++ [32])) = true) (hs : s.size ≤ 9223372036854775807) :
    Calls Tryd.prog 21 #[.string s] w fun e w' => e = .returned (.bool (pb (IsName s))) ∧ w = w' := by
  have hne := empty_ne h0
  have HL := hide hl0
  clear hl0
  have HSH := hide hsh
  clear hsh
  have HQ := hide hq
  clear hq
  go_enter Tryd.func21, Tryd.ntmps21
  go_wp2_with (first
    | (go_at_call 43; refine (letter_any _ _).mono ?_; rintro e w1 ⟨rfl, rfl⟩; rw [HL.out])
    | (go_at_call 44; refine (contains_any _ (by kernel_rfl) (of_decide_eq_true (by kernel_rfl)) s _ HSH.out).mono ?_; rintro e w1 ⟨rfl, hw1⟩; rw [hw1, HQ.out]))
  go_ret
  refine ⟨retb (pb_no fun h => ?_).symm, rfl⟩
  exact h.new ((glue_iff h.lo h.all).1 HQ.out)


set_option maxRecDepth 100000 in
set_option maxHeartbeats 4000000 in
theorem name_loop (s : ByteArray) (w : World) (hsh : w.ShapedOpen Tryd.prog) (h0 : ¬ s.size = 0) (hpos : 0 < s.size) (h16 : ¬ 16 < (s.size : Int)) (hl0 : lett ((s[0]'hpos).toNat : Int) = true) (hq : Lib.contains (glue words) (32 :: (s.data.toList ++ [32])) = false) (hs : s.size ≤ 9223372036854775807) :
    Calls Tryd.prog 21 #[.string s] w fun e w' => e = .returned (.bool (pb (IsName s))) ∧ w = w' := by
  have hne := empty_ne h0
  have HL := hide hl0
  clear hl0
  have HSH := hide hsh
  clear hsh
  have HQ := hide hq
  clear hq
  go_enter Tryd.func21, Tryd.ntmps21
  go_wp2_with (first
    | (go_at_call 43; refine (letter_any _ _).mono ?_; rintro e w1 ⟨rfl, rfl⟩; rw [HL.out])
    | (go_at_call 44; refine (contains_any _ (by kernel_rfl) (of_decide_eq_true (by kernel_rfl)) s _ HSH.out).mono ?_; rintro e w1 ⟨rfl, hw1⟩; rw [hw1, HQ.out]))
  go_loop [26] (fun i => ∃ k : Nat, k ≤ s.size ∧ i = .int .i64 k ∧ ∀ j (h : j < s.size), j < k → vch ((s[j]'h).toNat : Int) = true) (fun i => s.size - (intOf i).toNat)
  case atStart => exact ⟨0, Nat.zero_le _, rfl, fun j _ h => absurd h (by omega)⟩
  case round =>
    obtain ⟨k, hk, rfl, hno⟩ := hrel
    have HN := hide hno
    clear hno
    by_cases hlt : k < s.size
    · have hki : (k : Int) < (s.size : Int) := by omega
      obtain ⟨c, hc⟩ : ∃ c : Int, c = ((s[k]'hlt).toNat : Int) := ⟨_, rfl⟩
      have HVC := hide (show vch c = (lett c || decide (48 ≤ c ∧ c ≤ 57) || decide (c = 95)) from rfl)
      have HCE := hide hc
      cases hl : lett c
      · have HLC := hide (show lett ((s[k]'hlt).toNat : Int) = false by rw [← hc]; exact hl)
        have HLD := hide hl
        clear hl
        by_cases hd : 48 ≤ c ∧ c ≤ 57
        · have g1 : (48 : Int) ≤ ((s[k]'hlt).toNat : Int) := by omega
          have g2 : ((s[k]'hlt).toNat : Int) ≤ 57 := by omega
          have HV := hide (show vch c = true by rw [HVC.out, decide_eq_true hd]; simp)
          clear hc hd
          go_wp2_with (go_at_call 43; refine (letter_any _ _).mono ?_; rintro e w1 ⟨rfl, rfl⟩; rw [HLC.out])
          go_round
          case rel =>
            refine ⟨k + 1, by omega, by go_num, fun j hj h => ?_⟩
            by_cases e : j = k
            · subst e; rw [← HCE.out]; exact HV.out
            · exact HN.out j hj (by omega)
          case measure => simp [intOf]; omega
        · by_cases hu : c = 95
          · have g3 : (((s[k]'hlt).toNat : Int) != 95) = false := by rw [← hc, hu]; rfl
            have g4 : (57 : Int) < ((s[k]'hlt).toNat : Int) := by omega
            have g5 : ¬ ((s[k]'hlt).toNat : Int) < 48 := by omega
            have HV := hide (show vch c = true by rw [HVC.out, decide_eq_true hu]; simp)
            clear hc hd hu
            go_wp2_with (go_at_call 43; refine (letter_any _ _).mono ?_; rintro e w1 ⟨rfl, rfl⟩; rw [HLC.out])
            go_round
            case rel =>
              refine ⟨k + 1, by omega, by go_num, fun j hj h => ?_⟩
              by_cases e : j = k
              · subst e; rw [← HCE.out]; exact HV.out
              · exact HN.out j hj (by omega)
            case measure => simp [intOf]; omega
          · have g3 : (((s[k]'hlt).toNat : Int) != 95) = true := by rw [← hc]; simpa using hu
            have HV := hide (show vch c = false by rw [HVC.out, HLD.out, decide_eq_false hd, decide_eq_false hu]; rfl)
            have hr := hide (pb_no (p := IsName s) (fun h => by have := h.all k hlt; rw [← hc, HV.out] at this; cases this))
            by_cases hlow : c < 48
            · have g6 : ((s[k]'hlt).toNat : Int) < 48 := by omega
              clear hc hd hu hlow
              go_wp2_with (go_at_call 43; refine (letter_any _ _).mono ?_; rintro e w1 ⟨rfl, rfl⟩; rw [HLC.out])
              go_ret
              exact ⟨retb hr.out.symm, rfl⟩
            · have g6 : ¬ ((s[k]'hlt).toNat : Int) < 48 := by omega
              have g7 : (57 : Int) < ((s[k]'hlt).toNat : Int) := by omega
              clear hc hd hu hlow
              go_wp2_with (go_at_call 43; refine (letter_any _ _).mono ?_; rintro e w1 ⟨rfl, rfl⟩; rw [HLC.out])
              go_ret
              exact ⟨retb hr.out.symm, rfl⟩
      · have HLC := hide (show lett ((s[k]'hlt).toNat : Int) = true by rw [← hc]; exact hl)
        have HV := hide (show vch c = true by rw [HVC.out, hl]; rfl)
        clear hl hc
        go_wp2_with (go_at_call 43; refine (letter_any _ _).mono ?_; rintro e w1 ⟨rfl, rfl⟩; rw [HLC.out])
        go_round
        case rel =>
          refine ⟨k + 1, by omega, by go_num, fun j hj h => ?_⟩
          by_cases e : j = k
          · subst e; rw [← HCE.out]; exact HV.out
          · exact HN.out j hj (by omega)
        case measure => simp [intOf]; omega
    · go_wp2
      go_ret
      have ha : ∀ j (h : j < s.size), vch ((s[j]'h).toNat : Int) = true := fun j h => HN.out j h (by omega)
      refine ⟨retb (pb_yes ⟨by omega, by omega, fun _ => HL.out, ha, fun h => ?_⟩).symm, rfl⟩
      have := (glue_iff (by omega) ha).2 h
      rw [HQ.out] at this
      cases this

theorem name_any (s : ByteArray) (w : World) (hsh : w.ShapedOpen Tryd.prog) (hs : s.size ≤ 9223372036854775807) :
    Calls Tryd.prog 21 #[.string s] w fun e w' => e = .returned (.bool (pb (IsName s))) ∧ w = w' := by
  by_cases h0 : s.size = 0
  · exact name_empty s w h0
  by_cases h16 : 16 < (s.size : Int)
  · exact name_long s w h0 h16 hs
  have hpos : 0 < s.size := by omega
  cases hl0 : lett ((s[0]'hpos).toNat : Int)
  · exact name_first s w h0 hpos h16 hl0
  cases hq : Lib.contains (glue words) (32 :: (s.data.toList ++ [32]))
  · exact name_loop s w hsh h0 hpos h16 hl0 hq hs
  · exact name_word s w hsh h0 hpos h16 hl0 hq hs

end Go.Proofs.YtmnbhdhgjbgidaaDoor

/- ref03.Name: which strings are names, by one loop over the letters and one over the reserved words. -/
namespace Go.Proofs.YtmnbhdhgjbgidaaDoor
open Go.RowKit

theorem lett_of {c : Int} (h1 : ¬ c < 97) (h2 : ¬ 122 < c) : lett c = true := by unfold lett; exact decide_eq_true ⟨by omega, by omega⟩
theorem lett_not {c : Int} (h : c < 97 ∨ 122 < c) : lett c = false := by unfold lett; exact decide_eq_false (fun h' => by omega)
theorem vch_dig {c : Int} (h1 : ¬ c < 48) (h2 : ¬ 57 < c) : vch c = true := by unfold vch; rw [decide_eq_true (p := 48 ≤ c ∧ c ≤ 57) ⟨by omega, by omega⟩]; simp
theorem vch_und {c : Int} (h : c = 95) : vch c = true := by subst h; rfl
theorem vch_let {c : Int} (h : lett c = true) : vch c = true := by unfold vch; rw [h]; rfl
theorem vch_not {c : Int} (h : c < 97 ∨ 122 < c) (h1 : c < 48 ∨ 57 < c) (h2 : c ≠ 95) : vch c = false := by
  unfold vch; rw [lett_not h, decide_eq_false (fun h' => by omega), decide_eq_false h2]; rfl

set_option maxRecDepth 100000 in
set_option maxHeartbeats 400000 in
theorem rname_short (s : ByteArray) (w : World) (h0 : (s.size : Int) < 1) :
    Calls Tryd.prog 25 #[.string s] w fun e w' => e = .returned (.bool (pb (IsName s))) ∧ Below w.heap.size w w' := by
  have hr := hide (pb_no (p := IsName s) (fun h => by have := h.lo; omega))
  go_enter Tryd.func25, Tryd.ntmps25
  go_wp2
  go_ret
  exact ⟨retb hr.out.symm, Below.refl _ _⟩

set_option maxRecDepth 100000 in
set_option maxHeartbeats 400000 in
theorem rname_long (s : ByteArray) (w : World) (h0 : ¬ (s.size : Int) < 1) (h16 : 16 < (s.size : Int)) (hs : s.size ≤ 9223372036854775807) :
    Calls Tryd.prog 25 #[.string s] w fun e w' => e = .returned (.bool (pb (IsName s))) ∧ Below w.heap.size w w' := by
  have hr := hide (pb_no (p := IsName s) (fun h => by have := h.hi; omega))
  go_enter Tryd.func25, Tryd.ntmps25
  go_wp2
  go_ret
  exact ⟨retb hr.out.symm, Below.refl _ _⟩

set_option maxRecDepth 100000 in
set_option maxHeartbeats 400000 in
theorem rname_lo (s : ByteArray) (w : World) (h0 : ¬ (s.size : Int) < 1) (h16 : ¬ 16 < (s.size : Int)) (hpos : 0 < s.size) (hc : ((s[0]'hpos).toNat : Int) < 97) :
    Calls Tryd.prog 25 #[.string s] w fun e w' => e = .returned (.bool (pb (IsName s))) ∧ Below w.heap.size w w' := by
  have hr := hide (pb_no (p := IsName s) (fun h => by have := h.fst hpos; rw [lett_not (.inl hc)] at this; cases this))
  go_enter Tryd.func25, Tryd.ntmps25
  go_wp2
  go_ret
  exact ⟨retb hr.out.symm, Below.refl _ _⟩

set_option maxRecDepth 100000 in
set_option maxHeartbeats 400000 in
theorem rname_hi (s : ByteArray) (w : World) (h0 : ¬ (s.size : Int) < 1) (h16 : ¬ 16 < (s.size : Int)) (hpos : 0 < s.size) (hc : ¬ ((s[0]'hpos).toNat : Int) < 97) (hd : 122 < ((s[0]'hpos).toNat : Int)) :
    Calls Tryd.prog 25 #[.string s] w fun e w' => e = .returned (.bool (pb (IsName s))) ∧ Below w.heap.size w w' := by
  have hr := hide (pb_no (p := IsName s) (fun h => by have := h.fst hpos; rw [lett_not (.inr hd)] at this; cases this))
  go_enter Tryd.func25, Tryd.ntmps25
  go_wp2
  go_ret
  exact ⟨retb hr.out.symm, Below.refl _ _⟩

set_option maxRecDepth 100000 in
set_option maxHeartbeats 4000000 in
theorem rname_main (s : ByteArray) (w : World) (h0 : ¬ (s.size : Int) < 1) (h16 : ¬ 16 < (s.size : Int)) (hpos : 0 < s.size) (hc : ¬ ((s[0]'hpos).toNat : Int) < 97) (hd : ¬ 122 < ((s[0]'hpos).toNat : Int)) :
    Calls Tryd.prog 25 #[.string s] w fun e w' => e = .returned (.bool (pb (IsName s))) ∧ Below w.heap.size w w' := by
  have HF := hide (lett_of hc hd)
  go_enter Tryd.func25, Tryd.ntmps25
  go_wp2
  clear hc hd
  go_loop [3] (fun i => ∃ k : Nat, k ≤ s.size ∧ i = .int .i64 k ∧ ∀ j (h : j < s.size), j < k → vch ((s[j]'h).toNat : Int) = true) (fun i => s.size - (intOf i).toNat)
  case atStart => exact ⟨0, Nat.zero_le _, rfl, fun j _ h => absurd h (by omega)⟩
  case round =>
    obtain ⟨k, hk, rfl, hno⟩ := hrel
    have HN := hide hno
    clear hno
    by_cases hlt : k < s.size
    · have hki : (k : Int) < (s.size : Int) := by omega
      by_cases d1 : ((s[k]'hlt).toNat : Int) < 97
      · by_cases d3 : ((s[k]'hlt).toNat : Int) < 48
        · have d5 : (((s[k]'hlt).toNat : Int) != 95) = true := by simp; omega
          have hr := hide (pb_no (p := IsName s) (fun h => by have := h.all k hlt; rw [vch_not (.inl d1) (.inl d3) (by omega)] at this; cases this))
          go_wp2
          go_ret
          exact ⟨retb hr.out.symm, Below.refl _ _⟩
        · by_cases d4 : 57 < ((s[k]'hlt).toNat : Int)
          · by_cases d5' : ((s[k]'hlt).toNat : Int) = 95
            · have d5 : (((s[k]'hlt).toNat : Int) != 95) = false := by rw [d5']; rfl
              have HV := hide (vch_und d5')
              clear d5'
              go_wp2
              go_round
              case rel =>
                refine ⟨k + 1, by omega, by go_num, fun j hj h => ?_⟩
                by_cases e : j = k
                · subst e; exact HV.out
                · exact HN.out j hj (by omega)
              case measure => simp [intOf]; omega
            · have d5 : (((s[k]'hlt).toNat : Int) != 95) = true := by simpa using d5'
              have hr := hide (pb_no (p := IsName s) (fun h => by have := h.all k hlt; rw [vch_not (.inl d1) (.inr d4) d5'] at this; cases this))
              clear d5'
              go_wp2
              go_ret
              exact ⟨retb hr.out.symm, Below.refl _ _⟩
          · have HV := hide (vch_dig d3 d4)
            go_wp2
            go_round
            case rel =>
              refine ⟨k + 1, by omega, by go_num, fun j hj h => ?_⟩
              by_cases e : j = k
              · subst e; exact HV.out
              · exact HN.out j hj (by omega)
            case measure => simp [intOf]; omega
      · by_cases d2 : 122 < ((s[k]'hlt).toNat : Int)
        · have d3 : ¬ ((s[k]'hlt).toNat : Int) < 48 := by omega
          have d4 : 57 < ((s[k]'hlt).toNat : Int) := by omega
          have d5 : (((s[k]'hlt).toNat : Int) != 95) = true := by simp; omega
          have hr := hide (pb_no (p := IsName s) (fun h => by have := h.all k hlt; rw [vch_not (.inr d2) (.inr d4) (by omega)] at this; cases this))
          go_wp2
          go_ret
          exact ⟨retb hr.out.symm, Below.refl _ _⟩
        · have HV := hide (vch_let (lett_of d1 d2))
          go_wp2
          go_round
          case rel =>
            refine ⟨k + 1, by omega, by go_num, fun j hj h => ?_⟩
            by_cases e : j = k
            · subst e; exact HV.out
            · exact HN.out j hj (by omega)
          case measure => simp [intOf]; omega
    · have HA := hide (show ∀ j (h : j < s.size), vch ((s[j]'h).toNat : Int) = true from fun j h => HN.out j h (by omega))
      clear HN
      go_wp2_with (go_at_call 53; refine (reserved_any _).mono ?_; rintro e w1 ⟨⟨rh, rfl, hrow⟩, hb1⟩; have HB := hide hb1; have HR := hide hrow; clear hb1 hrow)
      go_loop [5] (fun i => ∃ k : Nat, k ≤ resWords.length ∧ i = .int .i64 k ∧ ∀ j (h : j < resWords.length), j < k → ¬ resWords[j] = s) (fun i => resWords.length - (intOf i).toNat)
      case atStart => exact ⟨0, Nat.zero_le _, rfl, fun j _ h => absurd h (by omega)⟩
      case round =>
        obtain ⟨k, hk, rfl, hno⟩ := hrel
        have HN := hide hno
        clear hno
        have hlen : resWords.length ≤ 9223372036854775807 := by rw [res_len]; omega
        by_cases hlt : k < resWords.length
        · have hki : (k : Int) < (resWords.length : Int) := by omega
          have hix := HR.out.ix hlt Tryd.underlying94 sz9
          simp only [Nat.mul_one] at hix
          have hc0 := str_at HR.out hlt
          obtain ⟨x, hx'⟩ : ∃ x, x = resWords[k] := ⟨_, rfl⟩
          rw [← hx'] at hc0
          by_cases hq : x = s
          · have hq1 : (x.toList == s.toList) = true := by simp [hq]
            have hr := hide (pb_no (p := IsName s) (fun h => h.new (by rw [← hq, hx']; exact List.getElem_mem hlt)))
            clear hx' hq
            go_wp2
            go_ret
            exact ⟨retb hr.out.symm, HB.out⟩
          · have hq1 : (x.toList == s.toList) = false := by
              rw [beq_eq_false_iff_ne]; intro h; rw [Lib.toList_data, Lib.toList_data] at h; exact hq (Go.WideShapes.bytes_inj h)
            have HQ := hide hq
            have HX := hide hx'
            clear hq hx'
            go_wp2
            go_round
            case rel =>
              refine ⟨k + 1, by omega, by go_num, fun j hj h => ?_⟩
              by_cases e : j = k
              · subst e; rw [← HX.out]; exact HQ.out
              · exact HN.out j hj (by omega)
            case measure => simp [intOf]; omega
        · have hr := hide (pb_yes (p := IsName s) ⟨by omega, by omega, fun _ => HF.out, HA.out, fun h => by
            obtain ⟨j, hj, e⟩ := List.getElem_of_mem h
            exact HN.out j hj (by omega) e⟩)
          clear HN
          go_wp2
          go_ret
          exact ⟨retb hr.out.symm, HB.out⟩

theorem rname_any (s : ByteArray) (w : World) (hs : s.size ≤ 9223372036854775807) :
    Calls Tryd.prog 25 #[.string s] w fun e w' => e = .returned (.bool (pb (IsName s))) ∧ Below w.heap.size w w' := by
  by_cases h0 : (s.size : Int) < 1
  · exact rname_short s w h0
  by_cases h16 : 16 < (s.size : Int)
  · exact rname_long s w h0 h16 hs
  have hpos : 0 < s.size := by omega
  by_cases hc : ((s[0]'hpos).toNat : Int) < 97
  · exact rname_lo s w h0 h16 hpos hc
  by_cases hd : 122 < ((s[0]'hpos).toNat : Int)
  · exact rname_hi s w h0 h16 hpos hc hd
  exact rname_main s w h0 h16 hpos hc hd

end Go.Proofs.YtmnbhdhgjbgidaaDoor

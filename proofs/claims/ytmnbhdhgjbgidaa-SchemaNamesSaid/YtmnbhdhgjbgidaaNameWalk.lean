/- schema.Name and ref03.Name: which strings are names. -/
import Derived.Test.YtmnbhdhgjbgidaaNamePlain
import Derived.Test.YtmnbhdhgjbgidaaSameE
import Derived.Test.YtmnbhdhgjbgidaaShelf
namespace Go.Proofs.Ytmnbhdhgjbgidaa
open Go.RowKit

theorem sz9 : (Try.prog.info? 9).map (·.size) = some 1 := by kernel_rfl
def lett (c : Int) : Bool := decide (97 ≤ c ∧ c ≤ 122)
def vch (c : Int) : Bool := lett c || decide (48 ≤ c ∧ c ≤ 57) || decide (c = 95)
abbrev scells (b : ByteArray) : List Value := [.string b]
def resWords : List ByteArray := [⟨#[115, 101, 108, 101, 99, 116]⟩,
  ⟨#[100, 105, 115, 116, 105, 110, 99, 116]⟩,
  ⟨#[97, 108, 108]⟩,
  ⟨#[102, 114, 111, 109]⟩,
  ⟨#[119, 104, 101, 114, 101]⟩,
  ⟨#[103, 114, 111, 117, 112]⟩,
  ⟨#[98, 121]⟩,
  ⟨#[104, 97, 118, 105, 110, 103]⟩,
  ⟨#[97, 115]⟩,
  ⟨#[111, 110]⟩,
  ⟨#[117, 110, 105, 111, 110]⟩,
  ⟨#[101, 120, 99, 101, 112, 116]⟩,
  ⟨#[105, 110, 116, 101, 114, 115, 101, 99, 116]⟩,
  ⟨#[106, 111, 105, 110]⟩,
  ⟨#[105, 110, 110, 101, 114]⟩,
  ⟨#[108, 101, 102, 116]⟩,
  ⟨#[114, 105, 103, 104, 116]⟩,
  ⟨#[102, 117, 108, 108]⟩,
  ⟨#[99, 114, 111, 115, 115]⟩,
  ⟨#[115, 101, 109, 105]⟩,
  ⟨#[97, 110, 116, 105]⟩,
  ⟨#[97, 110, 100]⟩,
  ⟨#[111, 114]⟩,
  ⟨#[110, 111, 116]⟩,
  ⟨#[105, 115]⟩,
  ⟨#[110, 117, 108, 108]⟩,
  ⟨#[116, 114, 117, 101]⟩,
  ⟨#[102, 97, 108, 115, 101]⟩,
  ⟨#[105, 110]⟩,
  ⟨#[99, 97, 115, 101]⟩,
  ⟨#[119, 104, 101, 110]⟩,
  ⟨#[116, 104, 101, 110]⟩,
  ⟨#[101, 108, 115, 101]⟩,
  ⟨#[101, 110, 100]⟩,
  ⟨#[118, 97, 108, 117, 101, 115]⟩,
  ⟨#[116, 97, 98, 108, 101]⟩,
  ⟨#[112, 114, 105, 109, 97, 114, 121]⟩,
  ⟨#[117, 110, 105, 113, 117, 101]⟩,
  ⟨#[102, 111, 114, 101, 105, 103, 110]⟩,
  ⟨#[114, 101, 102, 101, 114, 101, 110, 99, 101, 115]⟩,
  ⟨#[99, 104, 101, 99, 107]⟩,
  ⟨#[105, 110, 116]⟩,
  ⟨#[98, 111, 111, 108]⟩,
  ⟨#[116, 101, 120, 116]⟩,
  ⟨#[99, 111, 117, 110, 116]⟩,
  ⟨#[115, 117, 109]⟩,
  ⟨#[109, 105, 110]⟩,
  ⟨#[109, 97, 120]⟩,
  ⟨#[99, 111, 97, 108, 101, 115, 99, 101]⟩,
  ⟨#[108, 101, 110, 103, 116, 104]⟩,
  ⟨#[115, 97, 109, 101]⟩,
  ⟨#[109, 111, 100]⟩]
theorem words_res : words = resWords.map (·.data.toList) := rfl
theorem res_len : resWords.length = 52 := rfl
theorem mem_words {s : ByteArray} : s.data.toList ∈ words ↔ s ∈ resWords := by
  rw [words_res, List.mem_map]
  constructor
  · rintro ⟨a, ha, h⟩
    rw [← Go.WideShapes.bytes_inj h]; exact ha
  · exact fun h => ⟨s, h, rfl⟩
theorem str_at {w : World} {h : Hd} {i : Nat} {xs : List ByteArray} (hr : Row w 1 scells h xs) (hi : i < xs.length) : w.cell? ⟨h.b, h.o + i, none⟩ = some (.string xs[i]) := by
  have := hr.2.2.2 i hi 0 _ rfl
  simpa using this

/-- What a name is. -/
structure IsName (s : ByteArray) : Prop where
  lo : 1 ≤ s.size
  hi : s.size ≤ 16
  fst : ∀ h : 0 < s.size, lett ((s[0]'h).toNat : Int) = true
  all : ∀ j (h : j < s.size), vch ((s[j]'h).toNat : Int) = true
  new : s ∉ resWords
theorem no_blank {s : ByteArray} (h : ∀ j (h : j < s.size), vch ((s[j]'h).toNat : Int) = true) : 32 ∉ s.data.toList := by
  intro hm
  obtain ⟨j, hj, he⟩ := List.getElem_of_mem hm
  have hj' : j < s.size := by simpa using hj
  have := h j hj'
  have e : (s[j]'hj') = 32 := he
  rw [e] at this
  exact absurd this (by decide)
theorem data_ne {s : ByteArray} (h : 1 ≤ s.size) : s.data.toList ≠ [] := by
  intro e
  have h2 : s.data.toList.length = 0 := by rw [e]; rfl
  have h3 : s.data.toList.length = s.size := by simp
  omega
theorem glue_iff {s : ByteArray} (hs : 1 ≤ s.size) (h : ∀ j (h : j < s.size), vch ((s[j]'h).toNat : Int) = true) : Lib.contains (glue words) (32 :: (s.data.toList ++ [32])) = true ↔ s ∈ resWords := by
  rw [reserved_iff (no_blank h) (data_ne hs), mem_words]

open Classical in
noncomputable def pb (p : Prop) : Bool := decide p
theorem pb_yes {p : Prop} (h : p) : pb p = true := by unfold pb; simp [h]
theorem pb_no {p : Prop} (h : ¬ p) : pb p = false := by unfold pb; simp [h]

set_option maxHeartbeats 400000 in
theorem letter_any (c : Int) (w : World) : Calls Try.prog 54 #[.int .u8 c] w fun e w' => e = .returned (.bool (lett c)) ∧ w = w' := by
  by_cases h1 : 97 ≤ c
  · by_cases h2 : c ≤ 122
    · have hr := hide (show lett c = true by unfold lett; exact decide_eq_true ⟨h1, h2⟩)
      go_enter Try.func54, Try.ntmps54
      go_wp2
      go_ret
      exact ⟨retb hr.out.symm, rfl⟩
    · have hr := hide (show lett c = false by unfold lett; exact decide_eq_false (fun h => h2 h.2))
      go_enter Try.func54, Try.ntmps54
      go_wp2
      go_ret
      exact ⟨retb hr.out.symm, rfl⟩
  · have hr := hide (show lett c = false by unfold lett; exact decide_eq_false (fun h => h1 h.1))
    go_enter Try.func54, Try.ntmps54
    go_wp2
    go_ret
    exact ⟨retb hr.out.symm, rfl⟩

set_option maxRecDepth 100000 in
set_option maxHeartbeats 400000 in
theorem reserved_any (w : World) : Calls Try.prog 23 #[] w fun e w' => (∃ h : Hd, e = .returned (.slice h.ao resWords.length h.cap) ∧ Row w' 1 scells h resWords) ∧ Below w.heap.size w w' := by
  go_enter Try.func23, Try.ntmps23
  go_wp2
  go_ret
  refine ⟨⟨⟨some ⟨w.heap.size, 0, none⟩, 52⟩, rfl, Nat.le_of_eq rfl, (by show 52 ≤ maxLen; unfold maxLen; omega), fun _ => ⟨rfl, by simp [Hd.b]⟩, fun i hi j v hv => ?_⟩, belA _⟩
  have hj : j = 0 := by
    have := (List.getElem?_eq_some_iff.1 hv).1
    simpa using this
  subst hj
  have hv' : Value.string resWords[i] = v := by simpa using hv
  subst hv'
  show (w.alloc (.cells _ _)).cell? ⟨w.heap.size, 0 + i * 1 + 0, none⟩ = _
  rw [cell_of_row (w.alloc (.cells _ _)) w.heap.size _ _ _ (0, 0) (heap_alloc_new w _)]
  have : ∀ i (hi : i < resWords.length), (resWords.map Value.string)[i]? = some (.string resWords[i]) := fun i hi => by simp [hi]
  have h2 := this i hi
  simpa [resWords] using h2

theorem contains_res (r : ByteArray) (hr : r.data.toList = glue words) (s : ByteArray) : Lib.contains r.data.toList ((⟨#[32]⟩ ++ s ++ ⟨#[32]⟩ : ByteArray)).data.toList = Lib.contains (glue words) (32 :: (s.data.toList ++ [32])) := by
  rw [hr]
  simp
theorem contains_any (r : ByteArray) (hr : r.data.toList = glue words) (hz : r.size < 4294967281) (s : ByteArray) (w : World) (h : w.ShapedOpen Try.prog) : Calls Try.prog 55 #[.string r, .string (⟨#[32]⟩ ++ s ++ ⟨#[32]⟩)] w fun e w' => e = .returned (.bool (Lib.contains (glue words) (32 :: (s.data.toList ++ [32])))) ∧ w' = w := by
  obtain ⟨t, ht⟩ : ∃ t : ByteArray, t = ⟨#[32]⟩ ++ s ++ ⟨#[32]⟩ := ⟨_, rfl⟩
  have h2 := contains_res r hr s
  rw [← ht] at h2 ⊢
  have h1 := Try.strings_Contains_shaped r t w h hz
  rw [h2] at h1
  exact h1


theorem empty_ne {s : ByteArray} (h : ¬ s.size = 0) : s.toList.isEmpty = false := by
  rw [Lib.toList_data]
  cases hl : s.data.toList with
  | nil =>
    have h2 : s.data.toList.length = 0 := by rw [hl]; rfl
    have h3 : s.data.toList.length = s.size := by simp
    omega
  | cons _ _ => rfl

set_option maxRecDepth 100000 in
set_option maxHeartbeats 800000 in
theorem name_empty (s : ByteArray) (w : World) (h0 : s.size = 0) :
    Calls Try.prog 24 #[.string s] w fun e w' => e = .returned (.bool (pb (IsName s))) ∧ w = w' := by
  have hr := hide (pb_no (p := IsName s) (fun h => by have := h.lo; omega))
  have he : s.toList.isEmpty = true := by
    rw [Lib.toList_data]
    have h3 : s.data.toList.length = s.size := by simp
    rw [List.eq_nil_of_length_eq_zero (h3.trans h0)]; rfl
  go_enter Try.func24, Try.ntmps24
  go_wp2
  go_ret
  exact ⟨retb hr.out.symm, rfl⟩

set_option maxRecDepth 100000 in
set_option maxHeartbeats 800000 in
theorem name_long (s : ByteArray) (w : World) (h0 : ¬ s.size = 0) (h16 : 16 < (s.size : Int)) (hs : s.size ≤ 9223372036854775807) :
    Calls Try.prog 24 #[.string s] w fun e w' => e = .returned (.bool (pb (IsName s))) ∧ w = w' := by
  have hr := hide (pb_no (p := IsName s) (fun h => by have := h.hi; omega))
  have hne := empty_ne h0
  go_enter Try.func24, Try.ntmps24
  go_wp2
  go_ret
  exact ⟨retb hr.out.symm, rfl⟩

set_option maxRecDepth 100000 in
set_option maxHeartbeats 800000 in
theorem name_first (s : ByteArray) (w : World) (h0 : ¬ s.size = 0) (hpos : 0 < s.size) (h16 : ¬ 16 < (s.size : Int)) (hl0 : lett ((s[0]'hpos).toNat : Int) = false) :
    Calls Try.prog 24 #[.string s] w fun e w' => e = .returned (.bool (pb (IsName s))) ∧ w = w' := by
  have hr := hide (pb_no (p := IsName s) (fun h => by have := h.fst hpos; rw [hl0] at this; cases this))
  have hne := empty_ne h0
  have HL := hide hl0
  clear hl0
  go_enter Try.func24, Try.ntmps24
  go_wp2_with (go_at_call 54; refine (letter_any _ _).mono ?_; rintro e w1 ⟨rfl, rfl⟩; rw [HL.out])
  go_ret
  exact ⟨retb hr.out.symm, rfl⟩


set_option maxRecDepth 100000 in
set_option maxHeartbeats 1000000 in
theorem name_word (s : ByteArray) (w : World) (hsh : w.ShapedOpen Try.prog) (h0 : ¬ s.size = 0) (hpos : 0 < s.size) (h16 : ¬ 16 < (s.size : Int)) (hl0 : lett ((s[0]'hpos).toNat : Int) = true) (hq : Lib.contains (glue words) (32 :: (s.data.toList ++ [32])) = true) (hs : s.size ≤ 9223372036854775807) :
    Calls Try.prog 24 #[.string s] w fun e w' => e = .returned (.bool (pb (IsName s))) ∧ w = w' := by
  have hne := empty_ne h0
  have HL := hide hl0
  clear hl0
  have HSH := hide hsh
  clear hsh
  have HQ := hide hq
  clear hq
  go_enter Try.func24, Try.ntmps24
  go_wp2_with (first
    | (go_at_call 54; refine (letter_any _ _).mono ?_; rintro e w1 ⟨rfl, rfl⟩; rw [HL.out])
    | (go_at_call 55; refine (contains_any _ (by kernel_rfl) (of_decide_eq_true (by kernel_rfl)) s _ HSH.out).mono ?_; rintro e w1 ⟨rfl, hw1⟩; rw [hw1, HQ.out]))
  go_ret
  refine ⟨retb (pb_no fun h => ?_).symm, rfl⟩
  exact h.new ((glue_iff h.lo h.all).1 HQ.out)


set_option maxRecDepth 100000 in
set_option maxHeartbeats 4000000 in
theorem name_loop (s : ByteArray) (w : World) (hsh : w.ShapedOpen Try.prog) (h0 : ¬ s.size = 0) (hpos : 0 < s.size) (h16 : ¬ 16 < (s.size : Int)) (hl0 : lett ((s[0]'hpos).toNat : Int) = true) (hq : Lib.contains (glue words) (32 :: (s.data.toList ++ [32])) = false) (hs : s.size ≤ 9223372036854775807) :
    Calls Try.prog 24 #[.string s] w fun e w' => e = .returned (.bool (pb (IsName s))) ∧ w = w' := by
  have hne := empty_ne h0
  have HL := hide hl0
  clear hl0
  have HSH := hide hsh
  clear hsh
  have HQ := hide hq
  clear hq
  go_enter Try.func24, Try.ntmps24
  go_wp2_with (first
    | (go_at_call 54; refine (letter_any _ _).mono ?_; rintro e w1 ⟨rfl, rfl⟩; rw [HL.out])
    | (go_at_call 55; refine (contains_any _ (by kernel_rfl) (of_decide_eq_true (by kernel_rfl)) s _ HSH.out).mono ?_; rintro e w1 ⟨rfl, hw1⟩; rw [hw1, HQ.out]))
  go_loop [26] (fun i => ∃ k : Nat, k ≤ s.size ∧ i = .int .i64 k ∧ ∀ j (h : j < s.size), j < k → vch ((s[j]'h).toNat : Int) = true) (fun i => s.size - (intOf i).toNat)
  case atStart => exact ⟨0, Nat.zero_le _, rfl, fun j _ h => absurd h (by omega)⟩
  case round =>
    obtain ⟨k, hk, rfl, hno⟩ := hrel
    have HN := hide hno
    clear hno
    by_cases hlt : k < s.size
    · have hki : (k : Int) < (s.size : Int) := by omega
      obtain ⟨c, hc⟩ : ∃ c : Int, c = ((s[k]'hlt).toNat : Int) := ⟨_, rfl⟩
      have HVC := hide (show vch c = (lett c || decide (48 ≤ c ∧ c ≤ 57) || decide (c = 95)) from rfl)
      have HCE := hide hc
      cases hl : lett c
      · have HLC := hide (show lett ((s[k]'hlt).toNat : Int) = false by rw [← hc]; exact hl)
        have HLD := hide hl
        clear hl
        by_cases hd : 48 ≤ c ∧ c ≤ 57
        · have g1 : (48 : Int) ≤ ((s[k]'hlt).toNat : Int) := by omega
          have g2 : ((s[k]'hlt).toNat : Int) ≤ 57 := by omega
          have HV := hide (show vch c = true by rw [HVC.out, decide_eq_true hd]; simp)
          clear hc hd
          go_wp2_with (go_at_call 54; refine (letter_any _ _).mono ?_; rintro e w1 ⟨rfl, rfl⟩; rw [HLC.out])
          go_round
          case rel =>
            refine ⟨k + 1, by omega, by go_num, fun j hj h => ?_⟩
            by_cases e : j = k
            · subst e; rw [← HCE.out]; exact HV.out
            · exact HN.out j hj (by omega)
          case measure => simp [intOf]; omega
        · by_cases hu : c = 95
          · have g3 : (((s[k]'hlt).toNat : Int) != 95) = false := by rw [← hc, hu]; rfl
            have g4 : (57 : Int) < ((s[k]'hlt).toNat : Int) := by omega
            have g5 : ¬ ((s[k]'hlt).toNat : Int) < 48 := by omega
            have HV := hide (show vch c = true by rw [HVC.out, decide_eq_true hu]; simp)
            clear hc hd hu
            go_wp2_with (go_at_call 54; refine (letter_any _ _).mono ?_; rintro e w1 ⟨rfl, rfl⟩; rw [HLC.out])
            go_round
            case rel =>
              refine ⟨k + 1, by omega, by go_num, fun j hj h => ?_⟩
              by_cases e : j = k
              · subst e; rw [← HCE.out]; exact HV.out
              · exact HN.out j hj (by omega)
            case measure => simp [intOf]; omega
          · have g3 : (((s[k]'hlt).toNat : Int) != 95) = true := by rw [← hc]; simpa using hu
            have HV := hide (show vch c = false by rw [HVC.out, HLD.out, decide_eq_false hd, decide_eq_false hu]; rfl)
            have hr := hide (pb_no (p := IsName s) (fun h => by have := h.all k hlt; rw [← hc, HV.out] at this; cases this))
            by_cases hlow : c < 48
            · have g6 : ((s[k]'hlt).toNat : Int) < 48 := by omega
              clear hc hd hu hlow
              go_wp2_with (go_at_call 54; refine (letter_any _ _).mono ?_; rintro e w1 ⟨rfl, rfl⟩; rw [HLC.out])
              go_ret
              exact ⟨retb hr.out.symm, rfl⟩
            · have g6 : ¬ ((s[k]'hlt).toNat : Int) < 48 := by omega
              have g7 : (57 : Int) < ((s[k]'hlt).toNat : Int) := by omega
              clear hc hd hu hlow
              go_wp2_with (go_at_call 54; refine (letter_any _ _).mono ?_; rintro e w1 ⟨rfl, rfl⟩; rw [HLC.out])
              go_ret
              exact ⟨retb hr.out.symm, rfl⟩
      · have HLC := hide (show lett ((s[k]'hlt).toNat : Int) = true by rw [← hc]; exact hl)
        have HV := hide (show vch c = true by rw [HVC.out, hl]; rfl)
        clear hl hc
        go_wp2_with (go_at_call 54; refine (letter_any _ _).mono ?_; rintro e w1 ⟨rfl, rfl⟩; rw [HLC.out])
        go_round
        case rel =>
          refine ⟨k + 1, by omega, by go_num, fun j hj h => ?_⟩
          by_cases e : j = k
          · subst e; rw [← HCE.out]; exact HV.out
          · exact HN.out j hj (by omega)
        case measure => simp [intOf]; omega
    · go_wp2
      go_ret
      have ha : ∀ j (h : j < s.size), vch ((s[j]'h).toNat : Int) = true := fun j h => HN.out j h (by omega)
      refine ⟨retb (pb_yes ⟨by omega, by omega, fun _ => HL.out, ha, fun h => ?_⟩).symm, rfl⟩
      have := (glue_iff (by omega) ha).2 h
      rw [HQ.out] at this
      cases this

theorem name_any (s : ByteArray) (w : World) (hsh : w.ShapedOpen Try.prog) (hs : s.size ≤ 9223372036854775807) :
    Calls Try.prog 24 #[.string s] w fun e w' => e = .returned (.bool (pb (IsName s))) ∧ w = w' := by
  by_cases h0 : s.size = 0
  · exact name_empty s w h0
  by_cases h16 : 16 < (s.size : Int)
  · exact name_long s w h0 h16 hs
  have hpos : 0 < s.size := by omega
  cases hl0 : lett ((s[0]'hpos).toNat : Int)
  · exact name_first s w h0 hpos h16 hl0
  cases hq : Lib.contains (glue words) (32 :: (s.data.toList ++ [32]))
  · exact name_loop s w hsh h0 hpos h16 hl0 hq hs
  · exact name_word s w hsh h0 hpos h16 hl0 hq hs

end Go.Proofs.Ytmnbhdhgjbgidaa

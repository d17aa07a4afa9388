/- value.text, value.Valid, ref01.Valid: which texts and values are permitted. -/
import Derived.Test.YtlkhiihehaiinaaDoorData
import Derived.Test.YtlkhiihehaiinaaDoorKit
import Derived.Lib.OthersKept
import Derived.Lib.TrimU
import Derived.Deep.LoopGhost
import Derived.Deep.AppendLies
import Derived.Laws.OwnMore
import Derived.Deep.RegionHeld3
import Derived.Deep.QuietTactic
import Derived.BigQuiet
namespace Go.Proofs.YtlkhiihehaiinaaDoor
open Go.RowKit

def goodN (b : Nat) : Bool := decide (32 ≤ b ∧ b ≤ 126 ∧ b ≠ 39)
/-- A text of letters that are permitted. -/
def TxtAll (s : ByteArray) : Prop := ∀ j (h : j < s.size), goodN (s[j]'h).toNat = true
def TxtOk (s : ByteArray) : Prop := s.size ≤ 24 ∧ TxtAll s
open Classical in
noncomputable def txt (s : ByteArray) : Bool := decide (TxtOk s)
open Classical in
theorem txt_yes {s : ByteArray} (h : TxtOk s) : txt s = true := by unfold txt; exact decide_eq_true h
open Classical in
theorem txt_no {s : ByteArray} (h : ¬ TxtOk s) : txt s = false := by unfold txt; exact decide_eq_false h

theorem goodN_low (n b0 b1 b2 b3 : Nat) : goodN (Lib.decodeN n b0 b1 b2 b3).1 = goodN b0 ∧ (goodN b0 = true → (Lib.decodeN n b0 b1 b2 b3).2 = 1) := by
  by_cases h : b0 < 128
  · simp [Lib.decodeN, h]
  · have hb : goodN b0 = false := by unfold goodN; exact decide_eq_false (by omega)
    have hr : 128 ≤ (Lib.decodeN n b0 b1 b2 b3).1 := by
      unfold Lib.decodeN
      rw [if_neg h]
      repeat' split
      all_goals first | omega | (show 128 ≤ 65533; omega) | (simp only; omega)
    refine ⟨?_, fun h' => by rw [hb] at h'; cases h'⟩
    rw [hb]; unfold goodN; exact decide_eq_false (by omega)
theorem dec_good (s : ByteArray) (pos : Nat) (h : pos < s.size) : goodN (Utf8.decode s pos).1 = goodN (s[pos]'h).toNat ∧ (goodN (s[pos]'h).toNat = true → (Utf8.decode s pos).2 = 1) := by
  have hg : s.get! pos = s[pos]'h := by
    show s.data[pos]! = s.data[pos]'h
    exact getElem!_pos s.data pos h
  rw [Lib.decode_at, hg]
  exact goodN_low _ _ _ _ _

set_option maxHeartbeats 400000 in
theorem txclo_any (r : Nat) (hr : r ≤ 1114111) (w : World) :
    Calls Tryd.prog 109 #[.int .i32 (r : Int)] w fun e w' => e = .returned (.bool (!goodN r)) ∧ Below w.heap.size w w' := by
  by_cases h1 : r < 32
  · have h1' : (r : Int) < 32 := by omega
    have HG := hide (show goodN r = false by unfold goodN; exact decide_eq_false (by omega))
    go_enter Tryd.func109, Tryd.ntmps109
    go_wp2
    go_ret
    exact ⟨by rw [HG.out]; rfl, Below.refl _ _⟩
  · have h1' : ¬ (r : Int) < 32 := by omega
    by_cases h2 : 126 < r
    · have h2' : 126 < (r : Int) := by omega
      have HG := hide (show goodN r = false by unfold goodN; exact decide_eq_false (by omega))
      go_enter Tryd.func109, Tryd.ntmps109
      go_wp2
      go_ret
      exact ⟨by rw [HG.out]; rfl, Below.refl _ _⟩
    · have h2' : ¬ 126 < (r : Int) := by omega
      by_cases h3 : r = 39
      · subst h3
        go_enter Tryd.func109, Tryd.ntmps109
        go_wp2
        go_ret
        exact ⟨rfl, Below.refl _ _⟩
      · have h3' : ((r : Int) == 39) = false := by simp; omega
        have HG := hide (show goodN r = true by unfold goodN; exact decide_eq_true (by omega))
        go_enter Tryd.func109, Tryd.ntmps109
        go_wp2
        go_ret
        exact ⟨by rw [HG.out]; rfl, Below.refl _ _⟩

set_option maxHeartbeats 2000000 in
set_option maxRecDepth 1000000 in
theorem tindex_txt (s : ByteArray) (w : World) (hs : s.size ≤ 24) :
    Calls Tryd.prog 115 #[.string s, .func (.func 109) #[] #[], .bool true] w fun e w' => (∃ i : Int, e = .returned (.int .i64 i) ∧ ((0 ≤ i ∧ ¬ TxtAll s) ∨ (i = -1 ∧ TxtAll s))) ∧ Below w.heap.size w w' := by
  go_enter Tryd.func115, Tryd.ntmps115
  go_wp2
  go_loopg [] s.size (fun g wx => ∃ pos : Nat, wx.heap[w.heap.size]? = some (.stringIter s pos) ∧ Below w.heap.size w wx ∧ Hid (∀ j (h : j < s.size), j < pos → goodN (s[j]'h).toNat = true) ∧ pos ≤ s.size ∧ s.size ≤ pos + g)
  case atStart => exact ⟨0, World.iter_heap w s 0, (Below.refl _ w).alloc (Nat.le_refl _) _, fun j _ h => absurd h (by omega), by omega, by omega⟩
  case round =>
    obtain ⟨pos, hit, hbw, HG, hps, hfu⟩ := hrel
    have hsz : w.heap.size < wr.heap.size := (Array.getElem?_eq_some_iff.1 hit).1
    by_cases hp : pos < s.size
    · obtain ⟨g, rfl⟩ : ∃ g, gk = g + 1 := ⟨gk - 1, by omega⟩
      have hnx : ∀ ty, (Instr.next (.pointer (some ⟨w.heap.size, 0, none⟩)) true ty).run Tryd.prog wr = _ := fun ty => Lib.run_next_any_at wr w.heap.size s pos ty hit hp
      have hr1 := Lib.rune_le s pos
      have HD := hide (dec_good s pos hp)
      have HP := hide hp
      obtain ⟨R, hR⟩ : ∃ R, (Utf8.decode s pos).1 = R := ⟨_, rfl⟩
      obtain ⟨K, hK⟩ : ∃ K, (Utf8.decode s pos).2 = K := ⟨_, rfl⟩
      rw [hR, hK] at hnx
      rw [hR] at hr1
      rw [hR, hK] at HD
      have hit2 := Lib.iterAt_heap wr w.heap.size s pos (pos + K) hit
      have hbw2 := Lib.below_iterAt hbw (k := w.heap.size) (Nat.le_refl _) s (pos + K)
      obtain ⟨W, hWd⟩ : ∃ W, wr.iterAt w.heap.size s (pos + K) = W := ⟨_, rfl⟩
      rw [hWd] at hnx hit2 hbw2
      have hWs : w.heap.size < W.heap.size := (Array.getElem?_eq_some_iff.1 hit2).1
      have HC := hide (txclo_any R hr1 W)
      cases hgd : goodN R with
      | true =>
        rw [hgd] at HC
        go_wp2_with (go_at_call 109; refine HC.out.mono ?_; rintro e W' ⟨rfl, hb⟩)
        have HB := hide hb
        have hk1 : K = 1 := HD.out.2 (HD.out.1 ▸ hgd)
        go_roundg g
        case measure => omega
        case rel =>
          refine ⟨pos + K, (HB.out.block w.heap.size hWs).trans hit2, hbw2.trans (HB.out.mono (by omega)), fun j hj h => ?_, by omega, by omega⟩
          by_cases e : j = pos
          · subst e; rw [← HD.out.1]; exact hgd
          · exact HG.out j hj (by omega)
      | false =>
        rw [hgd] at HC
        go_wp2_with (go_at_call 109; refine HC.out.mono ?_; rintro e W' ⟨rfl, hb⟩)
        go_ret
        refine ⟨⟨pos, rfl, .inl ⟨by omega, fun h => ?_⟩⟩, hbw2.trans (hb.mono (by omega))⟩
        have := h pos HP.out
        rw [← HD.out.1, hgd] at this
        cases this
    · have hnx : ∀ ty, (Instr.next (.pointer (some ⟨w.heap.size, 0, none⟩)) true ty).run Tryd.prog wr = _ := fun ty => Lib.run_next_end_at wr w.heap.size s pos ty hit hp
      go_wp2
      go_ret
      exact ⟨⟨-1, rfl, .inr ⟨rfl, fun j hj => HG.out j hj (by omega)⟩⟩, hbw⟩

set_option maxHeartbeats 400000 in
theorem ifunc_txt (s : ByteArray) (w : World) (hs : s.size ≤ 24) :
    Calls Tryd.prog 108 #[.string s, .func (.func 109) #[] #[]] w fun e w' => (∃ i : Int, e = .returned (.int .i64 i) ∧ ((0 ≤ i ∧ ¬ TxtAll s) ∨ (i = -1 ∧ TxtAll s))) ∧ Below w.heap.size w w' := by
  go_enter Tryd.func108, Tryd.ntmps108
  go_wp2_with (go_at_call 115; refine (tindex_txt s _ hs).mono ?_; rintro e w1 ⟨⟨i, rfl, hi⟩, hb⟩; have HI := hide hi; clear hi)
  go_ret
  exact ⟨⟨i, rfl, HI.out⟩, hb⟩

set_option maxHeartbeats 400000 in
theorem text_any (s : ByteArray) (w : World) (hs : s.size ≤ maxLen) :
    Calls Tryd.prog 98 #[.string s] w fun e w' => e = .returned (.bool (txt s)) ∧ Below w.heap.size w w' := by
  unfold maxLen at hs
  by_cases h24 : s.size ≤ 24
  · have h24' : (s.size : Int) ≤ 24 := by omega
    go_enter Tryd.func98, Tryd.ntmps98
    go_wp2_with (go_at_call 108; refine (ifunc_txt s _ h24).mono ?_; rintro e w1 ⟨⟨i, rfl, hi⟩, hb⟩; have HI := hide hi; clear hi)
    go_ret
    refine ⟨?_, hb⟩
    rcases HI.out with ⟨h0, hn⟩ | ⟨rfl, hy⟩
    · rw [txt_no (fun h => hn h.2)]; simp; omega
    · rw [txt_yes ⟨h24, hy⟩]; simp
  · have h24' : ¬ (s.size : Int) ≤ 24 := by omega
    have HG := hide (txt_no (s := s) (fun h => h24 h.1))
    go_enter Tryd.func98, Tryd.ntmps98
    go_wp2
    go_ret
    exact ⟨by rw [HG.out]; rfl, Below.refl _ _⟩

set_option maxRecDepth 100000 in
set_option maxHeartbeats 1000000 in
/-- ref01.Valid at a text. -/
theorem rvalid_text (s : ByteArray) (w : World) (hs : s.size ≤ maxLen) :
    Calls Tryd.prog 57 #[.agg #[.int .i64 3, .int .i64 0, .string s]] w fun e w' => e = .returned (.bool (txt s)) ∧ Below w.heap.size w w' := by
  unfold maxLen at hs
  by_cases h24 : s.size ≤ 24
  · have h24' : (s.size : Int) ≤ 24 := by omega
    go_enter Tryd.func57, Tryd.ntmps57
    go_wp2
    go_loop [3] (fun i => ∃ k : Nat, k ≤ s.size ∧ i = .int .i64 k ∧ ∀ j (h : j < s.size), j < k → goodN (s[j]'h).toNat = true) (fun i => s.size - (intOf i).toNat)
    case atStart => exact ⟨0, Nat.zero_le _, rfl, fun j _ h => absurd h (by omega)⟩
    case round =>
      obtain ⟨k, hk, rfl, hno⟩ := hrel
      have HN := hide hno
      clear hno
      by_cases hlt : k < s.size
      · have hki : (k : Int) < (s.size : Int) := by omega
        by_cases d1 : ((s[k]'hlt).toNat : Int) < 32
        · have HG := hide (txt_no (s := s) (fun h => by have := h.2 k hlt; unfold goodN at this; have := of_decide_eq_true this; omega))
          go_wp2
          go_ret
          exact ⟨by rw [HG.out]; rfl, belA _⟩
        · by_cases d2 : 126 < ((s[k]'hlt).toNat : Int)
          · have HG := hide (txt_no (s := s) (fun h => by have := h.2 k hlt; unfold goodN at this; have := of_decide_eq_true this; omega))
            go_wp2
            go_ret
            exact ⟨by rw [HG.out]; rfl, belA _⟩
          · by_cases d3' : ((s[k]'hlt).toNat : Int) = 39
            · have d3 : (((s[k]'hlt).toNat : Int) == 39) = true := by simpa using d3'
              have HG := hide (txt_no (s := s) (fun h => by have := h.2 k hlt; unfold goodN at this; have := of_decide_eq_true this; omega))
              clear d3'
              go_wp2
              go_ret
              exact ⟨by rw [HG.out]; rfl, belA _⟩
            · have d3 : (((s[k]'hlt).toNat : Int) == 39) = false := by simpa using d3'
              have HV := hide (show goodN (s[k]'hlt).toNat = true by unfold goodN; exact decide_eq_true ⟨by omega, by omega, by omega⟩)
              clear d3'
              go_wp2
              go_round
              case rel =>
                refine ⟨k + 1, by omega, by go_num, fun j hj h => ?_⟩
                by_cases e : j = k
                · subst e; exact HV.out
                · exact HN.out j hj (by omega)
              case measure => simp [intOf]; omega
      · have hki : ¬ (k : Int) < (s.size : Int) := by omega
        have HG := hide (txt_yes (s := s) ⟨h24, fun j hj => HN.out j hj (by omega)⟩)
        go_wp2
        go_ret
        exact ⟨by rw [HG.out]; rfl, belA _⟩
  · have h24' : ¬ (s.size : Int) ≤ 24 := by omega
    have HG := hide (txt_no (s := s) (fun h => h24 h.1))
    go_enter Tryd.func57, Tryd.ntmps57
    go_wp2
    go_ret
    exact ⟨by rw [HG.out]; rfl, belA _⟩

def inR (n : Int) : Bool := decide (-1000000000000 ≤ n ∧ n ≤ 1000000000000)
def in01 (n : Int) : Bool := decide (n = 0 ∨ n = 1)
set_option maxRecDepth 100000 in
set_option maxHeartbeats 1000000 in
theorem vvalid_int (n : Int) (w : World) :
    Calls Tryd.prog 89 #[.agg #[.int .i64 1, .int .i64 n, .string ⟨#[]⟩]] w fun e w' => e = .returned (.bool (inR n)) ∧ Below w.heap.size w w' := by
  by_cases h1 : -1000000000000 ≤ n
  · by_cases h2 : n ≤ 1000000000000
    · have HG := hide (show inR n = true from decide_eq_true ⟨h1, h2⟩)
      go_enter Tryd.func89, Tryd.ntmps89
      go_wp2
      go_ret
      exact ⟨by rw [HG.out]; rfl, belA _⟩
    · have HG := hide (show inR n = false from decide_eq_false (by omega))
      go_enter Tryd.func89, Tryd.ntmps89
      go_wp2
      go_ret
      exact ⟨by rw [HG.out]; rfl, belA _⟩
  · have HG := hide (show inR n = false from decide_eq_false (by omega))
    go_enter Tryd.func89, Tryd.ntmps89
    go_wp2
    go_ret
    exact ⟨by rw [HG.out]; rfl, belA _⟩
set_option maxRecDepth 100000 in
set_option maxHeartbeats 1000000 in
theorem vvalid_bool (n : Int) (w : World) :
    Calls Tryd.prog 89 #[.agg #[.int .i64 2, .int .i64 n, .string ⟨#[]⟩]] w fun e w' => e = .returned (.bool (in01 n)) ∧ Below w.heap.size w w' := by
  by_cases h1 : n = 0
  · have HG := hide (show in01 n = true from decide_eq_true (.inl h1))
    have h1' : (n == 0) = true := by simpa using h1
    clear h1
    go_enter Tryd.func89, Tryd.ntmps89
    go_wp2
    go_ret
    exact ⟨by rw [HG.out]; rfl, belA _⟩
  · have h1' : (n == 0) = false := by simpa using h1
    by_cases h2 : n = 1
    · have HG := hide (show in01 n = true from decide_eq_true (.inr h2))
      have h2' : (n == 1) = true := by simpa using h2
      clear h2 h1
      go_enter Tryd.func89, Tryd.ntmps89
      go_wp2
      go_ret
      exact ⟨by rw [HG.out]; rfl, belA _⟩
    · have HG := hide (show in01 n = false from decide_eq_false (by omega))
      have h2' : (n == 1) = false := by simpa using h2
      clear h2 h1
      go_enter Tryd.func89, Tryd.ntmps89
      go_wp2
      go_ret
      exact ⟨by rw [HG.out]; rfl, belA _⟩
set_option maxRecDepth 100000 in
set_option maxHeartbeats 1000000 in
theorem vvalid_text (s : ByteArray) (w : World) (hs : s.size ≤ maxLen) :
    Calls Tryd.prog 89 #[.agg #[.int .i64 3, .int .i64 0, .string s]] w fun e w' => e = .returned (.bool (txt s)) ∧ Below w.heap.size w w' := by
  go_enter Tryd.func89, Tryd.ntmps89
  go_wp2_with (go_at_call 98; refine (text_any s _ hs).mono ?_; rintro e w1 ⟨rfl, hb⟩)
  go_ret
  exact ⟨rfl, bel1 hb⟩
end Go.Proofs.YtlkhiihehaiinaaDoor

/- value.Valid, ref01.Valid at any value. -/
namespace Go.Proofs.YtlkhiihehaiinaaDoor
open Go.RowKit

/-- A value is valid. -/
noncomputable def validV (v : V) : Bool := if v.kind = 0 then (v.num == 0) && (v.text.toList == []) else if v.kind = 1 then inR v.num && (v.text.toList == []) else if v.kind = 2 then in01 v.num && (v.text.toList == []) else if v.kind = 3 then (v.num == 0) && txt v.text else false

set_option maxRecDepth 100000 in
set_option maxHeartbeats 2000000 in
theorem vval_0 (n : Int) (s : ByteArray) (w : World) :
    Calls Tryd.prog 89 #[.agg #[.int .i64 0, .int .i64 n, .string s]] w fun e w' => e = .returned (.bool ((n == 0) && (s.toList == []))) ∧ Below w.heap.size w w' := by
  go_enter Tryd.func89, Tryd.ntmps89
  go_wp2
  all_goals go_ret
  all_goals first
    | exact ⟨retb (by simp [*]; try omega), belA _⟩
    | exact ⟨retb (by simp [*]; try omega), belAA _ _⟩
    | exact ⟨retb (by simp [*]; try omega), Below.refl _ _⟩
    | trace_state

set_option maxRecDepth 100000 in
set_option maxHeartbeats 2000000 in
theorem vval_1 (n : Int) (s : ByteArray) (w : World) :
    Calls Tryd.prog 89 #[.agg #[.int .i64 1, .int .i64 n, .string s]] w fun e w' => e = .returned (.bool (inR n && (s.toList == []))) ∧ Below w.heap.size w w' := by
  go_enter Tryd.func89, Tryd.ntmps89
  go_wp2
  all_goals go_ret
  all_goals first
    | exact ⟨retb (by simp [*, inR]; try omega), belA _⟩
    | exact ⟨retb (by simp [*, inR]; try omega), belAA _ _⟩
    | exact ⟨retb (by simp [*, inR]; try omega), Below.refl _ _⟩
    | trace_state

set_option maxRecDepth 100000 in
set_option maxHeartbeats 2000000 in
theorem vval_2 (n : Int) (s : ByteArray) (w : World) :
    Calls Tryd.prog 89 #[.agg #[.int .i64 2, .int .i64 n, .string s]] w fun e w' => e = .returned (.bool (in01 n && (s.toList == []))) ∧ Below w.heap.size w w' := by
  by_cases h0 : n = 0
  · subst h0
    rw [show in01 0 = true from rfl]
    go_enter Tryd.func89, Tryd.ntmps89
    go_wp2
    all_goals go_ret
    all_goals first
      | exact ⟨retb (by simp [*]; try omega), belA _⟩
      | exact ⟨retb (by simp [*]; try omega), belAA _ _⟩
      | exact ⟨retb (by simp [*]; try omega), Below.refl _ _⟩
      | trace_state
  by_cases h1 : n = 1
  · subst h1
    rw [show in01 1 = true from rfl]
    go_enter Tryd.func89, Tryd.ntmps89
    go_wp2
    all_goals go_ret
    all_goals first
      | exact ⟨retb (by simp [*]; try omega), belA _⟩
      | exact ⟨retb (by simp [*]; try omega), belAA _ _⟩
      | exact ⟨retb (by simp [*]; try omega), Below.refl _ _⟩
      | trace_state
  · have b0 : (n == 0) = false := beq_eq_false_iff_ne.2 h0
    have b1 : (n == 1) = false := beq_eq_false_iff_ne.2 h1
    have c0 : (n != 0) = true := bne_iff_ne.2 h0
    have c1 : (n != 1) = true := bne_iff_ne.2 h1
    rw [show in01 n = false from decide_eq_false (by omega)]
    clear h0 h1
    go_enter Tryd.func89, Tryd.ntmps89
    go_wp2
    all_goals go_ret
    all_goals first
      | exact ⟨retb (by simp [*]; try omega), belA _⟩
      | exact ⟨retb (by simp [*]; try omega), belAA _ _⟩
      | exact ⟨retb (by simp [*]; try omega), Below.refl _ _⟩
      | trace_state

set_option maxRecDepth 100000 in
set_option maxHeartbeats 2000000 in
theorem vval_3 (n : Int) (s : ByteArray) (w : World) (hs : s.size ≤ maxLen) :
    Calls Tryd.prog 89 #[.agg #[.int .i64 3, .int .i64 n, .string s]] w fun e w' => e = .returned (.bool ((n == 0) && txt s)) ∧ Below w.heap.size w w' := by
  by_cases h0 : n = 0
  · subst h0
    exact (vvalid_text s w hs).mono fun e w' ⟨h, hb⟩ => ⟨by rw [h]; rfl, hb⟩
  · have b0 : (n == 0) = false := beq_eq_false_iff_ne.2 h0
    have c0 : (n != 0) = true := bne_iff_ne.2 h0
    clear h0
    go_enter Tryd.func89, Tryd.ntmps89
    go_wp2
    all_goals go_ret
    all_goals first
      | exact ⟨retb (by simp [*]; try omega), belA _⟩
      | exact ⟨retb (by simp [*]; try omega), belAA _ _⟩
      | exact ⟨retb (by simp [*]; try omega), Below.refl _ _⟩
      | trace_state

set_option maxRecDepth 100000 in
set_option maxHeartbeats 2000000 in
theorem vval_no (k n : Int) (s : ByteArray) (w : World) (h0 : k ≠ 0) (h1 : k ≠ 1) (h2 : k ≠ 2) (h3 : k ≠ 3) :
    Calls Tryd.prog 89 #[.agg #[.int .i64 k, .int .i64 n, .string s]] w fun e w' => e = .returned (.bool false) ∧ Below w.heap.size w w' := by
  have b0 : (k == 0) = false := beq_eq_false_iff_ne.2 h0
  have b1 : (k == 1) = false := beq_eq_false_iff_ne.2 h1
  have b2 : (k == 2) = false := beq_eq_false_iff_ne.2 h2
  have b3 : (k == 3) = false := beq_eq_false_iff_ne.2 h3
  go_enter Tryd.func89, Tryd.ntmps89
  go_wp2
  all_goals go_ret
  all_goals first
    | exact ⟨retb (by simp [*]; try omega), belA _⟩
    | exact ⟨retb (by simp [*]; try omega), belAA _ _⟩
    | exact ⟨retb (by simp [*]; try omega), Below.refl _ _⟩
    | trace_state

theorem vval_any (v : V) (hv : v.wf) (w : World) :
    Calls Tryd.prog 89 #[.agg #[.int .i64 v.kind, .int .i64 v.num, .string v.text]] w fun e w' => e = .returned (.bool (validV v)) ∧ Below w.heap.size w w' := by
  obtain ⟨k, n, s⟩ := v
  have hs : s.size ≤ maxLen := hv.2.2
  by_cases h0 : k = 0
  · subst h0; exact vval_0 n s w
  by_cases h1 : k = 1
  · subst h1; exact vval_1 n s w
  by_cases h2 : k = 2
  · subst h2; exact vval_2 n s w
  by_cases h3 : k = 3
  · subst h3; exact vval_3 n s w hs
  · have e : validV ⟨k, n, s⟩ = false := by unfold validV; rw [if_neg h0, if_neg h1, if_neg h2, if_neg h3]
    rw [e]
    exact vval_no k n s w h0 h1 h2 h3

set_option maxRecDepth 100000 in
set_option maxHeartbeats 2000000 in
theorem rval_0 (n : Int) (s : ByteArray) (w : World) :
    Calls Tryd.prog 57 #[.agg #[.int .i64 0, .int .i64 n, .string s]] w fun e w' => e = .returned (.bool ((n == 0) && (s.toList == []))) ∧ Below w.heap.size w w' := by
  go_enter Tryd.func57, Tryd.ntmps57
  go_wp2
  all_goals go_ret
  all_goals first
    | exact ⟨retb (by simp [*]; try omega), belA _⟩
    | exact ⟨retb (by simp [*]; try omega), belAA _ _⟩
    | exact ⟨retb (by simp [*]; try omega), Below.refl _ _⟩
    | trace_state

set_option maxRecDepth 100000 in
set_option maxHeartbeats 2000000 in
theorem rval_1 (n : Int) (s : ByteArray) (w : World) :
    Calls Tryd.prog 57 #[.agg #[.int .i64 1, .int .i64 n, .string s]] w fun e w' => e = .returned (.bool (inR n && (s.toList == []))) ∧ Below w.heap.size w w' := by
  go_enter Tryd.func57, Tryd.ntmps57
  go_wp2
  all_goals go_ret
  all_goals first
    | exact ⟨retb (by simp [*, inR]; try omega), belA _⟩
    | exact ⟨retb (by simp [*, inR]; try omega), belAA _ _⟩
    | exact ⟨retb (by simp [*, inR]; try omega), Below.refl _ _⟩
    | trace_state

set_option maxRecDepth 100000 in
set_option maxHeartbeats 2000000 in
theorem rval_2 (n : Int) (s : ByteArray) (w : World) :
    Calls Tryd.prog 57 #[.agg #[.int .i64 2, .int .i64 n, .string s]] w fun e w' => e = .returned (.bool (in01 n && (s.toList == []))) ∧ Below w.heap.size w w' := by
  by_cases h0 : n = 0
  · subst h0
    rw [show in01 0 = true from rfl]
    go_enter Tryd.func57, Tryd.ntmps57
    go_wp2
    all_goals go_ret
    all_goals first
      | exact ⟨retb (by simp [*]; try omega), belA _⟩
      | exact ⟨retb (by simp [*]; try omega), belAA _ _⟩
      | exact ⟨retb (by simp [*]; try omega), Below.refl _ _⟩
      | trace_state
  by_cases h1 : n = 1
  · subst h1
    rw [show in01 1 = true from rfl]
    go_enter Tryd.func57, Tryd.ntmps57
    go_wp2
    all_goals go_ret
    all_goals first
      | exact ⟨retb (by simp [*]; try omega), belA _⟩
      | exact ⟨retb (by simp [*]; try omega), belAA _ _⟩
      | exact ⟨retb (by simp [*]; try omega), Below.refl _ _⟩
      | trace_state
  · have b0 : (n == 0) = false := beq_eq_false_iff_ne.2 h0
    have b1 : (n == 1) = false := beq_eq_false_iff_ne.2 h1
    have c0 : (n != 0) = true := bne_iff_ne.2 h0
    have c1 : (n != 1) = true := bne_iff_ne.2 h1
    rw [show in01 n = false from decide_eq_false (by omega)]
    clear h0 h1
    go_enter Tryd.func57, Tryd.ntmps57
    go_wp2
    all_goals go_ret
    all_goals first
      | exact ⟨retb (by simp [*]; try omega), belA _⟩
      | exact ⟨retb (by simp [*]; try omega), belAA _ _⟩
      | exact ⟨retb (by simp [*]; try omega), Below.refl _ _⟩
      | trace_state

set_option maxRecDepth 100000 in
set_option maxHeartbeats 2000000 in
theorem rval_3 (n : Int) (s : ByteArray) (w : World) (hs : s.size ≤ maxLen) :
    Calls Tryd.prog 57 #[.agg #[.int .i64 3, .int .i64 n, .string s]] w fun e w' => e = .returned (.bool ((n == 0) && txt s)) ∧ Below w.heap.size w w' := by
  by_cases h0 : n = 0
  · subst h0
    exact (rvalid_text s w hs).mono fun e w' ⟨h, hb⟩ => ⟨by rw [h]; rfl, hb⟩
  · have b0 : (n == 0) = false := beq_eq_false_iff_ne.2 h0
    have c0 : (n != 0) = true := bne_iff_ne.2 h0
    clear h0
    go_enter Tryd.func57, Tryd.ntmps57
    go_wp2
    all_goals go_ret
    all_goals first
      | exact ⟨retb (by simp [*]; try omega), belA _⟩
      | exact ⟨retb (by simp [*]; try omega), belAA _ _⟩
      | exact ⟨retb (by simp [*]; try omega), Below.refl _ _⟩
      | trace_state

set_option maxRecDepth 100000 in
set_option maxHeartbeats 2000000 in
theorem rval_no (k n : Int) (s : ByteArray) (w : World) (h0 : k ≠ 0) (h1 : k ≠ 1) (h2 : k ≠ 2) (h3 : k ≠ 3) :
    Calls Tryd.prog 57 #[.agg #[.int .i64 k, .int .i64 n, .string s]] w fun e w' => e = .returned (.bool false) ∧ Below w.heap.size w w' := by
  have b0 : (k == 0) = false := beq_eq_false_iff_ne.2 h0
  have b1 : (k == 1) = false := beq_eq_false_iff_ne.2 h1
  have b2 : (k == 2) = false := beq_eq_false_iff_ne.2 h2
  have b3 : (k == 3) = false := beq_eq_false_iff_ne.2 h3
  go_enter Tryd.func57, Tryd.ntmps57
  go_wp2
  all_goals go_ret
  all_goals first
    | exact ⟨retb (by simp [*]; try omega), belA _⟩
    | exact ⟨retb (by simp [*]; try omega), belAA _ _⟩
    | exact ⟨retb (by simp [*]; try omega), Below.refl _ _⟩
    | trace_state

theorem rval_any (v : V) (hv : v.wf) (w : World) :
    Calls Tryd.prog 57 #[.agg #[.int .i64 v.kind, .int .i64 v.num, .string v.text]] w fun e w' => e = .returned (.bool (validV v)) ∧ Below w.heap.size w w' := by
  obtain ⟨k, n, s⟩ := v
  have hs : s.size ≤ maxLen := hv.2.2
  by_cases h0 : k = 0
  · subst h0; exact rval_0 n s w
  by_cases h1 : k = 1
  · subst h1; exact rval_1 n s w
  by_cases h2 : k = 2
  · subst h2; exact rval_2 n s w
  by_cases h3 : k = 3
  · subst h3; exact rval_3 n s w hs
  · have e : validV ⟨k, n, s⟩ = false := by unfold validV; rw [if_neg h0, if_neg h1, if_neg h2, if_neg h3]
    rw [e]
    exact rval_no k n s w h0 h1 h2 h3

end Go.Proofs.YtlkhiihehaiinaaDoor

/- A block that is just these cells. -/
namespace Go.Proofs.YtlkhiihehaiinaaDoor
open Go.RowKit

/-- Block g is just these cells. -/
def Box (w : World) (g : Nat) (cs : Array Value) (T : TypeId) : Prop := w.heap[g]? = some (.cells cs T (0, 0))
theorem Box.new (w : World) (cs : Array Value) (T : TypeId) : Box (w.alloc (.cells cs T)) w.heap.size cs T := heap_alloc_new w _
theorem Box.lt {w : World} {g : Nat} {cs : Array Value} {T : TypeId} (h : Box w g cs T) : g < w.heap.size := (Array.getElem?_eq_some_iff.1 h).1
theorem Box.cell {w : World} {g : Nat} {cs : Array Value} {T : TypeId} (h : Box w g cs T) {j : Nat} {v : Value} (hv : cs[j]? = some v) : w.cell? ⟨g, j, none⟩ = some v := by
  rw [cell_of_row w g j cs T (0, 0) h]; exact hv
theorem Box.fr {w : World} {g : Nat} {cs : Array Value} {T : TypeId} (h : Box w g cs T) (j : Nat) : w.frozen? ⟨g, j, none⟩ = false := by
  unfold Box at h
  simp [World.frozen?, h]
theorem Box.below {w w' : World} {g : Nat} {cs : Array Value} {T : TypeId} (h : Box w g cs T) (hb : Below w.heap.size w w') : Box w' g cs T := (hb.block g h.lt).trans h
theorem Box.grown {w w' : World} {g : Nat} {cs : Array Value} {T : TypeId} {row : Option Nat} (h : Box w g cs T) (hb : w.grownBy w' row) (hne : some g ≠ row) : Box w' g cs T := (hb.block g h.lt hne).trans h
theorem gb_set (w : World) (g j : Nat) (u : Value) : w.grownBy (w.setCell ⟨g, j, none⟩ u) (some g) := ⟨rfl, rfl, rfl, by simp [World.setCell], fun i _ hi => Below.heap_setCell _ _ _ _ (fun e => hi (by rw [e]))⟩
theorem gb_then {a b c : World} {r : Option Nat} {g : Nat} (h : a.grownBy b r) (k : b.grownBy c (some g)) (hg : a.heap.size ≤ g) : a.grownBy c r := h.andThen k (fun j e => .inl (by cases e; exact hg))
theorem only_below {a w : World} (h : Below a.heap.size a w) (row : Option Nat) : a.grownBy w row := ⟨h.os, h.tape, h.output, h.size, fun i hi _ => h.block i hi⟩

theorem Box.set {w : World} {g : Nat} {cs : Array Value} {T : TypeId} (h : Box w g cs T) (j : Nat) (v : Value) : Box (w.setCell ⟨g, j, none⟩ v) g (cs.setIfInBounds j v) T := heap_setCell_same w g j cs T v h
theorem Box.ne {z : World} {g g' : Nat} {cs cs' : Array Value} {T T' : TypeId} (h : Box z g cs T) (h' : Box z g' cs' T') (hne : T ≠ T') : g ≠ g' := by
  rintro rfl
  unfold Box at h h'
  rw [h] at h'
  injection h' with h'
  injection h' with _ h2
  exact hne h2
theorem box2 {w w1 : World} {c d : Array Value} {T U : TypeId} (hb : Below ((w.alloc (.cells c T)).alloc (.cells d U)).heap.size ((w.alloc (.cells c T)).alloc (.cells d U)) w1) : Box w1 (w.heap.size + 1) d U := by
  have := (Box.new (w.alloc (.cells c T)) d U).below hb
  simpa only [World.size_alloc] using this
theorem bel_set {w w1 : World} {c d : Array Value} {T U : TypeId} {j : Nat} {v : Value} (hb : Below ((w.alloc (.cells c T)).alloc (.cells d U)).heap.size ((w.alloc (.cells c T)).alloc (.cells d U)) w1) : Below w.heap.size w (w1.setCell ⟨w.heap.size + 1, j, none⟩ v) :=
  (bel2 hb).grown (gb_set _ _ _ _) (bel2 hb).size (fun k hk => by injection hk with hk; omega)
theorem box1 {w w1 : World} {c d : Array Value} {T U : TypeId} (hb : Below ((w.alloc (.cells c T)).alloc (.cells d U)).heap.size ((w.alloc (.cells c T)).alloc (.cells d U)) w1) : Box w1 w.heap.size c T :=
  ((Box.new w c T).below (belA _)).below hb
theorem set4 (w : World) (g : Nat) (a b c d : Value) : w.grownBy ((((w.setCell ⟨g, 0, none⟩ a).setCell ⟨g, 1, none⟩ b).setCell ⟨g, 2, none⟩ c).setCell ⟨g, 3, none⟩ d) (some g) :=
  ((gb_set _ _ _ _).trans (gb_set _ _ _ _)).trans (gb_set _ _ _ _) |>.trans (gb_set _ _ _ _)
theorem boxs4 {w : World} {g : Nat} {T : TypeId} {p q r s : Value} (h : Box w g #[p, q, r, s] T) (a b c d : Value) : Box ((((w.setCell ⟨g, 0, none⟩ a).setCell ⟨g, 1, none⟩ b).setCell ⟨g, 2, none⟩ c).setCell ⟨g, 3, none⟩ d) g #[a, b, c, d] T := by
  have := (((h.set 0 a).set 1 b).set 2 c).set 3 d
  simpa only [List.setIfInBounds_toArray, List.set_cons_zero, List.set_cons_succ] using this
end Go.Proofs.YtlkhiihehaiinaaDoor

/- Values, plainly: what the functions of package value answer. And value.Truth, Bool, truth, Same, Equal, Not, And, Or. -/
namespace Go.Proofs.YtlkhiihehaiinaaDoor
open Go.RowKit

def nulV : V := ⟨0, 0, ⟨#[]⟩⟩
def bV (b : Bool) : V := ⟨2, if b then 1 else 0, ⟨#[]⟩⟩
def boolV (n : Int) : V := if n = 0 ∨ n = 1 then ⟨2, n, ⟨#[]⟩⟩ else nulV
def truV (a : V) : Int := if a.kind = 2 then (if a.num = 1 then 1 else 0) else 2
def sameB (a b : V) : Bool := (a.kind == b.kind) && (a.num == b.num) && (a.text.toList == b.text.toList)
def eqV (a b : V) : V := if a.kind = 0 ∨ b.kind = 0 then nulV else bV (sameB a b)
def cmpS (s t : ByteArray) : Int := if Op.bytesLess s.toList t.toList then -1 else if s.toList == t.toList then 0 else 1
def cmpI (s t : Int) : Int := if s < t then -1 else if t < s then 1 else 0
def cmpV (a b : V) : Int := if cmpI a.kind b.kind ≠ 0 then cmpI a.kind b.kind else if cmpI a.num b.num ≠ 0 then cmpI a.num b.num else cmpS a.text b.text
def lessV (a b : V) : V := if a.kind = 0 ∨ b.kind = 0 then nulV else bV (decide (cmpV a b < 0))
def notV (a : V) : V := if truV a = 2 then nulV else bV (truV a == 0)
def andV (a b : V) : V := if truV a = 0 ∨ truV b = 0 then bV false else if truV a = 2 ∨ truV b = 2 then nulV else bV true
def orV (a b : V) : V := if truV a = 1 ∨ truV b = 1 then bV true else if truV a = 2 ∨ truV b = 2 then nulV else bV false
def numV (n : Int) : V := ⟨1, n, ⟨#[]⟩⟩
def txtV (s : ByteArray) : V := ⟨3, 0, s⟩

theorem truV_cases (a : V) : truV a = 0 ∨ truV a = 1 ∨ truV a = 2 := by
  unfold truV
  by_cases h : a.kind = 2
  · rw [if_pos h]; by_cases h1 : a.num = 1 <;> simp [h1]
  · rw [if_neg h]; simp

/-- value.null holds the null. -/
def NulAt (w : World) : Prop := w.cell? ⟨2, 0, none⟩ = some (.int .i64 0) ∧ w.cell? ⟨2, 1, none⟩ = some (.int .i64 0) ∧ w.cell? ⟨2, 2, none⟩ = some (.string ⟨#[]⟩)
theorem NulAt.lt {w : World} (h : NulAt w) : 2 < w.heap.size := World.block_lt_of_cell? w ⟨2, 0, none⟩ h.1
theorem NulAt.mono {w w' : World} (h : NulAt w) (hb : Below w.heap.size w w') : NulAt w' :=
  ⟨by rw [hb.cell (p := ⟨2, 0, none⟩) h.lt]; exact h.1, by rw [hb.cell (p := ⟨2, 1, none⟩) h.lt]; exact h.2.1, by rw [hb.cell (p := ⟨2, 2, none⟩) h.lt]; exact h.2.2⟩

set_option maxRecDepth 100000 in
theorem vtru_any (a : V) (w : World) : Calls Tryd.prog 70 #[.agg #[.int .i64 a.kind, .int .i64 a.num, .string a.text]] w fun e w' => e = .returned (.int .i64 (truV a)) ∧ Below w.heap.size w w' := by
  obtain ⟨k, n, s⟩ := a
  by_cases hk : k = 2
  · subst hk
    by_cases hn : n = 1
    · subst hn
      go_enter Tryd.func70, Tryd.ntmps70
      go_wp2
      go_ret
      exact ⟨rfl, belA _⟩
    · have hb : (n == 1) = false := beq_eq_false_iff_ne.2 hn
      have hr : truV ⟨2, n, s⟩ = 0 := by unfold truV; rw [if_pos rfl, if_neg hn]
      rw [hr]
      clear hn
      go_enter Tryd.func70, Tryd.ntmps70
      go_wp2
      go_ret
      exact ⟨rfl, belA _⟩
  · have hb : (k != 2) = true := bne_iff_ne.2 hk
    have hr : truV ⟨k, n, s⟩ = 2 := by unfold truV; rw [if_neg hk]
    rw [hr]
    clear hk
    go_enter Tryd.func70, Tryd.ntmps70
    go_wp2
    go_ret
    exact ⟨rfl, belA _⟩

set_option maxRecDepth 100000 in
theorem vbool_any (n : Int) (w : World) (hw : NulAt w) : Calls Tryd.prog 88 #[.int .i64 n] w fun e w' => e = .returned (.agg #[.int .i64 (boolV n).kind, .int .i64 (boolV n).num, .string (boolV n).text]) ∧ Below w.heap.size w w' := by
  obtain ⟨n0, n1, n2⟩ := hw.mono (belA (.cells #[.int .i64 0, .int .i64 0, .string ⟨#[]⟩] 24))
  by_cases h0 : n = 0
  · subst h0
    go_enter Tryd.func88, Tryd.ntmps88
    go_wp2
    exact bodyPost_ret (v := .agg #[.int .i64 2, .int .i64 0, .string ⟨#[]⟩]) (by simp [results, Tryd.results88, go_sem]) rfl ⟨rfl, belA _⟩
  by_cases h1 : n = 1
  · subst h1
    go_enter Tryd.func88, Tryd.ntmps88
    go_wp2
    exact bodyPost_ret (v := .agg #[.int .i64 2, .int .i64 1, .string ⟨#[]⟩]) (by simp [results, Tryd.results88, go_sem]) rfl ⟨rfl, belA _⟩
  · have hr : boolV n = nulV := by unfold boolV; rw [if_neg (by omega)]
    rw [hr]
    have b0 : (n != 0) = true := bne_iff_ne.2 h0
    have b1 : (n != 1) = true := bne_iff_ne.2 h1
    clear h0 h1
    go_enter Tryd.func88, Tryd.ntmps88
    go_wp2
    exact bodyPost_ret (v := .agg #[.int .i64 0, .int .i64 0, .string ⟨#[]⟩]) (by simp [results, Tryd.results88, go_sem]) rfl ⟨rfl, belA _⟩

theorem set3 (w : World) (g : Nat) (a b c : Value) : w.grownBy (((w.setCell ⟨g, 0, none⟩ a).setCell ⟨g, 1, none⟩ b).setCell ⟨g, 2, none⟩ c) (some g) := ((gb_set _ _ _ _).trans (gb_set _ _ _ _)).trans (gb_set _ _ _ _)
theorem belset3 {n₀ : Nat} {w x : World} (h : Below n₀ w x) (hn : n₀ ≤ w.heap.size) {g : Nat} (hg : n₀ ≤ g) (a b c : Value) : Below n₀ w (((x.setCell ⟨g, 0, none⟩ a).setCell ⟨g, 1, none⟩ b).setCell ⟨g, 2, none⟩ c) :=
  h.grown (set3 _ _ _ _ _) (Nat.le_trans hn h.size) (fun k hk => by injection hk with hk; omega)
theorem boxes2 {w x : World} {c0 c1 : Array Value} {T U : TypeId} (hb : Below ((w.alloc (.cells c0 T)).alloc (.cells c1 U)).heap.size ((w.alloc (.cells c0 T)).alloc (.cells c1 U)) x) : Box x w.heap.size c0 T ∧ Box x (w.heap.size + 1) c1 U ∧ Below w.heap.size w x :=
  ⟨box1 hb, box2 hb, bel2 hb⟩
theorem boxes3 {w x : World} {c0 c1 c2 : Array Value} {T U V : TypeId} (hb : Below (((w.alloc (.cells c0 T)).alloc (.cells c1 U)).alloc (.cells c2 V)).heap.size (((w.alloc (.cells c0 T)).alloc (.cells c1 U)).alloc (.cells c2 V)) x) : Box x w.heap.size c0 T ∧ Box x (w.heap.size + 1) c1 U ∧ Box x (w.heap.size + 2) c2 V ∧ Below w.heap.size w x := by
  have h1 : Below ((w.alloc (.cells c0 T)).alloc (.cells c1 U)).heap.size ((w.alloc (.cells c0 T)).alloc (.cells c1 U)) x := bel_trans (belA _) hb
  refine ⟨box1 h1, box2 h1, ?_, bel3 hb⟩
  have := (Box.new ((w.alloc (.cells c0 T)).alloc (.cells c1 U)) c2 V).below hb
  simpa only [World.size_alloc] using this

set_option maxRecDepth 100000 in
theorem vsame_any (a b : V) (w : World) : Calls Tryd.prog 85 #[.agg #[.int .i64 a.kind, .int .i64 a.num, .string a.text], .agg #[.int .i64 b.kind, .int .i64 b.num, .string b.text]] w fun e w' => e = .returned (.bool (sameB a b)) ∧ Below w.heap.size w w' := by
  go_enter Tryd.func85, Tryd.ntmps85
  go_wp2
  all_goals go_ret
  all_goals exact ⟨retb (by unfold sameB; simp [*]), belAA _ _⟩

set_option maxRecDepth 100000 in
theorem vtruth_any (b : Bool) (w : World) (hw : NulAt w) : Calls Tryd.prog 96 #[.bool b] w fun e w' => e = .returned (.agg #[.int .i64 (bV b).kind, .int .i64 (bV b).num, .string (bV b).text]) ∧ Below w.heap.size w w' := by
  have HW := hide (hw.mono (belA (.cells #[.int .i64 0, .int .i64 0, .string ⟨#[]⟩] 24)))
  clear hw
  cases b
  · go_enter Tryd.func96, Tryd.ntmps96
    go_wp2_with (go_at_call 88; refine (vbool_any 0 _ HW.out).mono ?_; rintro e x ⟨rfl, hb⟩; have HB := hide hb; have hx := ((Box.new _ _ _).below hb); have e0 := hx.cell (j := 0) rfl; have e1 := hx.cell (j := 1) rfl; have e2 := hx.cell (j := 2) rfl; have f0 := hx.fr 0; have f1 := hx.fr 1; have f2 := hx.fr 2; clear hx hb)
    exact bodyPost_ret (v := .agg #[.int .i64 (boolV 0).kind, .int .i64 (boolV 0).num, .string (boolV 0).text]) (by simp [results, Tryd.results96, go_sem, e0, e1, e2]) rfl ⟨rfl, belset3 (bel1 HB.out) (Nat.le_refl _) (Nat.le_refl _) _ _ _⟩
  · go_enter Tryd.func96, Tryd.ntmps96
    go_wp2_with (go_at_call 88; refine (vbool_any 1 _ HW.out).mono ?_; rintro e x ⟨rfl, hb⟩; have HB := hide hb; have hx := ((Box.new _ _ _).below hb); have e0 := hx.cell (j := 0) rfl; have e1 := hx.cell (j := 1) rfl; have e2 := hx.cell (j := 2) rfl; have f0 := hx.fr 0; have f1 := hx.fr 1; have f2 := hx.fr 2; clear hx hb)
    exact bodyPost_ret (v := .agg #[.int .i64 (boolV 1).kind, .int .i64 (boolV 1).num, .string (boolV 1).text]) (by simp [results, Tryd.results96, go_sem, e0, e1, e2]) rfl ⟨rfl, belset3 (bel1 HB.out) (Nat.le_refl _) (Nat.le_refl _) _ _ _⟩

theorem kind_b {a : Int} (h : a ≠ 0) : (a == 0) = false := beq_eq_false_iff_ne.2 h
end Go.Proofs.YtlkhiihehaiinaaDoor

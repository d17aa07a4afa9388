/- value.text, value.Valid, ref01.Valid: which texts and values are permitted. -/
import Derived.Test.YtlkhiihehaiinaaDoorData
import Derived.Test.YtlkhiihehaiinaaDoorKit
import Derived.Lib.OthersKept
import Derived.Lib.TrimU
import Derived.Deep.LoopGhost
namespace Go.Proofs.YtlkhiihehaiinaaDoor
open Go.RowKit

def goodN (b : Nat) : Bool := decide (32 ≤ b ∧ b ≤ 126 ∧ b ≠ 39)
/-- A text of letters that are permitted. -/
def TxtAll (s : ByteArray) : Prop := ∀ j (h : j < s.size), goodN (s[j]'h).toNat = true
def TxtOk (s : ByteArray) : Prop := s.size ≤ 24 ∧ TxtAll s
open Classical in
noncomputable def txt (s : ByteArray) : Bool := decide (TxtOk s)
open Classical in
theorem txt_yes {s : ByteArray} (h : TxtOk s) : txt s = true := by unfold txt; exact decide_eq_true h
open Classical in
theorem txt_no {s : ByteArray} (h : ¬ TxtOk s) : txt s = false := by unfold txt; exact decide_eq_false h

theorem goodN_low (n b0 b1 b2 b3 : Nat) : goodN (Lib.decodeN n b0 b1 b2 b3).1 = goodN b0 ∧ (goodN b0 = true → (Lib.decodeN n b0 b1 b2 b3).2 = 1) := by
  by_cases h : b0 < 128
  · simp [Lib.decodeN, h]
  · have hb : goodN b0 = false := by unfold goodN; exact decide_eq_false (by omega)
    have hr : 128 ≤ (Lib.decodeN n b0 b1 b2 b3).1 := by
      unfold Lib.decodeN
      rw [if_neg h]
      repeat' split
      all_goals first | omega | (show 128 ≤ 65533; omega) | (simp only; omega)
    refine ⟨?_, fun h' => by rw [hb] at h'; cases h'⟩
    rw [hb]; unfold goodN; exact decide_eq_false (by omega)
theorem dec_good (s : ByteArray) (pos : Nat) (h : pos < s.size) : goodN (Utf8.decode s pos).1 = goodN (s[pos]'h).toNat ∧ (goodN (s[pos]'h).toNat = true → (Utf8.decode s pos).2 = 1) := by
  have hg : s.get! pos = s[pos]'h := by
    show s.data[pos]! = s.data[pos]'h
    exact getElem!_pos s.data pos h
  rw [Lib.decode_at, hg]
  exact goodN_low _ _ _ _ _

set_option maxHeartbeats 400000 in
theorem txclo_any (r : Nat) (hr : r ≤ 1114111) (w : World) :
    Calls Tryd.prog 109 #[.int .i32 (r : Int)] w fun e w' => e = .returned (.bool (!goodN r)) ∧ Below w.heap.size w w' := by
  by_cases h1 : r < 32
  · have h1' : (r : Int) < 32 := by omega
    have HG := hide (show goodN r = false by unfold goodN; exact decide_eq_false (by omega))
    go_enter Tryd.func109, Tryd.ntmps109
    go_wp2
    go_ret
    exact ⟨by rw [HG.out]; rfl, Below.refl _ _⟩
  · have h1' : ¬ (r : Int) < 32 := by omega
    by_cases h2 : 126 < r
    · have h2' : 126 < (r : Int) := by omega
      have HG := hide (show goodN r = false by unfold goodN; exact decide_eq_false (by omega))
      go_enter Tryd.func109, Tryd.ntmps109
      go_wp2
      go_ret
      exact ⟨by rw [HG.out]; rfl, Below.refl _ _⟩
    · have h2' : ¬ 126 < (r : Int) := by omega
      by_cases h3 : r = 39
      · subst h3
        go_enter Tryd.func109, Tryd.ntmps109
        go_wp2
        go_ret
        exact ⟨rfl, Below.refl _ _⟩
      · have h3' : ((r : Int) == 39) = false := by simp; omega
        have HG := hide (show goodN r = true by unfold goodN; exact decide_eq_true (by omega))
        go_enter Tryd.func109, Tryd.ntmps109
        go_wp2
        go_ret
        exact ⟨by rw [HG.out]; rfl, Below.refl _ _⟩

set_option maxHeartbeats 2000000 in
set_option maxRecDepth 1000000 in
theorem tindex_txt (s : ByteArray) (w : World) (hs : s.size ≤ 24) :
    Calls Tryd.prog 115 #[.string s, .func (.func 109) #[] #[], .bool true] w fun e w' => (∃ i : Int, e = .returned (.int .i64 i) ∧ ((0 ≤ i ∧ ¬ TxtAll s) ∨ (i = -1 ∧ TxtAll s))) ∧ Below w.heap.size w w' := by
  go_enter Tryd.func115, Tryd.ntmps115
  go_wp2
  go_loopg [] s.size (fun g wx => ∃ pos : Nat, wx.heap[w.heap.size]? = some (.stringIter s pos) ∧ Below w.heap.size w wx ∧ Hid (∀ j (h : j < s.size), j < pos → goodN (s[j]'h).toNat = true) ∧ pos ≤ s.size ∧ s.size ≤ pos + g)
  case atStart => exact ⟨0, World.iter_heap w s 0, (Below.refl _ w).alloc (Nat.le_refl _) _, fun j _ h => absurd h (by omega), by omega, by omega⟩
  case round =>
    obtain ⟨pos, hit, hbw, HG, hps, hfu⟩ := hrel
    have hsz : w.heap.size < wr.heap.size := (Array.getElem?_eq_some_iff.1 hit).1
    by_cases hp : pos < s.size
    · obtain ⟨g, rfl⟩ : ∃ g, gk = g + 1 := ⟨gk - 1, by omega⟩
      have hnx : ∀ ty, (Instr.next (.pointer (some ⟨w.heap.size, 0, none⟩)) true ty).run Tryd.prog wr = _ := fun ty => Lib.run_next_any_at wr w.heap.size s pos ty hit hp
      have hr1 := Lib.rune_le s pos
      have HD := hide (dec_good s pos hp)
      have HP := hide hp
      obtain ⟨R, hR⟩ : ∃ R, (Utf8.decode s pos).1 = R := ⟨_, rfl⟩
      obtain ⟨K, hK⟩ : ∃ K, (Utf8.decode s pos).2 = K := ⟨_, rfl⟩
      rw [hR, hK] at hnx
      rw [hR] at hr1
      rw [hR, hK] at HD
      have hit2 := Lib.iterAt_heap wr w.heap.size s pos (pos + K) hit
      have hbw2 := Lib.below_iterAt hbw (k := w.heap.size) (Nat.le_refl _) s (pos + K)
      obtain ⟨W, hWd⟩ : ∃ W, wr.iterAt w.heap.size s (pos + K) = W := ⟨_, rfl⟩
      rw [hWd] at hnx hit2 hbw2
      have hWs : w.heap.size < W.heap.size := (Array.getElem?_eq_some_iff.1 hit2).1
      have HC := hide (txclo_any R hr1 W)
      cases hgd : goodN R with
      | true =>
        rw [hgd] at HC
        go_wp2_with (go_at_call 109; refine HC.out.mono ?_; rintro e W' ⟨rfl, hb⟩)
        have HB := hide hb
        have hk1 : K = 1 := HD.out.2 (HD.out.1 ▸ hgd)
        go_roundg g
        case measure => omega
        case rel =>
          refine ⟨pos + K, (HB.out.block w.heap.size hWs).trans hit2, hbw2.trans (HB.out.mono (by omega)), fun j hj h => ?_, by omega, by omega⟩
          by_cases e : j = pos
          · subst e; rw [← HD.out.1]; exact hgd
          · exact HG.out j hj (by omega)
      | false =>
        rw [hgd] at HC
        go_wp2_with (go_at_call 109; refine HC.out.mono ?_; rintro e W' ⟨rfl, hb⟩)
        go_ret
        refine ⟨⟨pos, rfl, .inl ⟨by omega, fun h => ?_⟩⟩, hbw2.trans (hb.mono (by omega))⟩
        have := h pos HP.out
        rw [← HD.out.1, hgd] at this
        cases this
    · have hnx : ∀ ty, (Instr.next (.pointer (some ⟨w.heap.size, 0, none⟩)) true ty).run Tryd.prog wr = _ := fun ty => Lib.run_next_end_at wr w.heap.size s pos ty hit hp
      go_wp2
      go_ret
      exact ⟨⟨-1, rfl, .inr ⟨rfl, fun j hj => HG.out j hj (by omega)⟩⟩, hbw⟩

set_option maxHeartbeats 400000 in
theorem ifunc_txt (s : ByteArray) (w : World) (hs : s.size ≤ 24) :
    Calls Tryd.prog 108 #[.string s, .func (.func 109) #[] #[]] w fun e w' => (∃ i : Int, e = .returned (.int .i64 i) ∧ ((0 ≤ i ∧ ¬ TxtAll s) ∨ (i = -1 ∧ TxtAll s))) ∧ Below w.heap.size w w' := by
  go_enter Tryd.func108, Tryd.ntmps108
  go_wp2_with (go_at_call 115; refine (tindex_txt s _ hs).mono ?_; rintro e w1 ⟨⟨i, rfl, hi⟩, hb⟩; have HI := hide hi; clear hi)
  go_ret
  exact ⟨⟨i, rfl, HI.out⟩, hb⟩

set_option maxHeartbeats 400000 in
theorem text_any (s : ByteArray) (w : World) (hs : s.size ≤ maxLen) :
    Calls Tryd.prog 98 #[.string s] w fun e w' => e = .returned (.bool (txt s)) ∧ Below w.heap.size w w' := by
  unfold maxLen at hs
  by_cases h24 : s.size ≤ 24
  · have h24' : (s.size : Int) ≤ 24 := by omega
    go_enter Tryd.func98, Tryd.ntmps98
    go_wp2_with (go_at_call 108; refine (ifunc_txt s _ h24).mono ?_; rintro e w1 ⟨⟨i, rfl, hi⟩, hb⟩; have HI := hide hi; clear hi)
    go_ret
    refine ⟨?_, hb⟩
    rcases HI.out with ⟨h0, hn⟩ | ⟨rfl, hy⟩
    · rw [txt_no (fun h => hn h.2)]; simp; omega
    · rw [txt_yes ⟨h24, hy⟩]; simp
  · have h24' : ¬ (s.size : Int) ≤ 24 := by omega
    have HG := hide (txt_no (s := s) (fun h => h24 h.1))
    go_enter Tryd.func98, Tryd.ntmps98
    go_wp2
    go_ret
    exact ⟨by rw [HG.out]; rfl, Below.refl _ _⟩

set_option maxRecDepth 100000 in
set_option maxHeartbeats 1000000 in
/-- ref01.Valid at a text. -/
theorem rvalid_text (s : ByteArray) (w : World) (hs : s.size ≤ maxLen) :
    Calls Tryd.prog 57 #[.agg #[.int .i64 3, .int .i64 0, .string s]] w fun e w' => e = .returned (.bool (txt s)) ∧ Below w.heap.size w w' := by
  unfold maxLen at hs
  by_cases h24 : s.size ≤ 24
  · have h24' : (s.size : Int) ≤ 24 := by omega
    go_enter Tryd.func57, Tryd.ntmps57
    go_wp2
    go_loop [3] (fun i => ∃ k : Nat, k ≤ s.size ∧ i = .int .i64 k ∧ ∀ j (h : j < s.size), j < k → goodN (s[j]'h).toNat = true) (fun i => s.size - (intOf i).toNat)
    case atStart => exact ⟨0, Nat.zero_le _, rfl, fun j _ h => absurd h (by omega)⟩
    case round =>
      obtain ⟨k, hk, rfl, hno⟩ := hrel
      have HN := hide hno
      clear hno
      by_cases hlt : k < s.size
      · have hki : (k : Int) < (s.size : Int) := by omega
        by_cases d1 : ((s[k]'hlt).toNat : Int) < 32
        · have HG := hide (txt_no (s := s) (fun h => by have := h.2 k hlt; unfold goodN at this; have := of_decide_eq_true this; omega))
          go_wp2
          go_ret
          exact ⟨by rw [HG.out]; rfl, belA _⟩
        · by_cases d2 : 126 < ((s[k]'hlt).toNat : Int)
          · have HG := hide (txt_no (s := s) (fun h => by have := h.2 k hlt; unfold goodN at this; have := of_decide_eq_true this; omega))
            go_wp2
            go_ret
            exact ⟨by rw [HG.out]; rfl, belA _⟩
          · by_cases d3' : ((s[k]'hlt).toNat : Int) = 39
            · have d3 : (((s[k]'hlt).toNat : Int) == 39) = true := by simpa using d3'
              have HG := hide (txt_no (s := s) (fun h => by have := h.2 k hlt; unfold goodN at this; have := of_decide_eq_true this; omega))
              clear d3'
              go_wp2
              go_ret
              exact ⟨by rw [HG.out]; rfl, belA _⟩
            · have d3 : (((s[k]'hlt).toNat : Int) == 39) = false := by simpa using d3'
              have HV := hide (show goodN (s[k]'hlt).toNat = true by unfold goodN; exact decide_eq_true ⟨by omega, by omega, by omega⟩)
              clear d3'
              go_wp2
              go_round
              case rel =>
                refine ⟨k + 1, by omega, by go_num, fun j hj h => ?_⟩
                by_cases e : j = k
                · subst e; exact HV.out
                · exact HN.out j hj (by omega)
              case measure => simp [intOf]; omega
      · have hki : ¬ (k : Int) < (s.size : Int) := by omega
        have HG := hide (txt_yes (s := s) ⟨h24, fun j hj => HN.out j hj (by omega)⟩)
        go_wp2
        go_ret
        exact ⟨by rw [HG.out]; rfl, belA _⟩
  · have h24' : ¬ (s.size : Int) ≤ 24 := by omega
    have HG := hide (txt_no (s := s) (fun h => h24 h.1))
    go_enter Tryd.func57, Tryd.ntmps57
    go_wp2
    go_ret
    exact ⟨by rw [HG.out]; rfl, belA _⟩

def inR (n : Int) : Bool := decide (-1000000000000 ≤ n ∧ n ≤ 1000000000000)
def in01 (n : Int) : Bool := decide (n = 0 ∨ n = 1)
set_option maxRecDepth 100000 in
set_option maxHeartbeats 1000000 in
theorem vvalid_int (n : Int) (w : World) :
    Calls Tryd.prog 89 #[.agg #[.int .i64 1, .int .i64 n, .string ⟨#[]⟩]] w fun e w' => e = .returned (.bool (inR n)) ∧ Below w.heap.size w w' := by
  by_cases h1 : -1000000000000 ≤ n
  · by_cases h2 : n ≤ 1000000000000
    · have HG := hide (show inR n = true from decide_eq_true ⟨h1, h2⟩)
      go_enter Tryd.func89, Tryd.ntmps89
      go_wp2
      go_ret
      exact ⟨by rw [HG.out]; rfl, belA _⟩
    · have HG := hide (show inR n = false from decide_eq_false (by omega))
      go_enter Tryd.func89, Tryd.ntmps89
      go_wp2
      go_ret
      exact ⟨by rw [HG.out]; rfl, belA _⟩
  · have HG := hide (show inR n = false from decide_eq_false (by omega))
    go_enter Tryd.func89, Tryd.ntmps89
    go_wp2
    go_ret
    exact ⟨by rw [HG.out]; rfl, belA _⟩
set_option maxRecDepth 100000 in
set_option maxHeartbeats 1000000 in
theorem vvalid_bool (n : Int) (w : World) :
    Calls Tryd.prog 89 #[.agg #[.int .i64 2, .int .i64 n, .string ⟨#[]⟩]] w fun e w' => e = .returned (.bool (in01 n)) ∧ Below w.heap.size w w' := by
  by_cases h1 : n = 0
  · have HG := hide (show in01 n = true from decide_eq_true (.inl h1))
    have h1' : (n == 0) = true := by simpa using h1
    clear h1
    go_enter Tryd.func89, Tryd.ntmps89
    go_wp2
    go_ret
    exact ⟨by rw [HG.out]; rfl, belA _⟩
  · have h1' : (n == 0) = false := by simpa using h1
    by_cases h2 : n = 1
    · have HG := hide (show in01 n = true from decide_eq_true (.inr h2))
      have h2' : (n == 1) = true := by simpa using h2
      clear h2 h1
      go_enter Tryd.func89, Tryd.ntmps89
      go_wp2
      go_ret
      exact ⟨by rw [HG.out]; rfl, belA _⟩
    · have HG := hide (show in01 n = false from decide_eq_false (by omega))
      have h2' : (n == 1) = false := by simpa using h2
      clear h2 h1
      go_enter Tryd.func89, Tryd.ntmps89
      go_wp2
      go_ret
      exact ⟨by rw [HG.out]; rfl, belA _⟩
set_option maxRecDepth 100000 in
set_option maxHeartbeats 1000000 in
theorem vvalid_text (s : ByteArray) (w : World) (hs : s.size ≤ maxLen) :
    Calls Tryd.prog 89 #[.agg #[.int .i64 3, .int .i64 0, .string s]] w fun e w' => e = .returned (.bool (txt s)) ∧ Below w.heap.size w w' := by
  go_enter Tryd.func89, Tryd.ntmps89
  go_wp2_with (go_at_call 98; refine (text_any s _ hs).mono ?_; rintro e w1 ⟨rfl, hb⟩)
  go_ret
  exact ⟨rfl, bel1 hb⟩
end Go.Proofs.YtlkhiihehaiinaaDoor

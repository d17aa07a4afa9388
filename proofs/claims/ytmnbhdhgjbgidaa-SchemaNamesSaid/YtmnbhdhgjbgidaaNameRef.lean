/- ref03.Name: which strings are names, by one loop over the letters and one over the reserved words. -/
import Derived.Test.YtmnbhdhgjbgidaaNameWalk
namespace Go.Proofs.Ytmnbhdhgjbgidaa
open Go.RowKit

theorem lett_of {c : Int} (h1 : ¬ c < 97) (h2 : ¬ 122 < c) : lett c = true := by unfold lett; exact decide_eq_true ⟨by omega, by omega⟩
theorem lett_not {c : Int} (h : c < 97 ∨ 122 < c) : lett c = false := by unfold lett; exact decide_eq_false (fun h' => by omega)
theorem vch_dig {c : Int} (h1 : ¬ c < 48) (h2 : ¬ 57 < c) : vch c = true := by unfold vch; rw [decide_eq_true (p := 48 ≤ c ∧ c ≤ 57) ⟨by omega, by omega⟩]; simp
theorem vch_und {c : Int} (h : c = 95) : vch c = true := by subst h; rfl
theorem vch_let {c : Int} (h : lett c = true) : vch c = true := by unfold vch; rw [h]; rfl
theorem vch_not {c : Int} (h : c < 97 ∨ 122 < c) (h1 : c < 48 ∨ 57 < c) (h2 : c ≠ 95) : vch c = false := by
  unfold vch; rw [lett_not h, decide_eq_false (fun h' => by omega), decide_eq_false h2]; rfl

set_option maxRecDepth 100000 in
set_option maxHeartbeats 400000 in
theorem rname_short (s : ByteArray) (w : World) (h0 : (s.size : Int) < 1) :
    Calls Try.prog 25 #[.string s] w fun e w' => e = .returned (.bool (pb (IsName s))) ∧ Below w.heap.size w w' := by
  have hr := hide (pb_no (p := IsName s) (fun h => by have := h.lo; omega))
  go_enter Try.func25, Try.ntmps25
  go_wp2
  go_ret
  exact ⟨retb hr.out.symm, Below.refl _ _⟩

set_option maxRecDepth 100000 in
set_option maxHeartbeats 400000 in
theorem rname_long (s : ByteArray) (w : World) (h0 : ¬ (s.size : Int) < 1) (h16 : 16 < (s.size : Int)) (hs : s.size ≤ 9223372036854775807) :
    Calls Try.prog 25 #[.string s] w fun e w' => e = .returned (.bool (pb (IsName s))) ∧ Below w.heap.size w w' := by
  have hr := hide (pb_no (p := IsName s) (fun h => by have := h.hi; omega))
  go_enter Try.func25, Try.ntmps25
  go_wp2
  go_ret
  exact ⟨retb hr.out.symm, Below.refl _ _⟩

set_option maxRecDepth 100000 in
set_option maxHeartbeats 400000 in
theorem rname_lo (s : ByteArray) (w : World) (h0 : ¬ (s.size : Int) < 1) (h16 : ¬ 16 < (s.size : Int)) (hpos : 0 < s.size) (hc : ((s[0]'hpos).toNat : Int) < 97) :
    Calls Try.prog 25 #[.string s] w fun e w' => e = .returned (.bool (pb (IsName s))) ∧ Below w.heap.size w w' := by
  have hr := hide (pb_no (p := IsName s) (fun h => by have := h.fst hpos; rw [lett_not (.inl hc)] at this; cases this))
  go_enter Try.func25, Try.ntmps25
  go_wp2
  go_ret
  exact ⟨retb hr.out.symm, Below.refl _ _⟩

set_option maxRecDepth 100000 in
set_option maxHeartbeats 400000 in
theorem rname_hi (s : ByteArray) (w : World) (h0 : ¬ (s.size : Int) < 1) (h16 : ¬ 16 < (s.size : Int)) (hpos : 0 < s.size) (hc : ¬ ((s[0]'hpos).toNat : Int) < 97) (hd : 122 < ((s[0]'hpos).toNat : Int)) :
    Calls Try.prog 25 #[.string s] w fun e w' => e = .returned (.bool (pb (IsName s))) ∧ Below w.heap.size w w' := by
  have hr := hide (pb_no (p := IsName s) (fun h => by have := h.fst hpos; rw [lett_not (.inr hd)] at this; cases this))
  go_enter Try.func25, Try.ntmps25
  go_wp2
  go_ret
  exact ⟨retb hr.out.symm, Below.refl _ _⟩

set_option maxRecDepth 100000 in
set_option maxHeartbeats 4000000 in
theorem rname_main (s : ByteArray) (w : World) (h0 : ¬ (s.size : Int) < 1) (h16 : ¬ 16 < (s.size : Int)) (hpos : 0 < s.size) (hc : ¬ ((s[0]'hpos).toNat : Int) < 97) (hd : ¬ 122 < ((s[0]'hpos).toNat : Int)) :
    Calls Try.prog 25 #[.string s] w fun e w' => e = .returned (.bool (pb (IsName s))) ∧ Below w.heap.size w w' := by
  have HF := hide (lett_of hc hd)
  go_enter Try.func25, Try.ntmps25
  go_wp2
  clear hc hd
  go_loop [3] (fun i => ∃ k : Nat, k ≤ s.size ∧ i = .int .i64 k ∧ ∀ j (h : j < s.size), j < k → vch ((s[j]'h).toNat : Int) = true) (fun i => s.size - (intOf i).toNat)
  case atStart => exact ⟨0, Nat.zero_le _, rfl, fun j _ h => absurd h (by omega)⟩
  case round =>
    obtain ⟨k, hk, rfl, hno⟩ := hrel
    have HN := hide hno
    clear hno
    by_cases hlt : k < s.size
    · have hki : (k : Int) < (s.size : Int) := by omega
      by_cases d1 : ((s[k]'hlt).toNat : Int) < 97
      · by_cases d3 : ((s[k]'hlt).toNat : Int) < 48
        · have d5 : (((s[k]'hlt).toNat : Int) != 95) = true := by simp; omega
          have hr := hide (pb_no (p := IsName s) (fun h => by have := h.all k hlt; rw [vch_not (.inl d1) (.inl d3) (by omega)] at this; cases this))
          go_wp2
          go_ret
          exact ⟨retb hr.out.symm, Below.refl _ _⟩
        · by_cases d4 : 57 < ((s[k]'hlt).toNat : Int)
          · by_cases d5' : ((s[k]'hlt).toNat : Int) = 95
            · have d5 : (((s[k]'hlt).toNat : Int) != 95) = false := by rw [d5']; rfl
              have HV := hide (vch_und d5')
              clear d5'
              go_wp2
              go_round
              case rel =>
                refine ⟨k + 1, by omega, by go_num, fun j hj h => ?_⟩
                by_cases e : j = k
                · subst e; exact HV.out
                · exact HN.out j hj (by omega)
              case measure => simp [intOf]; omega
            · have d5 : (((s[k]'hlt).toNat : Int) != 95) = true := by simpa using d5'
              have hr := hide (pb_no (p := IsName s) (fun h => by have := h.all k hlt; rw [vch_not (.inl d1) (.inr d4) d5'] at this; cases this))
              clear d5'
              go_wp2
              go_ret
              exact ⟨retb hr.out.symm, Below.refl _ _⟩
          · have HV := hide (vch_dig d3 d4)
            go_wp2
            go_round
            case rel =>
              refine ⟨k + 1, by omega, by go_num, fun j hj h => ?_⟩
              by_cases e : j = k
              · subst e; exact HV.out
              · exact HN.out j hj (by omega)
            case measure => simp [intOf]; omega
      · by_cases d2 : 122 < ((s[k]'hlt).toNat : Int)
        · have d3 : ¬ ((s[k]'hlt).toNat : Int) < 48 := by omega
          have d4 : 57 < ((s[k]'hlt).toNat : Int) := by omega
          have d5 : (((s[k]'hlt).toNat : Int) != 95) = true := by simp; omega
          have hr := hide (pb_no (p := IsName s) (fun h => by have := h.all k hlt; rw [vch_not (.inr d2) (.inr d4) (by omega)] at this; cases this))
          go_wp2
          go_ret
          exact ⟨retb hr.out.symm, Below.refl _ _⟩
        · have HV := hide (vch_let (lett_of d1 d2))
          go_wp2
          go_round
          case rel =>
            refine ⟨k + 1, by omega, by go_num, fun j hj h => ?_⟩
            by_cases e : j = k
            · subst e; exact HV.out
            · exact HN.out j hj (by omega)
          case measure => simp [intOf]; omega
    · have HA := hide (show ∀ j (h : j < s.size), vch ((s[j]'h).toNat : Int) = true from fun j h => HN.out j h (by omega))
      clear HN
      go_wp2_with (go_at_call 23; refine (reserved_any _).mono ?_; rintro e w1 ⟨⟨rh, rfl, hrow⟩, hb1⟩; have HB := hide hb1; have HR := hide hrow; clear hb1 hrow)
      go_loop [5] (fun i => ∃ k : Nat, k ≤ resWords.length ∧ i = .int .i64 k ∧ ∀ j (h : j < resWords.length), j < k → ¬ resWords[j] = s) (fun i => resWords.length - (intOf i).toNat)
      case atStart => exact ⟨0, Nat.zero_le _, rfl, fun j _ h => absurd h (by omega)⟩
      case round =>
        obtain ⟨k, hk, rfl, hno⟩ := hrel
        have HN := hide hno
        clear hno
        have hlen : resWords.length ≤ 9223372036854775807 := by rw [res_len]; omega
        by_cases hlt : k < resWords.length
        · have hki : (k : Int) < (resWords.length : Int) := by omega
          have hix := HR.out.ix hlt Try.underlying52 sz9
          simp only [Nat.mul_one] at hix
          have hc0 := str_at HR.out hlt
          obtain ⟨x, hx'⟩ : ∃ x, x = resWords[k] := ⟨_, rfl⟩
          rw [← hx'] at hc0
          by_cases hq : x = s
          · have hq1 : (x.toList == s.toList) = true := by simp [hq]
            have hr := hide (pb_no (p := IsName s) (fun h => h.new (by rw [← hq, hx']; exact List.getElem_mem hlt)))
            clear hx' hq
            go_wp2
            go_ret
            exact ⟨retb hr.out.symm, HB.out⟩
          · have hq1 : (x.toList == s.toList) = false := by
              rw [beq_eq_false_iff_ne]; intro h; rw [Lib.toList_data, Lib.toList_data] at h; exact hq (Go.WideShapes.bytes_inj h)
            have HQ := hide hq
            have HX := hide hx'
            clear hq hx'
            go_wp2
            go_round
            case rel =>
              refine ⟨k + 1, by omega, by go_num, fun j hj h => ?_⟩
              by_cases e : j = k
              · subst e; rw [← HX.out]; exact HQ.out
              · exact HN.out j hj (by omega)
            case measure => simp [intOf]; omega
        · have hr := hide (pb_yes (p := IsName s) ⟨by omega, by omega, fun _ => HF.out, HA.out, fun h => by
            obtain ⟨j, hj, e⟩ := List.getElem_of_mem h
            exact HN.out j hj (by omega) e⟩)
          clear HN
          go_wp2
          go_ret
          exact ⟨retb hr.out.symm, HB.out⟩

theorem rname_any (s : ByteArray) (w : World) (hs : s.size ≤ 9223372036854775807) :
    Calls Try.prog 25 #[.string s] w fun e w' => e = .returned (.bool (pb (IsName s))) ∧ Below w.heap.size w w' := by
  by_cases h0 : (s.size : Int) < 1
  · exact rname_short s w h0
  by_cases h16 : 16 < (s.size : Int)
  · exact rname_long s w h0 h16 hs
  have hpos : 0 < s.size := by omega
  by_cases hc : ((s[0]'hpos).toNat : Int) < 97
  · exact rname_lo s w h0 h16 hpos hc
  by_cases hd : 122 < ((s[0]'hpos).toNat : Int)
  · exact rname_hi s w h0 h16 hpos hc hd
  exact rname_main s w h0 h16 hpos hc hd

end Go.Proofs.Ytmnbhdhgjbgidaa

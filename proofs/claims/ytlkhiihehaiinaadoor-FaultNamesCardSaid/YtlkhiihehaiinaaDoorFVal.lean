/- fault.Valid: which lists are lists of faults. -/
import Derived.Test.YtlkhiihehaiinaaDoorFCat
import Derived.LoopTactic
namespace Go.Proofs.YtlkhiihehaiinaaDoor
open Go.RowKit Go.Shelf

def OkAt (l : List Int) (k : Nat) (h : k < l.length) : Prop := 1 ≤ l[k] ∧ l[k] ≤ 180 ∧ (0 < k → l[k - 1]'(by omega) < l[k])
def ValidL (l : List Int) : Prop := ∀ k (h : k < l.length), OkAt l k h
theorem not_valid {l : List Int} {k : Nat} (h : k < l.length) (hn : ¬ OkAt l k h) : ¬ ValidL l := fun hv => hn (hv k h)
noncomputable def validB (l : List Int) : Bool := @decide (ValidL l) (Classical.propDecidable _)
theorem validB_f {l : List Int} {k : Nat} (h : k < l.length) (hn : ¬ OkAt l k h) : validB l = false := by unfold validB; exact @decide_eq_false _ (Classical.propDecidable _) (not_valid h hn)
theorem validB_t {l : List Int} (h : ∀ k (h : k < l.length), OkAt l k h) : validB l = true := by unfold validB; exact @decide_eq_true _ (Classical.propDecidable _) h

theorem szil : (Tryd.prog.info? 3).map (·.size) = some 1 := by kernel_rfl

set_option maxRecDepth 100000 in
set_option maxHeartbeats 4000000 in
theorem fvalid_any (x : IL) (w : World) (hin : x.In w) (h : FW w) : Calls Tryd.prog 20 #[.slice x.h.ao x.l.length x.h.cap] w fun e w' => e = .returned (.bool (validB x.l)) ∧ Below w.heap.size w w' := by
  have hn := hin.1.len
  go_enter Tryd.func20, Tryd.ntmps20
  go_wp2
  go_loopw [7, 3, 4] (fun i _ _ wr => ∃ k : Nat, k ≤ x.l.length ∧ i = .int .i64 k ∧ Hid (∀ j (hj : j < x.l.length), j < k → OkAt x.l j hj) ∧ Hid (Below w.heap.size w wr)) (fun i _ _ _ => x.l.length - (intOf i).toNat)
  case atStart => exact ⟨0, Nat.zero_le _, rfl, hide (fun j _ h => absurd h (by omega)), hide (Below.refl _ _)⟩
  case round =>
    obtain ⟨k, hk, rfl, HO, HB⟩ := hrel
    by_cases hlt : k < x.l.length
    · have hlti : (k : Int) < x.l.length := by omega
      have HIN := hide (hin.mono HB.out)
      have hix := HIN.out.1.ix hlt Tryd.underlying34 szil
      have c0 := int_at HIN.out.1 hlt
      have hbk := HIN.out.1.blk hlt
      obtain ⟨n, hnn⟩ : ∃ n, x.l[k] = n := ⟨_, rfl⟩
      rw [hnn] at c0
      by_cases h1 : n < 1
      · have HF := hide (validB_f hlt (fun h => by have := h.1; omega))
        clear hnn
        go_wp2
        go_ret
        exact ⟨by rw [HF.out]; rfl, HB.out⟩
      · by_cases h2 : (180 : Int) < n
        · have HF := hide (validB_f hlt (fun h => by have := h.2.1; omega))
          clear hnn
          go_wp2_with (go_at_call 40; refine (count_any _ (h.below HB.out)).mono ?_; rintro e w2 ⟨rfl, hb2⟩; have HB2 := hide (HB.out.trans (hb2.mono HB.out.size)); clear hb2)
          go_ret
          exact ⟨by rw [HF.out]; rfl, HB2.out⟩
        · by_cases h3 : k = 0
          · have hk0 : ¬ (0 : Int) < k := by omega
            have HK := hide (show OkAt x.l k hlt from ⟨by omega, by omega, fun h => absurd h (by omega)⟩)
            clear hnn h3
            go_wp2_with (go_at_call 40; refine (count_any _ (h.below HB.out)).mono ?_; rintro e w2 ⟨rfl, hb2⟩; have HB2 := hide (HB.out.trans (hb2.mono HB.out.size)); clear hb2)
            go_roundw
            case rel => exact ⟨k + 1, by omega, by go_num, hide (fun j hj h => if e : j = k then (by subst e; exact HK.out) else HO.out j hj (by omega)), HB2⟩
            case measure => simp [intOf]; omega
          · obtain ⟨m, hm⟩ : ∃ m, m + 1 = k := ⟨k - 1, by omega⟩
            have hk0 : (0 : Int) < k := by omega
            have hwm : IntKind.i64.wrap ((k : Int) - 1) = (m : Int) := by rw [IntKind.wrap_i64]; omega
            have hltm : m < x.l.length := by omega
            obtain ⟨p, hp⟩ : ∃ p, x.l[m] = p := ⟨_, rfl⟩
            have HC := hide (show ∀ w2, Below wr.heap.size wr w2 → (w2.cell? ⟨x.h.b, x.h.o + m, none⟩ = some (.int .i64 p)) ∧ (∀ U, (Instr.indexAt 34 (.slice x.h.ao x.l.length x.h.cap) (.int .i64 m)).run Tryd.prog U = .ok (.pointer (some ⟨x.h.b, x.h.o + m, none⟩)) U) from fun w2 hb => ⟨by have h := int_at (HIN.out.mono hb).1 hltm; rw [hp] at h; exact h, fun U => by simpa using (HIN.out.mono hb).1.ix hltm Tryd.underlying34 szil U⟩)
            by_cases h4 : n ≤ p
            · have HF := hide (validB_f hlt (fun h => by have h5 := h.2.2 (by omega); subst hm; simp only [Nat.add_sub_cancel] at h5; rw [hp, hnn] at h5; omega))
              clear hnn hp hm
              go_wp2_with (go_at_call 40; refine (count_any _ (h.below HB.out)).mono ?_; rintro e w2 ⟨rfl, hb2⟩; obtain ⟨cm, ixm⟩ := HC.out _ hb2; have HB2 := hide (HB.out.trans (hb2.mono HB.out.size)); clear hb2)
              go_ret
              exact ⟨by rw [HF.out]; rfl, HB2.out⟩
            · have HK := hide (show OkAt x.l k hlt from ⟨by omega, by omega, fun _ => by subst hm; simp only [Nat.add_sub_cancel]; rw [hp, hnn]; omega⟩)
              clear hnn hp hm
              go_wp2_with (go_at_call 40; refine (count_any _ (h.below HB.out)).mono ?_; rintro e w2 ⟨rfl, hb2⟩; obtain ⟨cm, ixm⟩ := HC.out _ hb2; have HB2 := hide (HB.out.trans (hb2.mono HB.out.size)); clear hb2)
              go_roundw
              case rel => exact ⟨k + 1, by omega, by go_num, hide (fun j hj h => if e : j = k then (by subst e; exact HK.out) else HO.out j hj (by omega)), HB2⟩
              case measure => simp [intOf]; omega
    · have hke : k = x.l.length := by omega
      have HT := hide (validB_t (l := x.l) (fun j hj => HO.out j hj (by omega)))
      have hlti : ¬ (k : Int) < x.l.length := by omega
      go_wp2
      go_ret
      exact ⟨by rw [HT.out]; rfl, HB.out⟩

theorem rcount_any (w : World) : Calls Tryd.prog 15 #[] w fun e w' => e = .returned (.int .i64 180) ∧ Below w.heap.size w w' := by
  go_enter Tryd.func15, Tryd.ntmps15
  go_wp2
  go_ret
  exact ⟨rfl, Below.refl _ _⟩

set_option maxRecDepth 100000 in
set_option maxHeartbeats 4000000 in
theorem rvalid_any (x : IL) (w : World) (hin : x.In w) : Calls Tryd.prog 21 #[.slice x.h.ao x.l.length x.h.cap] w fun e w' => e = .returned (.bool (validB x.l)) ∧ Below w.heap.size w w' := by
  have hn := hin.1.len
  go_enter Tryd.func21, Tryd.ntmps21
  go_wp2
  go_loopw [7, 3, 4] (fun i _ _ wr => ∃ k : Nat, k ≤ x.l.length ∧ i = .int .i64 k ∧ Hid (∀ j (hj : j < x.l.length), j < k → OkAt x.l j hj) ∧ Hid (Below w.heap.size w wr)) (fun i _ _ _ => x.l.length - (intOf i).toNat)
  case atStart => exact ⟨0, Nat.zero_le _, rfl, hide (fun j _ h => absurd h (by omega)), hide (Below.refl _ _)⟩
  case round =>
    obtain ⟨k, hk, rfl, HO, HB⟩ := hrel
    by_cases hlt : k < x.l.length
    · have hlti : (k : Int) < x.l.length := by omega
      have HIN := hide (hin.mono HB.out)
      have hix := HIN.out.1.ix hlt Tryd.underlying34 szil
      have c0 := int_at HIN.out.1 hlt
      have hbk := HIN.out.1.blk hlt
      obtain ⟨n, hnn⟩ : ∃ n, x.l[k] = n := ⟨_, rfl⟩
      rw [hnn] at c0
      by_cases h1 : n < 1
      · have HF := hide (validB_f hlt (fun h => by have := h.1; omega))
        clear hnn
        go_wp2
        go_ret
        exact ⟨by rw [HF.out]; rfl, HB.out⟩
      · by_cases h2 : (180 : Int) < n
        · have HF := hide (validB_f hlt (fun h => by have := h.2.1; omega))
          clear hnn
          go_wp2_with (go_at_call 15; refine (rcount_any _).mono ?_; rintro e w2 ⟨rfl, hb2⟩; have HB2 := hide (HB.out.trans (hb2.mono HB.out.size)); clear hb2)
          go_ret
          exact ⟨by rw [HF.out]; rfl, HB2.out⟩
        · by_cases h3 : k = 0
          · have hk0 : ¬ (0 : Int) < k := by omega
            have HK := hide (show OkAt x.l k hlt from ⟨by omega, by omega, fun h => absurd h (by omega)⟩)
            clear hnn h3
            go_wp2_with (go_at_call 15; refine (rcount_any _).mono ?_; rintro e w2 ⟨rfl, hb2⟩; have HB2 := hide (HB.out.trans (hb2.mono HB.out.size)); clear hb2)
            go_roundw
            case rel => exact ⟨k + 1, by omega, by go_num, hide (fun j hj h => if e : j = k then (by subst e; exact HK.out) else HO.out j hj (by omega)), HB2⟩
            case measure => simp [intOf]; omega
          · obtain ⟨m, hm⟩ : ∃ m, m + 1 = k := ⟨k - 1, by omega⟩
            have hk0 : (0 : Int) < k := by omega
            have hwm : IntKind.i64.wrap ((k : Int) - 1) = (m : Int) := by rw [IntKind.wrap_i64]; omega
            have hltm : m < x.l.length := by omega
            obtain ⟨p, hp⟩ : ∃ p, x.l[m] = p := ⟨_, rfl⟩
            have HC := hide (show ∀ w2, Below wr.heap.size wr w2 → (w2.cell? ⟨x.h.b, x.h.o + m, none⟩ = some (.int .i64 p)) ∧ (∀ U, (Instr.indexAt 34 (.slice x.h.ao x.l.length x.h.cap) (.int .i64 m)).run Tryd.prog U = .ok (.pointer (some ⟨x.h.b, x.h.o + m, none⟩)) U) from fun w2 hb => ⟨by have h := int_at (HIN.out.mono hb).1 hltm; rw [hp] at h; exact h, fun U => by simpa using (HIN.out.mono hb).1.ix hltm Tryd.underlying34 szil U⟩)
            by_cases h4 : n ≤ p
            · have HF := hide (validB_f hlt (fun h => by have h5 := h.2.2 (by omega); subst hm; simp only [Nat.add_sub_cancel] at h5; rw [hp, hnn] at h5; omega))
              clear hnn hp hm
              go_wp2_with (go_at_call 15; refine (rcount_any _).mono ?_; rintro e w2 ⟨rfl, hb2⟩; obtain ⟨cm, ixm⟩ := HC.out _ hb2; have HB2 := hide (HB.out.trans (hb2.mono HB.out.size)); clear hb2)
              go_ret
              exact ⟨by rw [HF.out]; rfl, HB2.out⟩
            · have HK := hide (show OkAt x.l k hlt from ⟨by omega, by omega, fun _ => by subst hm; simp only [Nat.add_sub_cancel]; rw [hp, hnn]; omega⟩)
              clear hnn hp hm
              go_wp2_with (go_at_call 15; refine (rcount_any _).mono ?_; rintro e w2 ⟨rfl, hb2⟩; obtain ⟨cm, ixm⟩ := HC.out _ hb2; have HB2 := hide (HB.out.trans (hb2.mono HB.out.size)); clear hb2)
              go_roundw
              case rel => exact ⟨k + 1, by omega, by go_num, hide (fun j hj h => if e : j = k then (by subst e; exact HK.out) else HO.out j hj (by omega)), HB2⟩
              case measure => simp [intOf]; omega
    · have hke : k = x.l.length := by omega
      have HT := hide (validB_t (l := x.l) (fun j hj => HO.out j hj (by omega)))
      have hlti : ¬ (k : Int) < x.l.length := by omega
      go_wp2
      go_ret
      exact ⟨by rw [HT.out]; rfl, HB.out⟩
end Go.Proofs.YtlkhiihehaiinaaDoor

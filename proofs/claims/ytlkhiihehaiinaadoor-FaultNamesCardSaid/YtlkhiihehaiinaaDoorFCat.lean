/- fault.Count, Text, Find: of the 180 texts. -/
import Derived.Test.YtlkhiihehaiinaaDoorFTexts
namespace Go.Proofs.YtlkhiihehaiinaaDoor
open Go.RowKit Go.Shelf

/-- What holds of the package's variables that the texts need. -/
structure FW (w : World) : Prop where
  sh : w.ShapedOpen Tryd.prog
  tab : Lib.TabIs Tryd.prog w "strings.asciiSpace" .u8 Lib.asciiSpaceTab
theorem FW.below {w X : World} (h : FW w) (hb : Below w.heap.size w X) : FW X := ⟨h.sh.keptBut (hb.frame (fun _ => False)) (by simp), tab_below h.tab hb⟩
noncomputable def textAt (id : Int) : ByteArray := if 1 ≤ id ∧ id ≤ 180 then mk (textsL.getD (id - 1).toNat []) else ⟨#[]⟩

set_option maxRecDepth 100000 in
theorem count_any (w : World) (h : FW w) : Calls Tryd.prog 40 #[] w fun e w' => e = .returned (.int .i64 180) ∧ Below w.heap.size w w' := by
  go_enter Tryd.func40, Tryd.ntmps40
  go_wp2_with (go_at_call 42; refine (texts_any _ h.sh h.tab).mono ?_; rintro e w1 ⟨g, cap, rfl, hg, hc, hb⟩)
  go_ret
  exact ⟨rfl, hb⟩
set_option maxRecDepth 100000 in
theorem ftext_any (id : Int) (hid : int64 id) (w : World) (h : FW w) : Calls Tryd.prog 16 #[.int .i64 id] w fun e w' => e = .returned (.string (textAt id)) ∧ Below w.heap.size w w' := by
  go_enter Tryd.func16, Tryd.ntmps16
  by_cases h1 : id < 1
  · have ht : textAt id = ⟨#[]⟩ := if_neg (by omega)
    rw [ht]
    go_wp2_with (go_at_call 42; refine (texts_any _ h.sh h.tab).mono ?_; rintro e w1 ⟨g, cap, rfl, hg, hc, hb⟩)
    go_ret
    exact ⟨rfl, hb⟩
  · by_cases h2 : (180 : Int) < id
    · have ht : textAt id = ⟨#[]⟩ := if_neg (by omega)
      rw [ht]
      go_wp2_with (go_at_call 42; refine (texts_any _ h.sh h.tab).mono ?_; rintro e w1 ⟨g, cap, rfl, hg, hc, hb⟩)
      go_ret
      exact ⟨rfl, hb⟩
    · obtain ⟨k, hk, rfl⟩ : ∃ k : Nat, k < 180 ∧ id = (k : Int) + 1 := ⟨(id - 1).toNat, by omega, by omega⟩
      have hw : IntKind.i64.wrap ((k : Int) + 1 - 1) = k := by rw [IntKind.wrap_i64]; omega
      have hkl : k < textsL.length := by rw [texts_len]; exact hk
      have ht : textAt ((k : Int) + 1) = mk textsL[k] := by
        unfold textAt
        rw [if_pos (by omega), show ((k : Int) + 1 - 1).toNat = k by omega, List.getD_eq_getElem?_getD, List.getElem?_eq_getElem hkl]; rfl
      have hkm : (textsL.map mk)[k]? = some (mk textsL[k]) := by rw [List.getElem?_map, List.getElem?_eq_getElem hkl]; rfl
      rw [ht]
      obtain ⟨tk, htk⟩ : ∃ t, mk textsL[k] = t := ⟨_, rfl⟩
      rw [htk] at hkm ⊢
      have HKM := hide hkm
      clear ht htk hkm hkl
      go_wp2_with (go_at_call 42; refine (texts_any _ h.sh h.tab).mono ?_; rintro e w1 ⟨g, cap, rfl, hg, hc, hb⟩; have hck := hc k tk HKM.out; clear hc)
      go_ret
      exact ⟨rfl, hb⟩
noncomputable def findAt (t : ByteArray) : Int := Lib.idxOfS (textsL.map mk) t
theorem idxFromS_lo (x : ByteArray) : ∀ (l : List ByteArray) (i : Nat), -1 ≤ Lib.idxFromS l x i ∧ Lib.idxFromS l x i ≤ i + l.length
  | [], i => by unfold Lib.idxFromS; simp only [List.length_nil]; omega
  | a :: r, i => by
    have ih := idxFromS_lo x r (i + 1)
    unfold Lib.idxFromS
    rw [List.length_cons]
    by_cases h : a = x
    · rw [if_pos h]; omega
    · rw [if_neg h]; omega
theorem idxOfS_lo (l : List ByteArray) (x : ByteArray) : -1 ≤ Lib.idxOfS l x ∧ Lib.idxOfS l x ≤ l.length := by
  have h := idxFromS_lo x l 0
  unfold Lib.idxOfS
  omega
set_option maxRecDepth 100000 in
theorem ffind_any (t : ByteArray) (w : World) (h : FW w) : Calls Tryd.prog 17 #[.string t] w fun e w' => e = .returned (.tuple #[.int .i64 (findAt t + 1), .bool (decide (0 < findAt t + 1))]) ∧ Below w.heap.size w w' := by
  have hlo := idxOfS_lo (textsL.map mk) t
  rw [List.length_map, texts_len] at hlo
  have hw : IntKind.i64.wrap (findAt t + 1) = findAt t + 1 := by unfold findAt; rw [IntKind.wrap_i64]; omega
  have hln : (textsL.map mk).length = 180 := by rw [List.length_map, texts_len]
  have HIX := hide (show ∀ (g c : Nat) (W : World), (∀ j x, (textsL.map mk)[j]? = some x → W.cell? ⟨g, j, none⟩ = some (.string x)) → Calls Tryd.prog 43 #[.slice (some ⟨g, 0, none⟩) 180 c, .string t] W fun e w' => e = .returned (.int .i64 (findAt t)) ∧ w' = W from fun g c W hc =>
    (Tryd.slices_Index_string g 0 180 c (textsL.map mk) t W (by omega) (by omega) (fun j hj => by rw [Nat.zero_add]; exact hc j _ (by rw [List.getD_eq_getElem?_getD, List.getElem?_eq_getElem hj]; rfl))).mono fun e w' ⟨h1, h2⟩ => ⟨by rw [h1, List.take_of_length_le (by omega)]; rfl, h2⟩)
  obtain ⟨f, hf⟩ : ∃ f, findAt t = f := ⟨_, rfl⟩
  rw [hf] at hw HIX ⊢
  clear hlo hln hf
  go_enter Tryd.func17, Tryd.ntmps17
  go_wp2_with (first
    | (go_at_call 42; refine (texts_any _ h.sh h.tab).mono ?_; rintro e w1 ⟨g, cap, rfl, hg, hc, hb⟩; have HC := hide hc; clear hc)
    | (go_at_call 43; refine (HIX.out _ _ _ HC.out).mono ?_; rintro e w2 ⟨rfl, rfl⟩))
  go_ret2
  exact ⟨ret2 ⟨rfl, rfl⟩, hb⟩
end Go.Proofs.YtlkhiihehaiinaaDoor

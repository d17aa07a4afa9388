/- fault.Count, Text, Find: of the 180 texts. -/
import Derived.Test.YtlkhiihehaiinaaDoorFTextsK
import Derived.LoopTactic
import Derived.Deep.QuietTactic
import Derived.BigQuiet
import Derived.Deep.DeepCutAuto
import Derived.Laws.AppendOwnNone
import Derived.ArgAppend
namespace Go.Proofs.YtlkhiihehaiinaaDoor
open Go.RowKit Go.Shelf

/-- What holds of the package's variables that the texts need. -/
structure FW (w : World) : Prop where
  sh : w.ShapedOpen Tryd.prog
  tab : Lib.TabIs Tryd.prog w "strings.asciiSpace" .u8 Lib.asciiSpaceTab
theorem FW.below {w X : World} (h : FW w) (hb : Below w.heap.size w X) : FW X := ⟨h.sh.keptBut (hb.frame (fun _ => False)) (by simp), tab_below h.tab hb⟩
noncomputable def textAt (id : Int) : ByteArray := if 1 ≤ id ∧ id ≤ 180 then mk (textsL.getD (id - 1).toNat []) else ⟨#[]⟩

set_option maxRecDepth 100000 in
theorem count_any (w : World) (h : FW w) : Calls Tryd.prog 40 #[] w fun e w' => e = .returned (.int .i64 180) ∧ Below w.heap.size w w' := by
  go_enter Tryd.func40, Tryd.ntmps40
  go_wp2_with (go_at_call 42; refine (texts_any _ h.sh h.tab).mono ?_; rintro e w1 ⟨g, cap, rfl, hg, hc, hb⟩)
  go_ret
  exact ⟨rfl, hb⟩
set_option maxRecDepth 100000 in
theorem ftext_any (id : Int) (hid : int64 id) (w : World) (h : FW w) : Calls Tryd.prog 16 #[.int .i64 id] w fun e w' => e = .returned (.string (textAt id)) ∧ Below w.heap.size w w' := by
  go_enter Tryd.func16, Tryd.ntmps16
  by_cases h1 : id < 1
  · have ht : textAt id = ⟨#[]⟩ := if_neg (by omega)
    rw [ht]
    go_wp2_with (go_at_call 42; refine (texts_any _ h.sh h.tab).mono ?_; rintro e w1 ⟨g, cap, rfl, hg, hc, hb⟩)
    go_ret
    exact ⟨rfl, hb⟩
  · by_cases h2 : (180 : Int) < id
    · have ht : textAt id = ⟨#[]⟩ := if_neg (by omega)
      rw [ht]
      go_wp2_with (go_at_call 42; refine (texts_any _ h.sh h.tab).mono ?_; rintro e w1 ⟨g, cap, rfl, hg, hc, hb⟩)
      go_ret
      exact ⟨rfl, hb⟩
    · obtain ⟨k, hk, rfl⟩ : ∃ k : Nat, k < 180 ∧ id = (k : Int) + 1 := ⟨(id - 1).toNat, by omega, by omega⟩
      have hw : IntKind.i64.wrap ((k : Int) + 1 - 1) = k := by rw [IntKind.wrap_i64]; omega
      have hkl : k < textsL.length := by rw [texts_len]; exact hk
      have ht : textAt ((k : Int) + 1) = mk textsL[k] := by
        unfold textAt
        rw [if_pos (by omega), show ((k : Int) + 1 - 1).toNat = k by omega, List.getD_eq_getElem?_getD, List.getElem?_eq_getElem hkl]; rfl
      have hkm : (textsL.map mk)[k]? = some (mk textsL[k]) := by rw [List.getElem?_map, List.getElem?_eq_getElem hkl]; rfl
      rw [ht]
      obtain ⟨tk, htk⟩ : ∃ t, mk textsL[k] = t := ⟨_, rfl⟩
      rw [htk] at hkm ⊢
      have HKM := hide hkm
      clear ht htk hkm hkl
      go_wp2_with (go_at_call 42; refine (texts_any _ h.sh h.tab).mono ?_; rintro e w1 ⟨g, cap, rfl, hg, hc, hb⟩; have hck := hc k tk HKM.out; clear hc)
      go_ret
      exact ⟨rfl, hb⟩
noncomputable def findAt (t : ByteArray) : Int := Lib.idxOfS (textsL.map mk) t
theorem idxFromS_lo (x : ByteArray) : ∀ (l : List ByteArray) (i : Nat), -1 ≤ Lib.idxFromS l x i ∧ Lib.idxFromS l x i ≤ i + l.length
  | [], i => by unfold Lib.idxFromS; simp only [List.length_nil]; omega
  | a :: r, i => by
    have ih := idxFromS_lo x r (i + 1)
    unfold Lib.idxFromS
    rw [List.length_cons]
    by_cases h : a = x
    · rw [if_pos h]; omega
    · rw [if_neg h]; omega
theorem idxOfS_lo (l : List ByteArray) (x : ByteArray) : -1 ≤ Lib.idxOfS l x ∧ Lib.idxOfS l x ≤ l.length := by
  have h := idxFromS_lo x l 0
  unfold Lib.idxOfS
  omega
set_option maxRecDepth 100000 in
theorem ffind_any (t : ByteArray) (w : World) (h : FW w) : Calls Tryd.prog 17 #[.string t] w fun e w' => e = .returned (.tuple #[.int .i64 (findAt t + 1), .bool (decide (0 < findAt t + 1))]) ∧ Below w.heap.size w w' := by
  have hlo := idxOfS_lo (textsL.map mk) t
  rw [List.length_map, texts_len] at hlo
  have hw : IntKind.i64.wrap (findAt t + 1) = findAt t + 1 := by unfold findAt; rw [IntKind.wrap_i64]; omega
  have hln : (textsL.map mk).length = 180 := by rw [List.length_map, texts_len]
  have HIX := hide (show ∀ (g c : Nat) (W : World), (∀ j x, (textsL.map mk)[j]? = some x → W.cell? ⟨g, j, none⟩ = some (.string x)) → Calls Tryd.prog 43 #[.slice (some ⟨g, 0, none⟩) 180 c, .string t] W fun e w' => e = .returned (.int .i64 (findAt t)) ∧ w' = W from fun g c W hc =>
    (Tryd.slices_Index_string g 0 180 c (textsL.map mk) t W (by omega) (by omega) (fun j hj => by rw [Nat.zero_add]; exact hc j _ (by rw [List.getD_eq_getElem?_getD, List.getElem?_eq_getElem hj]; rfl))).mono fun e w' ⟨h1, h2⟩ => ⟨by rw [h1, List.take_of_length_le (by omega)]; rfl, h2⟩)
  obtain ⟨f, hf⟩ : ∃ f, findAt t = f := ⟨_, rfl⟩
  rw [hf] at hw HIX ⊢
  clear hlo hln hf
  go_enter Tryd.func17, Tryd.ntmps17
  go_wp2_with (first
    | (go_at_call 42; refine (texts_any _ h.sh h.tab).mono ?_; rintro e w1 ⟨g, cap, rfl, hg, hc, hb⟩; have HC := hide hc; clear hc)
    | (go_at_call 43; refine (HIX.out _ _ _ HC.out).mono ?_; rintro e w2 ⟨rfl, rfl⟩))
  go_ret2
  exact ⟨ret2 ⟨rfl, rfl⟩, hb⟩
end Go.Proofs.YtlkhiihehaiinaaDoor

/- fault.Valid: which lists are lists of faults. -/
namespace Go.Proofs.YtlkhiihehaiinaaDoor
open Go.RowKit Go.Shelf

def OkAt (l : List Int) (k : Nat) (h : k < l.length) : Prop := 1 ≤ l[k] ∧ l[k] ≤ 180 ∧ (0 < k → l[k - 1]'(by omega) < l[k])
def ValidL (l : List Int) : Prop := ∀ k (h : k < l.length), OkAt l k h
theorem not_valid {l : List Int} {k : Nat} (h : k < l.length) (hn : ¬ OkAt l k h) : ¬ ValidL l := fun hv => hn (hv k h)
noncomputable def validB (l : List Int) : Bool := @decide (ValidL l) (Classical.propDecidable _)
theorem validB_f {l : List Int} {k : Nat} (h : k < l.length) (hn : ¬ OkAt l k h) : validB l = false := by unfold validB; exact @decide_eq_false _ (Classical.propDecidable _) (not_valid h hn)
theorem validB_t {l : List Int} (h : ∀ k (h : k < l.length), OkAt l k h) : validB l = true := by unfold validB; exact @decide_eq_true _ (Classical.propDecidable _) h

theorem szil : (Tryd.prog.info? 3).map (·.size) = some 1 := by kernel_rfl

set_option maxRecDepth 100000 in
set_option maxHeartbeats 4000000 in
theorem fvalid_any (x : IL) (w : World) (hin : x.In w) (h : FW w) : Calls Tryd.prog 20 #[.slice x.h.ao x.l.length x.h.cap] w fun e w' => e = .returned (.bool (validB x.l)) ∧ Below w.heap.size w w' := by
  have hn := hin.1.len
  go_enter Tryd.func20, Tryd.ntmps20
  go_wp2
  go_loopw [7, 3, 4] (fun i _ _ wr => ∃ k : Nat, k ≤ x.l.length ∧ i = .int .i64 k ∧ Hid (∀ j (hj : j < x.l.length), j < k → OkAt x.l j hj) ∧ Hid (Below w.heap.size w wr)) (fun i _ _ _ => x.l.length - (intOf i).toNat)
  case atStart => exact ⟨0, Nat.zero_le _, rfl, hide (fun j _ h => absurd h (by omega)), hide (Below.refl _ _)⟩
  case round =>
    obtain ⟨k, hk, rfl, HO, HB⟩ := hrel
    by_cases hlt : k < x.l.length
    · have hlti : (k : Int) < x.l.length := by omega
      have HIN := hide (hin.mono HB.out)
      have hix := HIN.out.1.ix hlt Tryd.underlying34 szil
      have c0 := int_at HIN.out.1 hlt
      have hbk := HIN.out.1.blk hlt
      obtain ⟨n, hnn⟩ : ∃ n, x.l[k] = n := ⟨_, rfl⟩
      rw [hnn] at c0
      by_cases h1 : n < 1
      · have HF := hide (validB_f hlt (fun h => by have := h.1; omega))
        clear hnn
        go_wp2
        go_ret
        exact ⟨by rw [HF.out]; rfl, HB.out⟩
      · by_cases h2 : (180 : Int) < n
        · have HF := hide (validB_f hlt (fun h => by have := h.2.1; omega))
          clear hnn
          go_wp2_with (go_at_call 40; refine (count_any _ (h.below HB.out)).mono ?_; rintro e w2 ⟨rfl, hb2⟩; have HB2 := hide (HB.out.trans (hb2.mono HB.out.size)); clear hb2)
          go_ret
          exact ⟨by rw [HF.out]; rfl, HB2.out⟩
        · by_cases h3 : k = 0
          · have hk0 : ¬ (0 : Int) < k := by omega
            have HK := hide (show OkAt x.l k hlt from ⟨by omega, by omega, fun h => absurd h (by omega)⟩)
            clear hnn h3
            go_wp2_with (go_at_call 40; refine (count_any _ (h.below HB.out)).mono ?_; rintro e w2 ⟨rfl, hb2⟩; have HB2 := hide (HB.out.trans (hb2.mono HB.out.size)); clear hb2)
            go_roundw
            case rel => exact ⟨k + 1, by omega, by go_num, hide (fun j hj h => if e : j = k then (by subst e; exact HK.out) else HO.out j hj (by omega)), HB2⟩
            case measure => simp [intOf]; omega
          · obtain ⟨m, hm⟩ : ∃ m, m + 1 = k := ⟨k - 1, by omega⟩
            have hk0 : (0 : Int) < k := by omega
            have hwm : IntKind.i64.wrap ((k : Int) - 1) = (m : Int) := by rw [IntKind.wrap_i64]; omega
            have hltm : m < x.l.length := by omega
            obtain ⟨p, hp⟩ : ∃ p, x.l[m] = p := ⟨_, rfl⟩
            have HC := hide (show ∀ w2, Below wr.heap.size wr w2 → (w2.cell? ⟨x.h.b, x.h.o + m, none⟩ = some (.int .i64 p)) ∧ (∀ U, (Instr.indexAt 34 (.slice x.h.ao x.l.length x.h.cap) (.int .i64 m)).run Tryd.prog U = .ok (.pointer (some ⟨x.h.b, x.h.o + m, none⟩)) U) from fun w2 hb => ⟨by have h := int_at (HIN.out.mono hb).1 hltm; rw [hp] at h; exact h, fun U => by simpa using (HIN.out.mono hb).1.ix hltm Tryd.underlying34 szil U⟩)
            by_cases h4 : n ≤ p
            · have HF := hide (validB_f hlt (fun h => by have h5 := h.2.2 (by omega); subst hm; simp only [Nat.add_sub_cancel] at h5; rw [hp, hnn] at h5; omega))
              clear hnn hp hm
              go_wp2_with (go_at_call 40; refine (count_any _ (h.below HB.out)).mono ?_; rintro e w2 ⟨rfl, hb2⟩; obtain ⟨cm, ixm⟩ := HC.out _ hb2; have HB2 := hide (HB.out.trans (hb2.mono HB.out.size)); clear hb2)
              go_ret
              exact ⟨by rw [HF.out]; rfl, HB2.out⟩
            · have HK := hide (show OkAt x.l k hlt from ⟨by omega, by omega, fun _ => by subst hm; simp only [Nat.add_sub_cancel]; rw [hp, hnn]; omega⟩)
              clear hnn hp hm
              go_wp2_with (go_at_call 40; refine (count_any _ (h.below HB.out)).mono ?_; rintro e w2 ⟨rfl, hb2⟩; obtain ⟨cm, ixm⟩ := HC.out _ hb2; have HB2 := hide (HB.out.trans (hb2.mono HB.out.size)); clear hb2)
              go_roundw
              case rel => exact ⟨k + 1, by omega, by go_num, hide (fun j hj h => if e : j = k then (by subst e; exact HK.out) else HO.out j hj (by omega)), HB2⟩
              case measure => simp [intOf]; omega
    · have hke : k = x.l.length := by omega
      have HT := hide (validB_t (l := x.l) (fun j hj => HO.out j hj (by omega)))
      have hlti : ¬ (k : Int) < x.l.length := by omega
      go_wp2
      go_ret
      exact ⟨by rw [HT.out]; rfl, HB.out⟩

theorem rcount_any (w : World) : Calls Tryd.prog 15 #[] w fun e w' => e = .returned (.int .i64 180) ∧ Below w.heap.size w w' := by
  go_enter Tryd.func15, Tryd.ntmps15
  go_wp2
  go_ret
  exact ⟨rfl, Below.refl _ _⟩

set_option maxRecDepth 100000 in
set_option maxHeartbeats 4000000 in
theorem rvalid_any (x : IL) (w : World) (hin : x.In w) : Calls Tryd.prog 21 #[.slice x.h.ao x.l.length x.h.cap] w fun e w' => e = .returned (.bool (validB x.l)) ∧ Below w.heap.size w w' := by
  have hn := hin.1.len
  go_enter Tryd.func21, Tryd.ntmps21
  go_wp2
  go_loopw [7, 3, 4] (fun i _ _ wr => ∃ k : Nat, k ≤ x.l.length ∧ i = .int .i64 k ∧ Hid (∀ j (hj : j < x.l.length), j < k → OkAt x.l j hj) ∧ Hid (Below w.heap.size w wr)) (fun i _ _ _ => x.l.length - (intOf i).toNat)
  case atStart => exact ⟨0, Nat.zero_le _, rfl, hide (fun j _ h => absurd h (by omega)), hide (Below.refl _ _)⟩
  case round =>
    obtain ⟨k, hk, rfl, HO, HB⟩ := hrel
    by_cases hlt : k < x.l.length
    · have hlti : (k : Int) < x.l.length := by omega
      have HIN := hide (hin.mono HB.out)
      have hix := HIN.out.1.ix hlt Tryd.underlying34 szil
      have c0 := int_at HIN.out.1 hlt
      have hbk := HIN.out.1.blk hlt
      obtain ⟨n, hnn⟩ : ∃ n, x.l[k] = n := ⟨_, rfl⟩
      rw [hnn] at c0
      by_cases h1 : n < 1
      · have HF := hide (validB_f hlt (fun h => by have := h.1; omega))
        clear hnn
        go_wp2
        go_ret
        exact ⟨by rw [HF.out]; rfl, HB.out⟩
      · by_cases h2 : (180 : Int) < n
        · have HF := hide (validB_f hlt (fun h => by have := h.2.1; omega))
          clear hnn
          go_wp2_with (go_at_call 15; refine (rcount_any _).mono ?_; rintro e w2 ⟨rfl, hb2⟩; have HB2 := hide (HB.out.trans (hb2.mono HB.out.size)); clear hb2)
          go_ret
          exact ⟨by rw [HF.out]; rfl, HB2.out⟩
        · by_cases h3 : k = 0
          · have hk0 : ¬ (0 : Int) < k := by omega
            have HK := hide (show OkAt x.l k hlt from ⟨by omega, by omega, fun h => absurd h (by omega)⟩)
            clear hnn h3
            go_wp2_with (go_at_call 15; refine (rcount_any _).mono ?_; rintro e w2 ⟨rfl, hb2⟩; have HB2 := hide (HB.out.trans (hb2.mono HB.out.size)); clear hb2)
            go_roundw
            case rel => exact ⟨k + 1, by omega, by go_num, hide (fun j hj h => if e : j = k then (by subst e; exact HK.out) else HO.out j hj (by omega)), HB2⟩
            case measure => simp [intOf]; omega
          · obtain ⟨m, hm⟩ : ∃ m, m + 1 = k := ⟨k - 1, by omega⟩
            have hk0 : (0 : Int) < k := by omega
            have hwm : IntKind.i64.wrap ((k : Int) - 1) = (m : Int) := by rw [IntKind.wrap_i64]; omega
            have hltm : m < x.l.length := by omega
            obtain ⟨p, hp⟩ : ∃ p, x.l[m] = p := ⟨_, rfl⟩
            have HC := hide (show ∀ w2, Below wr.heap.size wr w2 → (w2.cell? ⟨x.h.b, x.h.o + m, none⟩ = some (.int .i64 p)) ∧ (∀ U, (Instr.indexAt 34 (.slice x.h.ao x.l.length x.h.cap) (.int .i64 m)).run Tryd.prog U = .ok (.pointer (some ⟨x.h.b, x.h.o + m, none⟩)) U) from fun w2 hb => ⟨by have h := int_at (HIN.out.mono hb).1 hltm; rw [hp] at h; exact h, fun U => by simpa using (HIN.out.mono hb).1.ix hltm Tryd.underlying34 szil U⟩)
            by_cases h4 : n ≤ p
            · have HF := hide (validB_f hlt (fun h => by have h5 := h.2.2 (by omega); subst hm; simp only [Nat.add_sub_cancel] at h5; rw [hp, hnn] at h5; omega))
              clear hnn hp hm
              go_wp2_with (go_at_call 15; refine (rcount_any _).mono ?_; rintro e w2 ⟨rfl, hb2⟩; obtain ⟨cm, ixm⟩ := HC.out _ hb2; have HB2 := hide (HB.out.trans (hb2.mono HB.out.size)); clear hb2)
              go_ret
              exact ⟨by rw [HF.out]; rfl, HB2.out⟩
            · have HK := hide (show OkAt x.l k hlt from ⟨by omega, by omega, fun _ => by subst hm; simp only [Nat.add_sub_cancel]; rw [hp, hnn]; omega⟩)
              clear hnn hp hm
              go_wp2_with (go_at_call 15; refine (rcount_any _).mono ?_; rintro e w2 ⟨rfl, hb2⟩; obtain ⟨cm, ixm⟩ := HC.out _ hb2; have HB2 := hide (HB.out.trans (hb2.mono HB.out.size)); clear hb2)
              go_roundw
              case rel => exact ⟨k + 1, by omega, by go_num, hide (fun j hj h => if e : j = k then (by subst e; exact HK.out) else HO.out j hj (by omega)), HB2⟩
              case measure => simp [intOf]; omega
    · have hke : k = x.l.length := by omega
      have HT := hide (validB_t (l := x.l) (fun j hj => HO.out j hj (by omega)))
      have hlti : ¬ (k : Int) < x.l.length := by omega
      go_wp2
      go_ret
      exact ⟨by rw [HT.out]; rfl, HB.out⟩
end Go.Proofs.YtlkhiihehaiinaaDoor

/- querylabfield's tape: Mod, Raw, N, Range at any tape. -/
namespace Go.Proofs.YtlkhiihehaiinaaDoor
open Go.RowKit

/-- Block b is a tape: its list, and the number that is read next. -/
structure TapeIn (w : World) (b : Nat) (L : IL) (a : Nat) : Prop where
  lst : w.cell? ⟨b, 0, none⟩ = some (.slice L.h.ao L.l.length L.h.cap)
  pos : w.cell? ⟨b, 1, none⟩ = some (.int .i64 (a : Nat))
  fr : w.frozen? ⟨b, 1, none⟩ = false
  row : L.In w
  ne : 0 < L.l.length → L.h.b ≠ b
theorem TapeIn.lt {w : World} {b a : Nat} {L : IL} (h : TapeIn w b L a) : b < w.heap.size := World.block_lt_of_cell? w ⟨b, 0, none⟩ h.lst
theorem TapeIn.mono {w w' : World} {b a : Nat} {L : IL} (h : TapeIn w b L a) (hb : Below w.heap.size w w') : TapeIn w' b L a :=
  ⟨by rw [hb.cell (p := ⟨b, 0, none⟩) h.lt]; exact h.lst, by rw [hb.cell (p := ⟨b, 1, none⟩) h.lt]; exact h.pos, by rw [hb.frozen (p := ⟨b, 1, none⟩) h.lt]; exact h.fr, h.row.mono hb, h.ne⟩

/-- What a remainder is, and that it lies in its bounds. -/
def modn (x n : Int) : Int := if x.tmod n < 0 then x.tmod n + n else x.tmod n
theorem modn_ok {x n : Int} (hn : 1 ≤ n) : 0 ≤ modn x n ∧ modn x n < n := by
  have h1 := Int.tmod_lt_of_pos x (show 0 < n by omega)
  have h2 := Int.lt_tmod_of_pos x (show 0 < n by omega)
  unfold modn
  split <;> omega

theorem row_grown {α : Type} {w w' : World} {size b : Nat} {cells : α → List Value} {h : Hd} {xs : List α} (hr : Row w size cells h xs) (hg : w.grownBy w' (some b)) (hne : 0 < xs.length → h.b ≠ b) : Row w' size cells h xs := by
  obtain ⟨h1, h2, h3, h4⟩ := hr
  refine ⟨h1, h2, fun hp => ⟨(h3 hp).1, Nat.lt_of_lt_of_le (h3 hp).2 hg.size⟩, fun i hi j v hv => ?_⟩
  have hp : 0 < xs.length := by omega
  rw [World.cell?_of_block (w := w) (a := ⟨h.b, _, none⟩) (hg.block h.b (h3 hp).2 (by simpa using hne hp))]
  exact h4 i hi j v hv
/-- The world in which the tape has been read once more. -/
theorem tape_step {w : World} {b a : Nat} {L : IL} (h : TapeIn w b L a) (n : Nat) : TapeIn ((w.drewN n).setCell ⟨b, 1, none⟩ (.int .i64 ((a : Int) + 1))) b L (a + 1) ∧ w.grownBy ((w.drewN n).setCell ⟨b, 1, none⟩ (.int .i64 ((a : Int) + 1))) (some b) := by
  have hg : w.grownBy ((w.drewN n).setCell ⟨b, 1, none⟩ (.int .i64 ((a : Int) + 1))) (some b) :=
    ⟨rfl, rfl, rfl, by simp [World.drewN], fun k _ hk => Below.heap_setCell _ _ _ _ (fun e => hk (by rw [e]))⟩
  refine ⟨⟨?_, ?_, ?_, ⟨row_grown h.row.1 hg h.ne, h.row.2⟩, h.ne⟩, hg⟩
  · have h0 := h.lst
    simp [go_sem, h0]
  · have h1 := h.pos
    simp [go_sem, h1]
  · have h1 := h.fr
    simp [go_sem, h1]


def rawAt (L : IL) (a : Nat) : Int := if h : a < L.l.length then L.l[a] else 0
def posAt (L : IL) (a : Nat) : Nat := if a < L.l.length then a + 1 else a
theorem rawAt_64 {w : World} {L : IL} (h : L.In w) (a : Nat) : int64 (rawAt L a) := by
  unfold rawAt
  split
  · exact h.2 _ (List.getElem_mem _)
  · constructor <;> decide
def fmod (x n : Int) : Int := if n < 1 then 0 else modn x n
set_option maxRecDepth 100000 in
set_option maxHeartbeats 1000000 in
theorem mod_any (x n : Int) (hn : int64 n) (w : World) : Calls Tryd.prog 62 #[.int .i64 x, .int .i64 n] w fun e w' => e = .returned (.int .i64 (fmod x n)) ∧ w' = w := by
  by_cases h1 : n < 1
  · have hf : fmod x n = 0 := if_pos h1
    rw [hf]
    go_enter Tryd.func62, Tryd.ntmps62
    go_wp2
    go_ret
    exact ⟨rfl, rfl⟩
  · have hf : fmod x n = modn x n := if_neg h1
    have hn2 := hn.2
    have hr1 := Int.tmod_lt_of_pos x (show 0 < n by omega)
    have hr2 := Int.lt_tmod_of_pos x (show 0 < n by omega)
    rw [hf]
    by_cases h2 : x.tmod n < 0
    · have hm : modn x n = x.tmod n + n := if_pos h2
      have hw : IntKind.i64.wrap (x.tmod n + n) = x.tmod n + n := by rw [IntKind.wrap_i64]; omega
      rw [hm]
      go_enter Tryd.func62, Tryd.ntmps62
      go_wp2
      go_ret
      exact ⟨by simp [go_sem], rfl⟩
    · have hm : modn x n = x.tmod n := if_neg h2
      rw [hm]
      go_enter Tryd.func62, Tryd.ntmps62
      go_wp2
      go_ret
      exact ⟨by simp [go_sem], rfl⟩
theorem TapeIn.draws {w : World} {b a : Nat} {L : IL} (h : TapeIn w b L a) (n : Nat) : TapeIn (w.drewN n) b L a := h.mono ⟨rfl, rfl, rfl, Nat.le_refl _, fun _ _ => rfl⟩
theorem grown_draws {w x : World} {b : Option Nat} (h : w.grownBy x b) (n : Nat) : w.grownBy (x.drewN n) b := ⟨h.os, h.tape, h.output, h.size, h.block⟩
set_option maxRecDepth 100000 in
set_option maxHeartbeats 2000000 in
theorem raw_any (w : World) (b a : Nat) (L : IL) (ht : TapeIn w b L a) (ha : a ≤ 4611686018427387904) :
    Calls Tryd.prog 63 #[.pointer (some ⟨b, 0, none⟩)] w fun e w' => e = .returned (.int .i64 (rawAt L a)) ∧ TapeIn w' b L (posAt L a) ∧ w.grownBy w' (some b) := by
  have h0 := ht.lst
  have h1 := ht.pos
  have hf := ht.fr
  have hl := ht.row.1.len
  have HT := hide ht
  clear ht
  by_cases hlt : a < L.l.length
  · have hlti : (a : Int) < L.l.length := by omega
    have hix := HT.out.row.1.ix hlt Tryd.underlying34 szil
    have c0 := int_at HT.out.row.1 hlt
    have hr : rawAt L a = L.l[a] := by unfold rawAt; rw [dif_pos hlt]
    have hp : posAt L a = a + 1 := if_pos hlt
    rw [hr, hp]
    obtain ⟨x, hx⟩ : ∃ x, L.l[a] = x := ⟨_, rfl⟩
    rw [hx] at c0 ⊢
    clear hr hp
    go_enter Tryd.func63, Tryd.ntmps63
    go_wp2
    go_quiet (fail)
    go_upto_region 4 with fail
    have HS := hide (tape_step HT.out nq)
    obtain ⟨X, hX⟩ : ∃ X, (w.drewN nq).setCell ⟨b, 1, none⟩ (.int .i64 ((a : Int) + 1)) = X := ⟨_, rfl⟩
    rw [hX] at HS ⊢
    have h0 := HS.out.1.lst
    have h1 := HS.out.1.pos
    have hix := HS.out.1.row.1.ix hlt Tryd.underlying34 szil
    have c0 := int_at HS.out.1.row.1 hlt
    rw [hx] at c0
    have hws : IntKind.i64.wrap (((a + 1 : Nat) : Int) - 1) = (a : Int) := by rw [IntKind.wrap_i64]; omega
    clear hX hx
    go_wp2
    go_quiet (fail)
    go_wp2
    go_ret
    exact ⟨rfl, HS.out.1.draws _, grown_draws HS.out.2 _⟩
  · have hlti : ¬ (a : Int) < L.l.length := by omega
    have hr : rawAt L a = 0 := by unfold rawAt; rw [dif_neg hlt]
    have hp : posAt L a = a := if_neg hlt
    rw [hr, hp]
    clear hr hp
    go_enter Tryd.func63, Tryd.ntmps63
    go_wp2
    go_quiet (fail)
    go_wp2
    go_ret
    exact ⟨rfl, HT.out.draws _, grown_draws (World.grownBy.refl _ _) _⟩
/-- What N answers. -/
def nAt (L : IL) (a : Nat) (n : Int) : Int := fmod (rawAt L a) n
theorem fmod_ok {x n : Int} (hn : 1 ≤ n) : 0 ≤ fmod x n ∧ fmod x n < n := by
  unfold fmod
  rw [if_neg (by omega)]
  exact modn_ok hn
set_option maxRecDepth 100000 in
set_option maxHeartbeats 2000000 in
theorem n_any (w : World) (b a : Nat) (L : IL) (n : Int) (ht : TapeIn w b L a) (ha : a ≤ 4611686018427387904) (hn : int64 n) :
    Calls Tryd.prog 41 #[.pointer (some ⟨b, 0, none⟩), .int .i64 n] w fun e w' => e = .returned (.int .i64 (nAt L a n)) ∧ TapeIn w' b L (posAt L a) ∧ w.grownBy w' (some b) := by
  have HT := hide ht
  clear ht
  go_enter Tryd.func41, Tryd.ntmps41
  go_wp2_with (first
    | (go_at_call 63; refine (raw_any _ b a L HT.out ha).mono ?_; rintro e w1 ⟨rfl, h1, h2⟩; have HT1 := hide h1; have HG1 := hide h2; clear h1 h2)
    | (go_at_call 62; refine (mod_any _ _ hn _).mono ?_; rintro e w2 ⟨rfl, rfl⟩))
  go_ret
  exact ⟨rfl, HT1.out, HG1.out⟩
set_option maxRecDepth 100000 in
set_option maxHeartbeats 2000000 in
theorem range_any (w : World) (b a : Nat) (L : IL) (lo hi : Int) (ht : TapeIn w b L a) (ha : a ≤ 4611686018427387904) (hlo : -1000000 ≤ lo ∧ lo ≤ hi ∧ hi ≤ 1000000) :
    Calls Tryd.prog 14 #[.pointer (some ⟨b, 0, none⟩), .int .i64 lo, .int .i64 hi] w fun e w' => e = .returned (.int .i64 (lo + nAt L a (hi - lo + 1))) ∧ TapeIn w' b L (posAt L a) ∧ w.grownBy w' (some b) := by
  have hn := fmod_ok (x := rawAt L a) (n := hi - lo + 1) (by omega)
  have hw1 : IntKind.i64.wrap (hi - lo) = hi - lo := by rw [IntKind.wrap_i64]; omega
  have hw2 : IntKind.i64.wrap (hi - lo + 1) = hi - lo + 1 := by rw [IntKind.wrap_i64]; omega
  have hw3 : IntKind.i64.wrap (lo + nAt L a (hi - lo + 1)) = lo + nAt L a (hi - lo + 1) := by unfold nAt; rw [IntKind.wrap_i64]; omega
  have HT := hide ht
  obtain ⟨m, hm⟩ : ∃ m, hi - lo + 1 = m := ⟨_, rfl⟩
  have hm64 : int64 m := by constructor <;> omega
  have hw2m : IntKind.i64.wrap (hi - lo + 1) = m := hw2.trans hm
  rw [hm] at hw3 ⊢
  clear ht hn hm hw2
  go_enter Tryd.func14, Tryd.ntmps14
  go_wp2_with (go_at_call 41; refine (n_any _ b a L m HT.out ha hm64).mono ?_; rintro e w1 ⟨rfl, h1, h2⟩; have HT1 := hide h1; have HG1 := hide h2; clear h1 h2)
  go_ret
  exact ⟨rfl, HT1.out, HG1.out⟩
end Go.Proofs.YtlkhiihehaiinaaDoor

/- querylabfield.New at any list. -/
namespace Go.Proofs.YtlkhiihehaiinaaDoor
open Go.RowKit

set_option maxRecDepth 100000 in
set_option maxHeartbeats 2000000 in
theorem fnew_any (L : IL) (w : World) (hL : L.In w) : Calls Tryd.prog 13 #[.slice L.h.ao L.l.length L.h.cap] w fun e w' => ∃ L' : IL, L'.l = L.l.take 2000 ∧ e = .returned (.pointer (some ⟨w.heap.size, 0, none⟩)) ∧ TapeIn w' w.heap.size L' 0 ∧ Below w.heap.size w w' := by
  have hl := hL.1.len
  have hcap := hL.1.2.1
  have hc := hL.1.1
  have hn : (min (L.l.length : Int) 2000).toNat = (L.l.take 2000).length := by rw [List.length_take]; omega
  have HIN := hide (show IL.In w ⟨L.h, L.l.take 2000⟩ from by
    obtain ⟨⟨h1, h2, h3, h4⟩, h5⟩ := hL
    refine ⟨⟨Nat.le_trans (by rw [List.length_take]; omega) h1, h2, fun hp => h3 (by rw [List.length_take] at hp; omega), fun i hi j v hv => ?_⟩, fun n hn => h5 n (List.mem_of_mem_take hn)⟩
    have hi2 : i < L.l.length := by rw [List.length_take] at hi; omega
    rw [List.getElem_take] at hv
    exact h4 i hi2 j v hv)
  have hlt : ∀ hp : 0 < L.l.length, L.h.b < w.heap.size := fun hp => hL.1.blk hp
  clear hL
  have hfin : ∀ W : World, W = w.alloc (.cells #[.slice L.h.ao (min (L.l.length : Int) 2000).toNat L.h.cap, .int .i64 0] 64) → TapeIn W w.heap.size ⟨L.h, L.l.take 2000⟩ 0 ∧ Below w.heap.size w W := by
    rintro W rfl
    have hb : Below w.heap.size w (w.alloc (.cells #[.slice L.h.ao (min (L.l.length : Int) 2000).toNat L.h.cap, .int .i64 0] 64)) := (Below.refl _ w).alloc (Nat.le_refl _) _
    refine ⟨⟨?_, ?_, ?_, HIN.out.mono hb, fun hp => ?_⟩, hb⟩
    · rw [World.cell?_alloc_at _ _ _ _ rfl, hn]; rfl
    · rw [World.cell?_alloc_at _ _ _ _ rfl]; rfl
    · exact World.frozen?_alloc_new w _ _ _
    · have := hlt (by rw [List.length_take] at hp; omega); show L.h.b ≠ w.heap.size; omega
  have HF := hide hfin
  clear hfin hn hlt
  by_cases h : L.l.length ≤ 2000
  · have h2 : (L.l.length : Int) ≤ 2000 := by omega
    go_enter Tryd.func13, Tryd.ntmps13
    go_wp2
    go_ret
    exact ⟨⟨L.h, L.l.take 2000⟩, rfl, rfl, HF.out _ rfl⟩
  · have h2 : ¬ (L.l.length : Int) ≤ 2000 := by omega
    go_enter Tryd.func13, Tryd.ntmps13
    go_wp2
    go_ret
    exact ⟨⟨L.h, L.l.take 2000⟩, rfl, rfl, HF.out _ rfl⟩
end Go.Proofs.YtlkhiihehaiinaaDoor

/- (*querylabfield.Tape).Pick at any list that is not the tape's own block. -/
namespace Go.Proofs.YtlkhiihehaiinaaDoor
open Go.RowKit

theorem il_grown {w w' : World} {M : IL} {b : Nat} (h : M.In w) (hg : w.grownBy w' (some b)) (hne : 0 < M.l.length → M.h.b ≠ b) : M.In w' := ⟨row_grown h.1 hg hne, h.2⟩
set_option maxRecDepth 100000 in
set_option maxHeartbeats 2000000 in
theorem pick_any (w : World) (b a : Nat) (L M : IL) (ht : TapeIn w b L a) (ha : a ≤ 4611686018427387904) (hM : M.In w) (hp : 0 < M.l.length) (hne : M.h.b ≠ b) :
    Calls Tryd.prog 44 #[.pointer (some ⟨b, 0, none⟩), .slice M.h.ao M.l.length M.h.cap] w fun e w' => (∃ k, ∃ h : k < M.l.length, (k : Int) = nAt L a M.l.length ∧ e = .returned (.int .i64 M.l[k])) ∧ TapeIn w' b L (posAt L a) ∧ w.grownBy w' (some b) := by
  have hl := hM.1.len
  have h64 : int64 (M.l.length : Int) := by constructor <;> omega
  have hn := fmod_ok (x := rawAt L a) (n := (M.l.length : Int)) (by omega)
  obtain ⟨k, hk, hkn⟩ : ∃ k : Nat, k < M.l.length ∧ nAt L a M.l.length = k := ⟨(nAt L a M.l.length).toNat, by unfold nAt; omega, by unfold nAt; omega⟩
  have HT := hide ht
  have HM := hide hM
  have HN := hide hkn
  obtain ⟨x, hx⟩ : ∃ x, M.l[k] = x := ⟨_, rfl⟩
  have HX := hide hx
  clear ht hM hn hkn hx
  go_enter Tryd.func44, Tryd.ntmps44
  go_wp2_with (go_at_call 41; refine (n_any _ b a L _ HT.out ha h64).mono ?_; rintro e w1 ⟨rfl, h1, h2⟩; rw [HN.out]; have HT1 := hide h1; have HG1 := hide h2; have HM1 := hide (il_grown HM.out h2 (fun _ => hne)); have hix := HM1.out.1.ix hk Tryd.underlying34 szil; have c0 := int_at HM1.out.1 hk; rw [HX.out] at c0; clear h1 h2)
  go_ret
  exact ⟨⟨k, hk, HN.out.symm, by rw [HX.out]; rfl⟩, HT1.out, HG1.out⟩
end Go.Proofs.YtlkhiihehaiinaaDoor

/- ref36.operations, operators: the words. -/
namespace Go.Proofs.YtlkhiihehaiinaaDoor
open Go.RowKit

def opsW : List (List UInt8) := [[97, 100, 100], [115, 117, 98], [109, 117, 108], [100, 105, 118], [109, 111, 100], [110, 101, 103], [99, 111, 110, 99, 97, 116], [108, 101, 110, 103, 116, 104], [101, 113], [110, 101], [108, 116], [108, 101], [103, 116], [103, 101], [115, 97, 109, 101], [105, 115, 110, 117, 108, 108], [97, 110, 100], [111, 114], [110, 111, 116], [105, 115, 116, 114, 117, 101], [99, 97, 115, 101], [99, 111, 97, 108, 101, 115, 99, 101], [105, 110]]
def pwsW : List (List UInt8) := [[115, 99, 97, 110], [118, 97, 108, 117, 101, 115], [102, 105, 108, 116, 101, 114], [112, 114, 111, 106, 101, 99, 116], [108, 111, 111, 112], [104, 97, 115, 104], [109, 101, 114, 103, 101], [115, 111, 114, 116], [104, 97, 115, 104, 103, 114, 111, 117, 112], [115, 111, 114, 116, 103, 114, 111, 117, 112], [97, 112, 112, 101, 110, 100], [100, 105, 115, 116, 105, 110, 99, 116], [117, 110, 105, 113, 117, 101], [101, 120, 99, 101, 112, 116], [105, 110, 116, 101, 114, 115, 101, 99, 116]]
set_option maxRecDepth 100000 in
theorem operations_any (w : World) : Calls Tryd.prog 23 #[] w fun e w' => e = .returned (.slice (some ⟨w.heap.size, 0, none⟩) 23 23) ∧ (∀ j x, opsW[j]? = some x → w'.cell? ⟨w.heap.size, j, none⟩ = some (.string (mk x))) ∧ Below w.heap.size w w' := by
  go_enter Tryd.func23, Tryd.ntmps23
  go_wp2
  go_ret
  refine ⟨rfl, fun j x hj => ?_, (Below.refl _ w).alloc (Nat.le_refl _) _⟩
  show (w.alloc (.cells (opsW.map fun l => Value.string (mk l)).toArray 9)).cell? _ = _
  rw [World.cell?_alloc_at _ _ _ _ rfl, List.getElem?_toArray, List.getElem?_map, hj]
  rfl

set_option maxRecDepth 100000 in
theorem operators_any (w : World) : Calls Tryd.prog 24 #[] w fun e w' => e = .returned (.slice (some ⟨w.heap.size, 0, none⟩) 15 15) ∧ (∀ j x, pwsW[j]? = some x → w'.cell? ⟨w.heap.size, j, none⟩ = some (.string (mk x))) ∧ Below w.heap.size w w' := by
  go_enter Tryd.func24, Tryd.ntmps24
  go_wp2
  go_ret
  refine ⟨rfl, fun j x hj => ?_, (Below.refl _ w).alloc (Nat.le_refl _) _⟩
  show (w.alloc (.cells (pwsW.map fun l => Value.string (mk l)).toArray 9)).cell? _ = _
  rw [World.cell?_alloc_at _ _ _ _ rfl, List.getElem?_toArray, List.getElem?_map, hj]
  rfl

end Go.Proofs.YtlkhiihehaiinaaDoor

/- ref36.through, join: lists of numbers of the call's own. -/
namespace Go.Proofs.YtlkhiihehaiinaaDoor
open Go.RowKit

theorem info3 : (Tryd.prog.info? 3).map (fun i => (i.zero, i.size, i.bytes)) = some (some (.int .i64 0), 1, 8) := by kernel_rfl
theorem il_mk {w : World} {base : Nat} {v : Value} {n : Nat} {xs : List Int} {e : TypeId} (h : w.ownsRow base e 1 v n (xs.flatMap icells)) (hw : ∀ n ∈ xs, int64 n) : ∃ r : IL, v = .slice r.h.ao r.l.length r.h.cap ∧ r.l = xs ∧ r.In w := by
  obtain ⟨hd, rfl, hr⟩ := own_row (size := 1) (cells := icells) (fun _ => rfl) (by decide) h
  exact ⟨⟨hd, xs⟩, rfl, rfl, hr, hw⟩
theorem szil2 : (Tryd.prog.info? 34).map (·.size) = some 1 := by kernel_rfl
/-- The numbers a, a + 1, .. : n of them. -/
def ints (a : Int) : Nat → List Int
  | 0 => []
  | n + 1 => a :: ints (a + 1) n
theorem ints_len (n : Nat) : ∀ a, (ints a n).length = n := by
  induction n with
  | zero => intro a; rfl
  | succ n ih => intro a; simp [ints, ih]
theorem ints_snoc (n : Nat) : ∀ a, ints a (n + 1) = ints a n ++ [a + n] := by
  induction n with
  | zero => intro a; simp [ints]
  | succ n ih =>
    intro a
    have h := ih (a + 1)
    show a :: ints (a + 1) (n + 1) = a :: (ints (a + 1) n ++ _)
    rw [h]
    have e : a + 1 + (n : Int) = a + ((n + 1 : Nat) : Int) := by omega
    rw [e]
theorem ints_mem (n : Nat) : ∀ a x, x ∈ ints a n → a ≤ x ∧ x < a + n := by
  induction n with
  | zero => intro a x h; cases h
  | succ n ih =>
    intro a x h
    rcases List.mem_cons.1 h with rfl | h
    · omega
    · have := ih _ _ h; omega
theorem flat_snoc (xs : List Int) (x : Int) : (xs ++ [x]).flatMap icells = xs.flatMap icells ++ [.int .i64 x] := by simp [List.flatMap_append]
def ILis (l : List Int) (v : Value) (w : World) : Prop := ∃ r : IL, v = .slice r.h.ao r.l.length r.h.cap ∧ r.l = l ∧ r.In w
theorem ILis.mono {l : List Int} {v : Value} {w w' : World} (h : ILis l v w) (hb : Below w.heap.size w w') : ILis l v w' := by
  obtain ⟨r, h1, h2, h3⟩ := h
  exact ⟨r, h1, h2, h3.mono hb⟩

set_option maxRecDepth 100000 in
set_option maxHeartbeats 1000000 in
theorem through_any (a : Int) (n : Nat) (w : World) (ha : 0 ≤ a) (hs : a + n ≤ 1000) (b : Int) (hb : b = a + n - 1) :
    Calls Tryd.prog 46 #[.int .i64 a, .int .i64 b] w fun e w' => (∃ v, e = .returned v ∧ ILis (ints a n) v w') ∧ Below w.heap.size w w' := by
  subst hb
  obtain ⟨i0, hi, hz0, hz1, hz2⟩ := info_parts info3
  have HI := hide (And.intro hi (And.intro hz0 (And.intro hz1 hz2)))
  clear hi hz0 hz1 hz2
  go_enter Tryd.func46, Tryd.ntmps46
  go_wp2
  go_loopw [0, 5] (fun i v wr => ∃ (k : Nat) (u : Value), u = v ∧ k ≤ n ∧ i = .int .i64 (a + k) ∧ wr.ownsRow w.heap.size 3 1 v k ((ints a k).flatMap icells) ∧ Below w.heap.size w wr) (fun i _ _ => (a + n - intOf i).toNat)
  case atStart => exact ⟨0, _, rfl, Nat.zero_le _, by simp, World.ownsRow_nil _ _ _ _, Below.refl _ _⟩
  case round =>
    obtain ⟨k, u, rfl, hk, rfl, hown, hbw⟩ := hrel
    have HB := hide hbw
    have HO := hide hown
    clear hbw hown
    by_cases hlt : k < n
    · have hle : a + (k : Int) ≤ a + n - 1 := by omega
      have hw1 : IntKind.i64.wrap (a + (k : Int) + 1) = a + ((k + 1 : Nat) : Int) := by rw [IntKind.wrap_i64]; omega
      go_wp2_with (at_builtin; refine wpList_append_own _ rfl _ _ 34 rfl w.heap.size 3 i0 (.int .i64 0) 1 8 Tryd.underlying34 HI.out.1 HI.out.2.1 HI.out.2.2.1 HI.out.2.2.2 rfl (by decide) _ _ _ rfl (HO.out.alloc _) ⟨wr.heap.size, 0, none⟩ 1 1 [.int .i64 (a + k)] rfl rfl ?c1 ?c2 ?c3 ?c4 ?c5 ?_)
      case c1 => exact new_cells (l := [_])
      case c2 => exact one_int
      case c3 => unfold maxLen; omega
      case c4 => omega
      case c5 => have := HB.out.size; simp; omega
      intro v' w1 hown' hgrow _
      have HO' := hide (show w1.ownsRow w.heap.size 3 1 v' (k + 1) ((ints a (k + 1)).flatMap icells) by rw [ints_snoc, flat_snoc]; exact hown')
      have HG := hide hgrow
      clear hown' hgrow
      go_wp2
      go_roundw
      case rel =>
        refine ⟨k + 1, _, rfl, by omega, by go_num, HO'.out, ?_⟩
        exact grown1 HB.out HB.out.size HG.out (fun b hb => (HO.out.lt b hb).1)
      case measure => simp [intOf]; omega
    · have hk' : k = n := by omega
      have hle : ¬ a + (k : Int) ≤ a + n - 1 := by omega
      have HF := hide (show ILis (ints a n) u wr from by
        have ho := HO.out
        rw [hk'] at ho
        obtain ⟨r, hv, hr, hin2⟩ := il_mk ho (fun x hx => by have := ints_mem _ _ _ hx; constructor <;> omega)
        exact ⟨r, hv, hr, hin2⟩)
      go_wp2
      go_ret
      exact ⟨⟨_, rfl, HF.out⟩, HB.out⟩

theorem flat_ints (xs : List IL) : (xs.flatMap IL.l).flatMap icells = xs.flatMap (fun r => r.l.flatMap icells) := by
  induction xs with
  | nil => rfl
  | cons x xs ih => simp only [List.flatMap_cons, List.flatMap_append, ih]
theorem icells_len (l : List Int) : (l.flatMap icells).length = l.length := by induction l with | nil => rfl | cons x l ih => simp only [List.flatMap_cons, List.length_append, ih, List.length_cons, List.length_nil]; omega
theorem icells_one (l : List Int) : ∀ u ∈ l.flatMap icells, u.oneCell' = true := by
  intro u hu
  obtain ⟨x, _, hx⟩ := List.mem_flatMap.1 hu
  simp at hx
  subst hx
  rfl
theorem icells_at (l : List Int) (j : Nat) (u : Value) (h : (l.flatMap icells)[j]? = some u) : ∃ hj : j < l.length, u = .int .i64 l[j] := by
  have h1 := (List.getElem?_eq_some_iff.1 h).1
  rw [icells_len] at h1
  have h2 := flatMap_at (cells := icells) (size := 1) (fun _ => rfl) l j 0 h1 (by decide)
  simp only [Nat.mul_one, Nat.add_zero] at h2
  rw [h] at h2
  exact ⟨h1, by injection h2⟩
theorem il_cells {w : World} {r : IL} (h : r.In w) (j : Nat) (u : Value) (hu : (r.l.flatMap icells)[j]? = some u) : w.cell? ((⟨r.h.b, r.h.o, none⟩ : Addr).add j) = some u := by
  obtain ⟨hj, rfl⟩ := icells_at _ _ _ hu
  rw [Addr.add_lit]
  exact int_at h.1 hj
def jlen (xs : List IL) : Nat := (xs.flatMap IL.l).length
theorem take_snoc {α : Type} (xs : List α) {k : Nat} (hk : k < xs.length) : xs.take (k + 1) = xs.take k ++ [xs[k]] := List.take_succ_eq_append_getElem hk

set_option maxRecDepth 100000 in
set_option maxHeartbeats 1000000 in
theorem join_any (h : Hd) (xs : List IL) (w : World) (hr : Row w 1 IL.cells h xs) (hin : ∀ u ∈ xs, u.In w ∧ 0 < u.l.length) (hs : (xs.flatMap IL.l).length ≤ 1000) :
    Calls Tryd.prog 47 #[.slice h.ao xs.length h.cap] w fun e w' => (∃ v, e = .returned v ∧ ILis (xs.flatMap IL.l) v w') ∧ Below w.heap.size w w' := by
  have hn := hr.len
  obtain ⟨i0, hi, hz0, hz1, hz2⟩ := info_parts info3
  have HI := hide (And.intro hi (And.intro hz0 (And.intro hz1 hz2)))
  clear hi hz0 hz1 hz2
  go_enter Tryd.func47, Tryd.ntmps47
  go_wp2
  go_loopw [8, 3] (fun i v wr => ∃ (k : Nat) (u : Value), u = v ∧ k ≤ xs.length ∧ i = .int .i64 k ∧ wr.ownsRow w.heap.size 3 1 v (jlen (xs.take k)) (((xs.take k).flatMap IL.l).flatMap icells) ∧ Below w.heap.size w wr) (fun i _ _ => (xs.length - (intOf i).toNat))
  case atStart => exact ⟨0, _, rfl, Nat.zero_le _, rfl, World.ownsRow_nil _ _ _ _, Below.refl _ _⟩
  case round =>
    obtain ⟨k, u, rfl, hk, rfl, hown, hbw⟩ := hrel
    have HB := hide hbw
    have HO := hide hown
    have hr' := hr.mono hbw
    by_cases hlt : k < xs.length
    · obtain ⟨hx, hx0⟩ := hin _ (List.getElem_mem hlt)
      have hx' := hx.mono hbw
      have hix := hr'.ix hlt Tryd.underlying90 szil2
      have c0 := il_at hr' hlt
      have hbb := hr'.blk hlt
      have hao := (hx'.1.2.2.1 hx0).1
      rw [hao] at c0
      have HX := hide hx'
      obtain ⟨y, hy⟩ : ∃ y, xs[k] = y := ⟨_, rfl⟩
      rw [hy] at c0 HX
      have hlen : ((xs.take (k + 1)).flatMap IL.l) = ((xs.take k).flatMap IL.l) ++ y.l := by rw [take_snoc xs hlt, List.flatMap_append, hy]; simp
      have hle : ((xs.take (k + 1)).flatMap IL.l).length ≤ 1000 := by
        have h1 : xs.flatMap IL.l = (xs.take (k + 1)).flatMap IL.l ++ (xs.drop (k + 1)).flatMap IL.l := by rw [← List.flatMap_append, List.take_append_drop]
        rw [h1, List.length_append] at hs
        omega
      rw [hlen, List.length_append] at hle
      have hle2 : jlen (xs.take k) + y.l.length ≤ 1000 := hle
      clear hle
      have HL := hide hlen
      clear hbw hown hx hx' hao hlen hy hr' hx0
      go_wp2_with (at_builtin; refine wpList_append_own _ rfl _ _ 34 rfl w.heap.size 3 i0 (.int .i64 0) 1 8 Tryd.underlying34 HI.out.1 HI.out.2.1 HI.out.2.2.1 HI.out.2.2.2 rfl (by decide) _ _ _ rfl HO.out ⟨y.h.b, y.h.o, none⟩ y.l.length y.h.cap (y.l.flatMap icells) rfl ?c0 ?c1 ?c2 ?c3 ?c4 ?c5 ?_)
      case c0 => rw [icells_len]; omega
      case c1 => exact il_cells HX.out
      case c2 => exact icells_one _
      case c3 => unfold maxLen; omega
      case c4 => omega
      case c5 => exact HB.out.size
      intro v' w1 hown' hgrow _
      have HO' := hide (show w1.ownsRow w.heap.size 3 1 v' (jlen (xs.take (k + 1))) (((xs.take (k + 1)).flatMap IL.l).flatMap icells) by unfold jlen; rw [HL.out, List.length_append, List.flatMap_append]; exact hown')
      have HG := hide hgrow
      clear hown' hgrow
      go_wp2
      go_roundw
      case rel =>
        refine ⟨k + 1, _, rfl, by omega, by go_num, HO'.out, ?_⟩
        exact HB.out.grown HG.out HB.out.size (fun b hb => (HO.out.lt b hb).1)
      case measure => simp [intOf]; omega
    · have hk' : k = xs.length := by omega
      have HF := hide (show ILis (xs.flatMap IL.l) u wr from by
        have ho := HO.out
        rw [hk', List.take_length] at ho
        obtain ⟨r, hv, hr, hin2⟩ := il_mk ho (fun x hx => by obtain ⟨y, hy, hx⟩ := List.mem_flatMap.1 hx; exact (hin y hy).1.2 x hx)
        exact ⟨r, hv, hr, hin2⟩)
      clear hbw hown hr'
      go_wp2
      go_ret
      exact ⟨⟨_, rfl, HF.out⟩, HB.out⟩
end Go.Proofs.YtlkhiihehaiinaaDoor

/- querylabfield.slot: its walk. -/
import Derived.Test.YtiijaaohphokcaaGreatDoorG31
namespace Go.Proofs.YtiijaaohphokcaaGreatDoor
open Go.RowKit

set_option maxRecDepth 100000 in
set_option maxHeartbeats 8000000 in
theorem slot_any (w0 : World) (B b : Nat) (L : IL) (a pb : Nat) (ts : List Int) (lv : Value) (typ : Int) (w : World) (hT : TS w0 B b L a pb ts lv w) (hty : typ = 1 ∨ typ = 3) (ha : a ≤ 4611686018427387000) (hts : ts.length ≤ 900) :
    Calls Tryz.prog 40 #[.pointer (some ⟨b, 0, none⟩), .int .i64 typ, .pointer (some ⟨pb, 0, none⟩)] w (SlotPost w0 B b L a pb ts lv typ w) := by
  have hll := hT.ll
  have hle := hT.le
  have hlo := hT.lo
  have hpl := hT.bx.lt
  obtain ⟨X, hX⟩ : ∃ X, w.alloc (.cells #[.int .i64 0, .int .i64 0, .int .i64 0, .string ⟨#[]⟩] 83) = X := ⟨_, rfl⟩
  have HWX := hide (box1X hX).2
  have HBX := hide (box1X hX).1
  have HTX := hide (hT.below HWX.out)
  have HKX := hide (show KeptT w X b pb lv from kept_gb (only_below HWX.out none) (fun j e => by cases e))
  have h6 : int64 (6 : Int) := by constructor <;> decide
  have h3 : int64 (3 : Int) := by constructor <;> decide
  have hpa := pos_le L a
  have hpa1 := pos_le L (posAt L a)
  have hpa2 := pos_le L (posAt L (posAt L a))
  obtain ⟨m0, hm0⟩ : ∃ m, nAt L a 6 = m := ⟨_, rfl⟩
  have HM0 := hide hm0
  have HTW := hide hT
  clear hT hm0
  by_cases h5 : m0 = 5
  · have hb5 : (m0 == 5) = true := beq_iff_eq.2 h5
    clear h5
    go_enter Tryz.func40, Tryz.ntmps40
    go_upto_region 1 with fail
    try rw [hX]
    clear hX
    go_wp2_with (first
      | (go_at_call 10; refine (n_any _ b a L 6 HTX.out.tp (by omega) h6).mono ?_; rintro e y ⟨rfl, h1, h2⟩; rw [HM0.out]; have HTY := hide (HTX.out.next h2 h1); have HKY := hide (HKX.out.andThen HWX.out.size h2 (fun j e => .inl (by injection e with e; exact e.symm))); have HBY := hide (HBX.out.grown h2 (by intro e; injection e with e; omega)); have HSY := hide (Nat.le_trans HWX.out.size h2.size); clear h1 h2)
      | (go_at_call 52; refine (value_any typ hty _ b _ L HTY.out.tp (by omega)).mono ?_; rintro e z ⟨k, rfl, hk, ⟨a', ha', h1⟩, h2⟩; have HNV := hide hk; have HAP := hide ha'; have HTZ := hide (HTY.out.next h2 h1); have HKZ := hide (HKY.out.andThen HSY.out h2 (fun j e => .inl (by injection e with e; exact e.symm))); have HBF := hide (HBY.out.grown h2 (by intro e; injection e with e; omega)); have HSZ := hide (Nat.le_trans HSY.out h2.size); clear h1 h2 hk ha'; have r0 : z.cell? ⟨w.heap.size, 0, none⟩ = some (.int .i64 0) := HBF.out.cell rfl; have r1 : z.cell? ⟨w.heap.size, 1, none⟩ = some (.int .i64 0) := HBF.out.cell rfl; have r2 : z.cell? ⟨w.heap.size, 2, none⟩ = some (.int .i64 0) := HBF.out.cell rfl; have r3 : z.cell? ⟨w.heap.size, 3, none⟩ = some (.string ⟨#[]⟩) := HBF.out.cell rfl; have f0 := HBF.out.fr 0; have f1 := HBF.out.fr 1; have f2 := HBF.out.fr 2; have f3 := HBF.out.fr 3))
    have HS4 := hide (set4 z w.heap.size (.int .i64 (-1)) (.int .i64 k.kind) (.int .i64 k.num) (.string k.text))
    have HF : SlotPost w0 B b L a pb ts lv typ w (.returned (.agg #[.int .i64 (-1), .int .i64 k.kind, .int .i64 k.num, .string k.text])) ((((z.setCell ⟨w.heap.size, 0, none⟩ (.int .i64 (-1))).setCell ⟨w.heap.size, 1, none⟩ (.int .i64 k.kind)).setCell ⟨w.heap.size, 2, none⟩ (.int .i64 k.num)).setCell ⟨w.heap.size, 3, none⟩ (.string k.text)) := by
      refine ⟨.c k, ts, lv, _, rfl, HTZ.out.other HS4.out (by omega) (by omega) (HTZ.out.own_ne (TyAt.box HBF.out) (by decide)), by have := HAP.out; omega, .inl rfl, ⟨HNV.out.2.1, HNV.out.1⟩, HNV.out.2.2, (HKZ.out).andThen HSZ.out HS4.out (fun j e => by injection e with e; right; right; right; omega), Nat.le_trans HSZ.out HS4.out.size⟩
    refine bodyPost_ret (v := .agg #[.int .i64 (-1), .int .i64 k.kind, .int .i64 k.num, .string k.text]) ?_ ?_ ?_
    case refine_3 => exact HF
    case refine_2 => rfl
    simp [results, Tryz.results40, go_sem, r0, r1, r2, r3]
  · have hb5 : (m0 == 5) = false := beq_eq_false_iff_ne.2 h5
    clear h5
    obtain ⟨hd, hlv, _⟩ := HTW.out.il
    have HLV := hide hlv
    clear hlv
    go_enter Tryz.func40, Tryz.ntmps40
    go_upto_region 1 with fail
    try rw [hX]
    clear hX
    go_upto_region 4 with (first
      | (go_at_call 10; refine (n_any _ b a L 6 HTX.out.tp (by omega) h6).mono ?_; rintro e y ⟨rfl, h1, h2⟩; rw [HM0.out]; have HTY := hide (HTX.out.next h2 h1); have HKY := hide (HKX.out.andThen HWX.out.size h2 (fun j e => .inl (by injection e with e; exact e.symm))); have HBY := hide (HBX.out.grown h2 (by intro e; injection e with e; omega)); have HSY := hide (Nat.le_trans HWX.out.size h2.size); have y0 : y.cell? ⟨pb, 0, none⟩ = some (.slice hd.ao ts.length hd.cap) := by rw [← HLV.out]; exact HTY.out.bx.cell rfl)
      | (go_at_call 81; refine (of_any ⟨hd, ts⟩ typ _ (HTY.out.il' HLV.out) (by show ts.length ≤ 1000; omega)).mono ?_; rintro e z ⟨l, r, rfl, hrl, hel, hri, hrb, hz⟩; have HRL := hide hrl; have HEL := hide hel; have HRI := hide hri; have HRB := hide hrb; have HTZ := hide (HTY.out.below hz); have HKZ := hide (HKY.out.andThen HSY.out (only_below hz none) (fun j e => by cases e)); have HBZ := hide (HBY.out.below hz); have HSZ0 := hide (Nat.le_trans HSY.out hz.size); have HYZ := hide hz.size; clear hz hrl hel hri hrb))
    clear y0
    have hrn := HRI.out.1.len
    obtain ⟨m1, hm1⟩ : ∃ m, nAt L (posAt L a) 3 = m := ⟨_, rfl⟩
    have HM1 := hide hm1
    clear hm1
    by_cases hp : 0 < r.l.length
    · have hpi : (0 : Int) < r.l.length := by omega
      have h64r : int64 (r.l.length : Int) := by constructor <;> omega
      by_cases hm : 0 < m1
      · have hn := fmod_ok (x := rawAt L (posAt L (posAt L a))) (n := (r.l.length : Int)) (by omega)
        obtain ⟨k, hk, hkn⟩ : ∃ k : Nat, k < r.l.length ∧ nAt L (posAt L (posAt L a)) r.l.length = k := ⟨(nAt L (posAt L (posAt L a)) r.l.length).toNat, by unfold nAt; omega, by unfold nAt; omega⟩
        have HKN := hide hkn
        have HKR := hide (show ∃ j : Nat, r.l[k] = (j : Int) ∧ ∃ h : j < ts.length, ts[j] = typ from by
          have hk2 : k < l.length := by have := congrArg List.length HRL.out; rw [List.length_map] at this; omega
          refine ⟨l[k], ?_, HEL.out _ (List.getElem_mem hk2)⟩
          have : r.l[k] = (l.map Int.ofNat)[k]'(by rw [List.length_map]; exact hk2) := by simp only [HRL.out]
          rw [this, List.getElem_map]; rfl)
        obtain ⟨j, hj, hjl⟩ := HKR.out
        have HJL := hide hjl
        clear hn hkn HKR hjl
        go_wp2_with (first
          | (go_at_call 10; refine (n_any _ b _ L 3 HTZ.out.tp (by omega) h3).mono ?_; rintro e y2 ⟨rfl, h1, h2⟩; rw [HM1.out]; have HT2 := hide (HTZ.out.next h2 h1); have HK2 := hide (HKZ.out.andThen HSZ0.out h2 (fun j e => .inl (by injection e with e; exact e.symm))); have HB2 := hide (HBZ.out.grown h2 (by intro e; injection e with e; omega)); have HS2 := hide (Nat.le_trans HSZ0.out h2.size); have HR2 := hide (il_grown HRI.out h2 (fun hp => by have := HRB.out hp; have := HTY.out.tp.lt; omega)); clear h1 h2)
          | (go_at_call 10; refine (n_any _ b _ L r.l.length HT2.out.tp (by omega) h64r).mono ?_; rintro e y3 ⟨rfl, h1, h2⟩; rw [HKN.out]; have HT3 := hide (HT2.out.next h2 h1); have HK3 := hide (HK2.out.andThen HS2.out h2 (fun j e => .inl (by injection e with e; exact e.symm))); have HBF := hide (HB2.out.grown h2 (by intro e; injection e with e; omega)); have HS3 := hide (Nat.le_trans HS2.out h2.size); have hr3 := (il_grown HR2.out h2 (fun hp => by have := HRB.out hp; have := HTY.out.tp.lt; omega)).1; have hix := hr3.ix hk Tryz.underlying22 szil; have c0 : y3.cell? ⟨r.h.b, r.h.o + k, none⟩ = some (.int .i64 (r.l[k]'hk)) := int_at hr3 hk; rw [hj] at c0; have hbk := hr3.blk hk; clear h1 h2 hr3; have r0 : y3.cell? ⟨w.heap.size, 0, none⟩ = some (.int .i64 0) := HBF.out.cell rfl; have r1 : y3.cell? ⟨w.heap.size, 1, none⟩ = some (.int .i64 0) := HBF.out.cell rfl; have r2 : y3.cell? ⟨w.heap.size, 2, none⟩ = some (.int .i64 0) := HBF.out.cell rfl; have r3 : y3.cell? ⟨w.heap.size, 3, none⟩ = some (.string ⟨#[]⟩) := HBF.out.cell rfl; have f0 := HBF.out.fr 0; have f1 := HBF.out.fr 1; have f2 := HBF.out.fr 2; have f3 := HBF.out.fr 3))
        have HS4 := hide (set4 y3 w.heap.size (.int .i64 (j : Nat)) (.int .i64 0) (.int .i64 0) (.string ⟨#[]⟩))
        have HF : SlotPost w0 B b L a pb ts lv typ w (.returned (.agg #[.int .i64 (j : Nat), .int .i64 0, .int .i64 0, .string ⟨#[]⟩])) ((((y3.setCell ⟨w.heap.size, 0, none⟩ (.int .i64 (j : Nat))).setCell ⟨w.heap.size, 1, none⟩ (.int .i64 0)).setCell ⟨w.heap.size, 2, none⟩ (.int .i64 0)).setCell ⟨w.heap.size, 3, none⟩ (.string ⟨#[]⟩)) := by
          refine ⟨.v j, ts, lv, _, rfl, HT3.out.other HS4.out (by omega) (by omega) (HT3.out.own_ne (TyAt.box HBF.out) (by decide)), by omega, .inl rfl, (by obtain ⟨h1, h2⟩ := HJL.out; exact ⟨h1, by show ts.getD j 0 = typ; rw [List.getD_eq_getElem?_getD, List.getElem?_eq_getElem h1]; exact h2⟩), (by obtain ⟨h1, h2⟩ := HJL.out; show j ≤ 1000; omega), (HK3.out).andThen HS3.out HS4.out (fun j e => by injection e with e; right; right; right; omega), Nat.le_trans HS3.out HS4.out.size⟩
        refine bodyPost_ret (v := .agg #[.int .i64 (j : Nat), .int .i64 0, .int .i64 0, .string ⟨#[]⟩]) ?_ ?_ ?_
        case refine_3 => exact HF
        case refine_2 => rfl
        simp [results, Tryz.results40, go_sem, r0, r1, r2, r3]
      · have hmb : (decide (0 < m1)) = false := decide_eq_false hm
        go_upto_region 6 with (go_at_call 10; refine (n_any _ b _ L 3 HTZ.out.tp (by omega) h3).mono ?_; rintro e y2 ⟨rfl, h1, h2⟩; rw [HM1.out]; have HT2 := hide (HTZ.out.next h2 h1); have HK2 := hide (HKZ.out.andThen HSZ0.out h2 (fun j e => .inl (by injection e with e; exact e.symm))); have HB2 := hide (HBZ.out.grown h2 (by intro e; injection e with e; omega)); have HS2 := hide (Nat.le_trans HSZ0.out h2.size); clear h1 h2)
        obtain ⟨i0, hi, hz0, hz1, hz2⟩ := info_parts info_int
        have p0 : y2.cell? ⟨pb, 0, none⟩ = some lv := HT2.out.bx.cell rfl
        have hpw := HT2.out.bx.lt
        go_wp2_with (at_builtin; refine wpList_append_own _ rfl _ _ 22 rfl B 3 i0 (.int .i64 0) 1 8 Tryz.underlying22 hi hz0 hz1 hz2 rfl (by decide) _ _ _ rfl (HT2.out.own.alloc _) ⟨y2.heap.size, 0, none⟩ 1 1 [.int .i64 typ] rfl rfl ?c1 ?c2 ?c3 ?c4 ?c5 ?_)
        (first | (case c1 => exact new_cells (l := [_])) | skip)
        case c2 => first | exact one_int | rfl
        case c3 => unfold maxLen; omega
        case c4 => omega
        case c5 => have h1 := HT2.out.lo; simp; omega
        intro v2 z2 hown hgrow _
        obtain ⟨g4, cap4, rfl⟩ := ownsRow_succ hown
        have HTA := hide (HT2.out.below (belA (w := y2) (.cells #[.int .i64 typ] 3)))
        have hbx2 := HTA.out.bx.grown hgrow (fun e => HTA.out.own_ne (TyAt.box HTA.out.bx) (by decide) e.symm)
        have HBX2 := hide hbx2
        have q0 : z2.cell? ⟨pb, 0, none⟩ = some lv := hbx2.cell rfl
        have qf := hbx2.fr 0
        have HT5 := hide (HTA.out.push hty hgrow hown)
        have HK5 := hide (show KeptT w (z2.setCell ⟨pb, 0, none⟩ (.slice (some ⟨g4, 0, none⟩) (ts.length + 1) cap4)) b pb lv from (((HK2.out).andThen HS2.out (only_below (belA (w := y2) (.cells #[.int .i64 typ] 3)) none) (fun j e => by cases e)).andThen (Nat.le_trans HS2.out (by simp)) hgrow (fun j e => .inr (.inr (.inl e)))).andThen (Nat.le_trans HS2.out (Nat.le_trans (by simp) hgrow.size)) (gb_set _ _ _ _) (fun j e => by injection e with e; exact .inr (.inl e.symm)))
        have HSZ := hide (show w.heap.size ≤ (z2.setCell ⟨pb, 0, none⟩ (.slice (some ⟨g4, 0, none⟩) (ts.length + 1) cap4)).heap.size from Nat.le_trans HS2.out (Nat.le_trans (by simp) (Nat.le_trans hgrow.size (gb_set _ _ _ _).size)))
        have HBG := hide ((HB2.out.below (belA (w := y2) (.cells #[.int .i64 typ] 3))).grown hgrow (fun e => HTA.out.own_ne (TyAt.box (HB2.out.below (belA (w := y2) (.cells #[.int .i64 typ] 3)))) (by decide) e.symm))
        have HBF := hide (HBG.out.grown (gb_set z2 pb 0 (.slice (some ⟨g4, 0, none⟩) (ts.length + 1) cap4)) (by intro e; injection e with e; omega))
        clear hown hgrow hi hz0 hz1 hz2 hbx2 p0
        go_upto_region 7 with fail
        generalize z2.setCell ⟨pb, 0, none⟩ (.slice (some ⟨g4, 0, none⟩) (ts.length + 1) cap4) = Z5 at *
        clear q0 qf
        have q0 : Z5.cell? ⟨pb, 0, none⟩ = some (.slice (some ⟨g4, 0, none⟩) (ts.length + 1) cap4) := HT5.out.bx.cell rfl
        have r0 : Z5.cell? ⟨w.heap.size, 0, none⟩ = some (.int .i64 0) := HBF.out.cell rfl
        have r1 : Z5.cell? ⟨w.heap.size, 1, none⟩ = some (.int .i64 0) := HBF.out.cell rfl
        have r2 : Z5.cell? ⟨w.heap.size, 2, none⟩ = some (.int .i64 0) := HBF.out.cell rfl
        have r3 : Z5.cell? ⟨w.heap.size, 3, none⟩ = some (.string ⟨#[]⟩) := HBF.out.cell rfl
        have f0 := HBF.out.fr 0
        have f1 := HBF.out.fr 1
        have f2 := HBF.out.fr 2
        have f3 := HBF.out.fr 3
        have htl : IntKind.i64.wrap (((ts.length + 1 : Nat) : Int) - 1) = (ts.length : Int) := by rw [IntKind.wrap_i64]; omega
        have htl2 : ((ts.length + 1 : Nat) : Int) - 1 = (ts.length : Int) := by omega
        go_wp2
        have HS4 := hide (set4 Z5 w.heap.size (.int .i64 (ts.length : Nat)) (.int .i64 0) (.int .i64 0) (.string ⟨#[]⟩))
        have HF : SlotPost w0 B b L a pb ts lv typ w (.returned (.agg #[.int .i64 (ts.length : Nat), .int .i64 0, .int .i64 0, .string ⟨#[]⟩])) ((((Z5.setCell ⟨w.heap.size, 0, none⟩ (.int .i64 (ts.length : Nat))).setCell ⟨w.heap.size, 1, none⟩ (.int .i64 0)).setCell ⟨w.heap.size, 2, none⟩ (.int .i64 0)).setCell ⟨w.heap.size, 3, none⟩ (.string ⟨#[]⟩)) := by
          refine ⟨.v ts.length, ts ++ [typ], _, _, rfl, HT5.out.other HS4.out (by omega) (by omega) (HT5.out.own_ne (TyAt.box HBF.out) (by decide)), by omega, .inr ⟨rfl, rfl⟩, ⟨by rw [List.length_append]; exact Nat.lt_succ_self _, by show (ts ++ [typ]).getD ts.length 0 = typ; simp [List.getD]⟩, (by show ts.length ≤ 1000; omega), (HK5.out).andThen HSZ.out HS4.out (fun j e => by injection e with e; right; right; right; omega), Nat.le_trans HSZ.out HS4.out.size⟩
        refine bodyPost_ret (v := .agg #[.int .i64 (ts.length : Nat), .int .i64 0, .int .i64 0, .string ⟨#[]⟩]) ?_ ?_ ?_
        case refine_3 => exact HF
        case refine_2 => rfl
        simp [results, Tryz.results40, go_sem, r0, r1, r2, r3]
    · have hpi : ¬ (0 : Int) < r.l.length := by omega
      go_upto_region 6 with fail
      obtain ⟨i0, hi, hz0, hz1, hz2⟩ := info_parts info_int
      have p0 : z.cell? ⟨pb, 0, none⟩ = some lv := HTZ.out.bx.cell rfl
      have hpw := HTZ.out.bx.lt
      go_wp2_with (at_builtin; refine wpList_append_own _ rfl _ _ 22 rfl B 3 i0 (.int .i64 0) 1 8 Tryz.underlying22 hi hz0 hz1 hz2 rfl (by decide) _ _ _ rfl (HTZ.out.own.alloc _) ⟨z.heap.size, 0, none⟩ 1 1 [.int .i64 typ] rfl rfl ?c1 ?c2 ?c3 ?c4 ?c5 ?_)
      (first | (case c1 => exact new_cells (l := [_])) | skip)
      case c2 => first | exact one_int | rfl
      case c3 => unfold maxLen; omega
      case c4 => omega
      case c5 => have h1 := HTZ.out.lo; simp; omega
      intro v2 z2 hown hgrow _
      obtain ⟨g4, cap4, rfl⟩ := ownsRow_succ hown
      have HTA := hide (HTZ.out.below (belA (w := z) (.cells #[.int .i64 typ] 3)))
      have hbx2 := HTA.out.bx.grown hgrow (fun e => HTA.out.own_ne (TyAt.box HTA.out.bx) (by decide) e.symm)
      have HBX2 := hide hbx2
      have q0 : z2.cell? ⟨pb, 0, none⟩ = some lv := hbx2.cell rfl
      have qf := hbx2.fr 0
      have HT5 := hide (HTA.out.push hty hgrow hown)
      have HK5 := hide (show KeptT w (z2.setCell ⟨pb, 0, none⟩ (.slice (some ⟨g4, 0, none⟩) (ts.length + 1) cap4)) b pb lv from (((HKZ.out).andThen HSZ0.out (only_below (belA (w := z) (.cells #[.int .i64 typ] 3)) none) (fun j e => by cases e)).andThen (Nat.le_trans HSZ0.out (by simp)) hgrow (fun j e => .inr (.inr (.inl e)))).andThen (Nat.le_trans HSZ0.out (Nat.le_trans (by simp) hgrow.size)) (gb_set _ _ _ _) (fun j e => by injection e with e; exact .inr (.inl e.symm)))
      have HSZ := hide (show w.heap.size ≤ (z2.setCell ⟨pb, 0, none⟩ (.slice (some ⟨g4, 0, none⟩) (ts.length + 1) cap4)).heap.size from Nat.le_trans HSZ0.out (Nat.le_trans (by simp) (Nat.le_trans hgrow.size (gb_set _ _ _ _).size)))
      have HBG := hide ((HBZ.out.below (belA (w := z) (.cells #[.int .i64 typ] 3))).grown hgrow (fun e => HTA.out.own_ne (TyAt.box (HBZ.out.below (belA (w := z) (.cells #[.int .i64 typ] 3)))) (by decide) e.symm))
      have HBF := hide (HBG.out.grown (gb_set z2 pb 0 (.slice (some ⟨g4, 0, none⟩) (ts.length + 1) cap4)) (by intro e; injection e with e; omega))
      clear hown hgrow hi hz0 hz1 hz2 hbx2 p0
      go_upto_region 7 with fail
      generalize z2.setCell ⟨pb, 0, none⟩ (.slice (some ⟨g4, 0, none⟩) (ts.length + 1) cap4) = Z5 at *
      clear q0 qf
      have q0 : Z5.cell? ⟨pb, 0, none⟩ = some (.slice (some ⟨g4, 0, none⟩) (ts.length + 1) cap4) := HT5.out.bx.cell rfl
      have r0 : Z5.cell? ⟨w.heap.size, 0, none⟩ = some (.int .i64 0) := HBF.out.cell rfl
      have r1 : Z5.cell? ⟨w.heap.size, 1, none⟩ = some (.int .i64 0) := HBF.out.cell rfl
      have r2 : Z5.cell? ⟨w.heap.size, 2, none⟩ = some (.int .i64 0) := HBF.out.cell rfl
      have r3 : Z5.cell? ⟨w.heap.size, 3, none⟩ = some (.string ⟨#[]⟩) := HBF.out.cell rfl
      have f0 := HBF.out.fr 0
      have f1 := HBF.out.fr 1
      have f2 := HBF.out.fr 2
      have f3 := HBF.out.fr 3
      have htl : IntKind.i64.wrap (((ts.length + 1 : Nat) : Int) - 1) = (ts.length : Int) := by rw [IntKind.wrap_i64]; omega
      have htl2 : ((ts.length + 1 : Nat) : Int) - 1 = (ts.length : Int) := by omega
      go_wp2
      have HS4 := hide (set4 Z5 w.heap.size (.int .i64 (ts.length : Nat)) (.int .i64 0) (.int .i64 0) (.string ⟨#[]⟩))
      have HF : SlotPost w0 B b L a pb ts lv typ w (.returned (.agg #[.int .i64 (ts.length : Nat), .int .i64 0, .int .i64 0, .string ⟨#[]⟩])) ((((Z5.setCell ⟨w.heap.size, 0, none⟩ (.int .i64 (ts.length : Nat))).setCell ⟨w.heap.size, 1, none⟩ (.int .i64 0)).setCell ⟨w.heap.size, 2, none⟩ (.int .i64 0)).setCell ⟨w.heap.size, 3, none⟩ (.string ⟨#[]⟩)) := by
        refine ⟨.v ts.length, ts ++ [typ], _, _, rfl, HT5.out.other HS4.out (by omega) (by omega) (HT5.out.own_ne (TyAt.box HBF.out) (by decide)), by omega, .inr ⟨rfl, rfl⟩, ⟨by rw [List.length_append]; exact Nat.lt_succ_self _, by show (ts ++ [typ]).getD ts.length 0 = typ; simp [List.getD]⟩, (by show ts.length ≤ 1000; omega), (HK5.out).andThen HSZ.out HS4.out (fun j e => by injection e with e; right; right; right; omega), Nat.le_trans HSZ.out HS4.out.size⟩
      refine bodyPost_ret (v := .agg #[.int .i64 (ts.length : Nat), .int .i64 0, .int .i64 0, .string ⟨#[]⟩]) ?_ ?_ ?_
      case refine_3 => exact HF
      case refine_2 => rfl
      simp [results, Tryz.results40, go_sem, r0, r1, r2, r3]
end Go.Proofs.YtiijaaohphokcaaGreatDoor

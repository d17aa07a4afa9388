/- ref03.Name: which strings are names, by one loop over the letters and one over the reserved words. -/
import Derived.Test.YtiijaaohphokcaaGreatDoorG12
import Derived.Test.YtiijaaohphokcaaGreatDoorG15
import Derived.Test.YtiijaaohphokcaaGreatDoorCjQK
namespace Go.Proofs.YtiijaaohphokcaaGreatDoor
open Go.RowKit
theorem lett_of {c : Int} (h1 : ¬ c < 97) (h2 : ¬ 122 < c) : lett c = true := by unfold lett; exact decide_eq_true ⟨by omega, by omega⟩
theorem lett_not {c : Int} (h : c < 97 ∨ 122 < c) : lett c = false := by unfold lett; exact decide_eq_false (fun h' => by omega)
theorem vch_dig {c : Int} (h1 : ¬ c < 48) (h2 : ¬ 57 < c) : vch c = true := by unfold vch; rw [decide_eq_true (p := 48 ≤ c ∧ c ≤ 57) ⟨by omega, by omega⟩]; simp
theorem vch_und {c : Int} (h : c = 95) : vch c = true := by subst h; rfl
theorem vch_let {c : Int} (h : lett c = true) : vch c = true := by unfold vch; rw [h]; rfl
theorem vch_not {c : Int} (h : c < 97 ∨ 122 < c) (h1 : c < 48 ∨ 57 < c) (h2 : c ≠ 95) : vch c = false := by
  unfold vch; rw [lett_not h, decide_eq_false (fun h' => by omega), decide_eq_false h2]; rfl
set_option maxRecDepth 100000 in
set_option maxHeartbeats 400000 in
theorem rname_short (s : ByteArray) (w : World) (h0 : (s.size : Int) < 1) :
    Calls Tryz.prog 113 #[.string s] w fun e w' => e = .returned (.bool (pb (IsName s))) ∧ Below w.heap.size w w' := by
  have hr := hide (pb_no (p := IsName s) (fun h => by have := h.lo; omega))
  go_enter Tryz.func113, Tryz.ntmps113
  go_wp2
  go_ret
  exact ⟨retb hr.out.symm, Below.refl _ _⟩
set_option maxRecDepth 100000 in
set_option maxHeartbeats 400000 in
theorem rname_long (s : ByteArray) (w : World) (h0 : ¬ (s.size : Int) < 1) (h16 : 16 < (s.size : Int)) (hs : s.size ≤ 9223372036854775807) :
    Calls Tryz.prog 113 #[.string s] w fun e w' => e = .returned (.bool (pb (IsName s))) ∧ Below w.heap.size w w' := by
  have hr := hide (pb_no (p := IsName s) (fun h => by have := h.hi; omega))
  go_enter Tryz.func113, Tryz.ntmps113
  go_wp2
  go_ret
  exact ⟨retb hr.out.symm, Below.refl _ _⟩
set_option maxRecDepth 100000 in
set_option maxHeartbeats 400000 in
theorem rname_lo (s : ByteArray) (w : World) (h0 : ¬ (s.size : Int) < 1) (h16 : ¬ 16 < (s.size : Int)) (hpos : 0 < s.size) (hc : ((s[0]'hpos).toNat : Int) < 97) :
    Calls Tryz.prog 113 #[.string s] w fun e w' => e = .returned (.bool (pb (IsName s))) ∧ Below w.heap.size w w' := by
  have hr := hide (pb_no (p := IsName s) (fun h => by have := h.fst hpos; rw [lett_not (.inl hc)] at this; cases this))
  go_enter Tryz.func113, Tryz.ntmps113
  go_wp2
  go_ret
  exact ⟨retb hr.out.symm, Below.refl _ _⟩
set_option maxRecDepth 100000 in
set_option maxHeartbeats 400000 in
theorem rname_hi (s : ByteArray) (w : World) (h0 : ¬ (s.size : Int) < 1) (h16 : ¬ 16 < (s.size : Int)) (hpos : 0 < s.size) (hc : ¬ ((s[0]'hpos).toNat : Int) < 97) (hd : 122 < ((s[0]'hpos).toNat : Int)) :
    Calls Tryz.prog 113 #[.string s] w fun e w' => e = .returned (.bool (pb (IsName s))) ∧ Below w.heap.size w w' := by
  have hr := hide (pb_no (p := IsName s) (fun h => by have := h.fst hpos; rw [lett_not (.inr hd)] at this; cases this))
  go_enter Tryz.func113, Tryz.ntmps113
  go_wp2
  go_ret
  exact ⟨retb hr.out.symm, Below.refl _ _⟩
set_option maxRecDepth 100000 in
set_option maxHeartbeats 4000000 in
theorem rname_main (s : ByteArray) (w : World) (h0 : ¬ (s.size : Int) < 1) (h16 : ¬ 16 < (s.size : Int)) (hpos : 0 < s.size) (hc : ¬ ((s[0]'hpos).toNat : Int) < 97) (hd : ¬ 122 < ((s[0]'hpos).toNat : Int)) :
    Calls Tryz.prog 113 #[.string s] w fun e w' => e = .returned (.bool (pb (IsName s))) ∧ Below w.heap.size w w' := by
  have HF := hide (lett_of hc hd)
  go_enter Tryz.func113, Tryz.ntmps113
  go_wp2
  clear hc hd
  go_loop [3] (fun i => ∃ k : Nat, k ≤ s.size ∧ i = .int .i64 k ∧ ∀ j (h : j < s.size), j < k → vch ((s[j]'h).toNat : Int) = true) (fun i => s.size - (intOf i).toNat)
  case atStart => exact ⟨0, Nat.zero_le _, rfl, fun j _ h => absurd h (by omega)⟩
  case round =>
    obtain ⟨k, hk, rfl, hno⟩ := hrel
    have HN := hide hno
    clear hno
    by_cases hlt : k < s.size
    · have hki : (k : Int) < (s.size : Int) := by omega
      by_cases d1 : ((s[k]'hlt).toNat : Int) < 97
      · by_cases d3 : ((s[k]'hlt).toNat : Int) < 48
        · have d5 : (((s[k]'hlt).toNat : Int) != 95) = true := by simp; omega
          have hr := hide (pb_no (p := IsName s) (fun h => by have := h.all k hlt; rw [vch_not (.inl d1) (.inl d3) (by omega)] at this; cases this))
          go_wp2
          go_ret
          exact ⟨retb hr.out.symm, Below.refl _ _⟩
        · by_cases d4 : 57 < ((s[k]'hlt).toNat : Int)
          · by_cases d5' : ((s[k]'hlt).toNat : Int) = 95
            · have d5 : (((s[k]'hlt).toNat : Int) != 95) = false := by rw [d5']; rfl
              have HV := hide (vch_und d5')
              clear d5'
              go_wp2
              go_round
              case rel =>
                refine ⟨k + 1, by omega, by go_num, fun j hj h => ?_⟩
                by_cases e : j = k
                · subst e; exact HV.out
                · exact HN.out j hj (by omega)
              case measure => simp [intOf]; omega
            · have d5 : (((s[k]'hlt).toNat : Int) != 95) = true := by simpa using d5'
              have hr := hide (pb_no (p := IsName s) (fun h => by have := h.all k hlt; rw [vch_not (.inl d1) (.inr d4) d5'] at this; cases this))
              clear d5'
              go_wp2
              go_ret
              exact ⟨retb hr.out.symm, Below.refl _ _⟩
          · have HV := hide (vch_dig d3 d4)
            go_wp2
            go_round
            case rel =>
              refine ⟨k + 1, by omega, by go_num, fun j hj h => ?_⟩
              by_cases e : j = k
              · subst e; exact HV.out
              · exact HN.out j hj (by omega)
            case measure => simp [intOf]; omega
      · by_cases d2 : 122 < ((s[k]'hlt).toNat : Int)
        · have d3 : ¬ ((s[k]'hlt).toNat : Int) < 48 := by omega
          have d4 : 57 < ((s[k]'hlt).toNat : Int) := by omega
          have d5 : (((s[k]'hlt).toNat : Int) != 95) = true := by simp; omega
          have hr := hide (pb_no (p := IsName s) (fun h => by have := h.all k hlt; rw [vch_not (.inr d2) (.inr d4) (by omega)] at this; cases this))
          go_wp2
          go_ret
          exact ⟨retb hr.out.symm, Below.refl _ _⟩
        · have HV := hide (vch_let (lett_of d1 d2))
          go_wp2
          go_round
          case rel =>
            refine ⟨k + 1, by omega, by go_num, fun j hj h => ?_⟩
            by_cases e : j = k
            · subst e; exact HV.out
            · exact HN.out j hj (by omega)
          case measure => simp [intOf]; omega
    · have HA := hide (show ∀ j (h : j < s.size), vch ((s[j]'h).toNat : Int) = true from fun j h => HN.out j h (by omega))
      clear HN
      go_wp2_with (go_at_call 161; refine (reserved_any _).mono ?_; rintro e w1 ⟨⟨rh, rfl, hrow⟩, hb1⟩; have HB := hide hb1; have HR := hide hrow; clear hb1 hrow)
      go_loop [5] (fun i => ∃ k : Nat, k ≤ resWords.length ∧ i = .int .i64 k ∧ ∀ j (h : j < resWords.length), j < k → ¬ resWords[j] = s) (fun i => resWords.length - (intOf i).toNat)
      case atStart => exact ⟨0, Nat.zero_le _, rfl, fun j _ h => absurd h (by omega)⟩
      case round =>
        obtain ⟨k, hk, rfl, hno⟩ := hrel
        have HN := hide hno
        clear hno
        have hlen : resWords.length ≤ 9223372036854775807 := by rw [res_len]; omega
        by_cases hlt : k < resWords.length
        · have hki : (k : Int) < (resWords.length : Int) := by omega
          have hix := HR.out.ix hlt Tryz.underlying142 sz9
          simp only [Nat.mul_one] at hix
          have hc0 := str_at HR.out hlt
          obtain ⟨x, hx'⟩ : ∃ x, x = resWords[k] := ⟨_, rfl⟩
          rw [← hx'] at hc0
          by_cases hq : x = s
          · have hq1 : (x.toList == s.toList) = true := by simp [hq]
            have hr := hide (pb_no (p := IsName s) (fun h => h.new (by rw [← hq, hx']; exact List.getElem_mem hlt)))
            clear hx' hq
            go_wp2
            go_ret
            exact ⟨retb hr.out.symm, HB.out⟩
          · have hq1 : (x.toList == s.toList) = false := by
              rw [beq_eq_false_iff_ne]; intro h; rw [Lib.toList_data, Lib.toList_data] at h; exact hq (Go.WideShapes.bytes_inj h)
            have HQ := hide hq
            have HX := hide hx'
            clear hq hx'
            go_wp2
            go_round
            case rel =>
              refine ⟨k + 1, by omega, by go_num, fun j hj h => ?_⟩
              by_cases e : j = k
              · subst e; rw [← HX.out]; exact HQ.out
              · exact HN.out j hj (by omega)
            case measure => simp [intOf]; omega
        · have hr := hide (pb_yes (p := IsName s) ⟨by omega, by omega, fun _ => HF.out, HA.out, fun h => by
            obtain ⟨j, hj, e⟩ := List.getElem_of_mem h
            exact HN.out j hj (by omega) e⟩)
          clear HN
          go_wp2
          go_ret
          exact ⟨retb hr.out.symm, HB.out⟩
theorem rname_any (s : ByteArray) (w : World) (hs : s.size ≤ 9223372036854775807) :
    Calls Tryz.prog 113 #[.string s] w fun e w' => e = .returned (.bool (pb (IsName s))) ∧ Below w.heap.size w w' := by
  by_cases h0 : (s.size : Int) < 1
  · exact rname_short s w h0
  by_cases h16 : 16 < (s.size : Int)
  · exact rname_long s w h0 h16 hs
  have hpos : 0 < s.size := by omega
  by_cases hc : ((s[0]'hpos).toNat : Int) < 97
  · exact rname_lo s w h0 h16 hpos hc
  by_cases hd : 122 < ((s[0]'hpos).toNat : Int)
  · exact rname_hi s w h0 h16 hpos hc hd
  exact rname_main s w h0 h16 hpos hc hd
end Go.Proofs.YtiijaaohphokcaaGreatDoor

/- ref03.table, ref03.Valid of plain tables (for the laws that compare with the reference). -/
namespace Go.Proofs.YtiijaaohphokcaaGreatDoor
open Go.RowKit
set_option maxRecDepth 100000 in
set_option maxHeartbeats 4000000 in
theorem rtable_plain (nm : ByteArray) (ch : Hd) (cols : List Col) (ph : Hd) (w : World) (hx : (pt nm ch cols ph).In w) (hp : PCols cols) :
    Calls Tryz.prog 115 #[.agg #[.string nm, .slice ch.ao cols.length ch.cap, .slice ph.ao 1 ph.cap, .slice none 0 0, .slice none 0 0, .slice none 0 0]] w fun e w' => e = .returned (.int .i64 0) ∧ Below w.heap.size w w' := by
  obtain ⟨X, hX⟩ : ∃ X, w.alloc (.cells #[.string nm, .slice ch.ao cols.length ch.cap, .slice ph.ao 1 ph.cap, .slice none 0 0, .slice none 0 0, .slice none 0 0] 78) = X := ⟨_, rfl⟩
  have HB0 := hide (box1X hX).2
  have HBX := hide (box1X hX).1
  have HX := hide (hx.mono HB0.out)
  have y0 := HBX.out.cell (j := 0) rfl
  have y1 := HBX.out.cell (j := 1) rfl
  have y2 := HBX.out.cell (j := 2) rfl
  have y3 := HBX.out.cell (j := 3) rfl
  have y4 := HBX.out.cell (j := 4) rfl
  have y5 := HBX.out.cell (j := 5) rfl
  have HP := hide hp
  have HKE := hide (show keyB cols.length [0] = true from keyB_yes ⟨by decide, fun i hi => by
    have h0 : i = 0 := by have : ([0] : List Int).length = 1 := rfl; omega
    subst h0
    refine ⟨Int.le_refl _, ?_, fun j hj h => absurd h (by omega)⟩
    have := hp.l1
    show (0 : Int) < _; omega⟩)
  have c1 : ¬ (8 : Int) < cols.length := by have := hp.l8; omega
  have h0b : ((cols.length : Int) == 0) = false := beq_eq_false_iff_ne.2 (by have := hp.l1; omega)
  have hn := hx.rc.len
  clear hx hp
  go_enter Tryz.func115, Tryz.ntmps115
  go_upto_region 1 with fail
  try rw [hX]
  clear hX
  go_wp2
  clear y0 y1 y2 y3 y4 y5
  go_loopw [3] (fun i wr => ∃ k : Nat, k ≤ cols.length ∧ i = .int .i64 k ∧ Hid (Below X.heap.size X wr)) (fun i _ => cols.length - (intOf i).toNat)
  case atStart => exact ⟨0, Nat.zero_le _, rfl, Below.refl _ _⟩
  case round =>
    obtain ⟨k, hk, rfl, HBW⟩ := hrel
    have HXR := hide (HX.out.mono HBW.out)
    have HBR := hide (HBX.out.below HBW.out)
    have v1 := HBR.out.cell (j := 1) rfl
    by_cases hlt : k < cols.length
    · have hix := HXR.out.rc.ix hlt Tryz.underlying73 sz30
      obtain ⟨q0, q1, q2⟩ := col_at HXR.out.rc hlt
      have hbk := HXR.out.rc.blk hlt
      have HNM := hide (show (cols[k]).name.size ≤ 9223372036854775807 by have := (HXR.out.cs _ (List.getElem_mem hlt)).1; unfold maxLen at this; omega)
      have HBN := hide (pb_yes (HP.out.nm _ (List.getElem_mem hlt)))
      have HFI := hide (HP.out.un k hlt)
      have HWA := hide (bel_trans HBW.out (belA (w := wr) (.cells #[.string (cols[k]).name, .int .i64 (cols[k]).typ, .bool (cols[k]).nul] 72)))
      rcases HP.out.ty _ (List.getElem_mem hlt) with hty | hty
      all_goals
        rw [hty] at q1 HWA
        go_wp2_with (first
          | (go_at_call 113; refine (rname_any _ _ HNM.out).mono ?_; rintro e w1 ⟨rfl, hb1⟩; rw [HBN.out]; have hbq1 := boxA hb1; have p0 := hbq1.cell (j := 0) rfl; have p1 := hbq1.cell (j := 1) rfl; have HB1 := hide (bel_trans HWA.out hb1); have HQ1 := hide hb1; have hba := HBX.out.below HB1.out; have z0 := hba.cell (j := 0) rfl; have z1 := hba.cell (j := 1) rfl; have z2 := hba.cell (j := 2) rfl; have z3 := hba.cell (j := 3) rfl; have z4 := hba.cell (j := 4) rfl; have z5 := hba.cell (j := 5) rfl; clear hb1 hbq1 hba v1)
          | (go_at_call 162; refine (rcolumn_any (pt nm ch cols ph) _ _ (HX.out.mono HB1.out)).mono ?_; rintro e w2 ⟨rfl, hb2⟩; rw [HFI.out]; have HB2 := hide (bel_trans HB1.out hb2); have hbq := boxA (bel_trans HQ1.out hb2); have x0 := hbq.cell (j := 0) rfl; have x1 := hbq.cell (j := 1) rfl; clear hb2 hbq z0 z1 z2 z3 z4 z5 p0 p1))
        go_roundw
        case rel => exact ⟨k + 1, by omega, by go_num, HB2.out⟩
        case measure => simp [intOf]; omega
    · have z0 := HBR.out.cell (j := 0) rfl
      have z2 := HBR.out.cell (j := 2) rfl
      have z3 := HBR.out.cell (j := 3) rfl
      have z4 := HBR.out.cell (j := 4) rfl
      have z5 := HBR.out.cell (j := 5) rfl
      go_wp2_with (go_at_call 163; refine (listed_any (pt nm ch cols ph) ⟨ph, [0]⟩ _ HXR.out.rp).mono ?_; rintro e w3 ⟨rfl, hb3⟩; rw [HKE.out]; have HB3 := hide (bel_trans HBW.out hb3); clear hb3 z0 v1 z2 z3 z4 z5)
      go_loopw [7] (fun i wz => ∃ k : Nat, k ≤ 1 ∧ i = .int .i64 k ∧ Hid (Below X.heap.size X wz)) (fun i _ => 1 - (intOf i).toNat)
      case atStart => exact ⟨0, Nat.zero_le _, rfl, HB3.out⟩
      case round =>
        obtain ⟨m, hm, rfl, HBZ⟩ := hrel
        have HXZ := hide (HX.out.mono HBZ.out)
        have HBQ := hide (HBX.out.below HBZ.out)
        have v1 := HBQ.out.cell (j := 1) rfl
        have v2 := HBQ.out.cell (j := 2) rfl
        by_cases h1 : m < 1
        · obtain rfl : m = 0 := by omega
          have hixp : ∀ U, (Instr.indexAt 22 (.slice ph.ao 1 ph.cap) (.int .i64 0)).run Tryz.prog U = .ok (.pointer (some ⟨ph.b, ph.o, none⟩)) U := IL.ix HXZ.out.rp (i := 0) (Nat.zero_lt_one)
          have r0 : wr.cell? ⟨ph.b, ph.o, none⟩ = some (.int .i64 0) := int_at HXZ.out.rp.1 (i := 0) (Nat.zero_lt_one)
          have hlt0 : 0 < cols.length := HP.out.l1
          have hix : ∀ U, (Instr.indexAt 73 (.slice ch.ao cols.length ch.cap) (.int .i64 0)).run Tryz.prog U = .ok (.pointer (some ⟨ch.b, ch.o, none⟩)) U := fun U => by simpa using HXZ.out.rc.ix hlt0 Tryz.underlying73 sz30 U
          have q2 : wr.cell? ⟨ch.b, ch.o + 2, none⟩ = some (.bool false) := by
            have h := (col_at HXZ.out.rc hlt0).2.2
            rw [HP.out.nu _ (List.getElem_mem hlt0)] at h
            simpa using h
          go_wp2
          go_quiet (fail)
          go_wp2
          go_roundw
          case rel => exact ⟨1, by omega, by go_num, below_drewN HBZ.out _⟩
          case measure => simp [intOf]
        · obtain rfl : m = 1 := by omega
          have v3 := HBQ.out.cell (j := 3) rfl
          have v4 := HBQ.out.cell (j := 4) rfl
          have v5 := HBQ.out.cell (j := 5) rfl
          go_wp2
          go_loopw [8] (fun i wy => i = .int .i64 0 ∧ wy = wr) (fun i _ => 0)
          case atStart => exact ⟨rfl, rfl⟩
          case round =>
            obtain ⟨rfl, rfl⟩ := hrel
            go_wp2
            go_loopw [9] (fun i wy => i = .int .i64 0 ∧ wy = wr) (fun i _ => 0)
            case atStart => exact ⟨rfl, rfl⟩
            case round =>
              obtain ⟨rfl, rfl⟩ := hrel
              go_wp2
              go_loopw [10] (fun i wy => i = .int .i64 0 ∧ wy = wr) (fun i _ => 0)
              case atStart => exact ⟨rfl, rfl⟩
              case round =>
                obtain ⟨rfl, rfl⟩ := hrel
                go_wp2
                go_ret
                exact ⟨rfl, bel_trans HB0.out HBZ.out⟩
set_option maxRecDepth 100000 in
set_option maxHeartbeats 4000000 in
theorem rvalid_plain (s : Sch) (w : World) (hs : s.In w) (hp : PSch s) :
    Calls Tryz.prog 70 #[.agg #[.slice s.th.ao s.tabs.length s.th.cap]] w fun e w' => e = .returned (.int .i64 0) ∧ Below w.heap.size w w' := by
  obtain ⟨X, hX⟩ : ∃ X, w.alloc (.cells #[.slice s.th.ao s.tabs.length s.th.cap] 27) = X := ⟨_, rfl⟩
  have HB0 := hide (box1X hX).2
  have HBX := hide (box1X hX).1
  have HX := hide (hs.mono HB0.out)
  have y0 := HBX.out.cell (j := 0) rfl
  have HP := hide hp
  have c1 : ¬ (6 : Int) < s.tabs.length := by have := hp.n6; omega
  have hn := hs.rt.len
  clear hs hp
  go_enter Tryz.func70, Tryz.ntmps70
  go_upto_region 1 with fail
  try rw [hX]
  clear hX
  go_wp2
  clear y0
  go_loopw [3] (fun i wr => ∃ k : Nat, k ≤ s.tabs.length ∧ i = .int .i64 k ∧ Hid (Below X.heap.size X wr)) (fun i _ => s.tabs.length - (intOf i).toNat)
  case atStart => exact ⟨0, Nat.zero_le _, rfl, Below.refl _ _⟩
  case round =>
    obtain ⟨k, hk, rfl, HBW⟩ := hrel
    have HXR := hide (HX.out.mono HBW.out)
    have z0 := (HBX.out.below HBW.out).cell (j := 0) rfl
    by_cases hlt : k < s.tabs.length
    · have hix := HXR.out.rt.ix hlt Tryz.underlying25 sz22
      have hta := tab_at HXR.out.rt hlt
      have hbk := HXR.out.rt.blk hlt
      have HXI := hide (HXR.out.ts _ (List.getElem_mem hlt))
      have HFI := hide (HP.out.un k hlt)
      have HTA := hide (fun (w' : World) (h : Below X.heap.size X w') => tab_at (HX.out.mono h).rt hlt)
      obtain ⟨nm, ch, cols, ph, e, hnm, hpc⟩ := HP.out.pl _ (List.getElem_mem hlt)
      rw [e] at hta HXI HFI HTA
      have HPC := hide hpc
      have HBN := hide (pb_yes hnm)
      have HNM := hide (show nm.size ≤ 9223372036854775807 by have := HXI.out.nm; unfold maxLen at this; exact Nat.le_trans this (by omega))
      clear e hnm hpc
      obtain ⟨t0, t1, t2, t3, t4, t5⟩ := hta
      go_upto_region 8 with (first
        | (go_at_call 113; refine (rname_any _ _ HNM.out).mono ?_; rintro e w1 ⟨rfl, hb1⟩; rw [HBN.out]; have HB1 := hide (bel_trans HBW.out hb1); have HR1 := hide hb1))
      have hg : ∀ w' : World, Below w1.heap.size w1 w' → w'.cell? ⟨w.heap.size, 0, none⟩ = some (.slice s.th.ao s.tabs.length s.th.cap) := fun w' h => (HBX.out.below (bel_trans HB1.out h)).cell (j := 0) rfl
      have ht : ∀ w' : World, Below w1.heap.size w1 w' → w'.cell? ⟨s.th.b, s.th.o + k * 6, none⟩ = some (.string nm) := fun w' h => (HTA.out w' (bel_trans HB1.out h)).1
      have HSW := hide (show ∀ w' : World, Below w1.heap.size w1 w' → s.In w' from fun w' h => HX.out.mono (bel_trans HB1.out h))
      clear t0 t1 t2 t3 t4 t5 z0
      go_region_held3 (fun w' => Below w1.heap.size w1 w') ((first | exact (Below.refl _ _).drew | exact bel_trans (by assumption) (by assumption))) (first | (go_at_call 114; refine (rfind_any s _ _ (HSW.out _ (by assumption))).mono ?_; rintro e' y1 ⟨rfl, hk1⟩; rw [HFI.out]))
      have HB2 := hide (bel_trans HB1.out (show Below w1.heap.size w1 y1 by assumption))
      have gs := (HBX.out.below HB2.out).cell (j := 0) rfl
      obtain ⟨t0, t1, t2, t3, t4, t5⟩ := HTA.out _ HB2.out
      have HXI2 := hide (HXI.out.mono ((bel_trans HR1.out (show Below w1.heap.size w1 y1 by assumption))))
      go_wp2_with (first
        | (go_at_call 115; refine (rtable_plain nm ch cols ph _ HXI2.out HPC.out).mono ?_; rintro e w3 ⟨rfl, hb3⟩; have HB3 := hide (bel_trans HB2.out hb3); clear hb3))
      go_roundw
      case rel => exact ⟨k + 1, by omega, by go_num, HB3.out⟩
      case measure => simp [intOf]; omega
    · go_wp2
      go_loopw [7] (fun i wr => ∃ k : Nat, k ≤ s.tabs.length ∧ i = .int .i64 k ∧ Hid (Below X.heap.size X wr)) (fun i _ => s.tabs.length - (intOf i).toNat)
      case atStart => exact ⟨0, Nat.zero_le _, rfl, HBW.out⟩
      clear z0 HBW HXR
      case round =>
        obtain ⟨k, hk, rfl, HBW⟩ := hrel
        have HXR := hide (HX.out.mono HBW.out)
        have z0 := (HBX.out.below HBW.out).cell (j := 0) rfl
        by_cases hlt2 : k < s.tabs.length
        · have HIX := hide (HXR.out.rt.ix hlt2 Tryz.underlying25 sz22)
          have HTA := hide (fun (w' : World) (h : Below X.heap.size X w') => tab_at (HX.out.mono h).rt hlt2)
          have hbk := HXR.out.rt.blk hlt2
          obtain ⟨nm, ch, cols, ph, e, hnm, hpc⟩ := HP.out.pl _ (List.getElem_mem hlt2)
          rw [e] at HTA
          clear e hnm hpc
          go_wp2
          go_loopw [8] (fun i wy => i = .int .i64 0 ∧ wy = wr) (fun i _ => 0)
          case atStart => exact ⟨rfl, rfl⟩
          case round =>
            obtain ⟨rfl, rfl⟩ := hrel
            obtain ⟨t0, t1, t2, t3, t4, t5⟩ := HTA.out _ HBW.out
            have hix := HIX.out
            go_wp2
            go_roundw
            case rel => exact ⟨k + 1, by omega, by go_num, HBW.out⟩
            case measure => simp [intOf]; omega
        · go_wp2_with (go_at_call 117; refine (rorder_any s _ HXR.out (Nat.le_trans HP.out.n6 (by decide))).mono ?_; rintro e w3 ⟨h, hb3⟩; rcases h with ⟨_, h⟩ | ⟨_, D, ⟨h, _⟩ | ⟨_, r, _, _, rfl⟩⟩; exact (h HP.out.found).elim; exact (HP.out.ends h).elim; have HB3 := hide (bel_trans HBW.out hb3); clear hb3 z0)
          go_ret
          exact ⟨rfl, bel_trans HB0.out HB3.out⟩
end Go.Proofs.YtiijaaohphokcaaGreatDoor

/- ref27.fixed, slot, plain of what is right. -/
namespace Go.Proofs.YtiijaaohphokcaaGreatDoor
open Go.RowKit
def Tm.isC : Tm V → Bool
  | .v _ => false
  | .c _ => true
theorem Tm.isC_nr (t : Tm V) : (t.nr == -1) = t.isC := by
  cases t with
  | v n => exact beq_eq_false_iff_ne.2 (show (n : Int) ≠ -1 by omega)
  | c k => rfl
set_option maxRecDepth 100000 in
theorem rfixed_any (t : Tm V) (w : World) : Calls Tryz.prog 73 #[.agg #[.int .i64 t.nr, .int .i64 t.val.kind, .int .i64 t.val.num, .string t.val.text]] w fun e w' => e = .returned (.bool t.isC) ∧ Below w.heap.size w w' := by
  have HC := hide t.isC_nr
  go_enter Tryz.func73, Tryz.ntmps73
  go_wp2
  go_ret
  exact ⟨congrArg (fun b => Ending.returned (.bool b)) HC.out, belA _⟩
set_option maxRecDepth 100000 in
set_option maxHeartbeats 2000000 in
theorem rslot_yes (vars : Nat) (t : Tm V) (w : World) (hw : t.wf) (ht : match t with | .v n => n < vars | .c k => validV k = true ∧ k.kind ≠ 0) :
    Calls Tryz.prog 72 #[.agg #[.int .i64 t.nr, .int .i64 t.val.kind, .int .i64 t.val.num, .string t.val.text], .int .i64 (vars : Nat)] w fun e w' => e = .returned (.bool true) ∧ Below w.heap.size w w' := by
  have HFX := hide (fun W => rfixed_any t W)
  have HB0 := hide (belA (w := w) (.cells #[.int .i64 t.nr, .int .i64 t.val.kind, .int .i64 t.val.num, .string t.val.text] 83))
  have HBX := hide (Box.new w #[.int .i64 t.nr, .int .i64 t.val.kind, .int .i64 t.val.num, .string t.val.text] 83)
  cases t with
  | v n =>
    have hn : n < vars := ht
    have h2 : (0 : Int) ≤ (n : Int) := by omega
    have h3 : (n : Int) < (vars : Int) := by omega
    clear ht hw
    simp only [Tm.nr, Tm.val, nulV, Tm.isC] at *
    go_enter Tryz.func72, Tryz.ntmps72
    go_wp2_with (go_at_call 73; refine (HFX.out _).mono ?_; rintro e w1 ⟨rfl, hb1⟩; have HB1 := hide hb1; have hbq := HBX.out.below hb1; have x0 : w1.cell? ⟨w.heap.size, 0, none⟩ = some (.int .i64 (n : Nat)) := hbq.cell rfl; have x1 : w1.cell? ⟨w.heap.size, 1, none⟩ = some (.int .i64 0) := hbq.cell rfl; have x2 : w1.cell? ⟨w.heap.size, 2, none⟩ = some (.int .i64 0) := hbq.cell rfl; have x3 : w1.cell? ⟨w.heap.size, 3, none⟩ = some (.string ⟨#[]⟩) := hbq.cell rfl; clear hb1 hbq)
    go_ret
    exact ⟨rfl, bel_trans HB0.out HB1.out⟩
  | c k =>
    obtain ⟨hk, h0⟩ := ht
    have HK := hide hk
    have HWF := hide (show k.wf from hw)
    have h1 : (k.kind != 0) = true := bne_iff_ne.2 h0
    clear hk h0 hw
    simp only [Tm.nr, Tm.val, Tm.isC] at *
    go_enter Tryz.func72, Tryz.ntmps72
    go_wp2_with (first
      | (go_at_call 73; refine (HFX.out _).mono ?_; rintro e w1 ⟨rfl, hb1⟩; have HB1 := hide hb1; have HBQ := hide (HBX.out.below hb1); have x1 : w1.cell? ⟨w.heap.size, 1, none⟩ = some (.int .i64 k.kind) := HBQ.out.cell rfl; have x2 : w1.cell? ⟨w.heap.size, 2, none⟩ = some (.int .i64 k.num) := HBQ.out.cell rfl; have x3 : w1.cell? ⟨w.heap.size, 3, none⟩ = some (.string k.text) := HBQ.out.cell rfl; clear hb1)
      | (go_at_call 119; refine (rval_any k HWF.out _).mono ?_; rintro e w2 ⟨rfl, hb2⟩; rw [HK.out]; have HB2 := hide hb2; clear x1 x2 x3; have x1 : w2.cell? ⟨w.heap.size, 1, none⟩ = some (.int .i64 k.kind) := (HBQ.out.below hb2).cell rfl; clear hb2))
    go_ret
    exact ⟨rfl, bel_trans HB0.out (bel_trans HB1.out HB2.out)⟩
set_option maxRecDepth 100000 in
set_option maxHeartbeats 2000000 in
theorem rplain_yes (nm : ByteArray) (ch : Hd) (cols : List Col) (ph : Hd) (w : World) (hx : (pt nm ch cols ph).In w) (hp : PCols cols) :
    Calls Tryz.prog 118 #[.agg #[.string nm, .slice ch.ao cols.length ch.cap, .slice ph.ao 1 ph.cap, .slice none 0 0, .slice none 0 0, .slice none 0 0]] w fun e w' => e = .returned (.bool true) ∧ Below w.heap.size w w' := by
  have HB0 := hide (belA (w := w) (.cells #[.string nm, .slice ch.ao cols.length ch.cap, .slice ph.ao 1 ph.cap, .slice none 0 0, .slice none 0 0, .slice none 0 0] 78))
  have HX := hide hx
  have HP := hide hp
  have hn := hx.rc.len
  clear hx hp
  go_enter Tryz.func118, Tryz.ntmps118
  go_wp2
  go_loopw [8] (fun i wr => ∃ k : Nat, k ≤ cols.length ∧ i = .int .i64 k ∧ Hid (Below w.heap.size w wr)) (fun i _ => cols.length - (intOf i).toNat)
  case atStart => exact ⟨0, Nat.zero_le _, rfl, HB0.out⟩
  case round =>
    obtain ⟨k, hk, rfl, HB⟩ := hrel
    by_cases hlt : k < cols.length
    · have hrc := (HX.out.mono HB.out).rc
      have hix := hrc.ix hlt Tryz.underlying73 sz30
      obtain ⟨c0, c1, c2⟩ := col_at hrc hlt
      have hbk := hrc.blk hlt
      have hnu := HP.out.nu _ (List.getElem_mem hlt)
      have hty := HP.out.ty _ (List.getElem_mem hlt)
      obtain ⟨c, hc⟩ : ∃ c, cols[k] = c := ⟨_, rfl⟩
      rw [hc] at c0 c1 c2 hnu hty
      rw [hnu] at c2
      have h2 : (c.typ == 2) = false := beq_eq_false_iff_ne.2 (by omega)
      clear hc hrc hnu hty
      go_wp2
      go_roundw
      case rel => exact ⟨k + 1, by omega, by go_num, bel_trans HB.out (belA _)⟩
      case measure => simp [intOf]; omega
    · go_wp2
      go_ret
      exact ⟨rfl, HB.out⟩
end Go.Proofs.YtiijaaohphokcaaGreatDoor

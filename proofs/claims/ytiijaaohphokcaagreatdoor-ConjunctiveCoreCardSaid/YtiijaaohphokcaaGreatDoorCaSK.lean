/- ref27.slots, Same of what is the same. -/
import Derived.Test.YtiijaaohphokcaaGreatDoorCjL4K
namespace Go.Proofs.YtiijaaohphokcaaGreatDoor
open Go.RowKit

set_option maxRecDepth 100000 in
set_option maxHeartbeats 4000000 in
theorem rslots_yes (x y : Hd) (l : List (Tm V)) (w : World) (hx : Row w 4 Tm.cells x l) (hy : Row w 4 Tm.cells y l) :
    Calls Tryz.prog 50 #[.slice x.ao l.length x.cap, .slice y.ao l.length y.cap] w fun e w' => e = .returned (.bool true) ∧ ∃ m, w' = w.drewN m := by
  have HX := hide hx
  have HY := hide hy
  have hn := hx.len
  clear hx hy
  go_enter Tryz.func50, Tryz.ntmps50
  go_wp2
  go_loopw [13] (fun i wr => ∃ k m : Nat, k ≤ l.length ∧ i = .int .i64 k ∧ wr = w.drewN m) (fun i _ => l.length - (intOf i).toNat)
  case atStart => exact ⟨0, 0, Nat.zero_le _, rfl, rfl⟩
  case round =>
    obtain ⟨k, m, hk, rfl, rfl⟩ := hrel
    by_cases hlt : k < l.length
    · have hix := HX.out.ix hlt Tryz.underlying30 szslot
      have hiy := HY.out.ix hlt Tryz.underlying30 szslot
      obtain ⟨c0, c1, c2, c3⟩ := tm_at HX.out hlt
      obtain ⟨d0, d1, d2, d3⟩ := tm_at HY.out hlt
      have hbx := HX.out.blk hlt
      have hby := HY.out.blk hlt
      obtain ⟨t, ht⟩ : ∃ t, l[k] = t := ⟨_, rfl⟩
      rw [ht] at c0 c1 c2 c3 d0 d1 d2 d3
      clear ht
      have HLT := hide hlt
      go_wp2
      go_quiet (fail)
      go_wp2
      go_roundw
      case rel => exact ⟨k + 1, _, HLT.out, by go_num, rfl⟩
      case measure => have := HLT.out; simp [intOf]; omega
    · go_wp2
      go_ret
      exact ⟨rfl, _, rfl⟩
noncomputable def smBody : Code := Tryz.f14.body.getD .skip
set_option maxRecDepth 100000 in
set_option maxHeartbeats 8000000 in
theorem sm_reg6 {g k oa ob tab : Nat} {a b : Cq} {hd hd2 : Hd} {sl : List (Tm V)} {wr : World} (x1 : wr.cell? ⟨g, 1, none⟩ = some (.slice a.lh.ao a.lits.length a.lh.cap)) (y1 : wr.cell? ⟨g + 1, 1, none⟩ = some (.slice b.lh.ao b.lits.length b.lh.cap))
    (c0 : wr.cell? ⟨a.lh.b, oa, none⟩ = some (.int .i64 (tab : Nat))) (c1 : wr.cell? ⟨a.lh.b, oa + 1, none⟩ = some (.slice hd.ao sl.length hd.cap)) (d0 : wr.cell? ⟨b.lh.b, ob, none⟩ = some (.int .i64 (tab : Nat))) (d1 : wr.cell? ⟨b.lh.b, ob + 1, none⟩ = some (.slice hd2.ao sl.length hd2.cap))
    (hixa : ∀ W, (Instr.indexAt 29 (.slice a.lh.ao a.lits.length a.lh.cap) (.int .i64 (k : Nat))).run Tryz.prog W = .ok (.pointer (some ⟨a.lh.b, oa, none⟩)) W) (hixb : ∀ W, (Instr.indexAt 29 (.slice b.lh.ao b.lits.length b.lh.cap) (.int .i64 (k : Nat))).run Tryz.prog W = .ok (.pointer (some ⟨b.lh.b, ob, none⟩)) W)
    (hba : a.lh.b < wr.heap.size) (hbb : b.lh.b < wr.heap.size)
    (HSL : Hid (∀ n, Calls Tryz.prog 50 #[.slice hd.ao sl.length hd.cap, .slice hd2.ao sl.length hd2.cap] (wr.drewN n) fun e w' => e = .returned (.bool true) ∧ ∃ m, w' = (wr.drewN n).drewN m))
    {Q : Exit → Act → World → Prop} {c : Code} {u0 u1 u4 u6 u7 u8 u9 u10 u11 u12 u13 u14 u15 u16 u17 u18 u19 u20 u21 u22 u23 u24 u25 u26 u27 u28 u29 u30 u31 u32 u33 u34 u35 u36 u37 u38 u39 u40 u41 u42 u43 u44 u45 u46 u47 u48 u49 u50 u51 u52 u53 u54 u55 u56 u57 u58 u59 u60 u61 u62 u63 u64 u65 u66 u67 u68 u69 : Value} (hc : c = codeIn [1, 1, 0, 1, 4, 5, 1, 1, 0, 4, 1, 0] smBody) (hend : ∀ n, Q .normal { tmps := (u0 :: u1 :: (.pointer (some ⟨g, 0, none⟩)) :: (.pointer (some ⟨g + 1, 0, none⟩)) :: u4 :: (.int .i64 (k : Nat)) :: u6 :: u7 :: u8 :: u9 :: u10 :: u11 :: u12 :: u13 :: u14 :: u15 :: u16 :: u17 :: u18 :: u19 :: u20 :: u21 :: u22 :: u23 :: u24 :: u25 :: u26 :: u27 :: u28 :: u29 :: u30 :: u31 :: u32 :: u33 :: u34 :: (.pointer (some ⟨g, 1, none⟩)) :: (.slice a.lh.ao a.lits.length a.lh.cap) :: (.int .i64 (k : Nat)) :: (.pointer (some ⟨a.lh.b, oa, none⟩)) :: (.pointer (some ⟨a.lh.b, oa, none⟩)) :: (.int .i64 (tab : Nat)) :: (.pointer (some ⟨g + 1, 1, none⟩)) :: (.slice b.lh.ao b.lits.length b.lh.cap) :: (.int .i64 (k : Nat)) :: (.pointer (some ⟨b.lh.b, ob, none⟩)) :: (.pointer (some ⟨b.lh.b, ob, none⟩)) :: (.int .i64 (tab : Nat)) :: (.bool false) :: (.bool false) :: (.pointer (some ⟨g, 1, none⟩)) :: (.slice a.lh.ao a.lits.length a.lh.cap) :: (.int .i64 (k : Nat)) :: (.pointer (some ⟨a.lh.b, oa, none⟩)) :: (.pointer (some ⟨a.lh.b, oa + 1, none⟩)) :: (.slice hd.ao sl.length hd.cap) :: (.pointer (some ⟨g + 1, 1, none⟩)) :: (.slice b.lh.ao b.lits.length b.lh.cap) :: (.int .i64 (k : Nat)) :: (.pointer (some ⟨b.lh.b, ob, none⟩)) :: (.pointer (some ⟨b.lh.b, ob + 1, none⟩)) :: (.slice hd2.ao sl.length hd2.cap) :: (.bool true) :: (.bool false) :: (.bool false) :: u64 :: u65 :: u66 :: u67 :: u68 :: u69 :: []).toArray, defers := [] } (wr.drewN n)) : Code.wp Tryz.prog c Q { tmps := (u0 :: u1 :: (.pointer (some ⟨g, 0, none⟩)) :: (.pointer (some ⟨g + 1, 0, none⟩)) :: u4 :: (.int .i64 (k : Nat)) :: u6 :: u7 :: u8 :: u9 :: u10 :: u11 :: u12 :: u13 :: u14 :: u15 :: u16 :: u17 :: u18 :: u19 :: u20 :: u21 :: u22 :: u23 :: u24 :: u25 :: u26 :: u27 :: u28 :: u29 :: u30 :: u31 :: u32 :: u33 :: u34 :: u35 :: u36 :: u37 :: u38 :: u39 :: u40 :: u41 :: u42 :: u43 :: u44 :: u45 :: u46 :: u47 :: u48 :: u49 :: u50 :: u51 :: u52 :: u53 :: u54 :: u55 :: u56 :: u57 :: u58 :: u59 :: u60 :: u61 :: u62 :: u63 :: u64 :: u65 :: u66 :: u67 :: u68 :: u69 :: []).toArray, defers := [] } wr := by
  subst hc
  conv => enter [2]; whnf
  have HE := hide hend
  clear hend
  go_quiet (first | (go_at_call 50; exact Calls.quiet_of (HSL.out _)))
  exact HE.out nq
set_option maxRecDepth 100000 in
set_option maxHeartbeats 8000000 in
theorem rsame_yes (a b : Cq) (B C : Nat) (w : World) (ha : a.In w B) (hb : b.In w C) (hv : a.vars = b.vars) (hc : a.cj = b.cj) :
    Calls Tryz.prog 14 #[.agg #[.int .i64 (a.vars : Nat), .slice a.lh.ao a.lits.length a.lh.cap, .slice a.head.h.ao a.head.l.length a.head.h.cap], .agg #[.int .i64 (b.vars : Nat), .slice b.lh.ao b.lits.length b.lh.cap, .slice b.head.h.ao b.head.l.length b.head.h.cap]] w fun e w' => e = .returned (.bool true) ∧ Below w.heap.size w w' := by
  have HA := hide ha
  have HB := hide hb
  have hh : a.head.l = b.head.l := congrArg Cj.head hc
  have hls : a.lits.map Li.lt = b.lits.map Li.lt := congrArg Cj.lits hc
  have hlen : a.lits.length = b.lits.length := by have := congrArg List.length hls; simpa using this
  have HEL := hide (show ∀ i (h1 : i < a.lits.length) (h2 : i < b.lits.length), (a.lits[i]).tab = (b.lits[i]).tab ∧ (a.lits[i]).sl.l = (b.lits[i]).sl.l from fun i h1 h2 => by
    have : (a.lits.map Li.lt)[i]'(by simpa using h1) = (b.lits.map Li.lt)[i]'(by simpa using h2) := by simp only [hls]
    rw [List.getElem_map, List.getElem_map] at this
    exact ⟨congrArg Prod.fst this, congrArg Prod.snd this⟩)
  obtain ⟨X, hX⟩ : ∃ X, (w.alloc (.cells (qcells a) 32)).alloc (.cells (qcells b) 32) = X := ⟨_, rfl⟩
  have HBX := hide (show Below w.heap.size w X from by rw [← hX]; exact belAA _ _)
  have HBA := hide (show Box X w.heap.size (qcells a) 32 from by rw [← hX]; exact (Box.new _ _ _).below (belA _))
  have HBB := hide (show Box X (w.heap.size + 1) (qcells b) 32 from by
    rw [← hX]
    have h := Box.new (w.alloc (.cells (qcells a) 32)) (qcells b) 32
    rwa [World.size_alloc] at h)
  have x0 : X.cell? ⟨w.heap.size, 0, none⟩ = some (.int .i64 (a.vars : Nat)) := HBA.out.cell rfl
  have x1 : X.cell? ⟨w.heap.size, 1, none⟩ = some (.slice a.lh.ao a.lits.length a.lh.cap) := HBA.out.cell rfl
  have x2 : X.cell? ⟨w.heap.size, 2, none⟩ = some (.slice a.head.h.ao a.head.l.length a.head.h.cap) := HBA.out.cell rfl
  have y0 : X.cell? ⟨w.heap.size + 1, 0, none⟩ = some (.int .i64 (b.vars : Nat)) := HBB.out.cell rfl
  have y1 : X.cell? ⟨w.heap.size + 1, 1, none⟩ = some (.slice b.lh.ao b.lits.length b.lh.cap) := HBB.out.cell rfl
  have y2 : X.cell? ⟨w.heap.size + 1, 2, none⟩ = some (.slice b.head.h.ao b.head.l.length b.head.h.cap) := HBB.out.cell rfl
  have e1 : ((a.vars : Int) != (b.vars : Int)) = false := by rw [hv]; exact bne_self_eq_false _
  have e2 : ((a.lits.length : Int) != (b.lits.length : Int)) = false := by rw [hlen]; exact bne_self_eq_false _
  have e3 : ((a.head.l.length : Int) != (b.head.l.length : Int)) = false := by rw [hh]; exact bne_self_eq_false _
  have HHH := hide hh
  have HLL := hide hlen
  have han := ha.row.len
  clear ha hb hv hc hh hls hlen
  go_enter Tryz.func14, Tryz.ntmps14
  go_upto_region 1 with fail
  try rw [hX]
  clear hX
  go_wp2
  clear x0 x1 x2 y0 y1 y2 e1 e2 e3
  go_loopw [32] (fun i wr => ∃ k : Nat, k ≤ a.lits.length ∧ i = .int .i64 k ∧ Hid (Below X.heap.size X wr)) (fun i _ => a.lits.length - (intOf i).toNat)
  case atStart => exact ⟨0, Nat.zero_le _, rfl, Below.refl _ _⟩
  case round =>
    obtain ⟨k, hk, rfl, HW⟩ := hrel
    by_cases hlt : k < a.lits.length
    · have hltb : k < b.lits.length := by have := HLL.out; omega
      have hltbi : (k : Int) < b.lits.length := by omega
      have HAW := hide (fun z (hz : Below wr.heap.size wr z) => HA.out.mono (bel_trans HBX.out (bel_trans HW.out hz)))
      have HBW := hide (fun z (hz : Below wr.heap.size wr z) => HB.out.mono (bel_trans HBX.out (bel_trans HW.out hz)))
      have hixa := (HAW.out wr (Below.refl _ _)).row.ix hlt Tryz.underlying29 szlit
      have hixb := (HBW.out wr (Below.refl _ _)).row.ix hltb Tryz.underlying29 szlit
      have hba := (HAW.out wr (Below.refl _ _)).row.blk hlt
      have hbb := (HBW.out wr (Below.refl _ _)).row.blk hltb
      obtain ⟨ht, hs⟩ := HEL.out k hlt hltb
      have HCA := hide (fun z (hz : Below wr.heap.size wr z) => li_at (HAW.out z hz).row hlt)
      have HCB := hide (fun z (hz : Below wr.heap.size wr z) => li_at (HBW.out z hz).row hltb)
      have HSA := hide (fun z (hz : Below wr.heap.size wr z) => ((HAW.out z hz).sl _ (List.getElem_mem hlt)).row)
      have HSB := hide (fun z (hz : Below wr.heap.size wr z) => ((HBW.out z hz).sl _ (List.getElem_mem hltb)).row)
      obtain ⟨la, hla⟩ : ∃ l, a.lits[k] = l := ⟨_, rfl⟩
      obtain ⟨lb, hlb⟩ : ∃ l, b.lits[k] = l := ⟨_, rfl⟩
      rw [hla] at ht hs HCA HSA
      rw [hlb] at ht hs HCB HSB
      obtain ⟨tab, ⟨hd, sl⟩⟩ := la
      obtain ⟨tab2, ⟨hd2, sl2⟩⟩ := lb
      have ht : tab = tab2 := ht
      have hs : sl = sl2 := hs
      subst ht
      subst hs
      clear hla hlb
      have HLT := hide hlt
      have HSL := hide (fun n => rslots_yes hd hd2 sl (wr.drewN n) (HSA.out _ (bel_drewN _ _)) (HSB.out _ (bel_drewN _ _)))
      have x1 : wr.cell? ⟨w.heap.size, 1, none⟩ = some (.slice a.lh.ao a.lits.length a.lh.cap) := (HBA.out.below HW.out).cell rfl
      have y1 : wr.cell? ⟨w.heap.size + 1, 1, none⟩ = some (.slice b.lh.ao b.lits.length b.lh.cap) := (HBB.out.below HW.out).cell rfl
      have c0 : wr.cell? ⟨a.lh.b, a.lh.o + k * 2, none⟩ = some (.int .i64 (tab : Nat)) := (HCA.out wr (Below.refl _ _)).1
      have c1 : wr.cell? ⟨a.lh.b, a.lh.o + k * 2 + 1, none⟩ = some (.slice hd.ao sl.length hd.cap) := (HCA.out wr (Below.refl _ _)).2
      have d0 : wr.cell? ⟨b.lh.b, b.lh.o + k * 2, none⟩ = some (.int .i64 (tab : Nat)) := (HCB.out wr (Below.refl _ _)).1
      have d1 : wr.cell? ⟨b.lh.b, b.lh.o + k * 2 + 1, none⟩ = some (.slice hd2.ao sl.length hd2.cap) := (HCB.out wr (Below.refl _ _)).2
      go_upto_region 6 with fail
      obtain ⟨oa, hoa⟩ : ∃ o, a.lh.o + k * 2 = o := ⟨_, rfl⟩
      obtain ⟨ob, hob⟩ : ∃ o, b.lh.o + k * 2 = o := ⟨_, rfl⟩
      rw [hoa] at c0 c1
      rw [hob] at d0 d1
      simp only [hoa] at hixa
      simp only [hob] at hixb
      clear hoa hob
      refine sm_reg6 (g := w.heap.size) (k := k) (oa := oa) (ob := ob) (tab := tab) (a := a) (b := b) (hd := hd) (hd2 := hd2) (sl := sl) x1 y1 c0 c1 d0 d1 hixa hixb hba hbb HSL ?hc ?hend
      case hc => rfl
      case hend =>
        intro nq
        clear x1 y1 c0 c1 d0 d1 hixa hixb hba hbb
        go_wp2
        go_roundw
        case rel => exact ⟨k + 1, HLT.out, by go_num, bel_trans HW.out (bel_drewN _ _)⟩
        case measure => have := HLT.out; simp [intOf]; omega
    · have x2 : wr.cell? ⟨w.heap.size, 2, none⟩ = some (.slice a.head.h.ao a.head.l.length a.head.h.cap) := (HBA.out.below HW.out).cell rfl
      have y2 : wr.cell? ⟨w.heap.size + 1, 2, none⟩ = some (.slice b.head.h.ao b.head.l.length b.head.h.cap) := (HBB.out.below HW.out).cell rfl
      have HSL := hide (rslots_yes a.head.h b.head.h a.head.l wr (HA.out.mono (bel_trans HBX.out HW.out)).hd.row (by rw [HHH.out]; exact (HB.out.mono (bel_trans HBX.out HW.out)).hd.row))
      rw [← HHH.out] at y2
      go_wp2_with (go_at_call 50; refine HSL.out.mono ?_; rintro e z ⟨rfl, m, rfl⟩; have HZ := hide (bel_drewN wr m))
      go_ret
      exact ⟨rfl, bel_trans HBX.out (bel_trans HW.out HZ.out)⟩
end Go.Proofs.YtiijaaohphokcaaGreatDoor

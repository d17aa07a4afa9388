/- The walk of law03.SchemaFinds: true for every schema that lies in the world. -/
import Derived.Test.YtmnbhdhgjbgidaaFew
import Derived.Test.YtmnbhdhgjbgidaaTypes
import Derived.Deep.RegionHeld3
namespace Go.Proofs.Ytmnbhdhgjbgidaa
open Go.RowKit

theorem fi_self {s : Sch} {k : Nat} (hk : k < s.tabs.length) : fok (named s.tabs[k].name) s.tabs = true ∧ fi (named s.tabs[k].name) s.tabs ≤ k := by
  have hs : named s.tabs[k].name s.tabs[k] = true := by simp [named]
  unfold fok fi
  cases hf : s.tabs.findIdx? (named s.tabs[k].name) with
  | none =>
    rw [List.findIdx?_eq_none_iff] at hf
    have := hf _ (List.getElem_mem hk)
    rw [hs] at this; cases this
  | some m =>
    obtain ⟨hm, _, hlt⟩ := List.findIdx?_eq_some_iff_getElem.1 hf
    refine ⟨rfl, ?_⟩
    by_cases h : k < m
    · have := hlt k h
      rw [hs] at this; exact absurd rfl this
    · simp; omega

set_option maxRecDepth 100000 in
set_option maxHeartbeats 2000000 in
theorem finds_walk (s : Sch) (t : ByteArray) (i k : Int) (w : World) (hin : s.In w) :
    Calls Try.prog 3 #[.agg #[.slice s.th.ao s.tabs.length s.th.cap], .string t, .int .i64 i, .int .i64 k] w fun e w' => e = .returned (.bool true) ∧ Below w.heap.size w w' := by
  have hn := hin.rt.len
  have hin1 := hide (hin.mono (belA (.cells #[.slice s.th.ao s.tabs.length s.th.cap] 24)))
  go_enter Try.func3, Try.ntmps3
  go_wp2_with (first
    | (go_at_call 8; refine (few_any s _ hin1.out).mono ?_; rintro r w1 ⟨⟨b, rfl, hfew⟩, hb1⟩; have HFW := hide hfew; have HB1 := hide hb1; have hx1 := box_cell hb1 (j := 0) rfl; clear hb1 hfew; cases b)
    | (go_at_call 9; refine (find_any s t _ (hin1.out.mono HB1.out)).mono ?_; rintro r w2 ⟨rfl, hb2⟩; have HB2 := hide (bel_trans HB1.out hb2); have hx2 := box_cell HB2.out (j := 0) rfl; clear hb2 hx1)
    | (go_at_call 10; refine (rfind_any s t _ (hin1.out.mono HB2.out)).mono ?_; rintro r w3 ⟨rfl, hb3⟩; have HB3 := hide (bel_trans HB2.out hb3); have hx3 := box_cell HB3.out (j := 0) rfl; clear hb3 hx2)
    | (go_at_call 11; refine (target_any s i k _ (hin1.out.mono HB3.out)).mono ?_; rintro r w4 ⟨rfl, hb4⟩; have HB4 := hide (bel_trans HB3.out hb4); have hx4 := box_cell HB4.out (j := 0) rfl; clear hb4 hx3)
    | (go_at_call 12; refine (rtarget_any s i k _ (hin1.out.mono HB4.out)).mono ?_; rintro r w5 ⟨rfl, hb5⟩; have HB5 := hide (bel_trans HB4.out hb5); have hx5 := box_cell HB5.out (j := 0) rfl; clear hb5 hx4))
  · go_ret
    exact ⟨rfl, bel1 HB1.out⟩
  have HF := hide (HFW.out (by trivial))
  clear hx5 HFW
  go_loopw [17] (fun i wr => ∃ k : Nat, k ≤ s.tabs.length ∧ i = .int .i64 k ∧ Below (w.heap.size + 1) (w.alloc (.cells #[.slice s.th.ao s.tabs.length s.th.cap] 24)) wr) (fun i _ => s.tabs.length - (intOf i).toNat)
  case atStart => exact ⟨0, Nat.zero_le _, rfl, HB5.out.mono (by simp)⟩
  case round =>
    obtain ⟨n, hnl, rfl, hbw0⟩ := hrel
    have HBW := hide (show Below (w.alloc (.cells #[.slice s.th.ao s.tabs.length s.th.cap] 24)).heap.size (w.alloc (.cells #[.slice s.th.ao s.tabs.length s.th.cap] 24)) wr from hbw0.mono (by simp))
    clear hbw0
    have hx := box_cell HBW.out (j := 0) rfl
    have hin' := hin1.out.mono HBW.out
    have hws : w.heap.size < wr.heap.size := by have := HBW.out.size; simp at this; omega
    by_cases hlt : n < s.tabs.length
    · have hix := hin'.rt.ix hlt Try.underlying22 sz22
      obtain ⟨c0, c1, c2, c3, c4, c5⟩ := tab_at hin'.rt hlt
      have hbb := hin'.rt.blk hlt
      have HT := hide (hin'.ts _ (List.getElem_mem hlt))
      have HFT := hide (HF.out.t _ (List.getElem_mem hlt)).c
      have HR := hide hin'.rt
      have HIN := hide hin'
      have HFI := hide (fi_self hlt)
      generalize hxk : s.tabs[n] = x at *
      have HXK := hide hxk
      clear hxk hin'
      go_wp2_with (first
        | (go_at_call 13; refine (column_any x t _ HT.out).mono ?_; rintro r v1 ⟨rfl, hb1⟩; have HC1 := hide hb1; obtain ⟨g1, _⟩ := bcell hb1; have hs1 := hb1.size; clear hb1)
        | (go_at_call 14; refine (rcolumn_any x t _ (HT.out.mono HC1.out)).mono ?_; rintro r v2 ⟨rfl, hb2⟩; have HC2 := hide (bel_trans HC1.out hb2); obtain ⟨g2, _⟩ := bcell HC2.out; have hs2 := HC2.out.size; clear hb2 g1 hs1))
      have hy0 : ∀ w' : World, Below v2.heap.size v2 w' → w'.cell? ⟨w.heap.size, 0, none⟩ = some (.slice s.th.ao s.tabs.length s.th.cap) := fun w' h => by rw [h.cell (p := ⟨w.heap.size, 0, none⟩) (by show w.heap.size < _; omega), g2 _ _ hws]; exact hx
      have hy1 : ∀ w' : World, Below v2.heap.size v2 w' → w'.cell? ⟨s.th.b, s.th.o + n * 6, none⟩ = some (.string x.name) := fun w' h => by rw [h.cell (p := ⟨s.th.b, _, none⟩) (by show s.th.b < _; omega), g2 _ _ hbb]; exact c0
      have hy2 : ∀ w' : World, Below v2.heap.size v2 w' → w'.cell? ⟨s.th.b, s.th.o + n * 6 + 1, none⟩ = some (.slice x.ch.ao x.cols.length x.ch.cap) := fun w' h => by rw [h.cell (p := ⟨s.th.b, _, none⟩) (by show s.th.b < _; omega), g2 _ _ hbb]; exact c1
      have hy3 : ∀ w' : World, Below v2.heap.size v2 w' → w'.cell? ⟨s.th.b, s.th.o + n * 6 + 2, none⟩ = some (.slice x.prim.h.ao x.prim.l.length x.prim.h.cap) := fun w' h => by rw [h.cell (p := ⟨s.th.b, _, none⟩) (by show s.th.b < _; omega), g2 _ _ hbb]; exact c2
      have hy4 : ∀ w' : World, Below v2.heap.size v2 w' → w'.cell? ⟨s.th.b, s.th.o + n * 6 + 3, none⟩ = some (.slice x.uh.ao x.uniqs.length x.uh.cap) := fun w' h => by rw [h.cell (p := ⟨s.th.b, _, none⟩) (by show s.th.b < _; omega), g2 _ _ hbb]; exact c3
      have hy5 : ∀ w' : World, Below v2.heap.size v2 w' → w'.cell? ⟨s.th.b, s.th.o + n * 6 + 4, none⟩ = some (.slice x.fh.ao x.fors.length x.fh.cap) := fun w' h => by rw [h.cell (p := ⟨s.th.b, _, none⟩) (by show s.th.b < _; omega), g2 _ _ hbb]; exact c4
      have hy6 : ∀ w' : World, Below v2.heap.size v2 w' → w'.cell? ⟨s.th.b, s.th.o + n * 6 + 5, none⟩ = some (.slice x.kh.ao x.checks.length x.kh.cap) := fun w' h => by rw [h.cell (p := ⟨s.th.b, _, none⟩) (by show s.th.b < _; omega), g2 _ _ hbb]; exact c5
      clear g2 c0 c1 c2 c3 c4 c5 hx
      go_region_held3 (fun w' => Below v2.heap.size v2 w') ((first | exact (Below.refl _ _).drew | exact bel_trans (by assumption) (by assumption))) (first
        | (go_at_call 16; refine (types_any x _ (HT.out.mono (bel_trans HC2.out (by assumption))) (by have := HFT.out; omega)).mono ?_; rintro r y1 ⟨⟨r1, rfl, hr1, hrin1⟩, hb1⟩; have HR1 := hide hr1; have HRI1 := hide hrin1; clear hr1 hrin1)
        | (go_at_call 17; refine (rtypes_any x _ (HT.out.mono (bel_trans HC2.out (by assumption))) (by have := HFT.out; omega)).mono ?_; rintro r y2 ⟨⟨r2, rfl, hr2, hrin2⟩, hb2⟩; have HR2 := hide hr2; have HRI2 := hide hrin2; clear hr2 hrin2)
        | (go_at_call 15; refine (same_any r1 r2 _ (HRI1.out.mono (by assumption)) HRI2.out).mono ?_; rintro r y3 ⟨rfl, hb3⟩; rw [HR1.out, HR2.out, decide_eq_true rfl]))
      have HY3 := hide (show Below v2.heap.size v2 y3 by assumption)
      have HZ := hide (bel_trans HC2.out HY3.out)
      go_wp2
      go_region_held3 (fun w' => Below v2.heap.size v2 w') ((first | exact HY3.out.drew | exact bel_trans (by assumption) (by assumption))) (first
        | (go_at_call 9; refine (find_any s x.name _ (HIN.out.mono (bel_trans HC2.out (by assumption)))).mono ?_; rintro r y4 ⟨rfl, hb4⟩; rw [HFI.out.1]))
      have HY4 := hide (show Below v2.heap.size v2 y4 by assumption)
      have hzn := HFI.out.2
      generalize fi (named x.name) s.tabs = z at *
      go_wp2
      go_roundw
      case rel => exact ⟨n + 1, by omega, by go_num, (bel_trans HBW.out (bel_trans HC2.out HY4.out)).mono (by simp)⟩
      case measure => simp [intOf]; omega
    · go_wp2
      go_ret
      exact ⟨rfl, bel1 HBW.out⟩

end Go.Proofs.Ytmnbhdhgjbgidaa

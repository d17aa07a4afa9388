/- schema.Target, ref03.Target. -/
import Derived.Test.YtiijaaohphokcaaGreatDoorG01
import Derived.Deep.RegionHeld3
namespace Go.Proofs.YtiijaaohphokcaaGreatDoor
open Go.RowKit
def tgtN (s : Sch) (i k : Int) : Option ByteArray := if 0 ≤ i ∧ 0 ≤ k then (s.tabs[i.toNat]?).bind fun t => (t.fors[k.toNat]?).map (·.tab) else none
def tgtI (s : Sch) (i k : Int) : Int := match tgtN s i k with | some t => fi (named t) s.tabs | none => 0
def tgtB (s : Sch) (i k : Int) : Bool := match tgtN s i k with | some t => fok (named t) s.tabs | none => false
theorem tgtN_hit (s : Sch) (i k : Nat) (hi : i < s.tabs.length) (hk : k < s.tabs[i].fors.length) : tgtN s i k = some (s.tabs[i].fors[k].tab) := by
  unfold tgtN; rw [if_pos (by omega)]; simp [hi, hk]
theorem tgtN_miss (s : Sch) (i k : Int) (h : i < 0 ∨ (s.tabs.length : Int) ≤ i ∨ k < 0) : tgtN s i k = none := by
  unfold tgtN
  split
  · rw [List.getElem?_eq_none (by omega)]; rfl
  · rfl
theorem tgtN_miss2 (s : Sch) (i : Nat) (k : Int) (hi : i < s.tabs.length) (hk : (s.tabs[i].fors.length : Int) ≤ k) : tgtN s i k = none := by
  unfold tgtN
  split
  · simp [hi]; omega
  · rfl
theorem tgt_none {s : Sch} {i k : Int} (h : tgtN s i k = none) : (0 : Int) = tgtI s i k ∧ false = tgtB s i k := by unfold tgtI tgtB; rw [h]; exact ⟨rfl, rfl⟩
theorem tgt_some {s : Sch} {i k : Int} {t : ByteArray} (h : tgtN s i k = some t) : fi (named t) s.tabs = tgtI s i k ∧ fok (named t) s.tabs = tgtB s i k := by unfold tgtI tgtB; rw [h]; exact ⟨rfl, rfl⟩
theorem sz61 : (Tryz.prog.info? 157).map (·.size) = some 2 := by kernel_rfl
set_option maxRecDepth 100000 in
set_option maxHeartbeats 800000 in
theorem rtarget_any (s : Sch) (i k : Int) (w : World) (hin : s.In w) :
    Calls Tryz.prog 116 #[.agg #[.slice s.th.ao s.tabs.length s.th.cap], .int .i64 i, .int .i64 k] w fun e w' => e = .returned (.tuple #[.int .i64 (tgtI s i k), .bool (tgtB s i k)]) ∧ Below w.heap.size w w' := by
  have hn := hin.rt.len
  by_cases h1 : i < 0
  · go_enter Tryz.func116, Tryz.ntmps116
    go_wp2
    go_ret2
    exact ⟨ret2 (tgt_none (tgtN_miss s i k (.inl h1))), belA _⟩
  by_cases h2 : (s.tabs.length : Int) ≤ i
  · go_enter Tryz.func116, Tryz.ntmps116
    go_wp2
    go_ret2
    exact ⟨ret2 (tgt_none (tgtN_miss s i k (.inr (.inl h2)))), belA _⟩
  by_cases h3 : k < 0
  · go_enter Tryz.func116, Tryz.ntmps116
    go_wp2
    go_ret2
    exact ⟨ret2 (tgt_none (tgtN_miss s i k (.inr (.inr h3)))), belA _⟩
  obtain ⟨a, rfl⟩ := Int.eq_ofNat_of_zero_le (show 0 ≤ i by omega)
  have ha : a < s.tabs.length := by omega
  have hix := hin.rt.ix ha Tryz.underlying25 sz22
  have hb := hin.rt.blk ha
  obtain ⟨c0, c1, c2, c3, c4, c5⟩ := tab_at hin.rt ha
  have hfr := (hin.ts _ (List.getElem_mem ha)).rf
  have hfl := hfr.len
  by_cases h4 : (s.tabs[a].fors.length : Int) ≤ k
  · go_enter Tryz.func116, Tryz.ntmps116
    go_wp2
    go_ret2
    exact ⟨ret2 (tgt_none (tgtN_miss2 s a k ha h4)), belA _⟩
  · obtain ⟨b, rfl⟩ := Int.eq_ofNat_of_zero_le (show 0 ≤ k by omega)
    have hb' : b < s.tabs[a].fors.length := by omega
    have hjx := hfr.ix hb' Tryz.underlying75 sz61
    have hbb := hfr.blk hb'
    obtain ⟨d0, d1⟩ := frn_at hfr hb'
    have hin1 := hin.mono (belD (.cells #[.slice s.th.ao s.tabs.length s.th.cap] 27))
    have HT := hide (tgt_some (tgtN_hit s a b ha hb'))
    go_enter Tryz.func116, Tryz.ntmps116
    go_wp2
    go_region_held3 (fun w' => w'.cell? ⟨w.heap.size, 0, none⟩ = some (.slice s.th.ao s.tabs.length s.th.cap) ∧ w'.cell? ⟨s.th.b, s.th.o + a * 6 + 4, none⟩ = some (.slice s.tabs[a].fh.ao s.tabs[a].fors.length s.tabs[a].fh.cap) ∧ w'.cell? ⟨s.tabs[a].fh.b, s.tabs[a].fh.o + b * 2 + 1, none⟩ = some (.string s.tabs[a].fors[b].tab)) ((simp [*, go_sem])) (first | (go_at_call 114; refine (rfind_any s s.tabs[a].fors[b].tab _ hin1).mono ?_; rintro e w1 ⟨rfl, hb1⟩; have HB := hide hb1; obtain ⟨hb1a, _⟩ := bcell hb1; clear hb1))
    all_goals go_wp2
    go_ret2
    exact ⟨ret2 HT.out, bel1 (bel_drew HB.out)⟩
end Go.Proofs.YtiijaaohphokcaaGreatDoor

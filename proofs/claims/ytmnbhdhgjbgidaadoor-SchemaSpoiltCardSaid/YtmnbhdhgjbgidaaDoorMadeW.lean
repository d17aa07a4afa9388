/- made.Value, made.name, made.pick at any tape. -/
import Derived.Test.YtmnbhdhgjbgidaaDoorMadeV
import Derived.Test.YtmnbhdhgjbgidaaDoorEDep
namespace Go.Proofs.YtmnbhdhgjbgidaaDoor
open Go.RowKit

theorem szval : (Tryd.prog.info? 98).map (·.size) = some 3 := by kernel_rfl
/-- The tape is kept where only a block from B on is written. -/
theorem tz2 {w w' : World} {b a B c : Nat} {L : IL} (h : TapeIn w b L a) (hg : w.grownBy w' (some c)) (hB : b < B ∧ (0 < L.l.length → L.h.b < B)) (hc : B ≤ c) : TapeIn w' b L a :=
  ⟨by rw [World.cell?_of_block (hg.block b h.lt (by simp; omega))]; exact h.lst, by rw [World.cell?_of_block (hg.block b h.lt (by simp; omega))]; exact h.pos, by rw [World.frozen?_of_block (hg.block b h.lt (by simp; omega))]; exact h.fr, ⟨row_grown h.row.1 hg (fun hp => by have := hB.2 hp; omega), h.row.2⟩, h.ne⟩
theorem TapeIn.low {w : World} {b a : Nat} {L : IL} (h : TapeIn w b L a) : b < w.heap.size ∧ (0 < L.l.length → L.h.b < w.heap.size) := ⟨h.lt, fun hp => h.row.1.blk hp⟩

set_option maxRecDepth 100000 in
set_option maxHeartbeats 2000000 in
theorem values_bool (w : World) :
    Calls Tryd.prog 90 #[.int .i64 2] w fun e w' => (∃ l : VL, e = .returned (.slice l.h.ao l.l.length l.h.cap) ∧ l.In w' ∧ l.l.length = 3 ∧ w.heap.size ≤ l.h.b) ∧ Below w.heap.size w w' := by
  obtain ⟨i0, hi, hz0, hz1, hz2⟩ := info_parts info_v
  have HI := hide (And.intro hi (And.intro hz0 (And.intro hz1 hz2)))
  clear hi hz0 hz1 hz2
  have HB0 := hide (belA (w := w) (.cells #[.int .i64 0, .int .i64 0, .string ⟨#[]⟩] 98))
  have HL := hide (show (w.alloc (.cells #[.int .i64 0, .int .i64 0, .string ⟨#[]⟩] 98)).ownsRow w.heap.size 98 3 (.slice (some ⟨w.heap.size, 0, none⟩) 1 1) 1 [.int .i64 0, .int .i64 0, .string ⟨#[]⟩] from World.ownsRow_lit (base := w.heap.size) (e := 98) (size := 3) w #[.int .i64 0, .int .i64 0, .string ⟨#[]⟩] 1 (Nat.le_refl _) (by decide) rfl)
  go_enter Tryd.func90, Tryd.ntmps90
  go_wp2_with (first
    | (go_at_call 108; refine (bool_any _ (by decide) _).mono ?_; first | (have hh := HB1.out; rintro e w2 ⟨rfl, hb2⟩; have HB2 := hide (bel_trans hh hb2); clear hb2 hh; have hs2 := HB2.out.size; simp only [World.size_alloc] at hs2; have HO := hide ((HL.out.kept (only_below HB2.out none) (.inr (by simp [Value.ownBlock]))).alloc (.cells #[.int .i64 2, .int .i64 0, .string ⟨#[]⟩, .int .i64 2, .int .i64 1, .string ⟨#[]⟩] 98))) | (rintro e w1 ⟨rfl, hb1⟩; have HB1 := hide hb1; clear hb1))
    | (at_builtin; go_loud (refine wpList_append_lies _ rfl _ _ 79 rfl w.heap.size 98 i0 _ 3 32 Tryd.underlying79 HI.out.1 HI.out.2.1 HI.out.2.2.1 HI.out.2.2.2 rfl (by decide) (.slice (some ⟨w.heap.size, 0, none⟩) 1 1) 1 [.int .i64 0, .int .i64 0, .string ⟨#[]⟩] (by rfl) HO.out ⟨w2.heap.size, 0, none⟩ 2 2 [.int .i64 2, .int .i64 0, .string ⟨#[]⟩, .int .i64 2, .int .i64 1, .string ⟨#[]⟩] (by rfl) (by rfl) new_cells (by intro u hu; simp only [List.mem_cons, List.not_mem_nil, or_false] at hu; rcases hu with rfl | rfl | rfl | rfl | rfl | rfl <;> rfl) (by decide) (by decide) (by decide) (by simp; omega) (w2.heap.size + 1) (by simp) ?_; intro g cap w3 hown hgr hat hlt)))
  obtain ⟨l, hv, hin, hll, hlb⟩ := vl_of_own (vs := [nullV, ⟨2, 0, ⟨#[]⟩⟩, ⟨2, 1, ⟨#[]⟩⟩]) hown (by
    intro x hx
    simp only [List.mem_cons, List.not_mem_nil, or_false] at hx
    rcases hx with rfl | rfl | rfl
    all_goals exact ⟨by constructor <;> decide, by constructor <;> decide, by decide⟩) (by decide)
  have HIN := hide hin
  have HLL := hide (show l.l.length = 3 by rw [hll]; rfl)
  have HLB := hide hlb
  have HV := hide hv
  clear hin hll hlb hv
  go_ret
  exact ⟨⟨l, congrArg Ending.returned HV.out, HIN.out, HLL.out, HLB.out⟩, grown1 (HB0.out.trans (HB2.out.mono HB0.out.size)) (by omega) hgr (fun k hk => by simp [Value.ownBlock] at hk; omega)⟩

theorem values_any (k : Int) (hk : isT k = true) (w : World) :
    Calls Tryd.prog 90 #[.int .i64 k] w fun e w' => (∃ l : VL, e = .returned (.slice l.h.ao l.l.length l.h.cap) ∧ l.In w' ∧ 0 < l.l.length ∧ l.l.length ≤ 13 ∧ w.heap.size ≤ l.h.b) ∧ Below w.heap.size w w' := by
  have h3 := isT_ne hk
  have hc : k = 1 ∨ k = 2 ∨ k = 3 := by omega
  rcases hc with rfl | rfl | rfl
  · exact (values_int w).mono fun e w' ⟨⟨l, h1, h2, h3, h4⟩, hb⟩ => ⟨⟨l, h1, h2, by omega, by omega, h4⟩, hb⟩
  · exact (values_bool w).mono fun e w' ⟨⟨l, h1, h2, h3, h4⟩, hb⟩ => ⟨⟨l, h1, h2, by omega, by omega, h4⟩, hb⟩
  · exact (values_txt w).mono fun e w' ⟨⟨l, h1, h2, h3, h4⟩, hb⟩ => ⟨⟨l, h1, h2, by omega, by omega, h4⟩, hb⟩

set_option maxRecDepth 100000 in
set_option maxHeartbeats 2000000 in
theorem value_any (w : World) (b a : Nat) (L : IL) (k : Int) (hk : isT k = true) (ht : TapeIn w b L a) (ha : a ≤ 4611686018427387000) :
    Calls Tryd.prog 57 #[.pointer (some ⟨b, 0, none⟩), .int .i64 k, .bool true] w fun e w' => (∃ v : V, v.wf ∧ e = .returned (.agg #[.int .i64 v.kind, .int .i64 v.num, .string v.text])) ∧ TapeIn w' b L (a + 1) ∧ w.grownBy w' (some b) := by
  have hbl := ht.lt
  have HLW := hide ht.low
  have HB0 := hide (belA (w := w) (.cells #[.int .i64 0, .int .i64 0, .string ⟨#[]⟩] 98))
  have HK := hide (Box.new w #[.int .i64 0, .int .i64 0, .string ⟨#[]⟩] 98)
  have HT := hide (ht.mono HB0.out)
  clear ht
  go_enter Tryd.func57, Tryd.ntmps57
  go_wp2_with (first
    | (go_at_call 90; refine (values_any k hk _).mono ?_; rintro e w1 ⟨⟨l, rfl, hin, h0, h13, hlb⟩, hb1⟩; have HB1 := hide hb1; simp only [World.size_alloc] at hlb; have HIN := hide hin; clear hin hb1)
    | (go_at_call 10; refine (next_any _ b a L l.l.length (HT.out.mono HB1.out) (by omega) (by omega) ⟨by omega, by omega⟩).mono ?_; rintro e w2 ⟨rfl, ht2, hg2⟩; have HT2 := hide ht2; have HG2 := hide hg2; obtain ⟨n, hn⟩ : ∃ n : Nat, L.next a l.l.length = n := ⟨(L.next a l.l.length).toNat, by have := (L.next_ok a (n := (l.l.length : Int)) (by omega)).1; omega⟩; have hnl : n < l.l.length := (by have := (L.next_ok a (n := (l.l.length : Int)) (by omega)).2; omega); rw [hn]; clear hn; have hrow := row_grown HIN.out.1 hg2 (fun _ => by omega); have hix := hrow.ix hnl Tryd.underlying79 szval; obtain ⟨d0, d1, d2⟩ := val_at hrow hnl; have hbk := hrow.blk hnl; have HW := hide (HIN.out.2 _ (List.getElem_mem hnl)); obtain ⟨v, hv⟩ : ∃ v, l.l[n] = v := ⟨_, rfl⟩; rw [hv] at d0 d1 d2 HW; clear hv; have hkb := (HK.out.below HB1.out).grown hg2 (by simp; omega); have e0 := hkb.cell (j := 0) rfl; have e1 := hkb.cell (j := 1) rfl; have e2 := hkb.cell (j := 2) rfl; have f0 := hkb.fr 0; have f1 := hkb.fr 1; have f2 := hkb.fr 2; clear hrow ht2 hg2 hkb))
  have h01 : w.grownBy w1 (some b) := only_below (HB0.out.trans (HB1.out.mono HB0.out.size)) _
  have h02 : w.grownBy w2 (some b) := h01.trans HG2.out
  exact bodyPost_ret (v := .agg #[.int .i64 v.kind, .int .i64 v.num, .string v.text]) (by simp [results, Tryd.results57, go_sem, e0, e1, e2]) rfl
    ⟨⟨v, HW.out, rfl⟩, tz2 (tz2 (tz2 HT2.out (gb_set _ _ _ _) HLW.out (Nat.le_refl _)) (gb_set _ _ _ _) HLW.out (Nat.le_refl _)) (gb_set _ _ _ _) HLW.out (Nat.le_refl _), gb_then (gb_then (gb_then h02 (gb_set _ _ _ _) (Nat.le_refl _)) (gb_set _ _ _ _) (Nat.le_refl _)) (gb_set _ _ _ _) (Nat.le_refl _)⟩
end Go.Proofs.YtmnbhdhgjbgidaaDoor

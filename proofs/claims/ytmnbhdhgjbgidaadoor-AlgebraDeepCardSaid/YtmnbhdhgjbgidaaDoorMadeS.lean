/- made.Schema at an empty tape: one table t0 of two columns. -/
import Derived.Test.YtmnbhdhgjbgidaaDoorMadeL
import Derived.Deep.RegionHeld3
import Derived.Deep.RegionLaw
import Derived.Deep.DeepCutAuto
namespace Go.Proofs.YtmnbhdhgjbgidaaDoor
open Go.RowKit

set_option maxRecDepth 100000 in
set_option maxHeartbeats 2000000 in
theorem schema_zero (w : World) (b a : Nat) (ht : TapeIn w b E0 a) (ha : a ≤ 1000) :
    Calls Tryd.prog 7 #[.pointer (some ⟨b, 0, none⟩)] w fun e w' => (∃ (s : Sch) (tb : Tab), e = .returned (.agg #[.slice s.th.ao s.tabs.length s.th.cap]) ∧ s.In w' ∧ s.tabs = [tb] ∧ tb.name = ⟨#[116, 48]⟩ ∧ tb.cols.length = 2) ∧ w.grownBy w' (some b) := by
  have hbl := ht.lt
  obtain ⟨i0, hi, hz0, hz1, hz2⟩ := info_parts info_col
  have HI := hide (And.intro hi (And.intro hz0 (And.intro hz1 hz2)))
  clear hi hz0 hz1 hz2
  have HBW := hide (belAA (w := w) (.cells #[.slice none 0 0] 28) (.cells #[.slice none 0 0] 28))
  have B0 := hide ((Box.new w #[.slice none 0 0] 28).below (belA (.cells #[.slice none 0 0] 28)))
  have B1 := hide (Box.new (w.alloc (.cells #[.slice none 0 0] 28)) #[.slice none 0 0] 28)
  simp only [World.size_alloc] at B1
  have HT := hide (ht.mono HBW.out)
  clear ht
  go_enter Tryd.func7, Tryd.ntmps7
  go_upto_region 2 with (fail)
  generalize ((w.alloc (.cells #[.slice none 0 0] 28)).alloc (.cells #[.slice none 0 0] 28)) = W at *
  go_wp2_with (go_at_call 10; refine (next_zero _ b a _ HT.out (by omega) (by decide) ⟨by decide, by decide⟩).mono ?_; rintro e w1 ⟨rfl, ht2, hg2⟩; have HT1 := hide ht2; have HG1 := hide hg2; clear ht2 hg2; have HB0 := hide (B0.out.grown HG1.out (by simp; omega)); have HB1 := hide (B1.out.grown HG1.out (by simp; omega)))
  go_loopw [5] (fun i wr => (i = .int .i64 0 ∧ Hid (wr = w1)) ∨ (i = .int .i64 1 ∧ ∃ (s : Sch) (tb : Tab), Box wr w.heap.size #[.slice none 0 0] 28 ∧ wr.cell? ⟨w.heap.size + 1, 0, none⟩ = some (.slice s.th.ao s.tabs.length s.th.cap) ∧ (∀ v, s.In (wr.setCell ⟨w.heap.size, 0, none⟩ v)) ∧ s.tabs = [tb] ∧ tb.name = ⟨#[116, 48]⟩ ∧ tb.cols.length = 2 ∧ TapeIn wr b E0 (a + 10) ∧ w.grownBy wr (some b))) (fun i _ => 1 - (intOf i).toNat)
  case atStart => exact .inl ⟨rfl, rfl⟩
  case round =>
    rcases hrel with ⟨rfl, hw⟩ | ⟨rfl, s, tb, hb0, hc1, hs, htb, hnm, hcl, htp, hgb⟩
    · have hw' := hw.out
      clear hw
      subst hw'
      go_upto_region 7 with (go_at_call 18; refine (name_t _).mono ?_; rintro e w2 ⟨rfl, hb2⟩; have HB2 := hide hb2; have HT2 := hide (HT1.out.mono hb2); clear hb2)
      have hL : Lit0 W (((w2.alloc (.cells #[.string ⟨#[105, 100]⟩, .int .i64 1, .bool false] 41)).alloc (.cells #[.int .i64 0] 3)).alloc (.cells #[.string ⟨#[116, 48]⟩, .slice (some ⟨w2.heap.size, 0, none⟩) 1 1, .slice (some ⟨w2.heap.size + 1, 0, none⟩) 1 1, .slice none 0 0, .slice none 0 0, .slice none 0 0] 39)) b (a + 1) w2.heap.size := by
        have hb : Below w2.heap.size w2 (((w2.alloc (.cells #[.string ⟨#[105, 100]⟩, .int .i64 1, .bool false] 41)).alloc (.cells #[.int .i64 0] 3)).alloc (.cells #[.string ⟨#[116, 48]⟩, .slice (some ⟨w2.heap.size, 0, none⟩) 1 1, .slice (some ⟨w2.heap.size + 1, 0, none⟩) 1 1, .slice none 0 0, .slice none 0 0, .slice none 0 0] 39)) := (belAA _ _).alloc (by simp only [World.size_alloc]; omega) _
        refine ⟨HG1.out.trans (only_below (bel_trans HB2.out hb) _), Nat.le_trans HG1.out.size HB2.out.size, HT2.out.mono hb, ?_, ?_, ?_⟩
        · have := (Box.new (w2.alloc (.cells #[.string ⟨#[105, 100]⟩, .int .i64 1, .bool false] 41)) #[.int .i64 0] 3).below (belA (.cells #[.string ⟨#[116, 48]⟩, .slice (some ⟨w2.heap.size, 0, none⟩) 1 1, .slice (some ⟨w2.heap.size + 1, 0, none⟩) 1 1, .slice none 0 0, .slice none 0 0, .slice none 0 0] 39))
          simp only [World.size_alloc] at this
          exact this
        · have := Box.new ((w2.alloc (.cells #[.string ⟨#[105, 100]⟩, .int .i64 1, .bool false] 41)).alloc (.cells #[.int .i64 0] 3)) #[.string ⟨#[116, 48]⟩, .slice (some ⟨w2.heap.size, 0, none⟩) 1 1, .slice (some ⟨w2.heap.size + 1, 0, none⟩) 1 1, .slice none 0 0, .slice none 0 0, .slice none 0 0] 39
          simp only [World.size_alloc] at this
          exact this
        · exact ((World.ownsRow_lit (base := w2.heap.size) (e := 41) (size := 3) w2 #[.string ⟨#[105, 100]⟩, .int .i64 1, .bool false] 1 (Nat.le_refl _) (by decide) rfl).alloc _).alloc _
      have HL := hide hL
      clear hL
      generalize (((w2.alloc (.cells #[.string ⟨#[105, 100]⟩, .int .i64 1, .bool false] 41)).alloc (.cells #[.int .i64 0] 3)).alloc (.cells #[.string ⟨#[116, 48]⟩, .slice (some ⟨w2.heap.size, 0, none⟩) 1 1, .slice (some ⟨w2.heap.size + 1, 0, none⟩) 1 1, .slice none 0 0, .slice none 0 0, .slice none 0 0] 39)) = V at *
      clear HB2 HT2
      generalize w2.heap.size = c at *
      clear w2
      go_wp2_with (go_at_call 10; refine (next_zero _ b (a + 1) _ HL.out.tp (by omega) (by decide) ⟨by decide, by decide⟩).mono ?_; rintro e v1 ⟨rfl, ht2, hg2⟩; have HTV := hide ht2; have HGV := hide hg2; clear ht2 hg2)
      go_loopw [8] (fun k z => (k = .int .i64 0 ∧ Hid (z = v1)) ∨ (k = .int .i64 1 ∧ ∃ g cap, Lit1 W z b (a + 4) c (.slice (some ⟨g, 0, none⟩) 2 cap))) (fun k _ => 1 - (intOf k).toNat)
      case atStart => exact .inl ⟨rfl, rfl⟩
      case round =>
        rcases hrel with ⟨rfl, hw⟩ | ⟨rfl, g, cap, hl1⟩
        · have hw' := hw.out
          clear hw
          subst hw'
          have hcb : b < c := by have := HL.out.le; have := HT.out.lt; omega
          have HX1 := hide ((HL.out.bx.grown HGV.out (by simp; omega)))
          have HO1 := hide (HL.out.own.kept HGV.out (.inr (by simp [Value.ownBlock]; omega)))
          have k0 : wr.cell? ⟨c + 1 + 1, 1, none⟩ = some (.slice (some ⟨c, 0, none⟩) 1 1) := HX1.out.cell (j := 1) rfl
          have hw1 : IntKind.i64.wrap 1 = 1 := rfl
          go_wp2
          go_region_law
            (first
              | (go_simp; go_at_call 18; refine (name_c _).mono ?_; rintro e n1 ⟨rfl, hb1⟩; have hb2 := bel_drew hb1; have HN1 := hide hb2; have k1 : n1.cell? ⟨c + 1 + 1, 1, none⟩ = some (.slice (some ⟨c, 0, none⟩) 1 1) := (HX1.out.below hb2).cell (j := 1) rfl; have HTN1 := hide (HTV.out.mono hb2); clear hb1 hb2)
              | (have hh := HTN2.out; go_simp; go_at_call 10; refine (next_zero _ b (a + 1 + 1 + 1) _ hh (by omega) (by decide) ⟨by decide, by decide⟩).mono ?_; rintro e n3 ⟨rfl, ht2, hg2⟩; have HTN3 := hide ht2; have HG3 := hide (HG2.out.trans hg2); clear ht2 hg2 hh; have k3 : n3.cell? ⟨c + 1 + 1, 1, none⟩ = some (.slice (some ⟨c, 0, none⟩) 1 1) := (HX1.out.grown HG3.out (by simp; omega)).cell (j := 1) rfl; have k4 : (n3.alloc (.cells #[.string ⟨#[99, 48]⟩, .int .i64 1, .bool true] 41)).cell? ⟨c + 1 + 1, 1, none⟩ = some (.slice (some ⟨c, 0, none⟩) 1 1) := ((HX1.out.grown HG3.out (by simp; omega)).below (belA _)).cell (j := 1) rfl; have HO3 := hide ((HO1.out.kept HG3.out (.inr (by simp [Value.ownBlock]; omega))).alloc (.cells #[.string ⟨#[99, 48]⟩, .int .i64 1, .bool true] 41)))
              | (go_simp; go_at_call 10; refine (next_zero _ b (a + 1 + 1) _ HTN1.out (by omega) (by decide) ⟨by decide, by decide⟩).mono ?_; rintro e n2 ⟨rfl, ht2, hg2⟩; have HTN2 := hide ht2; have HG2 := hide ((only_below HN1.out (some b)).trans hg2); clear ht2 hg2; have k2 : n2.cell? ⟨c + 1 + 1, 1, none⟩ = some (.slice (some ⟨c, 0, none⟩) 1 1) := (HX1.out.grown HG2.out (by simp; omega)).cell (j := 1) rfl)
              | ((refine step_append_lies _ (by rfl) _ _ _ (by rfl) c 41 i0 _ 3 32 Tryd.underlying34 HI.out.1 HI.out.2.1 HI.out.2.2.1 HI.out.2.2.2 rfl (by decide) (.slice (some ⟨c, 0, none⟩) 1 1) 1 [.string ⟨#[105, 100]⟩, .int .i64 1, .bool false] (by rfl) HO3.out ⟨n3.heap.size, 0, none⟩ 1 1 [.string ⟨#[99, 48]⟩, .int .i64 1, .bool true] (by rfl) (by rfl) new_cells (by intro u hu; simp only [List.mem_cons, List.not_mem_nil, or_false] at hu; rcases hu with rfl | rfl | rfl <;> rfl) (by decide) (by decide) (by decide) (by have := HG3.out.size; have := HX1.out.lt; simp; omega) (n3.heap.size + 1) (by simp) ?_; intro g cap z hown hgr hat hlt; have hbz := ((HX1.out.grown HG3.out (by simp; omega)).below (belA (.cells #[.string ⟨#[99, 48]⟩, .int .i64 1, .bool true] 41))).grown hgr (by simp [Value.ownBlock]; omega); have HBZ := hide hbz; have kz : z.cell? ⟨c + 1 + 1, 1, none⟩ = some (.slice (some ⟨c, 0, none⟩) 1 1) := hbz.cell (j := 1) rfl; have fz := hbz.fr 1; have HGR := hide hgr; have HOZ := hide hown; clear hbz hgr hown hat hlt)))
          all_goals
            have hg1 := HGR.out
            have hgc : (n3.alloc (.cells #[.string ⟨#[99, 48]⟩, .int .i64 1, .bool true] 41)).grownBy z (some c) := hg1
            clear hg1
            have hle := HL.out.le
            have hgb : W.grownBy z (some b) := gb_then (((HL.out.gb.trans HGV.out).trans HG3.out).trans (only_below (belA _) _)) hgc hle
            have hbp : Box z (c + 1) #[.int .i64 0] 3 := (((HL.out.bp.grown HGV.out (by simp; omega)).grown HG3.out (by simp; omega)).below (belA _)).grown hgc (by simp)
            have htp : TapeIn z b E0 (a + 4) := tz (HTN3.out.mono (belA _)) hgc (by simp; omega)
            have hgn := own_ne HOZ.out HBZ.out (by decide)
            have HF := hide (Lit1.mk (W := W) (z := z.setCell ⟨c + 1 + 1, 1, none⟩ (.slice (some ⟨g, 0, none⟩) 2 cap)) (b := b) (a := a + 4) (c := c) (v := .slice (some ⟨g, 0, none⟩) 2 cap) (gb_then hgb (gb_set _ _ _ _) (by omega)) hle (tz htp (gb_set _ _ _ _) (by simp; omega)) (hbp.grown (gb_set _ _ _ _) (by simp)) (HBZ.out.set 1 _) (HOZ.out.kept (gb_set _ _ _ _) (.inr (by simp [Value.ownBlock]; exact hgn))))
            clear hgc hgb hbp htp hgn hle
            go_wp2
            go_roundw
          all_goals first
            | (case rel => exact .inr ⟨rfl, _, _, HF.out⟩)
            | (case measure => simp [intOf])
            | trace_state
        · have HL1 := hide hl1
          clear hl1 HTV HGV HL HT1 HT
          go_wp2
          go_loopw [9] (fun k z => k = .int .i64 0 ∧ Lit1 W z b (a + 4) c (.slice (some ⟨g, 0, none⟩) 2 cap)) (fun _ _ => 0)
          case atStart => exact ⟨rfl, HL1.out⟩
          clear HL1
          obtain ⟨rfl, hl1⟩ := hrel
          have HL1 := hide hl1
          clear hl1
          go_upto_region 18 with (first
            | (go_at_call 10; refine (next_zero _ b (a + 4) _ HL1.out.tp (by omega) (by decide) ⟨by decide, by decide⟩).mono ?_; rintro e t1 ⟨rfl, ht2, hg2⟩; have HTT := hide ht2; have HGT := hide hg2; clear ht2 hg2))
          have hcb : b < c := by have := HL1.out.le; have := HBW.out.size; omega
          have HXT := hide (HL1.out.bx.grown HGT.out (by simp; omega))
          go_cut [] (fun wx => ∃ u g2 cap2, Lit2 W wx b (a + 6) c g cap u g2 cap2)
          case first =>
            obtain ⟨j0, hi, hz0, hz1, hz2⟩ := info_parts info_il
            have HJ := hide (And.intro hi (And.intro hz0 (And.intro hz1 hz2)))
            clear hi hz0 hz1 hz2
            have x0 : t1.cell? ⟨c + 1 + 1, 3, none⟩ = some (.slice none 0 0) := HXT.out.cell (j := 3) rfl
            have hw1 : IntKind.i64.wrap 1 = 1 := rfl
            go_region_law
              (first
                | (go_simp; go_at_call 10; refine (next_zero _ b (a + 4 + 1) _ (HTT.out.mono ((Below.refl _ _).drew)) (by omega) (by decide) ⟨by decide, by decide⟩).mono ?_; rintro e t2 ⟨rfl, ht2, hg2⟩; have HT2 := hide ht2; have hg3 : t1.grownBy t2 (some b) := ⟨hg2.os, hg2.tape, hg2.output, hg2.size, hg2.block⟩; have HG2 := hide hg3; have HX2 := hide (HXT.out.grown hg3 (by simp; omega)); clear ht2 hg2 hg3;
                    have l2 : t2.cell? ⟨c + 1 + 1, 3, none⟩ = some (.slice none 0 0) := HX2.out.cell (j := 3) rfl;
                    have l3 : (t2.alloc (.cells #[.int .i64 1] 3)).cell? ⟨c + 1 + 1, 3, none⟩ = some (.slice none 0 0) := (HX2.out.below (belA _)).cell (j := 3) rfl;
                    have l4 : ((t2.alloc (.cells #[.int .i64 1] 3)).alloc (.cells #[.slice (some ⟨t2.heap.size, 0, none⟩) 1 1] 22)).cell? ⟨c + 1 + 1, 3, none⟩ = some (.slice none 0 0) := ((HX2.out.below (belA _)).below (belA _)).cell (j := 3) rfl)
                | (refine step_append_lies _ (by rfl) _ _ _ (by rfl) c 22 j0 _ 1 24 Tryd.underlying35 HJ.out.1 HJ.out.2.1 HJ.out.2.2.1 HJ.out.2.2.2 rfl (by decide) (.slice none 0 0) 0 [] (by rfl) (World.ownsRow_nil _ _ _ _) ⟨t2.heap.size + 1, 0, none⟩ 1 1 [.slice (some ⟨t2.heap.size, 0, none⟩) 1 1] (by rfl) (by rfl) new_cells1 (by intro u hu; simp only [List.mem_cons, List.not_mem_nil, or_false] at hu; rcases hu with rfl; rfl) (by decide) (by decide) (by decide) (by have := HX2.out.lt; simp; omega) (t2.heap.size + 1 + 1) (by simp) ?_; intro g2 cap2 z hown hgr hat hlt; have hgn : ((t2.alloc (.cells #[.int .i64 1] 3)).alloc (.cells #[.slice (some ⟨t2.heap.size, 0, none⟩) 1 1] 22)).grownBy z none := hgr; have hbz := ((HX2.out.below (belA (.cells #[.int .i64 1] 3))).below (belA (.cells #[.slice (some ⟨t2.heap.size, 0, none⟩) 1 1] 22))).grown hgn (by simp); have HBZ := hide hbz; have kz : z.cell? ⟨c + 1 + 1, 3, none⟩ = some (.slice none 0 0) := hbz.cell (j := 3) rfl; have fz := hbz.fr 3; have HGR := hide hgn; have HOZ := hide hown; clear hbz hgr hgn hown hat hlt))
            all_goals
              have hle := HL1.out.le
              have hgc : t2.grownBy z none := (only_below (belAA (.cells #[.int .i64 1] 3) (.cells #[.slice (some ⟨t2.heap.size, 0, none⟩) 1 1] 22)) none).trans HGR.out
              have hgb : W.grownBy z (some b) := ((HL1.out.gb.trans HGT.out).trans HG2.out).trans (hgc.but (some b))
              have hbp : Box z (c + 1) #[.int .i64 0] 3 := ((HL1.out.bp.grown HGT.out (by simp; omega)).grown HG2.out (by simp; omega)).grown hgc (by simp)
              have hbu : Box z t2.heap.size #[.int .i64 1] 3 := ((Box.new t2 #[.int .i64 1] 3).below (belA (.cells #[.slice (some ⟨t2.heap.size, 0, none⟩) 1 1] 22))).grown HGR.out (by simp)
              have htp : TapeIn z b E0 (a + 6) := tz HT2.out hgc (by simp)
              have hown : z.ownsRow c 41 3 (.slice (some ⟨g, 0, none⟩) 2 cap) 2 [.string ⟨#[105, 100]⟩, .int .i64 1, .bool false, .string ⟨#[99, 48]⟩, .int .i64 1, .bool true] := by
                have hge := own_ge HL1.out.own
                exact ((HL1.out.own.kept HGT.out (.inr (by simp [Value.ownBlock]; omega))).kept HG2.out (.inr (by simp [Value.ownBlock]; omega))).kept hgc (.inr (by simp [Value.ownBlock]))
              have hgn := own_ne HOZ.out HBZ.out (by decide)
              have hgn1 := own_ne hown HBZ.out (by decide)
              have hut := HX2.out.lt
              have HF := hide (Lit2.mk (W := W) (z := z.setCell ⟨c + 1 + 1, 3, none⟩ (.slice (some ⟨g2, 0, none⟩) 1 cap2)) (b := b) (a := a + 6) (c := c) (g := g) (cap := cap) (u := t2.heap.size) (g2 := g2) (cap2 := cap2) (gb_then hgb (gb_set _ _ _ _) (by omega)) hle (tz htp (gb_set _ _ _ _) (by simp; omega)) (hbp.grown (gb_set _ _ _ _) (by simp)) (hbu.grown (gb_set _ _ _ _) (by simp; omega)) (HBZ.out.set 3 _) (hown.kept (gb_set _ _ _ _) (.inr (by simp [Value.ownBlock]; exact hgn1))) (HOZ.out.kept (gb_set _ _ _ _) (.inr (by simp [Value.ownBlock]; exact hgn))) (by omega))
              clear hgc hgb hbp hbu htp hown hgn hgn1 hle
              go_wp2_with fail
              go_meet
              exact ⟨_, _, _, HF.out⟩
          case rest =>
            obtain ⟨u, g2, cap2, hl2⟩ := hcut
            have HL2 := hide hl2
            clear hl2 HXT HTT HGT HL1
            go_upto_region 20 with (first
              | (go_at_call 10; refine (next_zero _ b (a + 6) _ HL2.out.tp (by omega) (by decide) ⟨by decide, by decide⟩).mono ?_; rintro e t1 ⟨rfl, ht2, hg2⟩; have HTT := hide ht2; have HGT := hide hg2; clear ht2 hg2))
            have HL3 := hide (HL2.out.next HGT.out HTT.out hcb)
            clear HL2
            go_cut [] (fun wx => ∃ k cap3, Lit3 W wx b (a + 10) c g cap u g2 cap2 k cap3)
            case first =>
              obtain ⟨j0, hi, hz0, hz1, hz2⟩ := info_parts info_exp
              have HJ := hide (And.intro hi (And.intro hz0 (And.intro hz1 hz2)))
              clear hi hz0 hz1 hz2
              have x0 : t1.cell? ⟨c + 1 + 1, 0, none⟩ = some (.string ⟨#[116, 48]⟩) := HL3.out.bx.cell (j := 0) rfl
              have x1 : t1.cell? ⟨c + 1 + 1, 1, none⟩ = some (.slice (some ⟨g, 0, none⟩) 2 cap) := HL3.out.bx.cell (j := 1) rfl
              have x2 : t1.cell? ⟨c + 1 + 1, 2, none⟩ = some (.slice (some ⟨c + 1, 0, none⟩) 1 1) := HL3.out.bx.cell (j := 2) rfl
              have x3 : t1.cell? ⟨c + 1 + 1, 3, none⟩ = some (.slice (some ⟨g2, 0, none⟩) 1 cap2) := HL3.out.bx.cell (j := 3) rfl
              have x4 : t1.cell? ⟨c + 1 + 1, 4, none⟩ = some (.slice none 0 0) := HL3.out.bx.cell (j := 4) rfl
              have x5 : t1.cell? ⟨c + 1 + 1, 5, none⟩ = some (.slice none 0 0) := HL3.out.bx.cell (j := 5) rfl
              have hw1 : IntKind.i64.wrap 1 = 1 := rfl
              go_region_law
                (first
                  | (go_simp; go_at_call 20; refine (types_T0 HL3.out ((Below.refl _ _).drew)).mono ?_; rintro e n1 ⟨⟨r, rfl, hrl, hri, hrb⟩, hb1⟩; have hb2 := bel_drew hb1; have HN1 := hide hb2; have HRL := hide hrl; have HRI := hide hri; have hrb2 : t1.heap.size ≤ r.h.b := hrb; have HRB := hide hrb2; have k1 : n1.cell? ⟨c + 1 + 1, 5, none⟩ = some (.slice none 0 0) := (HL3.out.bx.below hb2).cell (j := 5) rfl; clear hb1 hb2 hrl hri hrb hrb2)
                  | (go_simp; go_at_call 19; refine (expr_zero _ b (a + 6 + 1) r (HTT.out.mono HN1.out) (by omega) HRI.out (by rw [HRL.out]; decide) (by intro _; have h1 := HRB.out; have h2 := HTT.out.lt; omega)).mono ?_; rintro e n2 ⟨rfl, ht2, hg2⟩; have HTN := hide ht2; have hg3 := (only_below HN1.out (some b)).trans hg2; have HG2 := hide hg3; have hbx := HL3.out.bx.grown hg3 (by simp; omega); have k2 : n2.cell? ⟨c + 1 + 1, 5, none⟩ = some (.slice none 0 0) := hbx.cell (j := 5) rfl; have k3 : (n2.alloc (.cells #[.int .i64 1, .int .i64 2, .int .i64 0, .string ⟨#[]⟩, .int .i64 0, .slice none 0 0] 45)).cell? ⟨c + 1 + 1, 5, none⟩ = some (.slice none 0 0) := (hbx.below (belA _)).cell (j := 5) rfl; have HX2 := hide hbx; clear ht2 hg2 hg3 hbx)
                  | (refine step_append_lies _ (by rfl) _ _ _ (by rfl) c 45 j0 _ 6 72 Tryd.underlying37 HJ.out.1 HJ.out.2.1 HJ.out.2.2.1 HJ.out.2.2.2 rfl (by decide) (.slice none 0 0) 0 [] (by rfl) (World.ownsRow_nil _ _ _ _) ⟨n2.heap.size, 0, none⟩ 1 1 [.int .i64 1, .int .i64 2, .int .i64 0, .string ⟨#[]⟩, .int .i64 0, .slice none 0 0] (by rfl) (by rfl) new_cells (by intro u hu; simp only [List.mem_cons, List.not_mem_nil, or_false] at hu; rcases hu with rfl | rfl | rfl | rfl | rfl | rfl <;> rfl) (by decide) (by decide) (by decide) (by have := HX2.out.lt; simp; omega) (n2.heap.size + 1) (by simp) ?_; intro k cap3 z hown hgr hat hlt; have hgn : (n2.alloc (.cells #[.int .i64 1, .int .i64 2, .int .i64 0, .string ⟨#[]⟩, .int .i64 0, .slice none 0 0] 45)).grownBy z none := hgr; have hbz := (HX2.out.below (belA (.cells #[.int .i64 1, .int .i64 2, .int .i64 0, .string ⟨#[]⟩, .int .i64 0, .slice none 0 0] 45))).grown hgn (by simp); have kz : z.cell? ⟨c + 1 + 1, 5, none⟩ = some (.slice none 0 0) := hbz.cell (j := 5) rfl; have fz := hbz.fr 5; have HGR := hide hgn; have HOZ := hide hown; clear hbz hgr hgn hown hat hlt))
              all_goals
                have hgc : n2.grownBy z none := (only_below (belA (.cells #[.int .i64 1, .int .i64 2, .int .i64 0, .string ⟨#[]⟩, .int .i64 0, .slice none 0 0] 45)) none).trans HGR.out
                have hg1 : t1.grownBy z (some b) := HG2.out.trans (hgc.but (some b))
                have HF := hide ((HL3.out.next hg1 (tz HTN.out hgc (by simp)) hcb).check hcb HOZ.out)
                clear hgc hg1
                go_wp2_with fail
                go_meet
                exact ⟨_, _, HF.out⟩
            case rest =>
              obtain ⟨k, cap3, hl3⟩ := hcut
              have HL4 := hide hl3
              clear hl3 HL3 HTT HGT
              obtain ⟨j0, hi, hz0, hz1, hz2⟩ := info_parts info_tab
              have HJ := hide (And.intro hi (And.intro hz0 (And.intro hz1 hz2)))
              clear hi hz0 hz1 hz2
              have hle := HL4.out.le
              have hs2 : w.heap.size + 1 + 1 ≤ W.heap.size := by have := B1.out.lt; omega
              have HBO := hide (B1.out.grown HL4.out.gb (by simp; omega))
              have HBR := hide (B0.out.grown HL4.out.gb (by simp; omega))
              have y0 := HBO.out.cell (j := 0) rfl
              have x0 := HL4.out.bx.cell (j := 0) rfl
              have x1 := HL4.out.bx.cell (j := 1) rfl
              have x2 := HL4.out.bx.cell (j := 2) rfl
              have x3 := HL4.out.bx.cell (j := 3) rfl
              have x4 := HL4.out.bx.cell (j := 4) rfl
              have x5 := HL4.out.bx.cell (j := 5) rfl
              have hlt := HL4.out.bx.lt
              go_wp2_with (first
                | (at_builtin; go_loud (refine wpList_append_lies _ rfl _ _ 26 rfl c 39 j0 _ 6 136 Tryd.underlying26 HJ.out.1 HJ.out.2.1 HJ.out.2.2.1 HJ.out.2.2.2 rfl (by decide) (.slice none 0 0) 0 [] (by rfl) (World.ownsRow_nil _ _ _ _) ⟨wc.heap.size, 0, none⟩ 1 1 [.string ⟨#[116, 48]⟩, .slice (some ⟨g, 0, none⟩) 2 cap, .slice (some ⟨c + 1, 0, none⟩) 1 1, .slice (some ⟨g2, 0, none⟩) 1 cap2, .slice none 0 0, .slice (some ⟨k, 0, none⟩) 1 cap3] (by rfl) (by rfl) new_cells (by intro u hu; simp only [List.mem_cons, List.not_mem_nil, or_false] at hu; rcases hu with rfl | rfl | rfl | rfl | rfl | rfl <;> rfl) (by decide) (by decide) (by decide) (by simp; omega) (wc.heap.size + 1) (by simp) ?_; intro G capG z hown hgr hat hltz; have hgn : (wc.alloc (.cells #[.string ⟨#[116, 48]⟩, .slice (some ⟨g, 0, none⟩) 2 cap, .slice (some ⟨c + 1, 0, none⟩) 1 1, .slice (some ⟨g2, 0, none⟩) 1 cap2, .slice none 0 0, .slice (some ⟨k, 0, none⟩) 1 cap3] 39)).grownBy z none := hgr; have hgc := (only_below (belA (w := wc) (.cells #[.string ⟨#[116, 48]⟩, .slice (some ⟨g, 0, none⟩) 2 cap, .slice (some ⟨c + 1, 0, none⟩) 1 1, .slice (some ⟨g2, 0, none⟩) 1 cap2, .slice none 0 0, .slice (some ⟨k, 0, none⟩) 1 cap3] 39)) none).trans hgn; have hbz := HBO.out.grown hgc (by simp); have kz := hbz.cell (j := 0) rfl; have fz := hbz.fr 0; have HGC := hide hgc; have HBZ := hide hbz; have HOZ := hide hown; clear hgr hown hgn hgc hbz hat hltz)))
              have htf : TF z c g cap u g2 cap2 k cap3 G capG := ⟨HL4.out.bp.grown HGC.out (by simp), HL4.out.bu.grown HGC.out (by simp), HL4.out.own.kept HGC.out (.inr (by simp [Value.ownBlock])), HL4.out.own2.kept HGC.out (.inr (by simp [Value.ownBlock])), HL4.out.uc, HL4.out.own3.kept HGC.out (.inr (by simp [Value.ownBlock])), HOZ.out⟩
              have HTF := hide htf
              have hbr := HBR.out.grown HGC.out (by simp)
              have HZR := hide hbr
              have htz := HL4.out.tp
              have HTZ := hide (tz htz HGC.out (by simp))
              clear htf hbr htz y0 x0 x1 x2 x3 x4 x5 hlt
              have HGW := hide (gb_below HBW.out (HL4.out.gb.trans (HGC.out.but (some b))))
              have hbc2 : b < w.heap.size := hbl
              clear HL4
              go_wp2_with fail
              go_roundw
              case rel =>
                refine .inr ⟨rfl, S1 c g cap u g2 cap2 k cap3 G capG, T1 c g cap u g2 cap2 k cap3, HZR.out.grown (gb_set _ _ _ _) (by simp), (HBZ.out.set 0 _).cell (j := 0) rfl, fun v => ((HTF.out.far (gb_set _ _ _ _) (by omega)).far (gb_set _ _ _ _) (by omega)).sch, rfl, rfl, rfl, tz HTZ.out (gb_set _ _ _ _) (by simp; omega), gb_then HGW.out (gb_set _ _ _ _) (by omega)⟩
              case measure => simp [intOf]
    · have f0 := hb0.fr 0
      have HBQ := hide hb0
      have HSQ := hide hs
      have HGQ := hide hgb
      have hj0 := hb0.cell (j := 0) rfl
      have hq := (hb0.set 0 (.slice s.th.ao s.tabs.length s.th.cap)).cell (j := 0) rfl
      have HTB := hide htb
      clear hb0 hs hgb htp htb
      go_wp2_with fail
      exact bodyPost_ret (v := .agg #[.slice s.th.ao s.tabs.length s.th.cap]) (by simp [results, Tryd.results7, go_sem, hq]) rfl
        ⟨⟨s, tb, rfl, HSQ.out _, HTB.out, hnm, hcl⟩, gb_then HGQ.out (gb_set _ _ _ _) (Nat.le_refl _)⟩
end Go.Proofs.YtmnbhdhgjbgidaaDoor

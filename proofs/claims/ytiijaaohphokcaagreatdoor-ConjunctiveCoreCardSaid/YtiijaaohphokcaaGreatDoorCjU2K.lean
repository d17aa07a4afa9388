/- ref27.literal of a literal that is right. -/
import Derived.Test.YtiijaaohphokcaaGreatDoorG28
namespace Go.Proofs.YtiijaaohphokcaaGreatDoor
open Go.RowKit

/-- The row of types at block g, in a world behind w. -/
structure TX (w : World) (g n : Nat) (f : Nat → Int) (x : World) : Prop where
  bel : Below w.heap.size w x
  at' : ∀ j, j < n → x.cell? ⟨g, j, none⟩ = some (.int .i64 (f j))
  fr : ∀ j, x.frozen? ⟨g, j, none⟩ = false
  lo : w.heap.size ≤ g
  hi : g < x.heap.size
section
variable {w x y : World} {g n : Nat} {f : Nat → Int}
theorem TX.grown (h : TX w g n f x) (hb : Below x.heap.size x y) : TX w g n f y :=
  ⟨bel_trans h.bel hb, fun j hj => by rw [hb.cell (p := ⟨g, j, none⟩) h.hi]; exact h.at' j hj, fun j => by simp only [World.frozen?]; rw [hb.block g h.hi]; exact h.fr j, h.lo, Nat.lt_of_lt_of_le h.hi hb.size⟩
theorem TX.set (h : TX w g n f x) {m : Nat} (hm : m < n) (c : Int) : TX w g n (fun y => if y = m then c else f y) (x.setCell ⟨g, m, none⟩ (.int .i64 c)) := by
  have hg := gb_set x g m (.int .i64 c)
  have hlo := h.lo
  refine ⟨h.bel.grown hg h.bel.size (fun j e => by injection e with e; omega), fun y hy => ?_, fun j => by rw [frozen_set]; exact h.fr j, h.lo, by simpa using h.hi⟩
  by_cases e : y = m
  · subst e; rw [if_pos rfl]; exact World.cell?_setCell_same _ _ _ (h.at' y hy)
  · rw [if_neg e, cell_set_ne e]; exact h.at' y hy
end
theorem bel_drewN (y : World) (n : Nat) : Below y.heap.size y (y.drewN n) := ⟨rfl, rfl, rfl, Nat.le_refl _, fun _ _ => rfl⟩
def RLitPost (w : World) (g : Nat) (q : Cq) (τ : Nat → Int) (k : Nat) (W : World) (e : Ending) (w' : World) : Prop := e = .returned (.bool true) ∧ W.grownBy w' (some g) ∧ ∃ f, TX w g q.vars f w' ∧ TOk q τ (k + 1) 0 f
theorem gb_bel {a b c : World} {r : Option Nat} (h : a.grownBy b r) (k : Below b.heap.size b c) : a.grownBy c r := h.andThen (only_below k none) (fun j e => by cases e)
theorem gb_set_at {a b : World} {g : Nat} (h : a.grownBy b (some g)) (j : Nat) (v : Value) : a.grownBy (b.setCell ⟨g, j, none⟩ v) (some g) := h.andThen (gb_set b g j v) (fun _ e => .inr e)
set_option maxRecDepth 100000 in
set_option maxHeartbeats 8000000 in
theorem rlit_yes (s : Sch) (q : Cq) (B : Nat) (w : World) (hs : s.In w) (hp : PSch s) (hq : q.In w B) (τ : Nat → Int) (hr : Right (colT s) q.vars q.cj τ) (k : Nat) (hlt : k < q.lits.length) (l : Li) (hl : q.lits[k] = l) (g : Nat) (f : Nat → Int) (W : World) (hT : TX w g q.vars f W) (hK : TOk q τ k 0 f) :
    Calls Tryz.prog 71 #[.agg #[.slice s.th.ao s.tabs.length s.th.cap], .agg #[.int .i64 (l.tab : Nat), .slice l.sl.h.ao l.sl.l.length l.sl.h.cap], .slice (some ⟨g, 0, none⟩) q.vars q.vars] W (RLitPost w g q τ k W) := by
  have HS := hide hs
  have HSL := hide (show ∀ W, Below w.heap.size w W → l.sl.In W B from by subst hl; exact fun W hW => (hq.mono hW).sl _ (List.getElem_mem hlt))
  obtain ⟨ht, nm, ch, cols, ph, ht2, hpc, hlen, hsl⟩ := lit_tab (l := l) hp (by subst hl; exact hr.lit _ (List.mem_map_of_mem (List.getElem_mem hlt)))
  have HKL := hide (show ∀ i, ¬ i < l.sl.l.length → ∀ f, TOk q τ k i f → TOk q τ (k + 1) 0 f from by subst hl; exact fun i hi f h => h.lit hlt hi)
  have HKC := hide (show ∀ i (hi : i < l.sl.l.length) f, TOk q τ k i f → ∀ c : V, l.sl.l[i] = .c c → TOk q τ k (i + 1) f from by subst hl; exact fun i hi f h c hc => h.con hlt hi hc)
  have HKV := hide (show ∀ i (hi : i < l.sl.l.length) f, TOk q τ k i f → ∀ m : Nat, l.sl.l[i] = .v m → ∀ c, τ m = c → TOk q τ k (i + 1) (fun y => if y = m then c else f y) from by subst hl; exact fun i hi f h m hm c hc => h.var hlt hi hm hc)
  have HSK := hide hsl
  have HT := hide hT
  have HK0 := hide hK
  have HV16 := hide (show q.vars ≤ 16 from hr.v16)
  clear hs hq hr hT hK hsl hl hlt
  have HPC := hide hpc
  have HTI := hide (fun W (hW : Below w.heap.size w W) => (HS.out.mono hW).ts _ (List.getElem_mem ht))
  have HTA := hide (fun W (hW : Below w.heap.size w W) => tab_at (HS.out.mono hW).rt ht)
  rw [ht2] at HTA HTI
  have HIT := hide (fun W (hW : Below w.heap.size w W) => And.intro ((HS.out.mono hW).rt.ix ht Tryz.underlying25 sz22) ((HS.out.mono hW).rt.blk ht))
  have hti : ¬ (s.tabs.length : Int) ≤ (l.tab : Int) := by omega
  have htn : ¬ (l.tab : Int) < 0 := by omega
  have hle : ((l.sl.l.length : Int) != (cols.length : Int)) = false := by rw [hlen]; exact bne_self_eq_false _
  have HLE := hide hlen
  obtain ⟨X, hX⟩ : ∃ X, (W.alloc (.cells #[.slice s.th.ao s.tabs.length s.th.cap] 27)).alloc (.cells #[.int .i64 (l.tab : Nat), .slice l.sl.h.ao l.sl.l.length l.sl.h.cap] 56) = X := ⟨_, rfl⟩
  have HWX := hide (show Below W.heap.size W X from by rw [← hX]; exact belAA _ _)
  have HBS := hide (show Box X W.heap.size #[.slice s.th.ao s.tabs.length s.th.cap] 27 from by rw [← hX]; exact (Box.new _ _ _).below (belA _))
  have HBL := hide (show Box X (W.heap.size + 1) #[.int .i64 (l.tab : Nat), .slice l.sl.h.ao l.sl.l.length l.sl.h.cap] 56 from by
    rw [← hX]
    have h := Box.new (W.alloc (.cells #[.slice s.th.ao s.tabs.length s.th.cap] 27)) #[.int .i64 (l.tab : Nat), .slice l.sl.h.ao l.sl.l.length l.sl.h.cap] 56
    rwa [World.size_alloc] at h)
  have HTX := hide (HT.out.grown HWX.out)
  clear ht ht2 hlen
  go_enter Tryz.func71, Tryz.ntmps71
  go_upto_region 1 with fail
  try rw [hX]
  clear hX
  have y0 : ∀ w', Below X.heap.size X w' → w'.cell? ⟨W.heap.size, 0, none⟩ = some (.slice s.th.ao s.tabs.length s.th.cap) := fun w' h => (HBS.out.below h).cell rfl
  have y1 : ∀ w', Below X.heap.size X w' → w'.cell? ⟨W.heap.size + 1, 0, none⟩ = some (.int .i64 (l.tab : Nat)) := fun w' h => (HBL.out.below h).cell rfl
  have y2 : ∀ w', Below X.heap.size X w' → w'.cell? ⟨W.heap.size + 1, 1, none⟩ = some (.slice l.sl.h.ao l.sl.l.length l.sl.h.cap) := fun w' h => (HBL.out.below h).cell rfl
  have y3 : ∀ w', Below X.heap.size X w' → w'.cell? ⟨s.th.b, s.th.o + l.tab * 6, none⟩ = some (.string nm) := fun w' h => (HTA.out w' (HTX.out.grown h).bel).1
  have y4 : ∀ w', Below X.heap.size X w' → w'.cell? ⟨s.th.b, s.th.o + l.tab * 6 + 1, none⟩ = some (.slice ch.ao cols.length ch.cap) := fun w' h => (HTA.out w' (HTX.out.grown h).bel).2.1
  have y5 : ∀ w', Below X.heap.size X w' → w'.cell? ⟨s.th.b, s.th.o + l.tab * 6 + 2, none⟩ = some (.slice ph.ao 1 ph.cap) := fun w' h => (HTA.out w' (HTX.out.grown h).bel).2.2.1
  have y6 : ∀ w', Below X.heap.size X w' → w'.cell? ⟨s.th.b, s.th.o + l.tab * 6 + 3, none⟩ = some (.slice none 0 0) := fun w' h => (HTA.out w' (HTX.out.grown h).bel).2.2.2.1
  have y7 : ∀ w', Below X.heap.size X w' → w'.cell? ⟨s.th.b, s.th.o + l.tab * 6 + 4, none⟩ = some (.slice none 0 0) := fun w' h => (HTA.out w' (HTX.out.grown h).bel).2.2.2.2.1
  have y8 : ∀ w', Below X.heap.size X w' → w'.cell? ⟨s.th.b, s.th.o + l.tab * 6 + 5, none⟩ = some (.slice none 0 0) := fun w' h => (HTA.out w' (HTX.out.grown h).bel).2.2.2.2.2
  have hix := (HIT.out X HTX.out.bel).1
  have hstb := (HIT.out X HTX.out.bel).2
  have HPL := hide (fun V (hV : Below X.heap.size X V) => rplain_yes nm ch cols ph V (HTI.out V (HTX.out.grown hV).bel) HPC.out)
  go_region_held3 (fun w' => Below X.heap.size X w') ((first | exact (Below.refl _ _).drew | exact bel_trans (by assumption) (by assumption))) (first | (go_at_call 118; refine (HPL.out _ (by assumption)).mono ?_; rintro e x ⟨rfl, hb⟩))
  have hHx : Below X.heap.size X x := by assumption
  have HGB := hide (only_below (bel_trans HWX.out hHx) (some g))
  have HTX2 := hide (HTX.out.grown hHx)
  have HBL2 := hide (HBL.out.below hHx)
  have HGL := hide (show g < W.heap.size from HT.out.hi)
  have HS0 := hide (HBS.out.below hHx)
  clear y0 y1 y2 y3 y4 y5 y6 y7 y8 hix hstb hb hHx HTX HBL HBS HPL HWX
  have y0 : x.cell? ⟨W.heap.size, 0, none⟩ = some (.slice s.th.ao s.tabs.length s.th.cap) := HS0.out.cell rfl
  have y1 : x.cell? ⟨W.heap.size + 1, 0, none⟩ = some (.int .i64 (l.tab : Nat)) := HBL2.out.cell rfl
  have y4 := (HTA.out x HTX2.out.bel).2.1
  have hix := (HIT.out x HTX2.out.bel).1
  have hstb := (HIT.out x HTX2.out.bel).2
  have hcn := (HTI.out x HTX2.out.bel).rc.len
  go_wp2
  clear y0 y1 y4 hix hstb hti htn hle
  go_loopw [53] (fun i wr => ∃ m : Nat, m ≤ cols.length ∧ i = .int .i64 m ∧ ∃ f : Nat → Int, Hid (TX w g q.vars f wr) ∧ Hid (TOk q τ k m f) ∧ Hid (Box wr (W.heap.size + 1) #[.int .i64 (l.tab : Nat), .slice l.sl.h.ao l.sl.l.length l.sl.h.cap] 56) ∧ Hid (W.grownBy wr (some g))) (fun i _ => cols.length - (intOf i).toNat)
  case atStart => exact ⟨0, Nat.zero_le _, rfl, f, HTX2.out, HK0.out, HBL2.out, HGB.out⟩
  clear HTX2 HK0 HBL2 HGB HS0 HT
  case round =>
    obtain ⟨m, hm, rfl, f, HT, HK, HL, HGB⟩ := hrel
    have HWB := hide (show W.heap.size + 1 < wr.heap.size from HL.out.lt)
    by_cases hlc : m < cols.length
    · have hlm : m < l.sl.l.length := by rw [HLE.out]; exact hlc
      have hlmi : (m : Int) < l.sl.l.length := by omega
      have hrc := (HTI.out _ HT.out.bel).rc
      have hixc := hrc.ix hlc Tryz.underlying73 sz30
      obtain ⟨d0, d1, d2⟩ := col_at hrc hlc
      have hbc := hrc.blk hlc
      have hrs := (HSL.out _ HT.out.bel).row
      have HWF := hide ((HSL.out _ HT.out.bel).wf _ (List.getElem_mem hlm))
      have hix := hrs.ix hlm Tryz.underlying30 szslot
      obtain ⟨c0, c1, c2, c3⟩ := tm_at hrs hlm
      have hbk := hrs.blk hlm
      have hsn := hrs.len
      have HSO := hide (HSK.out m hlm hlc)
      have HK1 := hide (HKC.out m hlm f HK.out)
      have HK2 := hide (HKV.out m hlm f HK.out)
      have HTY := hide (HPC.out.ty _ (List.getElem_mem hlc))
      obtain ⟨t, ht⟩ : ∃ t, l.sl.l[m] = t := ⟨_, rfl⟩
      obtain ⟨cl, hcl⟩ : ∃ c, cols[m] = c := ⟨_, rfl⟩
      rw [ht] at c0 c1 c2 c3 HWF HSO HK1 HK2
      rw [hcl] at d0 d1 d2 HSO HTY
      have HV := hide (fun U => rslot_yes q.vars t U HWF.out (by
        cases t with
        | v n => exact HSO.out.1
        | c kk => exact ⟨HSO.out.1, by have h1 : kk.kind = cl.typ := HSO.out.2; have h2 := HTY.out; omega⟩))
      have HFX := hide (fun U => rfixed_any t U)
      clear ht hcl hrs hrc
      have HLC := hide hlc
      obtain ⟨V, hV⟩ : ∃ V, (wr.alloc (.cells #[.string cl.name, .int .i64 cl.typ, .bool cl.nul] 72)).alloc (.cells #[.int .i64 t.nr, .int .i64 t.val.kind, .int .i64 t.val.num, .string t.val.text] 83) = V := ⟨_, rfl⟩
      have HVB := hide (show Below wr.heap.size wr V from by rw [← hV]; exact belAA _ _)
      have HBC := hide (show Box V wr.heap.size #[.string cl.name, .int .i64 cl.typ, .bool cl.nul] 72 from by rw [← hV]; exact (Box.new _ _ _).below (belA _))
      have HBT := hide (show Box V (wr.heap.size + 1) #[.int .i64 t.nr, .int .i64 t.val.kind, .int .i64 t.val.num, .string t.val.text] 83 from by
        rw [← hV]
        have h := Box.new (wr.alloc (.cells #[.string cl.name, .int .i64 cl.typ, .bool cl.nul] 72)) #[.int .i64 t.nr, .int .i64 t.val.kind, .int .i64 t.val.num, .string t.val.text] 83
        rwa [World.size_alloc] at h)
      have HTV := hide (HT.out.grown HVB.out)
      have HLV := hide (HL.out.below HVB.out)
      have HGV := hide (gb_bel HGB.out HVB.out)
      have x1 : wr.cell? ⟨W.heap.size + 1, 1, none⟩ = some (.slice l.sl.h.ao l.sl.l.length l.sl.h.cap) := HL.out.cell rfl
      have hwb := HWB.out
      go_upto_region 7 with fail
      try rw [hV]
      clear hV hix hixc c0 c1 c2 c3 d0 d1 d2 hbk hbc x1 hsn
      cases t with
      | c kk =>
        have hkb : (kk.kind != cl.typ) = false := by rw [show kk.kind = cl.typ from HSO.out.2]; exact bne_self_eq_false _
        have HK3 := hide (HK1.out kk rfl)
        clear HK1 HK2
        simp only [Tm.nr, Tm.val, Tm.isC] at *
        have x0 : V.cell? ⟨wr.heap.size + 1, 0, none⟩ = some (.int .i64 (-1)) := HBT.out.cell rfl
        have x1 : V.cell? ⟨wr.heap.size + 1, 1, none⟩ = some (.int .i64 kk.kind) := HBT.out.cell rfl
        have x2 : V.cell? ⟨wr.heap.size + 1, 2, none⟩ = some (.int .i64 kk.num) := HBT.out.cell rfl
        have x3 : V.cell? ⟨wr.heap.size + 1, 3, none⟩ = some (.string kk.text) := HBT.out.cell rfl
        go_wp2_with (first
          | (go_at_call 72; refine (HV.out _).mono ?_; rintro e y ⟨rfl, hb⟩; have HY := hide hb; clear hb x0 x1 x2 x3; have x0 : y.cell? ⟨wr.heap.size + 1, 0, none⟩ = some (.int .i64 (-1)) := (HBT.out.below HY.out).cell rfl; have x1 : y.cell? ⟨wr.heap.size + 1, 1, none⟩ = some (.int .i64 kk.kind) := (HBT.out.below HY.out).cell rfl; have x2 : y.cell? ⟨wr.heap.size + 1, 2, none⟩ = some (.int .i64 kk.num) := (HBT.out.below HY.out).cell rfl; have x3 : y.cell? ⟨wr.heap.size + 1, 3, none⟩ = some (.string kk.text) := (HBT.out.below HY.out).cell rfl)
          | (go_at_call 73; refine (HFX.out _).mono ?_; rintro e y2 ⟨rfl, hb2⟩; have HY2 := hide (bel_trans HY.out hb2); clear hb2 x0 x1 x2 x3; have x0 : y2.cell? ⟨wr.heap.size + 1, 0, none⟩ = some (.int .i64 (-1)) := (HBT.out.below HY2.out).cell rfl; have x1 : y2.cell? ⟨wr.heap.size + 1, 1, none⟩ = some (.int .i64 kk.kind) := (HBT.out.below HY2.out).cell rfl; have x2 : y2.cell? ⟨wr.heap.size + 1, 2, none⟩ = some (.int .i64 kk.num) := (HBT.out.below HY2.out).cell rfl; have x3 : y2.cell? ⟨wr.heap.size + 1, 3, none⟩ = some (.string kk.text) := (HBT.out.below HY2.out).cell rfl; have z1 : y2.cell? ⟨wr.heap.size, 1, none⟩ = some (.int .i64 cl.typ) := (HBC.out.below HY2.out).cell rfl)
          | (go_at_call 73; refine (HFX.out _).mono ?_; rintro e y3 ⟨rfl, hb3⟩; have HY3 := hide (bel_trans HY2.out hb3); clear hb3))
        exact ⟨⟨m + 1, HLC.out, rfl, f, HTV.out.grown HY3.out, HK3.out, HLV.out.below HY3.out, gb_bel HGV.out HY3.out⟩, by have := HLC.out; simp [intOf]; omega⟩
      | v n =>
        have hn : n < q.vars := HSO.out.1
        have HK3 := hide (HK2.out n rfl cl.typ HSO.out.2)
        have HF0 := hide (HK.out n hn).1
        have HTN := hide (show τ n = cl.typ from HSO.out.2)
        clear HK1 HK2
        simp only [Tm.nr, Tm.val, nulV, Tm.isC] at *
        have hixg := index_ptr (P := Tryz.prog) Tryz.underlying22 szil g q.vars q.vars n hn
        have x0 : V.cell? ⟨wr.heap.size + 1, 0, none⟩ = some (.int .i64 (n : Nat)) := HBT.out.cell rfl
        have x1 : V.cell? ⟨wr.heap.size + 1, 1, none⟩ = some (.int .i64 0) := HBT.out.cell rfl
        have x2 : V.cell? ⟨wr.heap.size + 1, 2, none⟩ = some (.int .i64 0) := HBT.out.cell rfl
        have x3 : V.cell? ⟨wr.heap.size + 1, 3, none⟩ = some (.string ⟨#[]⟩) := HBT.out.cell rfl
        go_upto_region 10 with (first
          | (go_at_call 72; refine (HV.out _).mono ?_; rintro e y ⟨rfl, hb⟩; have HY := hide hb; clear hb x0 x1 x2 x3; have x0 : y.cell? ⟨wr.heap.size + 1, 0, none⟩ = some (.int .i64 (n : Nat)) := (HBT.out.below HY.out).cell rfl; have x1 : y.cell? ⟨wr.heap.size + 1, 1, none⟩ = some (.int .i64 0) := (HBT.out.below HY.out).cell rfl; have x2 : y.cell? ⟨wr.heap.size + 1, 2, none⟩ = some (.int .i64 0) := (HBT.out.below HY.out).cell rfl; have x3 : y.cell? ⟨wr.heap.size + 1, 3, none⟩ = some (.string ⟨#[]⟩) := (HBT.out.below HY.out).cell rfl)
          | (go_at_call 73; refine (HFX.out _).mono ?_; rintro e y2 ⟨rfl, hb2⟩; have HY2 := hide (bel_trans HY.out hb2); clear hb2 x0 x1 x2 x3; have x0 : y2.cell? ⟨wr.heap.size + 1, 0, none⟩ = some (.int .i64 (n : Nat)) := (HBT.out.below HY2.out).cell rfl; have x1 : y2.cell? ⟨wr.heap.size + 1, 1, none⟩ = some (.int .i64 0) := (HBT.out.below HY2.out).cell rfl; have x2 : y2.cell? ⟨wr.heap.size + 1, 2, none⟩ = some (.int .i64 0) := (HBT.out.below HY2.out).cell rfl; have x3 : y2.cell? ⟨wr.heap.size + 1, 3, none⟩ = some (.string ⟨#[]⟩) := (HBT.out.below HY2.out).cell rfl)
          | (go_at_call 73; refine (HFX.out _).mono ?_; rintro e y3 ⟨rfl, hb3⟩; have HY3 := hide (bel_trans HY2.out hb3); clear hb3; clear x0 x1 x2 x3))
        have HT3 := hide (HTV.out.grown HY3.out)
        have HL3 := hide (HLV.out.below HY3.out)
        have HG3 := hide (gb_bel HGV.out HY3.out)
        have x0 : y3.cell? ⟨wr.heap.size + 1, 0, none⟩ = some (.int .i64 (n : Nat)) := (HBT.out.below HY3.out).cell rfl
        have z1 : y3.cell? ⟨wr.heap.size, 1, none⟩ = some (.int .i64 cl.typ) := (HBC.out.below HY3.out).cell rfl
        have z0 := HT3.out.at' n hn
        have f0 := HT3.out.fr n
        have hfn : ((f n != 0) = false) ∨ ((f n != 0) = true ∧ (f n != cl.typ) = false) := by
          rcases HF0.out with h | h
          · left; rw [h]; rfl
          · right
            rw [h, HTN.out]
            have h2 := HTY.out
            exact ⟨bne_iff_ne.2 (by omega), bne_self_eq_false _⟩
        clear HV HFX HY HY2 HTV HLV HGV HBC HBT HVB
        rcases hfn with hfn | ⟨hfn, hfm⟩
        all_goals
          go_quiet (fail)
          go_wp2
          go_roundw
          case rel => exact ⟨m + 1, HLC.out, by go_num, _, (HT3.out.grown (bel_drewN _ _)).set hn cl.typ, HK3.out, (HL3.out.below (bel_drewN _ _)).grown (gb_set _ _ _ _) (by have h1 := HGL.out; intro e; injection e with e; omega), gb_set_at (gb_bel HG3.out (bel_drewN _ _)) _ _⟩
          case measure => have := HLC.out; simp [intOf]; omega
    · obtain rfl : m = cols.length := by omega
      have HK3 := hide (HKL.out cols.length (by rw [HLE.out]; omega) f HK.out)
      go_wp2
      go_ret
      exact ⟨rfl, HGB.out, f, HT.out, HK3.out⟩
end Go.Proofs.YtiijaaohphokcaaGreatDoor

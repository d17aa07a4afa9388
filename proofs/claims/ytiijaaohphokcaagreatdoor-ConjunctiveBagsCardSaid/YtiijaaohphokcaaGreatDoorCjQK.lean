/- conjunctive.Core of a query that is right. -/
import Derived.Test.YtiijaaohphokcaaGreatDoorG21
namespace Go.Proofs.YtiijaaohphokcaaGreatDoor
open Go.RowKit Go.Maps
structure CoW (w : World) (q lq : Cq) (lb : Nat) (x : World) : Prop where
  bel : Below w.heap.size w x
  br : Box x (w.heap.size + 1 + 1) #[.int .i64 0, .slice none 0 0, .slice none 0 0] 32
  bl : Box x lb (qcells lq) 32
  lo : w.heap.size + 1 + 1 < lb
  row : Row x 2 Li.cells lq.lh lq.lits
  ne : lq.lh.b ≠ lb
  vars : lq.vars = q.vars
  head : lq.head = q.head
  sub : ∀ l ∈ lq.lits, l ∈ q.lits
  pos : 0 < lq.lits.length
  len : lq.lits.length ≤ q.lits.length
section
variable {w x y : World} {q lq : Cq} {lb B : Nat}
theorem CoW.call (h : CoW w q lq lb x) (hb : Below x.heap.size x y) : CoW w q lq lb y := ⟨bel_trans h.bel hb, h.br.below hb, h.bl.below hb, h.lo, h.row.mono hb, h.ne, h.vars, h.head, h.sub, h.pos, h.len⟩
theorem in_of {ls : List Li} {h : Hd} (hq : q.In w B) (hb : Below w.heap.size w x) (hr : Row x 2 Li.cells h ls) (hs : ∀ l ∈ ls, l ∈ q.lits) : Cq.In x 0 ⟨q.vars, h, ls, q.head⟩ :=
  ⟨hr, fun _ => Nat.zero_le _, fun l hl => ((hq.sl l (hs l hl)).mono hb).le (Nat.zero_le _), fun l hl => hq.tb l (hs l hl), (hq.hd.mono hb).le (Nat.zero_le _), hq.vr⟩
theorem QOk.mono' {x y : World} {q r : Cq} (h : QOk x q r) (hb : Below x.heap.size x y) : QOk y q r := ⟨h.qi.mono hb, h.ri.mono hb, h.vq, h.ql, h.rl, h.qs⟩
theorem CoW.inq (h : CoW w q lq lb x) (hq : q.In w B) : lq.In x 0 := by
  have := in_of (h := lq.lh) (ls := lq.lits) hq h.bel h.row h.sub
  rw [← h.vars, ← h.head] at this
  exact this
theorem CoW.set {ls : List Li} {hd : Hd} (h : CoW w q lq lb x) (hr : Row x 2 Li.cells hd ls) (hne : hd.b ≠ lb) (hs : ∀ l ∈ ls, l ∈ lq.lits) (hp : 0 < ls.length) (hl : ls.length ≤ lq.lits.length) :
    CoW w q ⟨lq.vars, hd, ls, lq.head⟩ lb (((x.setCell ⟨lb, 0, none⟩ (.int .i64 (lq.vars : Nat))).setCell ⟨lb, 1, none⟩ (.slice hd.ao ls.length hd.cap)).setCell ⟨lb, 2, none⟩ (.slice lq.head.h.ao lq.head.l.length lq.head.h.cap)) := by
  have hg := set3 x lb (.int .i64 (lq.vars : Nat)) (.slice hd.ao ls.length hd.cap) (.slice lq.head.h.ao lq.head.l.length lq.head.h.cap)
  have hlo := h.lo
  have hb := ((h.bl.set 0 (.int .i64 (lq.vars : Nat))).set 1 (.slice hd.ao ls.length hd.cap)).set 2 (.slice lq.head.h.ao lq.head.l.length lq.head.h.cap)
  simp only [List.setIfInBounds_toArray, List.set_cons_zero, List.set_cons_succ] at hb
  exact ⟨h.bel.grown hg h.bel.size (fun j e => by injection e with e; omega), h.br.grown hg (by intro e; injection e with e; omega), hb, h.lo, row_row hr hg (by intro e; injection e with e; exact hne e), hne, h.vars, h.head, fun l hl => h.sub l (hs l hl), hp, Nat.le_trans hl h.len⟩
end
theorem nodup_le {n : Nat} {l : List Nat} (hn : l.Nodup) (h : ∀ x ∈ l, x < n) : l.length ≤ n := by
  apply Classical.byContradiction
  intro hlt
  have hm : ∀ k, k < l.length → l.getD k 0 ∈ l := fun k hk => by rw [List.getD_eq_getElem?_getD, List.getElem?_eq_getElem hk]; exact List.getElem_mem _
  obtain ⟨a, b, h1, h2, h3⟩ := php n (fun k => l.getD k 0) (fun k hk => h _ (hm k (by omega)))
  have ha : a < l.length := by omega
  have hb : b < l.length := by omega
  have h3 : l.getD a 0 = l.getD b 0 := h3
  rw [List.getD_eq_getElem?_getD, List.getD_eq_getElem?_getD, List.getElem?_eq_getElem ha, List.getElem?_eq_getElem hb] at h3
  have h3 : l[a] = l[b] := h3
  have h6 := List.Nodup.idxOf_getElem hn a ha
  have h7 := List.Nodup.idxOf_getElem hn b hb
  rw [h3, h7] at h6
  omega
theorem CoW.okq {w x : World} {q lq : Cq} {lb B : Nat} {T : List (List Int)} (h : CoW w q lq lb x) (rq : RightQ w T q B) : (∀ l ∈ lq.lits, ∀ x, Tm.v x ∈ l.sl.l → x < lq.vars) ∧ (∀ l ∈ lq.lits, l.sl.l.length ≤ 1000) ∧ lq.cj.occ.length ≤ 1000 ∧ (∀ x, Tm.v x ∈ lq.head.l → x < lq.vars) ∧ lq.head.l.length ≤ 1000 ∧ 0 < lq.head.l.length := by
  have hk := rq.ok rq
  obtain ⟨τ, hr⟩ := rq.ri
  refine ⟨fun l hl x hx => ?_, fun l hl => hk.qs l (h.sub l hl), ?_, fun x hx => ?_, ?_, ?_⟩
  · rw [h.vars]; exact hk.vq l (h.sub l hl) x hx
  · refine Nat.le_trans (nodup_le (n := q.vars) (occQ_nodup _ (by simp)) (fun x hx => ?_)) (Nat.le_trans hr.v16 (by decide))
    obtain ⟨a, ha, hm⟩ := (occ_iff (q := lq.cj) x).1 hx
    obtain ⟨l, hl, rfl⟩ := List.mem_map.1 ha
    exact hk.vq l (h.sub l hl) x hm
  · rw [h.vars]; rw [h.head] at hx; exact hr.hd _ hx
  · rw [h.head]; exact Nat.le_trans hr.h24 (by decide)
  · rw [h.head]; exact hr.h1
theorem coreL_skip {K : Type} {q : Cj K} {n i : Nat} (hi : i < q.lits.length) (h : ¬ Rem q i) : coreL (n + 1) q i = coreL n q (i + 1) := by
  rw [coreL, if_pos hi, if_neg h]
theorem coreL_take {K : Type} {q : Cj K} {n i : Nat} (hi : i < q.lits.length) (h : Rem q i) : coreL (n + 1) q i = coreL n (q.del i) i := by
  rw [coreL, if_pos hi, if_pos h]
theorem own_row0 {α : Type} {w : World} {base g n cap size : Nat} {e : TypeId} {cells : α → List Value} {xs : List α} (hs : ∀ x, (cells x).length = size) (hpos : 0 < size) (h : w.ownsRow base e size (.slice (some ⟨g, 0, none⟩) n cap) n (xs.flatMap cells)) : Row w size cells ⟨some ⟨g, 0, none⟩, cap⟩ xs := by
  obtain ⟨⟨ao, c⟩, hv, hr⟩ := own_row hs hpos h
  injection hv with h1 _ h2
  subst h2
  have h1 : some (⟨g, 0, none⟩ : Addr) = ao := h1
  subst h1
  exact hr
def CorePost (q : Cq) (w : World) (e : Ending) (w' : World) : Prop := ∃ r : Cq, e = .returned (.tuple #[.agg #[.int .i64 (r.vars : Nat), .slice r.lh.ao r.lits.length r.lh.cap, .slice r.head.h.ao r.head.l.length r.head.h.cap], .int .i64 0]) ∧ r.In w' w.heap.size ∧ r.cj = q.cj.core ∧ r.vars = q.cj.core.occ.length ∧ Below w.heap.size w w'
def litN (wr : World) (lb : Nat) : Nat := match wr.cell? ⟨lb, 1, none⟩ with | some v => slen v | none => 0
theorem litN_of {wr : World} {lb : Nat} {q : Cq} (h : Box wr lb (qcells q) 32) : litN wr lb = q.lits.length := by
  unfold litN
  rw [h.cell (j := 1) rfl]
  rfl
set_option maxRecDepth 100000 in
set_option maxHeartbeats 8000000 in
theorem core_any (s : Sch) (T : List (List Int)) (q : Cq) (B : Nat) (w : World) (hf : Fine w s q) (rq : RightQ w T q B) (hty : ∀ ty ∈ T, 0 < ty.length) :
    Calls Tryz.prog 12 #[.agg #[.slice s.th.ao s.tabs.length s.th.cap], .agg #[.int .i64 (q.vars : Nat), .slice q.lh.ao q.lits.length q.lh.cap, .slice q.head.h.ao q.head.l.length q.head.h.cap]] w (CorePost q w) := by
  have HQ := hide rq.qi
  have HR := hide rq
  obtain ⟨X, hX⟩ : ∃ X, ((w.alloc (.cells #[.slice s.th.ao s.tabs.length s.th.cap] 27)).alloc (.cells #[.int .i64 (q.vars : Nat), .slice q.lh.ao q.lits.length q.lh.cap, .slice q.head.h.ao q.head.l.length q.head.h.cap] 32)).alloc (.cells #[.int .i64 0, .slice none 0 0, .slice none 0 0] 32) = X := ⟨_, rfl⟩
  have HBX := hide (show Below w.heap.size w X from by rw [← hX]; exact bel_trans (belAA _ _) (belA _))
  obtain ⟨hb0, hb1, hb2⟩ := boxes3X hX
  have HB0 := hide hb0
  have HB1 := hide hb1
  have HB2 := hide hb2
  have HF := hide (fun W (hW : Below X.heap.size X W) => hf W (bel_trans HBX.out hW))
  have s0 : X.cell? ⟨w.heap.size, 0, none⟩ = some (.slice s.th.ao s.tabs.length s.th.cap) := hb0.cell rfl
  have x0 : X.cell? ⟨w.heap.size + 1, 0, none⟩ = some (.int .i64 (q.vars : Nat)) := hb1.cell rfl
  have x1 : X.cell? ⟨w.heap.size + 1, 1, none⟩ = some (.slice q.lh.ao q.lits.length q.lh.cap) := hb1.cell rfl
  have x2 : X.cell? ⟨w.heap.size + 1, 2, none⟩ = some (.slice q.head.h.ao q.head.l.length q.head.h.cap) := hb1.cell rfl
  clear hf rq hb0 hb1 hb2
  go_enter Tryz.func12, Tryz.ntmps12
  go_upto_region 1 with fail
  try rw [hX]
  clear hX
  go_upto_region 4 with (go_at_call 31; refine (HF.out _ (Below.refl _ _)).mono ?_; rintro e y ⟨rfl, hby⟩; have HY := hide hby; clear hby)
  clear s0 x0 x1 x2
  have HBY := hide (HB1.out.below HY.out)
  have HCL := hide (fun (W : World) (hW : Below y.heap.size y W) => clone_lits q.lh q.lits W ((HQ.out.mono (bel_trans HBX.out (bel_trans HY.out hW))).row) (by obtain ⟨τ, hr⟩ := HR.out.ri; have := hr.n1; rwa [show q.cj.lits.length = q.lits.length from List.length_map _] at this) (by have := HR.out.hl; omega))
  have y0 : y.cell? ⟨w.heap.size + 1, 0, none⟩ = some (.int .i64 (q.vars : Nat)) := HBY.out.cell rfl
  have y1 : y.cell? ⟨w.heap.size + 1, 1, none⟩ = some (.slice q.lh.ao q.lits.length q.lh.cap) := HBY.out.cell rfl
  have y2 : y.cell? ⟨w.heap.size + 1, 2, none⟩ = some (.slice q.head.h.ao q.head.l.length q.head.h.cap) := HBY.out.cell rfl
  have hqb : w.heap.size + 1 < y.heap.size := HBY.out.lt
  go_upto_region 6 with (go_at_call 44; refine (HCL.out _ (belA _)).mono ?_; rintro e z ⟨g, cap, rfl, ho, hz⟩; have HZ := hide hz; have HO := hide ho; have HBL := hide ((Box.new y (qcells q) 32).below hz); have z1 : z.cell? ⟨y.heap.size, 1, none⟩ = some (.slice q.lh.ao q.lits.length q.lh.cap) := HBL.out.cell rfl; have f1 := HBL.out.fr 1; clear ho hz)
  clear y0 y1 y2 z1 f1
  have HW0 := hide (show CoW w q ⟨q.vars, ⟨some ⟨g, 0, none⟩, cap⟩, q.lits, q.head⟩ y.heap.size (z.setCell ⟨y.heap.size, 1, none⟩ (.slice (some ⟨g, 0, none⟩) q.lits.length cap)) from by
    have hg := gb_set z y.heap.size 1 (.slice (some ⟨g, 0, none⟩) q.lits.length cap)
    have hyz := bel_trans (belA (w := y) (.cells (qcells q) 32)) HZ.out
    have hX := HB2.out.lt
    have hXY := HY.out.size
    have hgl := (HO.out.lt g rfl).1
    rw [World.size_alloc] at hgl
    have hbl := HBL.out.set 1 (.slice (some ⟨g, 0, none⟩) q.lits.length cap)
    simp only [List.setIfInBounds_toArray, List.set_cons_zero, List.set_cons_succ] at hbl
    have hwz := bel_trans HBX.out (bel_trans HY.out hyz)
    refine ⟨hwz.grown hg hwz.size (fun j e => by injection e with e; omega), ((HB2.out.below HY.out).below hyz).grown hg (by intro e; injection e with e; omega), hbl, by omega, row_row (own_row0 (fun _ => rfl) (by decide) HO.out) hg (by intro e; injection e with e; have e : g = y.heap.size := e; omega), ?_, rfl, rfl, fun _ h => h, ?_, Nat.le_refl _⟩
    · show g ≠ y.heap.size; omega
    · obtain ⟨τ, hr⟩ := HR.out.ri; have := hr.n1; rwa [show q.cj.lits.length = q.lits.length from List.length_map _] at this)
  have HLN := hide (show (q.lits.length ≤ 8) from HR.out.hl.2)
  have HC0 := hide (show coreL (q.lits.length - 0) (Cq.cj ⟨q.vars, ⟨some ⟨g, 0, none⟩, cap⟩, q.lits, q.head⟩) 0 = coreL q.cj.lits.length q.cj 0 from by rw [show q.cj.lits.length = q.lits.length from List.length_map _]; rfl)
  clear HBY HCL HZ HO HBL HF HB0 HB1 HB2 HY
  generalize y.heap.size = lb at *
  generalize z.setCell ⟨lb, 1, none⟩ (.slice (some ⟨g, 0, none⟩) q.lits.length cap) = Z at *
  go_wp2
  go_loopw [8] (fun i wr => ∃ (k : Nat) (lq : Cq), k ≤ lq.lits.length ∧ i = .int .i64 k ∧ Hid (CoW w q lq lb wr) ∧ Hid (coreL (lq.lits.length - k) lq.cj k = coreL q.cj.lits.length q.cj 0) ∧ Hid (Cov lq.cj)) (fun i wr => litN wr lb - (intOf i).toNat)
  case atStart => exact ⟨0, _, Nat.zero_le _, rfl, HW0.out, HC0.out, by obtain ⟨τ, hr⟩ := HR.out.ri; exact hr.cov⟩
  clear HW0 HC0
  case round =>
    obtain ⟨k, lq, hk, rfl, HW, HC, HCV⟩ := hrel
    have HOK := hide (HW.out.okq HR.out)
    have HLR := hide (litN_of HW.out.bl)
    have y0 : wr.cell? ⟨lb, 0, none⟩ = some (.int .i64 (lq.vars : Nat)) := HW.out.bl.cell rfl
    have y1 : wr.cell? ⟨lb, 1, none⟩ = some (.slice lq.lh.ao lq.lits.length lq.lh.cap) := HW.out.bl.cell rfl
    have y2 : wr.cell? ⟨lb, 2, none⟩ = some (.slice lq.head.h.ao lq.head.l.length lq.head.h.cap) := HW.out.bl.cell rfl
    have hlw : lb < wr.heap.size := HW.out.bl.lt
    have hn8 : lq.lits.length ≤ 8 := by have h1 := HW.out.len; have h2 := HLN.out; omega
    by_cases hlt : k < lq.lits.length
    · have hlti : (k : Int) < lq.lits.length := by omega
      have HLT := hide hlt
      obtain ⟨VV, hV⟩ : ∃ VV, wr.alloc (.cells (qcells lq) 32) = VV := ⟨_, rfl⟩
      obtain ⟨hbv, hvb⟩ := box1X hV
      have HVB := hide hvb
      have HBV := hide hbv
      have HWV := hide (HW.out.call hvb)
      have HCL := hide (clone_lits lq.lh lq.lits VV HWV.out.row HW.out.pos (by omega))
      have v1 : VV.cell? ⟨lb, 1, none⟩ = some (.slice lq.lh.ao lq.lits.length lq.lh.cap) := HWV.out.bl.cell rfl
      have HGS := hide (show wr.heap.size < VV.heap.size from HBV.out.lt)
      clear hbv hvb
      go_upto_region 9 with fail
      try rw [hV]
      clear hV y0 y1 y2
      go_upto_region 10 with (first
        | (go_at_call 44; refine HCL.out.mono ?_; rintro e y ⟨g1, cap1, rfl, ho, hby⟩; have HO := hide ho; have HY := hide hby; clear ho hby)
        | (go_at_call 45; refine (delete_lits g1 cap1 VV.heap.size lq.lits k y HLT.out HO.out).mono ?_; rintro e z ⟨rfl, hr, hg⟩; have HG1 := hide (HO.out.lt g1 rfl).1; have HVZ := hide (HY.out.grown hg HY.out.size (fun j e => by injection e with e; rw [← e]; exact (HO.out.lt g1 rfl).1)); have HRZ := hide hr; have HBZ := hide (HBV.out.below HVZ.out); have z1 : z.cell? ⟨wr.heap.size, 1, none⟩ = some (.slice lq.lh.ao lq.lits.length lq.lh.cap) := HBZ.out.cell rfl; have f1 := HBZ.out.fr 1; clear hr hg))
      clear z1 f1 v1
      have HD := hide (show (⟨lq.vars, ⟨some ⟨g1, 0, none⟩, cap1⟩, lq.lits.eraseIdx k, lq.head⟩ : Cq).cj = lq.cj.del k from by
        show Cj.mk ((lq.lits.eraseIdx k).map Li.lt) lq.head.l = Cj.mk ((lq.lits.map Li.lt).eraseIdx k) lq.head.l
        rw [erase_map])
      have HGZ := gb_set z wr.heap.size 1 (.slice (some ⟨g1, 0, none⟩) (lq.lits.eraseIdx k).length cap1)
      have hbz := bel_trans HVB.out HVZ.out
      have HBY := hide (hbz.grown HGZ hbz.size (fun j e => by injection e with e; omega))
      have HLE := hide (show (lq.lits.eraseIdx k).length = lq.lits.length - 1 from List.length_eraseIdx_of_lt hlt)
      have HRY := hide (row_row HRZ.out HGZ (by intro e; injection e with e; have e : g1 = wr.heap.size := e; have h1 := HG1.out; have h2 := HGS.out; omega))
      have HBX3 := hide (show Box (z.setCell ⟨wr.heap.size, 1, none⟩ (.slice (some ⟨g1, 0, none⟩) (lq.lits.eraseIdx k).length cap1)) wr.heap.size (qcells ⟨lq.vars, ⟨some ⟨g1, 0, none⟩, cap1⟩, lq.lits.eraseIdx k, lq.head⟩) 32 from by
        have h := HBZ.out.set 1 (.slice (some ⟨g1, 0, none⟩) (lq.lits.eraseIdx k).length cap1)
        simp only [List.setIfInBounds_toArray, List.set_cons_zero, List.set_cons_succ] at h
        exact h)
      clear HGZ hbz HBZ HRZ HVZ HWV HVB HBV HCL HO HY
      generalize z.setCell ⟨wr.heap.size, 1, none⟩ (.slice (some ⟨g1, 0, none⟩) (lq.lits.eraseIdx k).length cap1) = Y3 at *
      have HW3 := hide (HW.out.call HBY.out)
      have HSUB := hide (show ∀ l ∈ lq.lits.eraseIdx k, l ∈ lq.lits from fun l hl => List.mem_of_mem_eraseIdx hl)
      have HDI := hide (show Cq.In Y3 0 ⟨lq.vars, ⟨some ⟨g1, 0, none⟩, cap1⟩, lq.lits.eraseIdx k, lq.head⟩ from by
        have h := in_of HQ.out HW3.out.bel HRY.out (fun l hl => HW.out.sub l (HSUB.out l hl))
        rw [← HW.out.vars, ← HW.out.head] at h
        exact h)
      have HQK := hide (show QOk Y3 lq ⟨lq.vars, ⟨some ⟨g1, 0, none⟩, cap1⟩, lq.lits.eraseIdx k, lq.head⟩ from
        ⟨HW3.out.inq HQ.out, HDI.out, HOK.out.1, by omega, by show (lq.lits.eraseIdx k).length ≤ 1000; rw [HLE.out]; omega, HOK.out.2.1⟩)
      have HCO := hide (covered_any ⟨lq.vars, ⟨some ⟨g1, 0, none⟩, cap1⟩, lq.lits.eraseIdx k, lq.head⟩ 0 Y3 HDI.out)
      obtain ⟨dl, hdl⟩ : ∃ d, lq.lits.eraseIdx k = d := ⟨_, rfl⟩
      rw [hdl] at HD HLE HRY HBX3 HSUB HDI HQK HCO ⊢
      clear hdl
      have y0 : Y3.cell? ⟨wr.heap.size, 0, none⟩ = some (.int .i64 (lq.vars : Nat)) := HBX3.out.cell rfl
      have y1 : Y3.cell? ⟨wr.heap.size, 1, none⟩ = some (.slice (some ⟨g1, 0, none⟩) dl.length cap1) := HBX3.out.cell rfl
      have y2 : Y3.cell? ⟨wr.heap.size, 2, none⟩ = some (.slice lq.head.h.ao lq.head.l.length lq.head.h.cap) := HBX3.out.cell rfl
      by_cases hcv : Cov (lq.cj.del k)
      · have HCD := hide hcv
        clear hcv
        by_cases hhm : Hom lq.cj (lq.cj.del k)
        · have HHM := hide hhm
          clear hhm
          go_wp2_with (first
            | (go_at_call 46; refine HCO.out.mono ?_; rintro e Y4 ⟨bc, rfl, hbc, hb4⟩; have hbc2 : bc = true := hbc.2 (by rw [HD.out]; exact HCD.out); subst hbc2; have HB4 := hide hb4; clear hbc hb4 y0 y1 y2; have HB6 := HBX3.out.below HB4.out; have HW6 := HW3.out.call HB4.out; have b0 : Y4.cell? ⟨wr.heap.size, 0, none⟩ = some (.int .i64 (lq.vars : Nat)) := HB6.cell rfl; have b1 : Y4.cell? ⟨wr.heap.size, 1, none⟩ = some (.slice (some ⟨g1, 0, none⟩) dl.length cap1) := HB6.cell rfl; have b2 : Y4.cell? ⟨wr.heap.size, 2, none⟩ = some (.slice lq.head.h.ao lq.head.l.length lq.head.h.cap) := HB6.cell rfl; have a0 : Y4.cell? ⟨lb, 0, none⟩ = some (.int .i64 (lq.vars : Nat)) := HW6.bl.cell rfl; have a1 : Y4.cell? ⟨lb, 1, none⟩ = some (.slice lq.lh.ao lq.lits.length lq.lh.cap) := HW6.bl.cell rfl; have a2 : Y4.cell? ⟨lb, 2, none⟩ = some (.slice lq.head.h.ao lq.head.l.length lq.head.h.cap) := HW6.bl.cell rfl; clear HB6 HW6)
            | (go_at_call 47; refine (match_any lq ⟨lq.vars, ⟨some ⟨g1, 0, none⟩, cap1⟩, dl, lq.head⟩ false Y4 (HQK.out.mono' HB4.out) HOK.out.2.2.2.1 HCV.out.1 HOK.out.2.2.2.2.1).mono ?_; rintro e Y5 ⟨v, bm, rfl, hbm, hb5⟩; have hbm2 : bm = true := hbm.2 (by show Hom _ _; rw [HD.out]; exact HHM.out); subst hbm2; have HB5 := hide (bel_trans HB4.out hb5); clear hbm hb5 a0 a1 a2 b0 b1 b2; have HB6 := HBX3.out.below HB5.out; have HW6 := HW3.out.call HB5.out; have b0 : Y5.cell? ⟨wr.heap.size, 0, none⟩ = some (.int .i64 (lq.vars : Nat)) := HB6.cell rfl; have b1 : Y5.cell? ⟨wr.heap.size, 1, none⟩ = some (.slice (some ⟨g1, 0, none⟩) dl.length cap1) := HB6.cell rfl; have b2 : Y5.cell? ⟨wr.heap.size, 2, none⟩ = some (.slice lq.head.h.ao lq.head.l.length lq.head.h.cap) := HB6.cell rfl; have a0 : Y5.cell? ⟨lb, 0, none⟩ = some (.int .i64 (lq.vars : Nat)) := HW6.bl.cell rfl; have a1 : Y5.cell? ⟨lb, 1, none⟩ = some (.slice lq.lh.ao lq.lits.length lq.lh.cap) := HW6.bl.cell rfl; have a2 : Y5.cell? ⟨lb, 2, none⟩ = some (.slice lq.head.h.ao lq.head.l.length lq.head.h.cap) := HW6.bl.cell rfl; have f0 := HW6.bl.fr 0; have f1 := HW6.bl.fr 1; have f2 := HW6.bl.fr 2; clear HB6 HW6))
          have HWS := hide ((HW3.out.call HB5.out).set (ls := dl) (hd := ⟨some ⟨g1, 0, none⟩, cap1⟩) (HRY.out.mono HB5.out) (by show g1 ≠ lb; have h1 := HG1.out; have h2 := HGS.out; omega) HSUB.out (by have h := HCD.out.2; rw [← HD.out] at h; rwa [show (⟨lq.vars, ⟨some ⟨g1, 0, none⟩, cap1⟩, dl, lq.head⟩ : Cq).cj.lits.length = dl.length from List.length_map _] at h) (by rw [HLE.out]; omega))
          have HLE2 := hide (litN_of HWS.out.bl)
          refine ⟨⟨k, ⟨lq.vars, ⟨some ⟨g1, 0, none⟩, cap1⟩, dl, lq.head⟩, by show k ≤ dl.length; rw [HLE.out]; omega, rfl, HWS.out, ?_, by rw [HD.out]; exact HCD.out⟩, ?_⟩
          · show coreL (dl.length - k) _ k = _
            rw [HD.out, ← HC.out, HLE.out, show lq.lits.length - k = (lq.lits.length - 1 - k) + 1 by omega]
            exact (coreL_take (by rw [show lq.cj.lits.length = lq.lits.length from List.length_map _]; exact HLT.out) ⟨HCD.out, HHM.out⟩).symm
          · trace_state
            rw [HLE2.out, HLR.out]
            show dl.length - _ < _
            rw [HLE.out]
            simp [intOf]; omega
        · have HHM := hide hhm
          clear hhm
          have HC2 := hide (show coreL (lq.lits.length - (k + 1)) lq.cj (k + 1) = coreL q.cj.lits.length q.cj 0 from by
            rw [← HC.out, show lq.lits.length - k = (lq.lits.length - (k + 1)) + 1 by omega]
            exact (coreL_skip (by rw [show lq.cj.lits.length = lq.lits.length from List.length_map _]; exact HLT.out) (fun h => HHM.out h.2)).symm)
          go_wp2_with (first
              | (go_at_call 46; refine HCO.out.mono ?_; rintro e Y4 ⟨bc, rfl, hbc, hb4⟩; have hbc2 : bc = true := hbc.2 (by rw [HD.out]; exact HCD.out); subst hbc2; have HB4 := hide hb4; clear hbc hb4 y0 y1 y2; have HB6 := HBX3.out.below HB4.out; have HW6 := HW3.out.call HB4.out; have b0 : Y4.cell? ⟨wr.heap.size, 0, none⟩ = some (.int .i64 (lq.vars : Nat)) := HB6.cell rfl; have b1 : Y4.cell? ⟨wr.heap.size, 1, none⟩ = some (.slice (some ⟨g1, 0, none⟩) dl.length cap1) := HB6.cell rfl; have b2 : Y4.cell? ⟨wr.heap.size, 2, none⟩ = some (.slice lq.head.h.ao lq.head.l.length lq.head.h.cap) := HB6.cell rfl; have a0 : Y4.cell? ⟨lb, 0, none⟩ = some (.int .i64 (lq.vars : Nat)) := HW6.bl.cell rfl; have a1 : Y4.cell? ⟨lb, 1, none⟩ = some (.slice lq.lh.ao lq.lits.length lq.lh.cap) := HW6.bl.cell rfl; have a2 : Y4.cell? ⟨lb, 2, none⟩ = some (.slice lq.head.h.ao lq.head.l.length lq.head.h.cap) := HW6.bl.cell rfl; clear HB6 HW6)
              | (go_at_call 47; refine (match_any lq ⟨lq.vars, ⟨some ⟨g1, 0, none⟩, cap1⟩, dl, lq.head⟩ false Y4 (HQK.out.mono' HB4.out) HOK.out.2.2.2.1 HCV.out.1 HOK.out.2.2.2.2.1).mono ?_; rintro e Y5 ⟨v, bm, rfl, hbm, hb5⟩; have hbm2 : bm = false := Bool.eq_false_iff.2 (fun e => HHM.out (by have := hbm.1 e; rw [← HD.out]; exact this)); subst hbm2; have HB5 := hide (bel_trans HB4.out hb5); clear hbm hb5 a0 a1 a2 b0 b1 b2))
          have HWE := hide (HW3.out.call HB5.out)
          have HLE2 := hide (litN_of HWE.out.bl)
          go_roundw
          case rel => exact ⟨k + 1, lq, HLT.out, by go_num, HWE.out, HC2.out, HCV.out⟩
          case measure => rw [HLE2.out, HLR.out]; have := HLT.out; simp [intOf]; omega
      · have HCD := hide hcv
        clear hcv
        have HC2 := hide (show coreL (lq.lits.length - (k + 1)) lq.cj (k + 1) = coreL q.cj.lits.length q.cj 0 from by
          rw [← HC.out, show lq.lits.length - k = (lq.lits.length - (k + 1)) + 1 by omega]
          exact (coreL_skip (by rw [show lq.cj.lits.length = lq.lits.length from List.length_map _]; exact HLT.out) (fun h => HCD.out h.1)).symm)
        go_wp2_with ((go_at_call 46; refine HCO.out.mono ?_; rintro e Y4 ⟨bc, rfl, hbc, hb4⟩; have hbc2 : bc = false := Bool.eq_false_iff.2 (fun e => HCD.out (by have := hbc.1 e; rw [← HD.out]; exact this)); subst hbc2; have HB4 := hide hb4; clear hbc hb4 y0 y1 y2))
        have HWE := hide (HW3.out.call HB4.out)
        have HLE2 := hide (litN_of HWE.out.bl)
        go_roundw
        case rel => exact ⟨k + 1, lq, HLT.out, by go_num, HWE.out, HC2.out, HCV.out⟩
        case measure => rw [HLE2.out, HLR.out]; have := HLT.out; simp [intOf]; omega
    · have hlti : ¬ (k : Int) < lq.lits.length := by omega
      obtain rfl : k = lq.lits.length := by omega
      have HNU := hide (numbered_any lq 0 wr (HW.out.inq HQ.out) (fun l hl => by
        have hl2 := HW.out.sub l hl
        refine ⟨?_, HOK.out.2.1 l hl⟩
        obtain ⟨τ, hr⟩ := HR.out.ri
        obtain ⟨ty, t1, t2, _⟩ := hr.lit l.lt (List.mem_map_of_mem hl2)
        have t2 : l.sl.l.length = ty.length := t2
        rw [t2]; exact hty ty (List.mem_of_getElem? t1)) ⟨HOK.out.2.2.2.2.2, HOK.out.2.2.2.2.1⟩ (by omega) HCV.out.1 HOK.out.2.2.1)
      go_wp2_with (go_at_call 48; refine HNU.out.mono ?_; rintro e x ⟨r, rfl, hr, hc, hv, hb⟩; have HRI := hide hr; have HRC := hide hc; have HRV := hide hv; have HBE := hide hb; have HBR := hide (HW.out.br.below hb); have r0 : x.cell? ⟨w.heap.size + 1 + 1, 0, none⟩ = some (.int .i64 0) := HBR.out.cell rfl; have r1 : x.cell? ⟨w.heap.size + 1 + 1, 1, none⟩ = some (.slice none 0 0) := HBR.out.cell rfl; have r2 : x.cell? ⟨w.heap.size + 1 + 1, 2, none⟩ = some (.slice none 0 0) := HBR.out.cell rfl; have f0 := HBR.out.fr 0; have f1 := HBR.out.fr 1; have f2 := HBR.out.fr 2; clear hr hc hv hb)
      have HG := hide (set3 x (w.heap.size + 1 + 1) (.int .i64 (r.vars : Nat)) (.slice r.lh.ao r.lits.length r.lh.cap) (.slice r.head.h.ao r.head.l.length r.head.h.cap))
      have hbl := HW.out.br.lt
      have hbw := HW.out.bel
      have hcore : q.cj.core = lq.cj.num := by
        have h := HC.out
        rw [Nat.sub_self] at h
        show (coreL _ _ _).num = _
        rw [← h]; rfl
      refine bodyPost_ret (v := .tuple #[.agg #[.int .i64 (r.vars : Nat), .slice r.lh.ao r.lits.length r.lh.cap, .slice r.head.h.ao r.head.l.length r.head.h.cap], .int .i64 0]) ?_ ?_ ?_
      case refine_3 => exact ⟨r, rfl, (HRI.out.grown HG.out hbl).le hbw.size, by rw [hcore]; exact HRC.out, by rw [hcore, num_occ, List.length_range]; exact HRV.out, (bel_trans hbw HBE.out).grown HG.out (bel_trans hbw HBE.out).size (fun j e => by injection e with e; omega)⟩
      case refine_2 => rfl
      simp [results, Tryz.results12, go_sem, r0, r1, r2]
end Go.Proofs.YtiijaaohphokcaaGreatDoor

/- law27.ConjunctiveCore: its walk. -/
import Derived.Test.YtiijaaohphokcaaGreatDoorCaXK
import Derived.Test.YtiijaaohphokcaaGreatDoorG09
import Derived.Test.YtiijaaohphokcaaGreatDoorProg
import Derived.Test.YtiijaaohphokcaaGreatDoorData
import Derived.ProofKit
import Derived.OpenShut
import Derived.KernelRfl
namespace Go.Proofs.YtiijaaohphokcaaGreatDoor
open Go.RowKit

/-- Further queries in boxes of their own. -/
def QL (s : Sch) (w : World) (l : List (Nat × Cq)) (x : World) : Prop := ∀ p ∈ l, Box x p.1 (qcells p.2) 32 ∧ RightQ x (colT s) p.2 (w.heap.size + 1) ∧ w.heap.size < p.1
/-- What Core leaves. -/
structure CoreAt (w : World) (s : Sch) (q r : Cq) (y : World) : Prop where
  rq : RightQ y (colT s) r (w.heap.size + 1)
  cj : r.cj = q.cj.core
  vr : r.vars = q.cj.core.occ.length
section
variable {w w2 x y : World} {L : IL} {s : Sch} {qb a a2 : Nat} {q r : Cq} {l : List (Nat × Cq)}
theorem QL.below (h : QL s w l x) (hb : Below x.heap.size x y) : QL s w l y := fun p hp => ⟨(h p hp).1.below hb, (h p hp).2.1.mono hb, (h p hp).2.2⟩
theorem QL.turn (h : QL s w l x) (hg : x.grownBy y (some w.heap.size)) : QL s w l y := fun p hp => by
  obtain ⟨h1, h2, h3⟩ := h p hp
  exact ⟨h1.grown hg (by intro e; injection e with e; omega), h2.grown hg (by omega), h3⟩
theorem QL.add (h : QL s w l y) (hr : RightQ y (colT s) r (w.heap.size + 1)) (hw : w.heap.size < y.heap.size) : QL s w ((y.heap.size, r) :: l) (y.alloc (.cells #[.int .i64 (r.vars : Nat), .slice r.lh.ao r.lits.length r.lh.cap, .slice r.head.h.ao r.head.l.length r.head.h.cap] 32)) := fun p hp => by
  rcases List.mem_cons.1 hp with rfl | hp
  · exact ⟨Box.new _ _ _, hr.mono (belA _), hw⟩
  · exact (h.below (belA _)) p hp
theorem QL.box1 {g : Nat} (h : QL s w ((g, r) :: l) x) : Box x g (qcells r) 32 := (h _ List.mem_cons_self).1
theorem QL.rq1 {g : Nat} (h : QL s w ((g, r) :: l) x) : RightQ x (colT s) r (w.heap.size + 1) := (h _ List.mem_cons_self).2.1
theorem QL.tl {g : Nat} (h : QL s w ((g, r) :: l) x) : QL s w l x := fun p hp => h p (List.mem_cons_of_mem _ hp)
theorem QL.nil : QL s w [] x := fun p hp => (by cases hp)
theorem LC.lt (h : LC w L s w2 qb a q x) : w.heap.size < x.heap.size := Nat.lt_trans h.lo h.bs.lt
theorem LC.fine (h : LC w L s w2 qb a q x) (hs : ∀ z, w2.grownBy z (some w.heap.size) → s.In z) (hp : PSch s) (hsh : w.ShapedOpen Tryz.prog) {r : Cq} {B : Nat} (rq : RightQ x (colT s) r B) : Fine x s r := fine_of (hs x h.gr) hp rq (ShX hsh h.bel)
theorem rq_core {T : List (List Int)} {B C : Nat} (h : RightQ x T q B) (hr : r.In y C) (hc : r.cj = q.cj.core) (hv : r.vars = q.cj.core.occ.length) : RightQ y T r C := by
  obtain ⟨τ, h1⟩ := h.ri
  obtain ⟨τ', h2⟩ := h1.core
  exact ⟨hr, ⟨τ', by rw [hc, hv]; exact h2⟩, h.tl⟩
theorem RightQ.cov {T : List (List Int)} {B : Nat} (h : RightQ x T q B) : Cov q.cj := by
  obtain ⟨τ, h1⟩ := h.ri
  exact h1.cov
theorem lc_core (h : LC w L s w2 qb a q x) (hs : ∀ z, w2.grownBy z (some w.heap.size) → s.In z) (hp : PSch s) (hsh : w.ShapedOpen Tryz.prog) {p : Cq} (rq : RightQ x (colT s) p (w.heap.size + 1)) :
    Calls Tryz.prog 12 #[.agg #[.slice s.th.ao s.tabs.length s.th.cap], .agg #[.int .i64 (p.vars : Nat), .slice p.lh.ao p.lits.length p.lh.cap, .slice p.head.h.ao p.head.l.length p.head.h.cap]] x fun e y => ∃ r : Cq, e = .returned (.tuple #[.agg #[.int .i64 (r.vars : Nat), .slice r.lh.ao r.lits.length r.lh.cap, .slice r.head.h.ao r.head.l.length r.head.h.cap], .int .i64 0]) ∧ CoreAt w s p r y ∧ Below x.heap.size x y :=
  (core_any s _ p _ x (h.fine hs hp hsh rq) rq (psch_pos hp)).mono (by
    rintro e y ⟨r, rfl, h1, h2, h3, hb⟩
    exact ⟨r, rfl, ⟨(rq_core rq h1 h2 h3).le h.lt, h2, h3⟩, hb⟩)
theorem lc_contains (h : LC w L s w2 qb a q x) (hs : ∀ z, w2.grownBy z (some w.heap.size) → s.In z) (hp : PSch s) (hsh : w.ShapedOpen Tryz.prog) {p r : Cq} (rp : RightQ x (colT s) p (w.heap.size + 1)) (rr : RightQ x (colT s) r (w.heap.size + 1)) :
    Calls Tryz.prog 13 #[.agg #[.slice s.th.ao s.tabs.length s.th.cap], .agg #[.int .i64 (p.vars : Nat), .slice p.lh.ao p.lits.length p.lh.cap, .slice p.head.h.ao p.head.l.length p.head.h.cap], .agg #[.int .i64 (r.vars : Nat), .slice r.lh.ao r.lits.length r.lh.cap, .slice r.head.h.ao r.head.l.length r.head.h.cap]] x (ContPost p r x) := contains_any s _ p r _ _ x (h.fine hs hp hsh rp) (h.fine hs hp hsh rr) rp rr
theorem lc_alike (h : LC w L s w2 qb a q x) (hs : ∀ z, w2.grownBy z (some w.heap.size) → s.In z) (hp : PSch s) (hsh : w.ShapedOpen Tryz.prog) {p r : Cq} (rp : RightQ x (colT s) p (w.heap.size + 1)) (rr : RightQ x (colT s) r (w.heap.size + 1)) :
    Calls Tryz.prog 15 #[.agg #[.slice s.th.ao s.tabs.length s.th.cap], .agg #[.int .i64 (p.vars : Nat), .slice p.lh.ao p.lits.length p.lh.cap, .slice p.head.h.ao p.head.l.length p.head.h.cap], .agg #[.int .i64 (r.vars : Nat), .slice r.lh.ao r.lits.length r.lh.cap, .slice r.head.h.ao r.head.l.length r.head.h.cap]] x (AlikePost p r x) := alike_any s _ p r _ _ x (h.fine hs hp hsh rp) (h.fine hs hp hsh rr) rp rr
end
/-- What the law says of the queries: c1 = 'o lies in q', c2 = 'q lies in o'. -/
theorem core_law {q r o u : Cq} (hq : Cov q.cj) (ho : Cov o.cj) (r1 : r.cj = q.cj.core) (r2 : r.vars = q.cj.core.occ.length) (u1 : u.cj = o.cj.core) (u2 : u.vars = o.cj.core.occ.length) (h1 : Hom o.cj q.cj) (h2 : Hom q.cj o.cj) : r.vars = u.vars ∧ r.lits.length = u.lits.length ∧ ∃ h, IsEmb h r.cj u.cj := by
  obtain ⟨k1, k2, k3⟩ := core_alike hq ho h2 h1
  have e1 : r.lits.length = q.cj.core.lits.length := by rw [← r1]; exact (List.length_map _).symm
  have e2 : u.lits.length = o.cj.core.lits.length := by rw [← u1]; exact (List.length_map _).symm
  exact ⟨by rw [r2, u2]; exact k1, by rw [e1, e2]; exact k2, by rw [r1, u1]; exact k3⟩
theorem core_len {q r : Cq} (hq : Cov q.cj) (r1 : r.cj = q.cj.core) : r.lits.length ≤ q.lits.length := by
  have h := (core_facts hq).2.2.1
  have e1 : r.lits.length = q.cj.core.lits.length := by rw [← r1]; exact (List.length_map _).symm
  have e2 : q.cj.lits.length = q.lits.length := List.length_map _
  omega
theorem core_same {q r d : Cq} (hq : Cov q.cj) (r1 : r.cj = q.cj.core) (r2 : r.vars = q.cj.core.occ.length) (d1 : d.cj = r.cj.core) (d2 : d.vars = r.cj.core.occ.length) : r.vars = d.vars ∧ r.cj = d.cj := by
  have h := (core_facts hq).2.2.2.2.2
  rw [r1, h] at d1 d2
  exact ⟨r2.trans d2.symm, r1.trans d1.symm⟩

set_option maxRecDepth 100000 in
set_option maxHeartbeats 8000000 in
theorem core_walk (l : IL) (w : World) (hl : l.In w) (hsh : w.ShapedOpen Tryz.prog) : Calls Tryz.prog 3 #[.slice l.h.ao l.l.length l.h.cap] w fun e w' => e = .returned (.bool true) ∧ Below w.heap.size w w' := by
  have HL := hide hl
  have HSH := hide hsh
  clear hl hsh
  go_enter Tryz.func3, Tryz.ntmps3
  go_upto_region 3 with (first
    | (have hq := HT1; clear hq; go_at_call 8; refine (plain_any w1 w.heap.size L 0 HT1.out (by decide)).mono ?_; rintro e w2 ⟨s, a2, rfl, h1, h2, h3, h4, h5, h6⟩; have HSI := hide h1; have HPS := hide h2; have HC3 := hide h3; have HT2 := hide h4; have HA2 := hide h5; have HG2 := hide h6; clear h1 h2 h3 h4 h5 h6)
    | (go_at_call 7; refine (fnew_any l _ HL.out).mono ?_; rintro e w1 ⟨L, _, rfl, h1, h2⟩; have HT1 := hide h1; have HB1 := hide h2; clear h1 h2))
  have HB2 := hide (bgrow HB1.out HG2.out)
  have hlo := HT2.out.lt
  obtain ⟨X2, hX2⟩ : ∃ X2, w2.alloc (.cells #[.slice s.th.ao s.tabs.length s.th.cap] 27) = X2 := ⟨_, rfl⟩
  have HA := hide (show Below w2.heap.size w2 X2 from by rw [← hX2]; exact belA _)
  have HBS := hide (show Box X2 w2.heap.size #[.slice s.th.ao s.tabs.length s.th.cap] 27 from by rw [← hX2]; exact Box.new _ _ _)
  rw [hX2]
  clear hX2
  have hs2 := HBS.out.lt
  have s0 := HBS.out.cell (j := 0) rfl
  have HCJ := hide (conj_any s X2 w.heap.size L a2 4 (HT2.out.mono HA.out) (by have := HA2.out; omega) (fun z hz => HSI.out z ((only_below HA.out (some w.heap.size)).trans hz)) HPS.out HC3.out (by decide))
  go_upto_region 4 with (go_at_call 9; refine HCJ.out.mono ?_; rintro e w3 ⟨q, a3, rfl, h1, h2, h3, h4, h5⟩; have HRQ := hide h1; have HT3 := hide h2; have HA3 := hide h3; have HG3 := hide h4; clear h1 h2 h3 h4 h5 HCJ)
  clear s0
  have hs3 := HG3.out.size
  have HLC := hide (show LC w L s w2 w3.heap.size a3 q (w3.alloc (.cells #[.int .i64 (q.vars : Nat), .slice q.lh.ao q.lits.length q.lh.cap, .slice q.head.h.ao q.head.l.length q.head.h.cap] 32)) from
    ⟨bel_trans (bgrow (bel_trans HB2.out HA.out) HG3.out) (belA _), HT3.out.mono (belA _), ((only_below HA.out (some w.heap.size)).trans HG3.out).trans (only_below (belA _) _), (HBS.out.grown HG3.out (by intro e; injection e with e; omega)).below (belA _), Box.new _ _ _, (HRQ.out.le (by omega)).mono (belA _), hlo, by omega, HT2.out.low.2⟩)
  have hqb : ∃ qb, w3.heap.size = qb := ⟨_, rfl⟩
  obtain ⟨qb, hqb⟩ := hqb
  rw [hqb] at HLC
  simp only [hqb]
  obtain ⟨X3, hX3⟩ : ∃ X3, w3.alloc (.cells #[.int .i64 (q.vars : Nat), .slice q.lh.ao q.lits.length q.lh.cap, .slice q.head.h.ao q.head.l.length q.head.h.cap] 32) = X3 := ⟨_, rfl⟩
  rw [hX3] at HLC ⊢
  clear hX3 hqb hs3 HRQ HT3 HG3 HBS HA HB2 HB1 HG2 HT1 HT2
  have HN := hide (n_any X3 w.heap.size a3 L 2 HLC.out.tp (by have := HA2.out; have := HA3.out; omega) (by constructor <;> decide))
  go_upto_if 32 with (go_at_call 10; refine HN.out.mono ?_; rintro e w4 ⟨rfl, h1, h2⟩; have HL4 := hide (HLC.out.turn h2 h1); clear h1 h2 HN HLC)
  have hpa := pos_le L a3
  obtain ⟨a4, ha4⟩ : ∃ a4, posAt L a3 = a4 := ⟨_, rfl⟩
  rw [ha4] at HL4 hpa
  have HA4 := hide (show a4 ≤ 1000 from by have := HA2.out; have := HA3.out; omega)
  clear ha4 hpa HA2 HA3
  obtain ⟨k, hk⟩ : ∃ k, nAt L a3 2 = k := ⟨_, rfl⟩
  rw [hk]
  clear hk
  go_cut [] (fun wx => ∃ (p : Cq) (a5 : Nat), Hid (LC w L s w2 qb a5 p wx) ∧ Hid (a5 ≤ 1010))
  case first =>
    by_cases hk : k = 0
    · subst hk
      go_upto_region 5 with fail
      refine cc_reg5 (w := w) (w2 := w2) (sc := s) (qb := qb) (a := a4) (L := L) (q := q) (W := w4) (hide (by have := HA4.out; omega)) HPS HSI (hide (HL4.out.start.below (Below.refl _ _).drew)) ?hc ?hend
      case hc => rfl
      case hend =>
        intro t5 t6 a6 x hx ha6
        have HX := hide hx
        have HA6 := hide ha6
        clear hx ha6
        go_wp2
        go_meet
        exact ⟨t6, a6, HX, hide (by have := HA6.out; have := HA4.out; omega)⟩
    · have hkb : (k == 0) = false := beq_eq_false_iff_ne.2 hk
      go_wp2
      go_meet
      exact ⟨q, a4, HL4, hide (by have := HA4.out; omega)⟩
  case rest =>

  obtain ⟨p, a5, HLC, HA5⟩ := hcut
  clear HL4 HA4 hs2 hlo HC3
  have HQL := hide (QL.nil (s := s) (w := w) (x := wc))
  have HCV := hide HLC.out.rq.cov
  have s0 := HLC.out.bs.cell (j := 0) rfl
  have p0 := HLC.out.bq.cell (j := 0) rfl
  have p1 := HLC.out.bq.cell (j := 1) rfl
  have p2 := HLC.out.bq.cell (j := 2) rfl
  have HC := hide (lc_core HLC.out HSI.out HPS.out HSH.out HLC.out.rq)
  go_upto_region 7 with (go_at_call 12; refine HC.out.mono ?_; rintro e y6 ⟨r, rfl, h1, hb⟩; have HLC := hide (HLC.out.below hb); have HQL := hide (HQL.out.below hb); have HR := hide h1; clear h1 hb HC)
  clear s0 p0 p1 p2
  have HQL := hide (HQL.out.add (r := r) HR.out.rq HLC.out.lt)
  have HLC := hide (HLC.out.below (belA (.cells #[.int .i64 (r.vars : Nat), .slice r.lh.ao r.lits.length r.lh.cap, .slice r.head.h.ao r.head.l.length r.head.h.cap] 32)))
  obtain ⟨g6, hg6⟩ : ∃ g, y6.heap.size = g := ⟨_, rfl⟩
  rw [hg6] at HQL
  simp only [hg6]
  obtain ⟨X6, hX6⟩ : ∃ X, y6.alloc (.cells #[.int .i64 (r.vars : Nat), .slice r.lh.ao r.lits.length r.lh.cap, .slice r.head.h.ao r.head.l.length r.head.h.cap] 32) = X := ⟨_, rfl⟩
  rw [hX6] at HQL HLC ⊢
  clear hX6 hg6
  have s0 := HLC.out.bs.cell (j := 0) rfl
  have r0 := HQL.out.box1.cell (j := 0) rfl
  have r1 := HQL.out.box1.cell (j := 1) rfl
  have r2 := HQL.out.box1.cell (j := 2) rfl
  have HC := hide (lc_core HLC.out HSI.out HPS.out HSH.out HQL.out.rq1)
  go_upto_region 8 with (go_at_call 12; refine HC.out.mono ?_; rintro e y7 ⟨d, rfl, h1, hb⟩; have HLC := hide (HLC.out.below hb); have HQL := hide (HQL.out.below hb); have HD := hide h1; clear h1 hb HC)
  clear s0 r0 r1 r2
  have HQL := hide (HQL.out.add (r := d) HD.out.rq HLC.out.lt)
  have HLC := hide (HLC.out.below (belA (.cells #[.int .i64 (d.vars : Nat), .slice d.lh.ao d.lits.length d.lh.cap, .slice d.head.h.ao d.head.l.length d.head.h.cap] 32)))
  obtain ⟨g8, hg8⟩ : ∃ g, y7.heap.size = g := ⟨_, rfl⟩
  rw [hg8] at HQL
  simp only [hg8]
  obtain ⟨X7, hX7⟩ : ∃ X, y7.alloc (.cells #[.int .i64 (d.vars : Nat), .slice d.lh.ao d.lits.length d.lh.cap, .slice d.head.h.ao d.head.l.length d.head.h.cap] 32) = X := ⟨_, rfl⟩
  rw [hX7] at HQL HLC ⊢
  clear hX7 hg8
  have s0 := HLC.out.bs.cell (j := 0) rfl
  have p0 := HLC.out.bq.cell (j := 0) rfl
  have p1 := HLC.out.bq.cell (j := 1) rfl
  have p2 := HLC.out.bq.cell (j := 2) rfl
  have r0 := HQL.out.tl.box1.cell (j := 0) rfl
  have r1 := HQL.out.tl.box1.cell (j := 1) rfl
  have r2 := HQL.out.tl.box1.cell (j := 2) rfl
  have HC := hide (lc_contains HLC.out HSI.out HPS.out HSH.out HLC.out.rq HQL.out.tl.rq1)
  go_upto_region 9 with (go_at_call 13; refine HC.out.mono ?_; rintro e y8 ⟨c8, rfl, hc, hb⟩; have HLC := hide (HLC.out.below hb); have HQL := hide (HQL.out.below hb); obtain rfl : c8 = true := hc.2 (by rw [HR.out.cj]; exact (core_facts HCV.out).2.1); clear hc hb HC)
  clear s0 p0 p1 p2 r0 r1 r2
  have s0 := HLC.out.bs.cell (j := 0) rfl
  have r0 := HQL.out.tl.box1.cell (j := 0) rfl
  have r1 := HQL.out.tl.box1.cell (j := 1) rfl
  have r2 := HQL.out.tl.box1.cell (j := 2) rfl
  have p0 := HLC.out.bq.cell (j := 0) rfl
  have p1 := HLC.out.bq.cell (j := 1) rfl
  have p2 := HLC.out.bq.cell (j := 2) rfl
  have HC := hide (lc_contains HLC.out HSI.out HPS.out HSH.out HQL.out.tl.rq1 HLC.out.rq)
  go_upto_region 10 with (go_at_call 13; refine HC.out.mono ?_; rintro e y9 ⟨c9, rfl, hc, hb⟩; have HLC := hide (HLC.out.below hb); have HQL := hide (HQL.out.below hb); obtain rfl : c9 = true := hc.2 (by rw [HR.out.cj]; exact (core_facts HCV.out).1); clear hc hb HC)
  clear s0 r0 r1 r2 p0 p1 p2
  have hcs := core_same HCV.out HR.out.cj HR.out.vr HD.out.cj HD.out.vr
  have HC := hide (rsame_yes r d _ _ y9 HQL.out.tl.rq1.qi HQL.out.rq1.qi hcs.1 hcs.2)
  clear hcs
  have hle := core_len HCV.out HR.out.cj
  have hnl : ¬ ((p.lits.length : Int) < (r.lits.length : Int)) := by omega
  have s0 := HLC.out.bs.cell (j := 0) rfl
  have p0 := HLC.out.bq.cell (j := 0) rfl
  have p1 := HLC.out.bq.cell (j := 1) rfl
  have p2 := HLC.out.bq.cell (j := 2) rfl
  have r0 := HQL.out.tl.box1.cell (j := 0) rfl
  have r1 := HQL.out.tl.box1.cell (j := 1) rfl
  have r2 := HQL.out.tl.box1.cell (j := 2) rfl
  have d0 := HQL.out.box1.cell (j := 0) rfl
  have d1 := HQL.out.box1.cell (j := 1) rfl
  have d2 := HQL.out.box1.cell (j := 2) rfl
  go_upto_region 12 with (go_at_call 14; refine HC.out.mono ?_; rintro e y10 ⟨rfl, hb⟩; have HLC := hide (HLC.out.below hb); have HQL := hide (HQL.out.below hb); clear hb HC)
  clear s0 p0 p1 p2 r0 r1 r2 d0 d1 d2
  clear hnl hle
  have s0 := HLC.out.bs.cell (j := 0) rfl
  have p0 := HLC.out.bq.cell (j := 0) rfl
  have p1 := HLC.out.bq.cell (j := 1) rfl
  have p2 := HLC.out.bq.cell (j := 2) rfl
  have HC := hide (weaker_any s p y10 w.heap.size L a5 HLC.out.tp (by have := HA5.out; omega) (HLC.out.hsi HSI.out) HPS.out HLC.out.rq)
  go_upto_region 13 with (go_at_call 11; refine HC.out.mono ?_; rintro e y12 ⟨o, a6, rfl, h1, h2, h3, h4⟩; have HLC := hide (HLC.out.turn h4 h2); have HQL := hide (HQL.out.turn h4); have HO := hide h1; clear h1 h2 h3 h4 HC)
  clear s0 p0 p1 p2
  have HQL := hide (HQL.out.add (r := o) HO.out HLC.out.lt)
  have HLC := hide (HLC.out.below (belA (.cells #[.int .i64 (o.vars : Nat), .slice o.lh.ao o.lits.length o.lh.cap, .slice o.head.h.ao o.head.l.length o.head.h.cap] 32)))
  obtain ⟨g14, hg14⟩ : ∃ g, y12.heap.size = g := ⟨_, rfl⟩
  rw [hg14] at HQL
  simp only [hg14]
  obtain ⟨X12, hX12⟩ : ∃ X, y12.alloc (.cells #[.int .i64 (o.vars : Nat), .slice o.lh.ao o.lits.length o.lh.cap, .slice o.head.h.ao o.head.l.length o.head.h.cap] 32) = X := ⟨_, rfl⟩
  rw [hX12] at HQL HLC ⊢
  clear hX12 hg14
  have HOV := hide HO.out.cov
  have s0 := HLC.out.bs.cell (j := 0) rfl
  have p0 := HLC.out.bq.cell (j := 0) rfl
  have p1 := HLC.out.bq.cell (j := 1) rfl
  have p2 := HLC.out.bq.cell (j := 2) rfl
  have o0 := HQL.out.box1.cell (j := 0) rfl
  have o1 := HQL.out.box1.cell (j := 1) rfl
  have o2 := HQL.out.box1.cell (j := 2) rfl
  have HC := hide (lc_contains HLC.out HSI.out HPS.out HSH.out HLC.out.rq HQL.out.rq1)
  go_upto_region 14 with (go_at_call 13; refine HC.out.mono ?_; rintro e y13 ⟨c13, rfl, hc, hb⟩; have HLC := hide (HLC.out.below hb); have HQL := hide (HQL.out.below hb); have H13 := hide hc; clear hc hb HC)
  clear s0 p0 p1 p2 o0 o1 o2
  have s0 := HLC.out.bs.cell (j := 0) rfl
  have o0 := HQL.out.box1.cell (j := 0) rfl
  have o1 := HQL.out.box1.cell (j := 1) rfl
  have o2 := HQL.out.box1.cell (j := 2) rfl
  have p0 := HLC.out.bq.cell (j := 0) rfl
  have p1 := HLC.out.bq.cell (j := 1) rfl
  have p2 := HLC.out.bq.cell (j := 2) rfl
  have HC := hide (lc_contains HLC.out HSI.out HPS.out HSH.out HQL.out.rq1 HLC.out.rq)
  go_upto_region 15 with (go_at_call 13; refine HC.out.mono ?_; rintro e y14 ⟨c14, rfl, hc, hb⟩; have HLC := hide (HLC.out.below hb); have HQL := hide (HQL.out.below hb); have H14 := hide hc; clear hc hb HC)
  clear s0 o0 o1 o2 p0 p1 p2
  have s0 := HLC.out.bs.cell (j := 0) rfl
  have o0 := HQL.out.box1.cell (j := 0) rfl
  have o1 := HQL.out.box1.cell (j := 1) rfl
  have o2 := HQL.out.box1.cell (j := 2) rfl
  have HC := hide (lc_core HLC.out HSI.out HPS.out HSH.out HQL.out.rq1)
  go_upto_region 16 with (go_at_call 12; refine HC.out.mono ?_; rintro e y15 ⟨u, rfl, h1, hb⟩; have HLC := hide (HLC.out.below hb); have HQL := hide (HQL.out.below hb); have HU := hide h1; clear h1 hb HC)
  clear s0 o0 o1 o2
  have HQL := hide (HQL.out.add (r := u) HU.out.rq HLC.out.lt)
  have HLC := hide (HLC.out.below (belA (.cells #[.int .i64 (u.vars : Nat), .slice u.lh.ao u.lits.length u.lh.cap, .slice u.head.h.ao u.head.l.length u.head.h.cap] 32)))
  obtain ⟨g19, hg19⟩ : ∃ g, y15.heap.size = g := ⟨_, rfl⟩
  rw [hg19] at HQL
  simp only [hg19]
  obtain ⟨X15, hX15⟩ : ∃ X, y15.alloc (.cells #[.int .i64 (u.vars : Nat), .slice u.lh.ao u.lits.length u.lh.cap, .slice u.head.h.ao u.head.l.length u.head.h.cap] 32) = X := ⟨_, rfl⟩
  rw [hX15] at HQL HLC ⊢
  clear hX15 hg19
  have s0 := HLC.out.bs.cell (j := 0) rfl
  have r0 := HQL.out.tl.tl.tl.box1.cell (j := 0) rfl
  have r1 := HQL.out.tl.tl.tl.box1.cell (j := 1) rfl
  have r2 := HQL.out.tl.tl.tl.box1.cell (j := 2) rfl
  have u0 := HQL.out.box1.cell (j := 0) rfl
  have u1 := HQL.out.box1.cell (j := 1) rfl
  have u2 := HQL.out.box1.cell (j := 2) rfl
  have HC := hide (lc_alike HLC.out HSI.out HPS.out HSH.out HQL.out.tl.tl.tl.rq1 HQL.out.rq1)
  go_upto_region 17 with (go_at_call 15; refine HC.out.mono ?_; rintro e y16 ⟨c16, rfl, hc, hb⟩; have HLC := hide (HLC.out.below hb); have HQL := hide (HQL.out.below hb); have H16 := hide hc; clear hc hb HC)
  clear s0 r0 r1 r2 u0 u1 u2
  have HC := hide (awake_any y16 (ShX HSH.out HLC.out.bel))
  have HF := hide (show ¬ (c16 = false ∧ c13 = true ∧ c14 = true) from fun ⟨e1, e2, e3⟩ => by
    have h := H16.out.2 (core_law HCV.out HOV.out HR.out.cj HR.out.vr HU.out.cj HU.out.vr (H13.out.1 e2) (H14.out.1 e3))
    rw [e1] at h
    cases h)
  have HW := hide HLC.out.bel
  clear H13 H14 H16 HQL HLC HR HD HU HO HOV HCV HSI HPS HSH HA5
  cases c16 with
  | true =>
    go_wp2_with (go_at_call 16; refine HC.out.mono ?_; rintro e y17 ⟨rfl, hb⟩; have HE := hide hb; clear hb HC)
    go_ret
    exact ⟨rfl, bel_trans HW.out HE.out⟩
  | false =>
    cases c13 with
    | false =>
      go_wp2_with (go_at_call 16; refine HC.out.mono ?_; rintro e y17 ⟨rfl, hb⟩; have HE := hide hb; clear hb HC)
      go_ret
      exact ⟨rfl, bel_trans HW.out HE.out⟩
    | true =>
      cases c14 with
      | true => exact absurd ⟨rfl, rfl, rfl⟩ HF.out
      | false =>
        go_wp2_with (go_at_call 16; refine HC.out.mono ?_; rintro e y17 ⟨rfl, hb⟩; have HE := hide hb; clear hb HC)
        go_ret
        exact ⟨rfl, bel_trans HW.out HE.out⟩
end Go.Proofs.YtiijaaohphokcaaGreatDoor

/- What reads as a Go value is one of the trees of the data text, and lies in the world. -/
namespace Go.Proofs.YtiijaaohphokcaaGreatDoor
open Go.RowKit Go.ChangeShapes Go.WideShapes

section
variable {H : Type} {enc : TypeId × Value → H} {w : World} {sp : Nat → Bool} {hd : Bool}

theorem pick_list {α : Type} {p : Nat → α → Prop} : ∀ (n : Nat), (∀ i, i < n → ∃ a, p i a) → ∃ xs : List α, xs.length = n ∧ ∀ i (h : i < xs.length), p i xs[i]
  | 0, _ => ⟨[], rfl, fun i h => absurd h (by simp)⟩
  | n + 1, h => by
    obtain ⟨xs, hl, hx⟩ := pick_list n (fun i hi => h i (by omega))
    obtain ⟨a, ha⟩ := h n (by omega)
    refine ⟨xs ++ [a], by simp [hl], fun i hi => ?_⟩
    by_cases e : i < xs.length
    · rw [List.getElem_append_left e]; exact hx i e
    · have hin : i = xs.length := by simp at hi; omega
      subst hin
      rw [List.getElem_append_right (by omega)]
      simpa [hl] using ha

theorem open_row {P : Program} {α : Type} {t e : TypeId} {size fuel : Nat} {cs : List Value} {x : DataW H × List MemPlace} (cells : α → List Value) (good : α → Prop)
    (ht : P.underlying t = some (.slice e)) (hc : P.cellsOf e = size) (hpos : 0 < size)
    (hel : ∀ fuel' cs' x', fuel' < fuel → DataW.trod enc P w 0 sp hd fuel' e cs' = some x' → ∃ a : α, cs' = cells a ∧ good a)
    (h : DataW.trod enc P w 0 sp hd fuel t cs = some x) : ∃ (h : Hd) (xs : List α), cs = [.slice h.ao xs.length h.cap] ∧ Row w size cells h xs ∧ ∀ a ∈ xs, good a := by
  rcases DataW.trod_slice ht h with ⟨rfl, _⟩ | ⟨a, len, cap, elems, rest, n, hn, rfl, _, _, hl, hm, hlen, hall, _⟩
  · exact ⟨nilHd, [], rfl, Row.nil _ _ _, fun a ha => by cases ha⟩
  · rw [hc] at hall
    have key : ∀ i, i < len → ∃ b : α, (∀ j v, (cells b)[j]? = some v → w.cell? ((a.add (i * size)).add j) = some v) ∧ (cells b).length = size ∧ good b := by
      intro i hi
      have h1 := hall i hi
      rw [List.getElem?_eq_getElem (by omega)] at h1
      obtain ⟨cs', hcs, htr⟩ := Option.bind_eq_some_iff.1 h1
      obtain ⟨b, rfl, hb⟩ := hel n cs' _ (by omega) htr
      obtain ⟨_, hcl, hcell⟩ := World.cells?_some hcs
      refine ⟨b, fun j v hv => ?_, hcl, hb⟩
      have hj : j < size := by rw [← hcl]; exact (List.getElem?_eq_some_iff.1 hv).1
      rw [hcell j hj]; exact hv
    obtain ⟨xs, hxl, hx⟩ := pick_list len key
    subst hxl
    obtain ⟨b, o, spot⟩ := a
    have hspot : 0 < xs.length → spot = none ∧ b < w.heap.size := by
      intro hp
      obtain ⟨g1, g2, _⟩ := hx 0 hp
      have hv : (cells (xs[0]'hp))[0]? = some ((cells (xs[0]'hp))[0]'(by omega)) := List.getElem?_eq_getElem (by omega)
      have := g1 0 _ hv
      simp only [Nat.zero_mul] at this
      have h0 : ((⟨b, o, spot⟩ : Addr).add 0).add 0 = ⟨b, o, spot⟩ := by simp [Addr.add]
      rw [h0] at this
      have hs := World.cell?_spot this
      have hs' : spot = none := by simpa using hs
      subst hs'
      exact ⟨rfl, World.block_lt_of_cell? w ⟨b, o, none⟩ this⟩
    refine ⟨⟨some ⟨b, o, spot⟩, cap⟩, xs, rfl, ⟨hl, hm, fun hp => ?_, fun i hi j v hv => ?_⟩, fun a ha => ?_⟩
    · obtain ⟨rfl, hlt⟩ := hspot hp
      exact ⟨rfl, hlt⟩
    · obtain ⟨rfl, hlt⟩ := hspot (by omega)
      have := (hx i hi).1 j v hv
      rw [Addr.add_lit, Addr.add_lit] at this
      exact this
    · obtain ⟨i, hi, rfl⟩ := List.getElem_of_mem ha
      exact (hx i hi).2.2

theorem fld {P : Program} {n : Nat} {cs : List Value} {xs : List (DataW H × List MemPlace)} {fs : Array Field} (hxl : xs.length = fs.size)
    (hf : ∀ (i : Nat) (f : Field), fs[i]? = some f → DataW.trod enc P w 0 sp hd n f.type ((cs.drop f.offset).take (P.cellsOf f.type)) = xs[i]?) (i T off sz : Nat) (hif : ∃ f, fs[i]? = some f ∧ f.type = T ∧ f.offset = off) (hs : P.cellsOf T = sz) :
    ∃ y, DataW.trod enc P w 0 sp hd n T ((cs.drop off).take sz) = some y := by
  obtain ⟨f, hif, rfl, rfl⟩ := hif
  subst hs
  have hi : i < xs.length := by rw [hxl]; exact (Array.getElem?_eq_some_iff.1 hif).1
  exact ⟨_, (hf i f hif).trans (List.getElem?_eq_getElem hi)⟩

theorem int64_of {n : Int} (h : (Lit.int .i64 n).wf = true) : int64 n := by
  exact bounds_i64 h
theorem list1 {α : Type} {l : List α} (h : l.length = 1) : ∃ c0, l = [c0] := by
  match l, h with
  | [c0], _ => exact ⟨c0, rfl⟩
theorem list2 {α : Type} {l : List α} (h : l.length = 2) : ∃ c0 c1, l = [c0, c1] := by
  match l, h with
  | [c0, c1], _ => exact ⟨c0, c1, rfl⟩
theorem list3 {α : Type} {l : List α} (h : l.length = 3) : ∃ c0 c1 c2, l = [c0, c1, c2] := by
  match l, h with
  | [c0, c1, c2], _ => exact ⟨c0, c1, c2, rfl⟩
theorem cells_of_int : Tryz.prog.cellsOf 3 = 1 := by kernel_rfl
theorem open_il {fuel : Nat} {cs : List Value} {x : DataW H × List MemPlace} (h : DataW.trod enc Tryz.prog w 0 sp hd fuel 22 cs = some x) : ∃ r : IL, cs = r.cells ∧ r.In w := by
  obtain ⟨hd, xs, rfl, hr, hg⟩ := open_row icells int64 Tryz.underlying22 cells_of_int (by decide) (fun f cs x _ h => by obtain ⟨n, rfl, _, hw⟩ := DataW.trod_int Tryz.underlying3 h; exact ⟨n, rfl, int64_of hw⟩) h
  exact ⟨⟨hd, xs⟩, rfl, hr, hg⟩
end
end Go.Proofs.YtiijaaohphokcaaGreatDoor

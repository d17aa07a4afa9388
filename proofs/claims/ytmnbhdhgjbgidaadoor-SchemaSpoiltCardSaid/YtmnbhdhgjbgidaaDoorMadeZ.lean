/- made.Schema at any tape. -/
import Derived.Test.YtmnbhdhgjbgidaaDoorSchQ
import Derived.Test.YtmnbhdhgjbgidaaDoorSchN
import Derived.Deep.RegionHeld3
import Derived.Deep.RegionLaw
import Derived.Deep.DeepCutAuto
namespace Go.Proofs.YtmnbhdhgjbgidaaDoor
open Go.RowKit

theorem info_frn : (Tryd.prog.info? 43).map (fun i => (i.zero, i.size, i.bytes)) = some (some (.agg #[.slice none 0 0, .string ⟨#[]⟩]), 2, 40) := by kernel_rfl
/-- The first table of a round: a name, the column id, the primary key. -/
abbrev tab0 (nm : ByteArray) (c : Nat) : Tab := ⟨nm, ⟨some ⟨c, 0, none⟩, 1⟩, [⟨⟨#[105, 100]⟩, 1, false⟩], ⟨⟨some ⟨c + 1, 0, none⟩, 1⟩, [0]⟩, nilHd, [], nilHd, [], nilHd, []⟩
theorem tb_start {V x : World} {b a : Nat} {L : IL} {nm : ByteArray} (hg : V.grownBy x (some b)) (ht : TapeIn x b L a) (hll : b < V.heap.size ∧ (0 < L.l.length → L.h.b < V.heap.size)) (hn : nm.size ≤ 100) :
    TB V (((x.alloc (.cells #[.string ⟨#[105, 100]⟩, .int .i64 1, .bool false] 41)).alloc (.cells #[.int .i64 0] 3)).alloc (.cells #[.string nm, .slice (some ⟨x.heap.size, 0, none⟩) 1 1, .slice (some ⟨x.heap.size + 1, 0, none⟩) 1 1, .slice none 0 0, .slice none 0 0, .slice none 0 0] 39)) b L a x.heap.size (x.heap.size + 1 + 1) (tab0 nm x.heap.size) := by
  have hb : Below x.heap.size x (((x.alloc (.cells #[.string ⟨#[105, 100]⟩, .int .i64 1, .bool false] 41)).alloc (.cells #[.int .i64 0] 3)).alloc (.cells #[.string nm, .slice (some ⟨x.heap.size, 0, none⟩) 1 1, .slice (some ⟨x.heap.size + 1, 0, none⟩) 1 1, .slice none 0 0, .slice none 0 0, .slice none 0 0] 39)) := (belAA _ _).alloc (by simp only [World.size_alloc]; omega) _
  refine ⟨hg.trans (only_below hb _), hg.size, hll, ht.mono hb, ?_, ?_, by omega, rfl, rfl⟩
  · refine ⟨?_, World.ownsRow_nil _ _ _ _, World.ownsRow_nil _ _ _ _, World.ownsRow_nil _ _ _ _, hn, fun c hc => ?_, ⟨x.heap.size + 1, 0, rfl, ?_, z64, by omega⟩, fun u hu => (by cases hu), fun u hu => (by cases hu), fun u hu => (by cases hu)⟩
    · exact ((World.ownsRow_lit (base := x.heap.size) (e := 41) (size := 3) x #[.string ⟨#[105, 100]⟩, .int .i64 1, .bool false] 1 (Nat.le_refl _) (by decide) rfl).alloc _).alloc _
    · rw [List.mem_singleton.1 hc]
      exact ⟨by show (2 : Nat) ≤ 100; omega, by constructor <;> decide⟩
    · have := (Box.new (x.alloc (.cells #[.string ⟨#[105, 100]⟩, .int .i64 1, .bool false] 41)) #[.int .i64 0] 3).below (belA (.cells #[.string nm, .slice (some ⟨x.heap.size, 0, none⟩) 1 1, .slice (some ⟨x.heap.size + 1, 0, none⟩) 1 1, .slice none 0 0, .slice none 0 0, .slice none 0 0] 39))
      simp only [World.size_alloc] at this
      exact this
  · have := Box.new ((x.alloc (.cells #[.string ⟨#[105, 100]⟩, .int .i64 1, .bool false] 41)).alloc (.cells #[.int .i64 0] 3)) #[.string nm, .slice (some ⟨x.heap.size, 0, none⟩) 1 1, .slice (some ⟨x.heap.size + 1, 0, none⟩) 1 1, .slice none 0 0, .slice none 0 0, .slice none 0 0] 39
    simp only [World.size_alloc] at this
    exact this
/-- What the loop of the free columns leaves. -/
structure LA (V z : World) (b : Nat) (L : IL) (a B cx n : Nat) (t : Tab) : Prop where
  tb : TB V z b L a B cx t
  nc : t.cols.length = 1 + n
  nu : t.uniqs = [] ∧ t.uh = nilHd
  nf : t.fors.length = 0
/-- What the loop of the foreign keys leaves. -/
structure LB (V z : World) (b : Nat) (L : IL) (a B cx k : Nat) (t : Tab) : Prop where
  tb : TB V z b L a B cx t
  nc : 2 ≤ t.cols.length ∧ t.cols.length ≤ 4 + k
  nu : t.uniqs = [] ∧ t.uh = nilHd
  nf : t.fors.length ≤ k
/-- What the unique key leaves. -/
structure LC (V z : World) (b : Nat) (L : IL) (a B cx : Nat) (t : Tab) : Prop where
  tb : TB V z b L a B cx t
  nc : 2 ≤ t.cols.length ∧ t.cols.length ≤ 6
  nu : t.uniqs = [] → t.uh = nilHd
  nl : t.uniqs.length ≤ 1 ∧ t.fors.length ≤ 2
theorem LA.snoc {V z z' : World} {b a a' B cx n : Nat} {L : IL} {t : Tab} {c : Col} {h : Hd} (l : LA V z b L a B cx n t) (ht : TB V z' b L a' B cx { t with ch := h, cols := t.cols ++ [c] }) : LA V z' b L a' B cx (n + 1) { t with ch := h, cols := t.cols ++ [c] } :=
  ⟨ht, by show (t.cols ++ [c]).length = _; rw [List.length_append, l.nc]; rfl, l.nu, l.nf⟩
theorem la_eq {V z : World} {b a a' B cx n : Nat} {L : IL} {t : Tab} (e : a = a') (l : LA V z b L a B cx n t) : LA V z b L a' B cx n t := e ▸ l
theorem lb_next {V z : World} {b a B cx k : Nat} {L : IL} {t : Tab} {h : Hd} {c : Frn} (ht : TB V z b L a B cx { t with fh := h, fors := t.fors ++ [c] }) (nc : 3 ≤ t.cols.length ∧ t.cols.length ≤ 5 + k) (nu : t.uniqs = [] ∧ t.uh = nilHd) (nf : t.fors.length ≤ k) : LB V z b L a B cx (k + 1) { t with fh := h, fors := t.fors ++ [c] } :=
  ⟨ht, ⟨by show 2 ≤ t.cols.length; omega, by show t.cols.length ≤ _; omega⟩, nu, by show (t.fors ++ [c]).length ≤ k + 1; rw [List.length_append]; show t.fors.length + 1 ≤ k + 1; omega⟩
theorem nat_next (L : IL) (a : Nat) {n : Int} (hn : 1 ≤ n) : ∃ m : Nat, L.next a n = m ∧ (m : Int) < n := by
  have h := L.next_ok a hn
  exact ⟨(L.next a n).toNat, by omega, by omega⟩

set_option maxRecDepth 100000 in
set_option maxHeartbeats 8000000 in
theorem schema_of (HE : Hid (ExprAt 110 21 3)) : SchemaAt := by
  intro w b a L ht ha
  obtain ⟨i0, hi, hz0, hz1, hz2⟩ := info_parts info_col
  have HI := hide (And.intro hi (And.intro hz0 (And.intro hz1 hz2)))
  clear hi hz0 hz1 hz2
  have HBW := hide (belAA (w := w) (.cells #[.slice none 0 0] 28) (.cells #[.slice none 0 0] 28))
  have B0 := hide ((Box.new w #[.slice none 0 0] 28).below (belA (.cells #[.slice none 0 0] 28)))
  have B1 := hide (Box.new (w.alloc (.cells #[.slice none 0 0] 28)) #[.slice none 0 0] 28)
  simp only [World.size_alloc] at B1
  have HS0 := hide (show SB w ((w.alloc (.cells #[.slice none 0 0] 28)).alloc (.cells #[.slice none 0 0] 28)) b L a nilHd [] from
    ⟨only_below HBW.out _, ht.low, ht.mono HBW.out, B0.out, B1.out, World.ownsRow_nil _ _ _ _, fun t h => (by cases h), fun t h => (by cases h), List.Pairwise.nil⟩)
  clear HBW B0 B1 ht
  go_enter Tryd.func7, Tryd.ntmps7
  go_upto_region 2 with (fail)
  generalize ((w.alloc (.cells #[.slice none 0 0] 28)).alloc (.cells #[.slice none 0 0] 28)) = W at *
  obtain ⟨m, hm, hm3⟩ := nat_next L a (n := 3) (by decide)
  have HM := hide hm
  clear hm
  have hwm : IntKind.i64.wrap (1 + (m : Int)) = 1 + m := by rw [IntKind.wrap_i64]; omega
  go_wp2_with (go_at_call 10; refine (next_any _ b a L 3 HS0.out.tp (by omega) (by decide) ⟨by decide, by decide⟩).mono ?_; rintro e w1 ⟨rfl, ht2, hg2⟩; have HS1 := hide (HS0.out.next hg2 ht2); clear ht2 hg2; rw [HM.out])
  go_loopw [5] (fun i wr => ∃ (j : Nat) (h : Hd) (ts : List Tab) (a' : Nat), i = .int .i64 j ∧ j ≤ 1 + m ∧ Hid (ts.length = j) ∧ a' ≤ a + 1 + 130 * j ∧ Hid (SB w wr b L a' h ts)) (fun i _ => 1 + m - (intOf i).toNat)
  case atStart => exact ⟨0, nilHd, [], a + 1, rfl, by omega, rfl, by omega, HS1.out⟩
  case round =>
    obtain ⟨j, h, ts, a', rfl, hj, HJ, ha', HS⟩ := hrel
    clear HS0 HS1
    obtain ⟨Vr, hVr⟩ : ∃ x, x = wr := ⟨_, rfl⟩
    subst hVr
    by_cases hlt : (j : Int) < 1 + m
    · have hj2 : j ≤ 2 := by omega
      have hwj : IntKind.i64.wrap ((j : Int) + 1) = (j : Int) + 1 := by rw [IntKind.wrap_i64]; omega
      go_upto_region 7 with (go_at_call 18; refine (small_name _ _ (by show (1 : Nat) ≤ 10; omega) (j : Int) ⟨by omega, by omega⟩).mono ?_; rintro e w2 ⟨⟨nm, hnm, rfl⟩, hb2⟩; have HB2 := hide hb2; have HNM := hide hnm; clear hb2 hnm)
      have HLL := hide (show b < Vr.heap.size ∧ (0 < L.l.length → L.h.b < Vr.heap.size) from ⟨HS.out.tp.low.1, HS.out.tp.low.2⟩)
      have HTB := hide (tb_start (V := Vr) (x := w2) (only_below HB2.out (some b)) (HS.out.tp.mono HB2.out) HLL.out HNM.out)
      generalize (((w2.alloc (.cells #[.string ⟨#[105, 100]⟩, .int .i64 1, .bool false] 41)).alloc (.cells #[.int .i64 0] 3)).alloc (.cells #[.string nm, .slice (some ⟨w2.heap.size, 0, none⟩) 1 1, .slice (some ⟨w2.heap.size + 1, 0, none⟩) 1 1, .slice none 0 0, .slice none 0 0, .slice none 0 0] 39)) = V at *
      have hcc := HTB.out.le
      have hbc : b < w2.heap.size := by have := HLL.out.1; omega
      clear HB2
      generalize w2.heap.size = c at *
      generalize hcx : c + 1 + 1 = cx at *
      obtain ⟨f, hf, hf3⟩ := nat_next L a' (n := 3) (by decide)
      have HF := hide hf
      clear hf
      have hwf : IntKind.i64.wrap (1 + (f : Int)) = 1 + f := by rw [IntKind.wrap_i64]; omega
      go_wp2_with (go_at_call 10; refine (next_any _ b a' L 3 HTB.out.tp (by omega) (by decide) ⟨by decide, by decide⟩).mono ?_; rintro e v1 ⟨rfl, ht2, hg2⟩; have HTB1 := hide (HTB.out.next hg2 ht2); clear ht2 hg2; rw [HF.out])
      go_loopw [8] (fun k z => ∃ (j2 : Nat) (t : Tab), k = .int .i64 j2 ∧ j2 ≤ 1 + f ∧ Hid (LA Vr z b L (a' + 1 + 2 * j2) c cx j2 t)) (fun k _ => 1 + f - (intOf k).toNat)
      case atStart => exact ⟨0, _, rfl, by omega, ⟨HTB1.out, rfl, ⟨rfl, rfl⟩, rfl⟩⟩
      case round =>
        obtain ⟨j2, t, rfl, hj2', HA⟩ := hrel
        clear HTB HTB1
        by_cases hlt2 : (j2 : Int) < 1 + f
        · generalize hp : a' + 1 + 2 * j2 = p at *
          obtain ⟨q, hq, hq3⟩ := nat_next L p (n := 3) (by decide)
          have hwq : IntKind.i64.wrap (1 + L.next p 3) = 1 + q := by rw [hq, IntKind.wrap_i64]; omega
          clear hq
          obtain ⟨nb, hnb⟩ : ∃ nb : Bool, (L.next (p + 1) 2 == 0) = nb := ⟨_, rfl⟩
          have hwj2 : IntKind.i64.wrap ((j2 : Int) + 1) = (j2 : Int) + 1 := by rw [IntKind.wrap_i64]; omega
          have k0 : wr.cell? ⟨cx, 1, none⟩ = some (.slice t.ch.ao t.cols.length t.ch.cap) := HA.out.tb.bx.cell (j := 1) rfl
          go_wp2
          go_region_law
            (first
              | ((refine step_append_lies _ (by rfl) _ _ _ (by rfl) c 41 i0 _ 3 32 Tryd.underlying34 HI.out.1 HI.out.2.1 HI.out.2.2.1 HI.out.2.2.2 rfl (by decide) (.slice t.ch.ao t.cols.length t.ch.cap) t.cols.length (t.cols.flatMap Col.cells) (by rfl) HCA.out.ti.oc ⟨n3.heap.size, 0, none⟩ 1 1 [.string nm2, .int .i64 (1 + q), .bool nb] (by rfl) (by rfl) new_cells (by intro u hu; simp only [List.mem_cons, List.not_mem_nil, or_false] at hu; rcases hu with rfl | rfl | rfl <;> rfl) (by decide) (by have := HA.out.nc; unfold maxLen; omega) (by have := HA.out.nc; omega) (HCA.out.sz) (n3.heap.size + 1) (by simp) ?_; intro g cap z hown hgr hat hltz; have hbz := HCA.out.bx.grown hgr (by rw [Hd.ob_eq]; exact fun e => own_box_ne HCA.out.ti.oc HCA.out.bx (by decide) e.symm); have kz := hbz.cell (j := 1) rfl; have fz := hbz.fr 1; have HFF := hide (HCA.out.col (c := ⟨nm2, 1 + q, nb⟩) hown hgr ⟨HNM2.out, by constructor <;> (show _ ≤ _; simp; omega)⟩); clear hbz hgr hown hat hltz))
              | (go_simp; go_at_call 18; refine (small_name _ _ (by show (1 : Nat) ≤ 10; omega) (j2 : Int) ⟨by omega, by omega⟩).mono ?_; rintro e n1 ⟨⟨nm2, hnm2, rfl⟩, hb1⟩; have HN1 := hide (HA.out.tb.below (bel_drew hb1)); have HNM2 := hide hnm2; have k1 : n1.cell? ⟨cx, 1, none⟩ = some (.slice t.ch.ao t.cols.length t.ch.cap) := HN1.out.bx.cell (j := 1) rfl; clear hb1 hnm2)
              | (have hh := HN2.out; go_simp; go_at_call 10; refine (next_any _ b (p + 1) L 2 hh.tp (by omega) (by decide) ⟨by decide, by decide⟩).mono ?_; rintro e n3 ⟨rfl, ht2, hg2⟩; have HN3 := hide (hh.next hg2 ht2); clear ht2 hg2 hh; have k3 : n3.cell? ⟨cx, 1, none⟩ = some (.slice t.ch.ao t.cols.length t.ch.cap) := HN3.out.bx.cell (j := 1) rfl; have HCA := hide (HN3.out.alloc (.cells #[.string nm2, .int .i64 (1 + q), .bool nb] 41)); have k4 : (n3.alloc (.cells #[.string nm2, .int .i64 (1 + q), .bool nb] 41)).cell? ⟨cx, 1, none⟩ = some (.slice t.ch.ao t.cols.length t.ch.cap) := HCA.out.bx.cell (j := 1) rfl)
              | (go_simp; go_at_call 10; refine (next_any _ b p L 3 HN1.out.tp (by omega) (by decide) ⟨by decide, by decide⟩).mono ?_; rintro e n2 ⟨rfl, ht2, hg2⟩; have HN2 := hide (HN1.out.next hg2 ht2); clear ht2 hg2; have kk2 : n2.cell? ⟨cx, 1, none⟩ = some (.slice t.ch.ao t.cols.length t.ch.cap) := HN2.out.bx.cell (j := 1) rfl))
          all_goals
            go_wp2_with fail
            go_roundw
          all_goals first
            | (case rel => exact ⟨j2 + 1, _, rfl, by omega, la_eq (by omega) (HA.out.snoc HFF.out)⟩)
            | (case measure => simp [intOf]; omega)
            | trace_state
        · have HB0 := hide (show LB Vr wr b L (a' + 1 + 2 * j2) c cx 0 t from ⟨HA.out.tb, by have := HA.out.nc; omega, HA.out.nu, by have := HA.out.nf; omega⟩)
          have hp0 : a' + 1 + 2 * j2 ≤ a' + 7 := by omega
          generalize a' + 1 + 2 * j2 = p0 at *
          clear HA
          go_wp2
          go_loopw [9] (fun k z => ∃ (k2 : Nat) (t : Tab) (p : Nat), k = .int .i64 k2 ∧ k2 ≤ 2 ∧ p ≤ a' + 7 + 3 * k2 ∧ Hid (LB Vr z b L p c cx k2 t)) (fun k _ => 2 - (intOf k).toNat)
          case atStart => exact ⟨0, _, _, rfl, by omega, hp0, HB0.out⟩
          case round =>
            clear HB0
            obtain ⟨k2, t, p, rfl, hk2, hp, HB⟩ := hrel
            have hwk2 : IntKind.i64.wrap ((k2 : Int) + 1) = (k2 : Int) + 1 := by rw [IntKind.wrap_i64]; omega
            go_upto_region 13 with fail
            go_cut [56] (fun cv wx => ∃ (go : Bool) (p2 : Nat), cv = .bool go ∧ p2 ≤ p + 1 ∧ Hid (LB Vr wx b L p2 c cx k2 t) ∧ (go = true → k2 < 2 ∧ 0 < j))
            case first =>
              by_cases h1 : (k2 : Int) < 2
              · by_cases h2 : (0 : Int) < j
                · by_cases h3 : 0 < L.next p 3
                  · go_wp2_with (go_at_call 10; refine (next_any _ b p L 3 HB.out.tb.tp (by omega) (by decide) ⟨by decide, by decide⟩).mono ?_; rintro e v2 ⟨rfl, ht2, hg2⟩; have HX := hide (show LB Vr v2 b L (p + 1) c cx k2 t from ⟨HB.out.tb.next hg2 ht2, HB.out.nc, HB.out.nu, HB.out.nf⟩); clear ht2 hg2)
                    go_meet
                    exact ⟨true, p + 1, rfl, by omega, HX.out, fun _ => ⟨by omega, by omega⟩⟩
                  · go_wp2_with (go_at_call 10; refine (next_any _ b p L 3 HB.out.tb.tp (by omega) (by decide) ⟨by decide, by decide⟩).mono ?_; rintro e v2 ⟨rfl, ht2, hg2⟩; have HX := hide (show LB Vr v2 b L (p + 1) c cx k2 t from ⟨HB.out.tb.next hg2 ht2, HB.out.nc, HB.out.nu, HB.out.nf⟩); clear ht2 hg2)
                    go_meet
                    exact ⟨false, p + 1, congrArg Value.bool (decide_eq_false (by omega)), by omega, HX.out, fun h => by cases h⟩
                · go_wp2_with fail
                  go_meet
                  exact ⟨false, p, rfl, by omega, HB.out, fun h => by cases h⟩
              · go_wp2_with fail
                go_meet
                exact ⟨false, p, rfl, by omega, HB.out, fun h => by cases h⟩
            case rest =>
              obtain ⟨go, p2, rfl, hp2, HB2, hgo⟩ := hcut
              clear HB
              cases go
              case true =>
                obtain ⟨hk3, hj0⟩ := hgo rfl
                clear hgo
                have hp2' : p2 ≤ a' + 13 := by omega
                obtain ⟨nb, hnb⟩ : ∃ nb : Bool, (L.next p2 4 == 0) = nb := ⟨_, rfl⟩
                have k0 : wc.cell? ⟨cx, 1, none⟩ = some (.slice t.ch.ao t.cols.length t.ch.cap) := HB2.out.tb.bx.cell (j := 1) rfl
                go_upto_region 15 with fail
                go_cut [] (fun wx => ∃ t : Tab, Hid (TB Vr wx b L (p2 + 1) c cx t) ∧ Hid (3 ≤ t.cols.length ∧ t.cols.length ≤ 5 + k2) ∧ Hid (t.uniqs = [] ∧ t.uh = nilHd) ∧ Hid (t.fors.length ≤ k2))
                case first =>
                  go_region_law
                    (first
                      | (refine step_append_lies _ (by rfl) _ _ _ (by rfl) c 41 i0 _ 3 32 Tryd.underlying34 HI.out.1 HI.out.2.1 HI.out.2.2.1 HI.out.2.2.2 rfl (by decide) (.slice t.ch.ao t.cols.length t.ch.cap) t.cols.length (t.cols.flatMap Col.cells) (by rfl) HCA.out.ti.oc ⟨n3.heap.size, 0, none⟩ 1 1 [.string nm2, .int .i64 1, .bool nb] (by rfl) (by rfl) new_cells (by intro u hu; simp only [List.mem_cons, List.not_mem_nil, or_false] at hu; rcases hu with rfl | rfl | rfl <;> rfl) (by decide) (by have := HB2.out.nc; unfold maxLen; omega) (by have := HB2.out.nc; omega) (HCA.out.sz) (n3.heap.size + 1) (by simp) ?_; intro g cap z hown hgr hat hltz; have hbz := HCA.out.bx.grown hgr (by rw [Hd.ob_eq]; exact fun e => own_box_ne HCA.out.ti.oc HCA.out.bx (by decide) e.symm); have kz := hbz.cell (j := 1) rfl; have fz := hbz.fr 1; have HFF := hide (HCA.out.col (c := ⟨nm2, 1, nb⟩) hown hgr ⟨HNM2.out, (show int64 1 by constructor <;> decide)⟩); clear hbz hgr hown hat hltz)
                      | (go_simp; go_at_call 18; refine (small_name _ _ (by show (1 : Nat) ≤ 10; omega) (k2 : Int) ⟨by omega, by omega⟩).mono ?_; rintro e n1 ⟨⟨nm2, hnm2, rfl⟩, hb1⟩; have HN1 := hide (HB2.out.tb.below (bel_drew hb1)); have HNM2 := hide hnm2; have k1 : n1.cell? ⟨cx, 1, none⟩ = some (.slice t.ch.ao t.cols.length t.ch.cap) := HN1.out.bx.cell (j := 1) rfl; clear hb1 hnm2)
                      | (have hh := HN1.out; go_simp; go_at_call 10; refine (next_any _ b p2 L 4 hh.tp (by omega) (by decide) ⟨by decide, by decide⟩).mono ?_; rintro e n3 ⟨rfl, ht2, hg2⟩; have HN3 := hide (hh.next hg2 ht2); clear ht2 hg2 hh; have k3 : n3.cell? ⟨cx, 1, none⟩ = some (.slice t.ch.ao t.cols.length t.ch.cap) := HN3.out.bx.cell (j := 1) rfl; have HCA := hide (HN3.out.alloc (.cells #[.string nm2, .int .i64 1, .bool nb] 41)); have k4 : (n3.alloc (.cells #[.string nm2, .int .i64 1, .bool nb] 41)).cell? ⟨cx, 1, none⟩ = some (.slice t.ch.ao t.cols.length t.ch.cap) := HCA.out.bx.cell (j := 1) rfl))
                  all_goals
                    go_wp2_with fail
                    go_meet
                    refine ⟨_, HFF.out, ?_, HB2.out.nu, HB2.out.nf⟩
                    have := HB2.out.nc
                    have e : (t.cols ++ [(⟨nm2, 1, nb⟩ : Col)]).length = t.cols.length + 1 := by simp
                    exact ⟨by show 3 ≤ (t.cols ++ [_]).length; rw [e]; omega, by show (t.cols ++ [_]).length ≤ 5 + k2; rw [e]; omega⟩
                case rest =>
                  clear HB2 k0
                  obtain ⟨t, HB3, HNC, HNU, HNF⟩ := hcut
                  have hcl : 3 ≤ t.cols.length ∧ t.cols.length ≤ 10 := by have := HNC.out; omega
                  have hwc : IntKind.i64.wrap ((t.cols.length : Int) - 1) = (t.cols.length : Int) - 1 := by rw [IntKind.wrap_i64]; omega
                  have hcl64 : int64 ((t.cols.length : Int) - 1) := ⟨by omega, by omega⟩
                  have HCL := hide hcl
                  have HCL64 := hide hcl64
                  clear hcl hcl64
                  have hq0 := L.next_ok (p2 + 1) (n := (j : Int)) (by omega)
                  have hq2 : L.next (p2 + 1) (j : Int) ≤ 2 := by omega
                  obtain ⟨j0, hi, hz0, hz1, hz2⟩ := info_parts info_frn
                  have HQ := hide (And.intro hi (And.intro hz0 (And.intro hz1 hz2)))
                  clear hi hz0 hz1 hz2
                  have k0 : wc.cell? ⟨cx, 1, none⟩ = some (.slice t.ch.ao t.cols.length t.ch.cap) := HB3.out.bx.cell (j := 1) rfl
                  have l0 : wc.cell? ⟨cx, 4, none⟩ = some (.slice t.fh.ao t.fors.length t.fh.cap) := HB3.out.bx.cell (j := 4) rfl
                  have HD0 := hide (HB3.out.below (bel_self _))
                  have HDA := hide (HD0.out.alloc (.cells #[.int .i64 ((t.cols.length : Int) - 1)] 3))
                  have la : (wc.drew.alloc (.cells #[.int .i64 ((t.cols.length : Int) - 1)] 3)).cell? ⟨cx, 4, none⟩ = some (.slice t.fh.ao t.fors.length t.fh.cap) := HDA.out.bx.cell (j := 4) rfl
                  have la' : (wc.alloc (.cells #[.int .i64 ((t.cols.length : Int) - 1)] 3)).cell? ⟨cx, 4, none⟩ = some (.slice t.fh.ao t.fors.length t.fh.cap) := (HB3.out.alloc (.cells #[.int .i64 ((t.cols.length : Int) - 1)] 3)).bx.cell (j := 4) rfl
                  go_upto_region 16 with fail
                  go_region_law
                    (first
                      | (refine step_append_lies _ (by rfl) _ _ _ (by rfl) c 43 j0 _ 2 40 Tryd.underlying36 HQ.out.1 HQ.out.2.1 HQ.out.2.2.1 HQ.out.2.2.2 rfl (by decide) (.slice t.fh.ao t.fors.length t.fh.cap) t.fors.length (t.fors.flatMap Frn.cells) (by rfl) HC3.out.ti.of ⟨n2.heap.size + 1, 0, none⟩ 1 1 [.slice (some ⟨n2.heap.size, 0, none⟩) 1 1, .string nm3] (by rfl) (by rfl) new_cells1 (by intro u hu; simp only [List.mem_cons, List.not_mem_nil, or_false] at hu; rcases hu with rfl | rfl <;> rfl) (by decide) (by have := HNF.out; unfold maxLen; omega) (by have := HNF.out; omega) (HC3.out.sz) (n2.heap.size + 1 + 1) (by simp) ?_; intro g cap z hown hgr hat hltz; have hbz := HC3.out.bx.grown hgr (by rw [Hd.ob_eq]; exact fun e => own_box_ne HC3.out.ti.of HC3.out.bx (by decide) e.symm); have kz := hbz.cell (j := 4) rfl; have fz := hbz.fr 4; have HFF := hide (HC3.out.frn (c := ⟨⟨⟨some ⟨n2.heap.size, 0, none⟩, 1⟩, [(t.cols.length : Int) - 1]⟩, nm3⟩) hown hgr ⟨((One.new n2 HN2.out.sz HCL64.out).below (belA _)), HNM3.out⟩); clear hbz hgr hown hat hltz)
                      | (refine step_append_lies _ (by rfl) _ _ _ (by rfl) c 43 j0 _ 2 40 Tryd.underlying36 HQ.out.1 HQ.out.2.1 HQ.out.2.2.1 HQ.out.2.2.2 rfl (by decide) (.slice t.fh.ao t.fors.length t.fh.cap) t.fors.length (t.fors.flatMap Frn.cells) (by rfl) HC2.out.ti.of ⟨n2.heap.size, 0, none⟩ 1 1 [.slice (some ⟨n1.heap.size, 0, none⟩) 1 1, .string nm3] (by rfl) (by rfl) new_cells (by intro u hu; simp only [List.mem_cons, List.not_mem_nil, or_false] at hu; rcases hu with rfl | rfl <;> rfl) (by decide) (by have := HNF.out; unfold maxLen; omega) (by have := HNF.out; omega) (HC2.out.sz) (n2.heap.size + 1) (by simp) ?_; intro g cap z hown hgr hat hltz; have hbz := HC2.out.bx.grown hgr (by rw [Hd.ob_eq]; exact fun e => own_box_ne HC2.out.ti.of HC2.out.bx (by decide) e.symm); have kz := hbz.cell (j := 4) rfl; have fz := hbz.fr 4; have HFF := hide (HC2.out.frn (c := ⟨⟨⟨some ⟨n1.heap.size, 0, none⟩, 1⟩, [(t.cols.length : Int) - 1]⟩, nm3⟩) hown hgr ⟨(((One.new n1 HN1.out.sz HCL64.out).below HB1.out).below (belA _)), HNM3.out⟩); clear hbz hgr hown hat hltz)
                      | (refine step_append_lies _ (by rfl) _ _ _ (by rfl) c 43 j0 _ 2 40 Tryd.underlying36 HQ.out.1 HQ.out.2.1 HQ.out.2.2.1 HQ.out.2.2.2 rfl (by decide) (.slice t.fh.ao t.fors.length t.fh.cap) t.fors.length (t.fors.flatMap Frn.cells) (by rfl) HC1.out.ti.of ⟨n2.heap.size, 0, none⟩ 1 1 [.slice (some ⟨wc.heap.size, 0, none⟩) 1 1, .string nm3] (by rfl) (by rfl) new_cells (by intro u hu; simp only [List.mem_cons, List.not_mem_nil, or_false] at hu; rcases hu with rfl | rfl <;> rfl) (by decide) (by have := HNF.out; unfold maxLen; omega) (by have := HNF.out; omega) (HC1.out.sz) (n2.heap.size + 1) (by simp) ?_; intro g cap z hown hgr hat hltz; have hbz := HC1.out.bx.grown hgr (by rw [Hd.ob_eq]; exact fun e => own_box_ne HC1.out.ti.of HC1.out.bx (by decide) e.symm); have kz := hbz.cell (j := 4) rfl; have fz := hbz.fr 4; have HFF := hide (HC1.out.frn (c := ⟨⟨⟨some ⟨wc.heap.size, 0, none⟩, 1⟩, [(t.cols.length : Int) - 1]⟩, nm3⟩) hown hgr ⟨((((One.new wc.drew HD0.out.sz HCL64.out).keepB HG1.out (by omega)).below HB1.out).below (belA _)), HNM3.out⟩); clear hbz hgr hown hat hltz)
                      | (go_simp; go_at_call 10; refine (next_any _ b (p2 + 1) L (j : Int) (by first | exact HD0.out.tp | exact HDA.out.tp) (by omega) (by omega) ⟨by omega, by omega⟩).mono ?_; rintro e n1 ⟨rfl, ht2, hg2⟩; have HG1 := hide hg2; have HN1 := hide (show TB Vr n1 b L (p2 + 1 + 1) c cx t from (by first | exact HD0.out.next hg2 ht2 | exact HDA.out.next hg2 ht2)); have kk1 : n1.cell? ⟨cx, 1, none⟩ = some (.slice t.ch.ao t.cols.length t.ch.cap) := HN1.out.bx.cell (j := 1) rfl; have l1 : n1.cell? ⟨cx, 4, none⟩ = some (.slice t.fh.ao t.fors.length t.fh.cap) := HN1.out.bx.cell (j := 4) rfl; have HN1A := hide (HN1.out.alloc (.cells #[.int .i64 ((t.cols.length : Int) - 1)] 3)); have l1a : (n1.alloc (.cells #[.int .i64 ((t.cols.length : Int) - 1)] 3)).cell? ⟨cx, 4, none⟩ = some (.slice t.fh.ao t.fors.length t.fh.cap) := HN1A.out.bx.cell (j := 4) rfl; clear ht2 hg2)
                      | (go_simp; go_at_call 18; refine (small_name _ _ (by show (1 : Nat) ≤ 10; omega) (L.next (p2 + 1) (j : Int)) ⟨hq0.1, hq2⟩).mono ?_; rintro e n2 ⟨⟨nm3, hnm3, rfl⟩, hb1⟩; have HB1 := hide hb1; have HN2 := hide (show TB Vr n2 b L (p2 + 1 + 1) c cx t from (by first | exact HN1.out.below hb1 | exact HN1A.out.below hb1)); have HNM3 := hide hnm3; have kk2 : n2.cell? ⟨cx, 1, none⟩ = some (.slice t.ch.ao t.cols.length t.ch.cap) := HN2.out.bx.cell (j := 1) rfl; have l2 : n2.cell? ⟨cx, 4, none⟩ = some (.slice t.fh.ao t.fors.length t.fh.cap) := HN2.out.bx.cell (j := 4) rfl; have HN2A := hide (HN2.out.alloc (.cells #[.int .i64 ((t.cols.length : Int) - 1)] 3)); have l2a : (n2.alloc (.cells #[.int .i64 ((t.cols.length : Int) - 1)] 3)).cell? ⟨cx, 4, none⟩ = some (.slice t.fh.ao t.fors.length t.fh.cap) := HN2A.out.bx.cell (j := 4) rfl; have HC1 := hide (HN2.out.alloc (.cells #[.slice (some ⟨wc.drew.heap.size, 0, none⟩) 1 1, .string nm3] 43)); have HC2 := hide (HN2.out.alloc (.cells #[.slice (some ⟨n1.heap.size, 0, none⟩) 1 1, .string nm3] 43)); have HC3 := hide (HN2A.out.alloc (.cells #[.slice (some ⟨n2.heap.size, 0, none⟩) 1 1, .string nm3] 43)); have m1 : (n2.alloc (.cells #[.slice (some ⟨wc.heap.size, 0, none⟩) 1 1, .string nm3] 43)).cell? ⟨cx, 4, none⟩ = some (.slice t.fh.ao t.fors.length t.fh.cap) := HC1.out.bx.cell (j := 4) rfl; have m2 : (n2.alloc (.cells #[.slice (some ⟨n1.heap.size, 0, none⟩) 1 1, .string nm3] 43)).cell? ⟨cx, 4, none⟩ = some (.slice t.fh.ao t.fors.length t.fh.cap) := HC2.out.bx.cell (j := 4) rfl; have m3 : ((n2.alloc (.cells #[.int .i64 ((t.cols.length : Int) - 1)] 3)).alloc (.cells #[.slice (some ⟨n2.heap.size, 0, none⟩) 1 1, .string nm3] 43)).cell? ⟨cx, 4, none⟩ = some (.slice t.fh.ao t.fors.length t.fh.cap) := HC3.out.bx.cell (j := 4) rfl; clear hb1 hnm3))
                  all_goals
                    go_wp2_with fail
                    go_roundw
                  all_goals first
                    | (case rel => exact ⟨k2 + 1, _, p2 + 1 + 1, rfl, by omega, by omega, lb_next HFF.out HNC.out HNU.out HNF.out⟩)
                    | (case measure => simp [intOf]; omega)
                    | trace_state
              case false =>
                have hp2' : p2 ≤ a' + 14 := by omega
                clear hgo hp hp2 hwk2
                go_upto_if 87 with (go_at_call 10; refine (next_any _ b p2 L 4 HB2.out.tb.tp (by omega) (by first | decide | omega) (by first | exact ⟨by decide, by decide⟩ | exact ⟨by omega, by omega⟩)).mono ?_; rintro e v2 ⟨rfl, ht2, hg2⟩; have HX := hide (show LB Vr v2 b L (p2 + 1) c cx k2 t from ⟨HB2.out.tb.next hg2 ht2, HB2.out.nc, HB2.out.nu, HB2.out.nf⟩); clear ht2 hg2)
                clear HB2
                go_cut [] (fun wx => ∃ (t : Tab) (p3 : Nat), p3 ≤ p2 + 2 ∧ Hid (LC Vr wx b L p3 c cx t))
                case first =>
                  by_cases h4 : L.next p2 4 = 0
                  · have hb4 : (L.next p2 4 == 0) = true := by rw [h4]; rfl
                    obtain ⟨j0, hi, hz0, hz1, hz2⟩ := info_parts info_il
                    have HQ := hide (And.intro hi (And.intro hz0 (And.intro hz1 hz2)))
                    clear hi hz0 hz1 hz2
                    obtain ⟨q, hq, hq3⟩ := nat_next L (p2 + 1) (n := 1 + (f : Int)) (by omega)
                    have hwq : IntKind.i64.wrap (1 + L.next (p2 + 1) (1 + f)) = 1 + q := by rw [hq, IntKind.wrap_i64]; omega
                    clear hq
                    have x0 : v2.cell? ⟨cx, 3, none⟩ = some (.slice t.uh.ao t.uniqs.length t.uh.cap) := HX.out.tb.bx.cell (j := 3) rfl
                    go_upto_region 18 with fail
                    go_region_law
                      (first
                        | (refine step_append_lies _ (by rfl) _ _ _ (by rfl) c 22 j0 _ 1 24 Tryd.underlying35 HQ.out.1 HQ.out.2.1 HQ.out.2.2.1 HQ.out.2.2.2 rfl (by decide) (.slice t.uh.ao t.uniqs.length t.uh.cap) t.uniqs.length (t.uniqs.flatMap IL.cells) (by rfl) HNB.out.ti.ou ⟨n1.heap.size + 1, 0, none⟩ 1 1 [.slice (some ⟨n1.heap.size, 0, none⟩) 1 1] (by rfl) (by rfl) new_cells1 (by intro u hu; simp only [List.mem_cons, List.not_mem_nil, or_false] at hu; rcases hu with rfl; rfl) (by decide) (by rw [HX.out.nu.1]; decide) (by rw [HX.out.nu.1]; decide) (HNB.out.sz) (n1.heap.size + 1 + 1) (by simp) ?_; intro g cap z hown hgr hat hltz; have hbz := HNB.out.bx.grown hgr (by rw [Hd.ob_eq]; exact fun e => own_box_ne HNB.out.ti.ou HNB.out.bx (by decide) e.symm); have kz := hbz.cell (j := 3) rfl; have fz := hbz.fr 3; have HFF := hide (HNB.out.unq (c := ⟨⟨some ⟨n1.heap.size, 0, none⟩, 1⟩, [1 + (q : Int)]⟩) hown hgr ((One.new n1 HN.out.sz ⟨by omega, by omega⟩).below (belA _))); clear hbz hgr hown hat hltz)
                        | (go_simp; go_at_call 10; refine (next_any _ b (p2 + 1) L (1 + (f : Int)) (HX.out.tb.below (bel_self _)).tp (by omega) (by omega) ⟨by omega, by omega⟩).mono ?_; rintro e n1 ⟨rfl, ht2, hg2⟩; have HN := hide ((HX.out.tb.below (bel_self _)).next hg2 ht2); have l1 : n1.cell? ⟨cx, 3, none⟩ = some (.slice t.uh.ao t.uniqs.length t.uh.cap) := HN.out.bx.cell (j := 3) rfl; have hna := HN.out.alloc (.cells #[.int .i64 (1 + q)] 3); have l2 : (n1.alloc (.cells #[.int .i64 (1 + q)] 3)).cell? ⟨cx, 3, none⟩ = some (.slice t.uh.ao t.uniqs.length t.uh.cap) := hna.bx.cell (j := 3) rfl; have HNB := hide (hna.alloc (.cells #[.slice (some ⟨n1.heap.size, 0, none⟩) 1 1] 22)); have l3 : ((n1.alloc (.cells #[.int .i64 (1 + q)] 3)).alloc (.cells #[.slice (some ⟨n1.heap.size, 0, none⟩) 1 1] 22)).cell? ⟨cx, 3, none⟩ = some (.slice t.uh.ao t.uniqs.length t.uh.cap) := HNB.out.bx.cell (j := 3) rfl; clear ht2 hg2 hna))
                    all_goals
                      go_wp2_with fail
                      go_meet
                      exact ⟨_, _, Nat.le_refl _, ⟨HFF.out, ⟨HX.out.nc.1, by have := HX.out.nc; show t.cols.length ≤ 6; omega⟩, fun h => by simp at h, by show (t.uniqs ++ [_]).length ≤ 1; rw [HX.out.nu.1]; show (1 : Nat) ≤ 1; omega, by have := HX.out.nf; show t.fors.length ≤ 2; omega⟩⟩
                  · have hb4 : (L.next p2 4 == 0) = false := beq_eq_false_iff_ne.2 h4
                    go_wp2_with fail
                    go_meet
                    exact ⟨t, p2 + 1, by omega, ⟨HX.out.tb, ⟨HX.out.nc.1, by have := HX.out.nc; omega⟩, fun _ => HX.out.nu.2, by rw [HX.out.nu.1]; decide, by have := HX.out.nf; omega⟩⟩
                case rest =>
                  clear HX
                  obtain ⟨t, p3, hp3, HC⟩ := hcut
                  go_upto_if 100 with (go_at_call 10; refine (next_any _ b p3 L 4 HC.out.tb.tp (by omega) (by first | decide | omega) (by first | exact ⟨by decide, by decide⟩ | exact ⟨by omega, by omega⟩)).mono ?_; rintro e v2 ⟨rfl, ht2, hg2⟩; have HX := hide (show LC Vr v2 b L (p3 + 1) c cx t from ⟨HC.out.tb.next hg2 ht2, HC.out.nc, HC.out.nu, HC.out.nl⟩); clear ht2 hg2)
                  clear HC
                  go_cut [] (fun wx => ∃ (t : Tab) (p4 : Nat), p4 ≤ p3 + 111 ∧ Hid (TD Vr wx b L p4 c cx t))
                  case first =>
                    by_cases h5 : L.next p3 4 = 0
                    · have hb5 : (L.next p3 4 == 0) = true := by rw [h5]; rfl
                      obtain ⟨j0, hi, hz0, hz1, hz2⟩ := info_parts info_exp
                      have HQ := hide (And.intro hi (And.intro hz0 (And.intro hz1 hz2)))
                      clear hi hz0 hz1 hz2
                      have x0 := HX.out.tb.bx.cell (j := 0) rfl
                      have x1 := HX.out.tb.bx.cell (j := 1) rfl
                      have x2 := HX.out.tb.bx.cell (j := 2) rfl
                      have x3 := HX.out.tb.bx.cell (j := 3) rfl
                      have x4 := HX.out.tb.bx.cell (j := 4) rfl
                      have x5 : v2.cell? ⟨cx, 5, none⟩ = some (.slice t.kh.ao t.checks.length t.kh.cap) := HX.out.tb.bx.cell (j := 5) rfl
                      go_upto_region 20 with fail
                      go_region_law
                        (first
                          | (refine step_append_lies _ (by rfl) _ _ _ (by rfl) c 45 j0 _ 6 72 Tryd.underlying37 HQ.out.1 HQ.out.2.1 HQ.out.2.2.1 HQ.out.2.2.2 rfl (by decide) (.slice t.kh.ao t.checks.length t.kh.cap) t.checks.length (t.checks.flatMap Ex.cells) (by rfl) HNB.out.ti.ok ⟨n2.heap.size, 0, none⟩ 1 1 [.int .i64 ex.op, .int .i64 ex.typ, .int .i64 ex.num, .string ex.text, .int .i64 ex.col, .slice ex.kh.ao ex.kids.length ex.kh.cap] (by rfl) (by rfl) new_cells (by intro u hu; simp only [List.mem_cons, List.not_mem_nil, or_false] at hu; rcases hu with rfl | rfl | rfl | rfl | rfl | rfl <;> rfl) (by decide) (by rw [HX.out.tb.nk.1]; decide) (by rw [HX.out.tb.nk.1]; decide) (HNB.out.sz) (n2.heap.size + 1) (by simp) ?_; intro g cap z hown hgr hat hltz; have hbz := HNB.out.bx.grown hgr (by rw [Hd.ob_eq]; exact fun e => own_box_ne HNB.out.ti.ok HNB.out.bx (by decide) e.symm); have kz := hbz.cell (j := 5) rfl; have fz := hbz.fr 5; have HFF := hide (HN.out.chk HG2.out HT2.out ⟨HXI.out, HXF.out, hxs⟩ hown hgr ((hat.resolve_left (by rw [Hd.ob_eq, HX.out.tb.nk.2]; simp [Hd.ob, nilHd])).trans (World.size_alloc _ _).symm) HX.out.nu ⟨by have := HX.out.nc; omega, by have := HX.out.nc; omega⟩ ⟨by have := HX.out.nl; omega, by have := HX.out.nl; omega⟩); clear hbz hgr hown hat hltz)
                          | (go_simp; go_at_call 20; refine (rtypes_new t _ (HX.out.tb.ti.inn.mono (bel_self _)) (by have := HX.out.nc; omega)).mono ?_; rintro e n1 ⟨⟨r, rfl, hrl, hri, hrb⟩, hb1⟩; have HN := hide (HX.out.tb.below (bel_drew hb1)); have HRL := hide hrl; have HRI := hide hri; have hrb2 : 0 < r.l.length → v2.heap.size ≤ r.h.b := hrb; have HRB := hide hrb2; have k1 : n1.cell? ⟨cx, 5, none⟩ = some (.slice t.kh.ao t.checks.length t.kh.cap) := HN.out.bx.cell (j := 5) rfl; clear hb1 hrl hri hrb hrb2)
                          | (go_simp; go_at_call 19; refine (HE.out _ b (p3 + 1) L r 2 rfl HN.out.tp (by omega) HRI.out (by rw [HRL.out, List.length_map]; have := HX.out.nc; omega) (fun hp => by have h1 := HRB.out hp; have h2 := HX.out.tb.tp.lt; omega)).mono ?_; rintro e n2 ⟨⟨ex, rfl, hxi, hxf, hxs⟩, ⟨p4, hp4, hp4', ht2⟩, hg2⟩; have HXI := hide hxi; have HXF := hide hxf; have HT2 := hide ht2; have HG2 := hide hg2; have hn2 := HN.out.next hg2 ht2; have k2 : n2.cell? ⟨cx, 5, none⟩ = some (.slice t.kh.ao t.checks.length t.kh.cap) := hn2.bx.cell (j := 5) rfl; have HNB := hide (hn2.alloc (.cells #[.int .i64 ex.op, .int .i64 ex.typ, .int .i64 ex.num, .string ex.text, .int .i64 ex.col, .slice ex.kh.ao ex.kids.length ex.kh.cap] 45)); have k3 : (n2.alloc (.cells #[.int .i64 ex.op, .int .i64 ex.typ, .int .i64 ex.num, .string ex.text, .int .i64 ex.col, .slice ex.kh.ao ex.kids.length ex.kh.cap] 45)).cell? ⟨cx, 5, none⟩ = some (.slice t.kh.ao t.checks.length t.kh.cap) := HNB.out.bx.cell (j := 5) rfl; clear hxi hxf ht2 hg2 hn2))
                      all_goals
                        go_wp2_with fail
                        go_meet
                        exact ⟨_, p4, by omega, HFF.out⟩
                    · have hb5 : (L.next p3 4 == 0) = false := beq_eq_false_iff_ne.2 h5
                      go_wp2_with fail
                      go_meet
                      exact ⟨t, p3 + 1, by omega, HX.out.tb.done HX.out.nu ⟨by have := HX.out.nc; omega, by have := HX.out.nc; omega⟩ ⟨by have := HX.out.nl; omega, by have := HX.out.nl; omega⟩⟩
                  case rest =>
                    clear HX
                    obtain ⟨t, p4, hp4, HD⟩ := hcut
                    obtain ⟨j0, hi, hz0, hz1, hz2⟩ := info_parts info_tab
                    have HQ := hide (And.intro hi (And.intro hz0 (And.intro hz1 hz2)))
                    clear hi hz0 hz1 hz2
                    have HS1 := hide (HS.out.next HD.out.gb HD.out.tp)
                    have HS2 := hide (HS1.out.next (only_below (belA (.cells #[.string t.name, .slice t.ch.ao t.cols.length t.ch.cap, .slice t.prim.h.ao t.prim.l.length t.prim.h.cap, .slice t.uh.ao t.uniqs.length t.uh.cap, .slice t.fh.ao t.fors.length t.fh.cap, .slice t.kh.ao t.checks.length t.kh.cap] 39)) _) (HD.out.tp.mono (belA _)))
                    have y0 := HS1.out.b1.cell (j := 0) rfl
                    have x0 := HD.out.bx.cell (j := 0) rfl
                    have x1 := HD.out.bx.cell (j := 1) rfl
                    have x2 := HD.out.bx.cell (j := 2) rfl
                    have x3 := HD.out.bx.cell (j := 3) rfl
                    have x4 := HD.out.bx.cell (j := 4) rfl
                    have x5 := HD.out.bx.cell (j := 5) rfl
                    have htl : ts.length ≤ 2 := by have := HJ.out; omega
                    have hsz : w.heap.size + 2 ≤ wc.heap.size := by have := HS1.out.b1.lt; omega
                    go_wp2_with (at_builtin; go_loud (refine wpList_append_lies _ rfl _ _ 26 rfl (w.heap.size + 2) 39 j0 _ 6 136 Tryd.underlying26 HQ.out.1 HQ.out.2.1 HQ.out.2.2.1 HQ.out.2.2.2 rfl (by decide) (.slice h.ao ts.length h.cap) ts.length (ts.flatMap Tab.cells) (by rfl) HS2.out.own ⟨wc.heap.size, 0, none⟩ 1 1 [.string t.name, .slice t.ch.ao t.cols.length t.ch.cap, .slice t.prim.h.ao t.prim.l.length t.prim.h.cap, .slice t.uh.ao t.uniqs.length t.uh.cap, .slice t.fh.ao t.fors.length t.fh.cap, .slice t.kh.ao t.checks.length t.kh.cap] (by rfl) (by rfl) new_cells (by intro u hu; simp only [List.mem_cons, List.not_mem_nil, or_false] at hu; rcases hu with rfl | rfl | rfl | rfl | rfl | rfl <;> rfl) (by decide) (by unfold maxLen; omega) (by omega) (by simp; omega) (wc.heap.size + 1) (by simp) ?_; intro g cap z hown hgr hat hltz; have hbz := HS2.out.b1.grown hgr (by rw [Hd.ob_eq]; exact fun e => own_box_ne HS2.out.own HS2.out.b1 (by decide) e.symm); have kz := hbz.cell (j := 0) rfl; have fz := hbz.fr 0; have HSN := hide (HS.out.snoc HD.out hown hgr (by rw [World.size_alloc]; exact hat)); clear hbz hgr hown hat hltz))
                    go_roundw
                    case rel =>
                      refine ⟨j + 1, _, _, p4, rfl, by omega, (by show (ts ++ [t]).length = j + 1; rw [List.length_append, HJ.out]; rfl), by omega, HSN.out⟩
                    case measure => simp [intOf]; omega
    · have hjm : 1 ≤ j ∧ j ≤ 3 := by omega
      have y0 := HS.out.b1.cell (j := 0) rfl
      have f0 := HS.out.b0.fr 0
      have z0 := HS.out.b0.cell (j := 0) rfl
      have hq := (HS.out.b0.set 0 (.slice h.ao ts.length h.cap)).cell (j := 0) rfl
      go_wp2_with fail
      exact bodyPost_ret (v := .agg #[.slice h.ao ts.length h.cap]) (by simp [results, Tryd.results7, go_sem, hq]) rfl
        ⟨h, ts, rfl, by have := HJ.out; omega, by have := HJ.out; omega, a', by omega, HS.out.out _⟩
end Go.Proofs.YtmnbhdhgjbgidaaDoor

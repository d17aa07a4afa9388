/- querylabfield.Renamed: a query with other names. -/
import Derived.Test.YtiijaaohphokcaaGreatDoorG38
import Derived.Test.YtiijaaohphokcaaGreatDoorG39
import Derived.Test.YtiijaaohphokcaaGreatDoorEvKK
import Derived.Test.YtiijaaohphokcaaGreatDoorProg
import Derived.Test.YtiijaaohphokcaaGreatDoorDataK
import Derived.ProofKit
import Derived.OpenShut
import Derived.KernelRfl
namespace Go.Proofs.YtiijaaohphokcaaGreatDoor
open Go.RowKit
theorem OrdV.il {base : Nat} {l : List Nat} {v : Value} {w : World} (h : OrdV base l v w) : ∃ N : IL, v = .slice N.h.ao N.l.length N.h.cap ∧ N.l = ofs l ∧ N.In w ∧ (0 < N.l.length → base ≤ N.h.b) := by
  rcases h with ⟨rfl, rfl⟩ | ⟨g, cap, rfl, hin, hb⟩
  · exact ⟨⟨nilHd, []⟩, rfl, rfl, ⟨Row.nil _ _ _, fun _ h => (by cases h)⟩, fun h => (by cases h)⟩
  · exact ⟨⟨⟨some ⟨g, 0, none⟩, cap⟩, ofs l⟩, by show _ = Value.slice _ (ofs l).length _; rw [List.length_map], rfl, hin, fun _ => hb⟩
def RenPost (w : World) (b : Nat) (L : IL) (a : Nat) (q : Cq) (e : Ending) (w' : World) : Prop :=
  ∃ (r : Cq) (names ord : List Nat) (a' : Nat), e = .returned (.agg #[.int .i64 (r.vars : Nat), .slice r.lh.ao r.lits.length r.lh.cap, .slice r.head.h.ao r.head.l.length r.head.h.cap]) ∧ r.In w' w.heap.size ∧ r.cj = q.cj.ren names ord ∧ r.vars = q.vars ∧ names.Perm (List.range q.vars) ∧ ord.Perm (List.range q.lits.length) ∧ TapeIn w' b L a' ∧ a' ≤ a + 24 ∧ w.grownBy w' (some b)
theorem tl_any {w w' : World} {B : Nat} {x : TL} {row : Option Nat} (h : x.In w B) (hg : w.grownBy w' row) (hn : 0 < x.l.length → row ≠ some x.h.b) : x.In w' B := ⟨row_any h.row hg (fun hp e => hn hp e.symm), h.wf, h.ge⟩
theorem il_any {w w' : World} {x : IL} {row : Option Nat} (h : x.In w) (hg : w.grownBy w' row) (hn : 0 < x.l.length → row ≠ some x.h.b) : x.In w' := ⟨row_any h.1 hg (fun hp e => hn hp e.symm), h.2⟩
abbrev renL (q : Cq) (names : List Nat) (i : Nat) : Lt V := Lt.app (fun x => .v (nmf names x)) (q.cj.lits.getD i (0, []))
set_option maxRecDepth 100000 in
set_option maxHeartbeats 16000000 in
theorem renamed_any (w : World) (b : Nat) (L : IL) (a : Nat) (T : List (List Int)) (q : Cq) (B : Nat) (ht : TapeIn w b L a) (ha : a ≤ 4611686018427360000) (rq : RightQ w T q B) (hbB : b < B) :
    Calls Tryz.prog 22 #[.pointer (some ⟨b, 0, none⟩), .agg #[.int .i64 (q.vars : Nat), .slice q.lh.ao q.lits.length q.lh.cap, .slice q.head.h.ao q.head.l.length q.head.h.cap]] w (RenPost w b L a q) := by
  have HT := hide ht
  have hbw := ht.lt
  have HLW := hide ht.low
  have HRQ := hide (fun (z : World) (hz : w.grownBy z (some b)) => (rq.grown hz hbB).qi)
  have hv16 : q.vars ≤ 16 := by obtain ⟨τ, h⟩ := rq.ri; exact h.v16
  have hl8 : q.lits.length ≤ 8 := rq.hl.2
  have HVS := hide (show ∀ l ∈ q.lits, ∀ x, Tm.v x ∈ l.sl.l → x < q.vars from (rq.ok rq).vq)
  have HVH := hide rq.hv
  have HLS := hide (show ∀ l ∈ q.lits, l.sl.l.length ≤ 1000 from (rq.ok rq).qs)
  have hh24 : q.head.l.length ≤ 24 := rq.hl.1
  obtain ⟨X, hX⟩ : ∃ X, ((w.alloc (.cells #[.int .i64 (q.vars : Nat), .slice q.lh.ao q.lits.length q.lh.cap, .slice q.head.h.ao q.head.l.length q.head.h.cap] 32)).alloc (.cells #[.int .i64 0, .slice none 0 0, .slice none 0 0] 32)).alloc (.cells #[.int .i64 (q.vars : Nat), .slice none 0 0, .slice none 0 0] 32) = X := ⟨_, rfl⟩
  have HBX := hide (show Below w.heap.size w X from by rw [← hX]; exact bel_trans (belAA _ _) (belA _))
  have HB3 := hide (show Box X w.heap.size (qcells q) 32 from by rw [← hX]; exact ((Box.new _ _ _).below (belA _)).below (belA _))
  have HB4 := hide (show Box X (w.heap.size + 1) #[.int .i64 0, .slice none 0 0, .slice none 0 0] 32 from by
    rw [← hX]
    have h := (Box.new (w.alloc (.cells #[.int .i64 (q.vars : Nat), .slice q.lh.ao q.lits.length q.lh.cap, .slice q.head.h.ao q.head.l.length q.head.h.cap] 32)) #[.int .i64 0, .slice none 0 0, .slice none 0 0] 32).below (belA (.cells #[.int .i64 (q.vars : Nat), .slice none 0 0, .slice none 0 0] 32))
    rwa [World.size_alloc] at h)
  have HB5 := hide (show Box X (w.heap.size + 1 + 1) #[.int .i64 (q.vars : Nat), .slice none 0 0, .slice none 0 0] 32 from by
    rw [← hX]
    have h := Box.new ((w.alloc (.cells #[.int .i64 (q.vars : Nat), .slice q.lh.ao q.lits.length q.lh.cap, .slice q.head.h.ao q.head.l.length q.head.h.cap] 32)).alloc (.cells #[.int .i64 0, .slice none 0 0, .slice none 0 0] 32)) #[.int .i64 (q.vars : Nat), .slice none 0 0, .slice none 0 0] 32
    rwa [World.size_alloc, World.size_alloc] at h)
  have HXE := hide hX
  have HTX := hide (ht.mono HBX.out)
  have hsx : w.heap.size + 3 ≤ X.heap.size := HB5.out.lt
  have HO1 := hide (order_any X b L a q.vars HTX.out (by omega) (by omega))
  clear ht rq hX
  go_enter Tryz.func22, Tryz.ntmps22
  go_upto_region 2 with fail
  rw [HXE.out]
  have c0 : X.cell? ⟨w.heap.size, 0, none⟩ = some (.int .i64 (q.vars : Nat)) := HB3.out.cell rfl
  go_upto_region 3 with (go_at_call 62; refine HO1.out.mono ?_; rintro e Y ⟨names, nv, a1, rfl, h1, h2, h3, h4, h5⟩; have HN1 := hide h1; have HNP := hide h2; have HT1 := hide h3; have HA1 := hide h4; have HG1 := hide ((only_below HBX.out (some b)).trans h5); have HGX := hide h5; clear h1 h2 h3 h4 h5 c0 HO1)
  obtain ⟨N, hnv, hNl, hNin, hNb⟩ := HN1.out.il
  subst hnv
  have HNL := hide hNl
  have HNI := hide hNin
  have HNB := hide hNb
  have HB3Y := hide (HB3.out.grown HGX.out (by intro e; injection e with e; omega))
  have HO2 := hide (order_any Y b L a1 q.lits.length HT1.out (by have := HA1.out; omega) (by omega))
  clear hNl hNin hNb
  have c1 : Y.cell? ⟨w.heap.size, 1, none⟩ = some (.slice q.lh.ao q.lits.length q.lh.cap) := HB3Y.out.cell rfl
  have hNn : N.l.length ≤ 100 := by rw [HNL.out, List.length_map, (perm_facts HNP.out).1]; omega
  have HGXS := hide HGX.out.size
  go_wp2_with (go_at_call 62; refine HO2.out.mono ?_; rintro e Y2 ⟨ord, ov, a2, rfl, h1, h2, h3, h4, h5⟩; have HOV := hide h1; have HOP := hide h2; have HT2 := hide h3; have HA2 := hide h4; have HG2 := hide h5; clear h1 h2 h3 h4 h5 c1 HO2; obtain ⟨O, hov, hOl, hOin, hOb⟩ := HOV.out.il; subst hov; have HOL := hide hOl; have HOI := hide hOin; have HOB := hide hOb; clear hOl hOin hOb)
  have HGW := hide (HG1.out.trans HG2.out)
  have HB3Z := hide (HB3Y.out.grown HG2.out (by intro e; injection e with e; omega))
  have HB4Z := hide ((HB4.out.grown HGX.out (by intro e; injection e with e; omega)).grown HG2.out (by intro e; injection e with e; omega))
  have HB5Z := hide ((HB5.out.grown HGX.out (by intro e; injection e with e; omega)).grown HG2.out (by intro e; injection e with e; omega))
  have HNIZ := hide (il_any HNI.out HG2.out (fun hp e => by injection e with e; have := HNB.out hp; omega))
  have hyz : X.heap.size ≤ Y.heap.size := HGX.out.size
  have hzz : Y.heap.size ≤ Y2.heap.size := HG2.out.size
  have HOLN := hide (show O.l.length = q.lits.length from by rw [HOL.out, List.length_map, (perm_facts HOP.out).1])
  have HNW := hide (show ∀ x ∈ names, x ≤ 1000 from fun x hx => by have := ((perm_facts HNP.out).2.2 x).1 hx; omega)
  have HNM := hide (show names.length = q.vars from (perm_facts HNP.out).1)
  have HSZ := hide (And.intro hsx (And.intro hyz hzz))
  clear HN1 HOV HTX HT1 HBX HB3 HB4 HB5 HB3Y HG1 HGX HG2 HNI HXE hsx hyz hzz
  have hOn : O.l.length ≤ 9223372036854775807 := by have := HOLN.out; omega
  go_loopw [22] (fun i wr => ∃ (k : Nat) (lv : Value) (outs : List Li), k ≤ O.l.length ∧ i = .int .i64 k ∧ Hid (outs.length = k) ∧ Hid (Y2.grownBy wr (some (w.heap.size + 1 + 1))) ∧ Hid (Box wr (w.heap.size + 1 + 1) #[.int .i64 (q.vars : Nat), lv, .slice none 0 0] 32) ∧ Hid (wr.ownsRow Y2.heap.size 56 2 lv outs.length (outs.flatMap Li.cells)) ∧ Hid (∀ l ∈ outs, l.sl.In wr (w.heap.size + 3) ∧ l.tab ≤ 1000 ∧ (0 < l.sl.l.length → lv.ownBlock ≠ some l.sl.h.b)) ∧ Hid (outs.map Li.lt = (ord.take k).map (renL q names))) (fun i _ => O.l.length - (intOf i).toNat)
  case atStart => exact ⟨0, _, [], Nat.zero_le _, rfl, hide rfl, hide (World.grownBy.refl _ _), HB5Z, hide (World.ownsRow_nil _ _ _ _), hide (fun _ h => by cases h), hide rfl⟩
  case round =>
  obtain ⟨k, lv, outs, hk, rfl, HKL, HG, HBO, HOW, HOS, HEQ⟩ := hrel
  have HGF := hide (HGW.out.andThen HG.out (fun j e => .inl (by injection e with e; omega)))
  have HNIW := hide (il_any HNIZ.out HG.out (fun hp e => by injection e with e; have := HNB.out hp; have := HSZ.out; omega))
  have HB3W := hide (HB3Z.out.grown HG.out (by intro e; injection e with e; omega))
  have HQI := hide (HRQ.out wr HGF.out)
  have hwz : Y2.heap.size ≤ wr.heap.size := HG.out.size
  by_cases hlt : k < O.l.length
  · have hlti : (k : Int) < O.l.length := by omega
    have HOI2 := hide (il_any HOI.out HG.out (fun hp e => by injection e with e; have := HOB.out hp; have := HSZ.out; omega))
    have hix := HOI2.out.1.ix hlt Tryz.underlying22 szil
    have o0 := int_at HOI2.out.1 hlt
    have hbo := HOI2.out.1.blk hlt
    have hko : k < ord.length := by have h := congrArg List.length HOL.out; rw [List.length_map] at h; omega
    obtain ⟨i, hi⟩ : ∃ i, ord[k] = i := ⟨_, rfl⟩
    have hoi : O.l[k] = ((i : Nat) : Int) := by
      have h1 : O.l[k]? = some ((i : Nat) : Int) := by rw [HOL.out]; unfold ofs; rw [List.getElem?_map, List.getElem?_eq_getElem hko, hi]; rfl
      exact (List.getElem?_eq_some_iff.1 h1).2
    rw [hoi] at o0
    have hiq : i < q.lits.length := ((perm_facts HOP.out).2.2 i).1 (hi ▸ List.getElem_mem hko)
    have HTK := hide (show (ord.take (k + 1)).map (renL q names) = (ord.take k).map (renL q names) ++ [renL q names i] from by rw [List.take_succ_eq_append_getElem hko, List.map_append, hi]; rfl)
    obtain ⟨l, hl⟩ : ∃ l, q.lits[i] = l := ⟨_, rfl⟩
    have HLM := hide (show l ∈ q.lits from hl ▸ List.getElem_mem hiq)
    have HRL := hide (show renL q names i = (l.tab, l.sl.l.map (nmT names)) from by
      show Lt.app _ ((q.lits.map Li.lt).getD i (0, [])) = _
      rw [List.getD_eq_getElem?_getD, List.getElem?_map, List.getElem?_eq_getElem hiq, hl]; rfl)
    have hkl8 : outs.length ≤ 1000 := by have := HKL.out; have := HOLN.out; omega
    have hne : lv.ownBlock ≠ some (w.heap.size + 1 + 1) := fun e => by have := (HOW.out.lt _ e).1; have := HSZ.out; omega
    have HREG := hide (And.intro hiq hl)
    clear hi hoi hl
    go_upto_region 6 with fail
    refine rn_reg6 (g3 := w.heap.size) (g5 := w.heap.size + 1 + 1) (im := i) (B := Y2.heap.size) (B1 := B) (q := q) (l := l) (lv := lv) (va := .int .i64 (q.vars : Nat)) (outs := outs) (N := N) (names := names) (W := wr) HB3W HBO (hide HQI.out.row) (hide hiq) (hide HREG.out.2) (hide (HQI.out.sl l HLM.out)) HNIW HNL (hide (fun x hx => by rw [HNM.out]; exact HVS.out l HLM.out x hx)) HNW (hide (HLS.out l HLM.out)) (hide hkl8) (hide hwz) HOW (hide hne) ?hc ?hend
    case hc => rfl
    case hend =>
    intro r5 r6 b7 r7 g4 cap4 x y hbx hr7 hr7i hgy hoy hby
    have hgs := gb_set y (w.heap.size + 1 + 1) 1 (.slice (some ⟨g4, 0, none⟩) (outs.length + 1) cap4)
    have hxs := hbx.size
    have hys := hgy.size
    have hsz := HSZ.out
    have how := HOW.out.lt
    have HGN := hide (show Y2.grownBy (y.setCell ⟨w.heap.size + 1 + 1, 1, none⟩ (.slice (some ⟨g4, 0, none⟩) (outs.length + 1) cap4)) (some (w.heap.size + 1 + 1)) from ((HG.out.trans (only_below hbx _)).andThen hgy (fun j e => .inl (how j e).1)).trans hgs)
    have HBN := hide (show Box (y.setCell ⟨w.heap.size + 1 + 1, 1, none⟩ (.slice (some ⟨g4, 0, none⟩) (outs.length + 1) cap4)) (w.heap.size + 1 + 1) #[.int .i64 (q.vars : Nat), .slice (some ⟨g4, 0, none⟩) (outs.length + 1) cap4, .slice none 0 0] 32 from by
      have h := ((HBO.out.below hbx).grown hgy (fun e => hne e.symm)).set 1 (.slice (some ⟨g4, 0, none⟩) (outs.length + 1) cap4)
      simpa only [List.setIfInBounds_toArray, List.set_cons_zero, List.set_cons_succ] using h)
    have HON := hide (hoy.kept hgs (.inr (fun e => by have := (hoy.lt _ e).1; omega)))
    have HOSN := hide (show ∀ l2 ∈ outs ++ [(⟨l.tab, r7⟩ : Li)], l2.sl.In (y.setCell ⟨w.heap.size + 1 + 1, 1, none⟩ (.slice (some ⟨g4, 0, none⟩) (outs.length + 1) cap4)) (w.heap.size + 3) ∧ l2.tab ≤ 1000 ∧ (0 < l2.sl.l.length → (Value.slice (some ⟨g4, 0, none⟩) (outs.length + 1) cap4).ownBlock ≠ some l2.sl.h.b) from fun l2 hl2 => by
      have key : ∀ s : TL, s.In x (w.heap.size + 3) → (0 < s.l.length → lv.ownBlock ≠ some s.h.b) → s.In (y.setCell ⟨w.heap.size + 1 + 1, 1, none⟩ (.slice (some ⟨g4, 0, none⟩) (outs.length + 1) cap4)) (w.heap.size + 3) ∧ (0 < s.l.length → (Value.slice (some ⟨g4, 0, none⟩) (outs.length + 1) cap4).ownBlock ≠ some s.h.b) := fun s h1 h2 => by
        refine ⟨tl_any (tl_any h1 hgy (fun hp e => h2 hp e)) hgs (fun hp e => by injection e with e; have := h1.ge hp; omega), fun hp e => ?_⟩
        rcases hby with h | h
        · exact h2 hp (by rw [← h]; exact e)
        · rw [h] at e
          injection e with e
          have := h1.row.blk hp
          omega
      rcases List.mem_append.1 hl2 with hl2 | hl2
      · obtain ⟨k1, k2, k3⟩ := HOS.out l2 hl2
        obtain ⟨k4, k5⟩ := key l2.sl (k1.mono hbx) k3
        exact ⟨k4, k2, k5⟩
      · rw [List.mem_singleton.1 hl2]
        obtain ⟨k4, k5⟩ := key r7 ⟨hr7i.row, hr7i.wf, fun hp => by have := hr7i.ge hp; omega⟩ (fun hp e => by have := hr7i.ge hp; have := (how _ e).2; omega)
        exact ⟨k4, HQI.out.tb l HLM.out, k5⟩)
    have HEQN := hide (show (outs ++ [(⟨l.tab, r7⟩ : Li)]).map Li.lt = (ord.take (k + 1)).map (renL q names) from by rw [HTK.out, HRL.out, List.map_append, HEQ.out, ← hr7]; rfl)
    clear hbx hr7 hr7i hgy hoy hby hgs hxs hys hsz how hne
    go_wp2
    go_roundw
    case rel => exact ⟨k + 1, _, outs ++ [(⟨l.tab, r7⟩ : Li)], by omega, by go_num, hide (by rw [List.length_append, HKL.out]; rfl), HGN, HBN, HON, HOSN, HEQN⟩
    case measure => simp [intOf]; omega
  · have HEQ2 := hide (show outs.map Li.lt = ord.map (renL q names) from by rw [HEQ.out, List.take_of_length_le (by have h := congrArg List.length HOL.out; rw [List.length_map] at h; omega)])
    obtain ⟨hd, hlv, hrow, hown⟩ := own_rowE (cells := Li.cells) (fun _ => rfl) (by decide) HOW.out
    subst hlv
    have HRO := hide (And.intro hrow hown)
    have HNC := hide (named_any q.head N names B wr HQI.out.hd HNIW.out HNL.out (fun x hx => by rw [HNM.out]; exact HVH.out x hx) HNW.out (by omega))
    have c2 : wr.cell? ⟨w.heap.size, 2, none⟩ = some (.slice q.head.h.ao q.head.l.length q.head.h.cap) := HB3W.out.cell rfl
    clear hrow hown
    go_upto_region 9 with (go_at_call 63; refine HNC.out.mono ?_; rintro e Z ⟨rh, rfl, h1, h2, h3⟩; have HH1 := hide h1; have HH2 := hide h2; have HZB := hide h3; have hbo := HBO.out.below h3; have HBZ := hide hbo; have g2 : Z.cell? ⟨w.heap.size + 1 + 1, 2, none⟩ = some (.slice none 0 0) := hbo.cell rfl; have f2 := hbo.fr 2; clear h1 h2 h3 hbo c2 HNC)
    have hsz := HSZ.out
    have hgs := gb_set Z (w.heap.size + 1 + 1) 2 (.slice rh.h.ao rh.l.length rh.h.cap)
    have HBF := hide (show Box (Z.setCell ⟨w.heap.size + 1 + 1, 2, none⟩ (.slice rh.h.ao rh.l.length rh.h.cap)) (w.heap.size + 1 + 1) #[.int .i64 (q.vars : Nat), .slice hd.ao outs.length hd.cap, .slice rh.h.ao rh.l.length rh.h.cap] 32 from by
      have h := HBZ.out.set 2 (.slice rh.h.ao rh.l.length rh.h.cap)
      simpa only [List.setIfInBounds_toArray, List.set_cons_zero, List.set_cons_succ] using h)
    have HGZ := hide (show Y2.grownBy (Z.setCell ⟨w.heap.size + 1 + 1, 2, none⟩ (.slice rh.h.ao rh.l.length rh.h.cap)) (some (w.heap.size + 1 + 1)) from (HG.out.trans (only_below HZB.out _)).trans hgs)
    have HB4F := hide (HB4Z.out.grown HGZ.out (by intro e; injection e with e; omega))
    have HTF := hide (tape_far HT2.out HGZ.out (fun j e => by injection e with e; have := HLW.out; exact ⟨by omega, fun hp => by have := this.2 hp; omega⟩))
    have HQF := hide (show Cq.In (Z.setCell ⟨w.heap.size + 1 + 1, 2, none⟩ (.slice rh.h.ao rh.l.length rh.h.cap)) (w.heap.size + 3) ⟨q.vars, hd, outs, rh⟩ from by
      obtain ⟨hrow, hown⟩ := HRO.out
      have hlz := HOW.out.lt
      refine ⟨row_any (hrow.mono HZB.out) hgs (fun hp e => by injection e with e; have e : hd.b = w.heap.size + 1 + 1 := e; have := (hown hp).1; omega), fun hp => by have h := (hown hp).1; have h : Y2.heap.size ≤ hd.b := h; show w.heap.size + 3 ≤ hd.b; omega, fun l hl => tl_any ((HOS.out l hl).1.mono HZB.out) hgs (fun hp e => by injection e with e; have := (HOS.out l hl).1.ge hp; omega), fun l hl => (HOS.out l hl).2.1, ?_, by show q.vars ≤ 1000; omega⟩
      refine tl_any (x := rh) ⟨HH2.out.row, HH2.out.wf, fun hp => ?_⟩ hgs (fun hp e => by injection e with e; have := HH2.out.ge hp; omega)
      have h2 : wr.heap.size ≤ rh.h.b := HH2.out.ge hp
      show w.heap.size + 3 ≤ rh.h.b
      omega)
    clear g2 f2 hgs
    generalize Z.setCell ⟨w.heap.size + 1 + 1, 2, none⟩ (.slice rh.h.ao rh.l.length rh.h.cap) = Z2 at *
    have hg4 := set3 Z2 (w.heap.size + 1) (.int .i64 (q.vars : Nat)) (.slice hd.ao outs.length hd.cap) (.slice rh.h.ao rh.l.length rh.h.cap)
    have HFIN := hide (show RenPost w b L a q (.returned (.agg #[.int .i64 (q.vars : Nat), .slice hd.ao outs.length hd.cap, .slice rh.h.ao rh.l.length rh.h.cap])) (((Z2.setCell ⟨w.heap.size + 1, 0, none⟩ (.int .i64 (q.vars : Nat))).setCell ⟨w.heap.size + 1, 1, none⟩ (.slice hd.ao outs.length hd.cap)).setCell ⟨w.heap.size + 1, 2, none⟩ (.slice rh.h.ao rh.l.length rh.h.cap)) from by
      have hlw := HLW.out
      have ha1 := HA1.out
      have ha2 := HA2.out
      exact ⟨⟨q.vars, hd, outs, rh⟩, names, ord, a2, rfl, (HQF.out.grown hg4 (by omega)).le (by omega), by
        show Cj.mk (outs.map Li.lt) rh.l = Cj.mk (ord.map (renL q names)) (q.head.l.map (nmT names))
        rw [HEQ2.out, HH1.out], rfl, HNP.out, HOP.out, tape_far HTF.out hg4 (fun j e => by injection e with e; exact ⟨by omega, fun hp => by have := hlw.2 hp; omega⟩), by omega, (HGW.out.andThen HGZ.out (fun j e => .inl (by injection e with e; omega))).andThen hg4 (fun j e => .inl (by injection e with e; omega))⟩)
    have g0 : Z2.cell? ⟨w.heap.size + 1 + 1, 0, none⟩ = some (.int .i64 (q.vars : Nat)) := HBF.out.cell rfl
    have g1 : Z2.cell? ⟨w.heap.size + 1 + 1, 1, none⟩ = some (.slice hd.ao outs.length hd.cap) := HBF.out.cell rfl
    have g2 : Z2.cell? ⟨w.heap.size + 1 + 1, 2, none⟩ = some (.slice rh.h.ao rh.l.length rh.h.cap) := HBF.out.cell rfl
    have r0 : Z2.cell? ⟨w.heap.size + 1, 0, none⟩ = some (.int .i64 0) := HB4F.out.cell rfl
    have r1 : Z2.cell? ⟨w.heap.size + 1, 1, none⟩ = some (.slice none 0 0) := HB4F.out.cell rfl
    have r2 : Z2.cell? ⟨w.heap.size + 1, 2, none⟩ = some (.slice none 0 0) := HB4F.out.cell rfl
    have f0 := HB4F.out.fr 0
    have f1 := HB4F.out.fr 1
    have f2 := HB4F.out.fr 2
    clear hg4 hsz
    go_wp2
    refine bodyPost_ret (v := .agg #[.int .i64 (q.vars : Nat), .slice hd.ao outs.length hd.cap, .slice rh.h.ao rh.l.length rh.h.cap]) ?_ ?_ ?_
    case refine_3 => exact HFIN.out
    case refine_2 => rfl
    simp [results, Tryz.results22, go_sem, r0, r1, r2]
end Go.Proofs.YtiijaaohphokcaaGreatDoor

/- law27.ConjunctiveBags: its walk. -/
namespace Go.Proofs.YtiijaaohphokcaaGreatDoor
open Go.RowKit
set_option maxRecDepth 100000 in
set_option maxHeartbeats 16000000 in
theorem bags_walk (l : IL) (w : World) (hl : l.In w) (hsh : w.ShapedOpen Tryz.prog) : Calls Tryz.prog 5 #[.slice l.h.ao l.l.length l.h.cap] w fun e w' => e = .returned (.bool true) ∧ Below w.heap.size w w' := by
  have HL := hide hl
  have HSH := hide hsh
  clear hl hsh
  go_enter Tryz.func5, Tryz.ntmps5
  go_upto_region 3 with (first
    | (have hq := HT1; clear hq; go_at_call 8; refine (plain_any w1 w.heap.size L 0 HT1.out (by decide)).mono ?_; rintro e w2 ⟨s, a2, rfl, h1, h2, h3, h4, h5, h6⟩; have HSI := hide h1; have HPS := hide h2; have HC3 := hide h3; have HT2 := hide h4; have HA2 := hide h5; have HG2 := hide h6; clear h1 h2 h3 h4 h5 h6)
    | (go_at_call 7; refine (fnew_any l _ HL.out).mono ?_; rintro e w1 ⟨L, _, rfl, h1, h2⟩; have HT1 := hide h1; have HB1 := hide h2; clear h1 h2))
  have HB2 := hide (bgrow HB1.out HG2.out)
  have hlo := HT2.out.lt
  obtain ⟨X2, hX2⟩ : ∃ X2, w2.alloc (.cells #[.slice s.th.ao s.tabs.length s.th.cap] 27) = X2 := ⟨_, rfl⟩
  have HA := hide (show Below w2.heap.size w2 X2 from by rw [← hX2]; exact belA _)
  have HBS := hide (show Box X2 w2.heap.size #[.slice s.th.ao s.tabs.length s.th.cap] 27 from by rw [← hX2]; exact Box.new _ _ _)
  rw [hX2]
  clear hX2
  have hs2 := HBS.out.lt
  have s0 := HBS.out.cell (j := 0) rfl
  have HCJ := hide (conj_any s X2 w.heap.size L a2 4 (HT2.out.mono HA.out) (by have := HA2.out; omega) (fun z hz => HSI.out z ((only_below HA.out (some w.heap.size)).trans hz)) HPS.out HC3.out (by decide))
  go_upto_region 4 with (go_at_call 9; refine HCJ.out.mono ?_; rintro e w3 ⟨q, a3, rfl, h1, h2, h3, h4, h5⟩; have HRQ := hide h1; have HT3 := hide h2; have HA3 := hide h3; have HG3 := hide h4; have HQ4 := hide h5; clear h1 h2 h3 h4 h5 HCJ)
  clear s0
  have hs3 := HG3.out.size
  have HLC := hide (show LC w L s w2 w3.heap.size a3 q (w3.alloc (.cells #[.int .i64 (q.vars : Nat), .slice q.lh.ao q.lits.length q.lh.cap, .slice q.head.h.ao q.head.l.length q.head.h.cap] 32)) from
    ⟨bel_trans (bgrow (bel_trans HB2.out HA.out) HG3.out) (belA _), HT3.out.mono (belA _), ((only_below HA.out (some w.heap.size)).trans HG3.out).trans (only_below (belA _) _), (HBS.out.grown HG3.out (by intro e; injection e with e; omega)).below (belA _), Box.new _ _ _, (HRQ.out.le (by omega)).mono (belA _), hlo, by omega, HT2.out.low.2⟩)
  have hqb : ∃ qb, w3.heap.size = qb := ⟨_, rfl⟩
  obtain ⟨qb, hqb⟩ := hqb
  rw [hqb] at HLC
  simp only [hqb]
  obtain ⟨X3, hX3⟩ : ∃ X3, w3.alloc (.cells #[.int .i64 (q.vars : Nat), .slice q.lh.ao q.lits.length q.lh.cap, .slice q.head.h.ao q.head.l.length q.head.h.cap] 32) = X3 := ⟨_, rfl⟩
  rw [hX3] at HLC ⊢
  have HAB := hide (show a3 ≤ 1000 from by have := HA2.out; have := HA3.out; omega)
  clear hX3 hqb hs3 HRQ HT3 HG3 HBS HA HB2 HB1 HG2 HT1 HT2 HA2 HA3 hs2 hlo HC3
  have HQL := hide (QL.nil (s := s) (w := w) (x := X3))
  have s0 := HLC.out.bs.cell (j := 0) rfl
  have q0 := HLC.out.bq.cell (j := 0) rfl
  have q1 := HLC.out.bq.cell (j := 1) rfl
  have q2 := HLC.out.bq.cell (j := 2) rfl
  have HC := hide (renamed_any X3 w.heap.size L a3 (colT s) q (w.heap.size + 1) HLC.out.tp (by have := HAB.out; omega) HLC.out.rq (by omega))
  go_upto_region 5 with (go_at_call 22; refine HC.out.mono ?_; rintro e y4 ⟨p, names, ord, a4, rfl, h1, h2, h3, h4, h5, h6, h7, h8⟩; have hrd := rend_of HLC.out.rq h1 h2 h3 h4 h5; have HP := hide (hrd.1.le HLC.out.lt); have HR := hide hrd.2; have HLC := hide (HLC.out.turn h8 h6); have HQL := hide (HQL.out.turn h8); have HA4 := hide h7; clear h1 h2 h3 h4 h5 h6 h7 h8 hrd HC)
  clear s0 q0 q1 q2
  have HQL := hide (HQL.out.add (r := p) HP.out HLC.out.lt)
  have HLC := hide (HLC.out.below (belA (.cells #[.int .i64 (p.vars : Nat), .slice p.lh.ao p.lits.length p.lh.cap, .slice p.head.h.ao p.head.l.length p.head.h.cap] 32)))
  obtain ⟨g4, hg4⟩ : ∃ g, y4.heap.size = g := ⟨_, rfl⟩
  rw [hg4] at HQL
  simp only [hg4]
  obtain ⟨X4, hX4⟩ : ∃ X, y4.alloc (.cells #[.int .i64 (p.vars : Nat), .slice p.lh.ao p.lits.length p.lh.cap, .slice p.head.h.ao p.head.l.length p.head.h.cap] 32) = X := ⟨_, rfl⟩
  rw [hX4] at HQL HLC ⊢
  clear hX4 hg4
  have s0 := HLC.out.bs.cell (j := 0) rfl
  have q0 := HLC.out.bq.cell (j := 0) rfl
  have q1 := HLC.out.bq.cell (j := 1) rfl
  have q2 := HLC.out.bq.cell (j := 2) rfl
  have HC := hide (weaker_any s q X4 w.heap.size L a4 HLC.out.tp (by have := HAB.out; have := HA4.out; omega) (HLC.out.hsi HSI.out) HPS.out HLC.out.rq)
  go_upto_region 6 with (go_at_call 11; refine HC.out.mono ?_; rintro e y5 ⟨d, a5, rfl, h1, h2, ⟨h3, -, h5⟩, h4⟩; have HLC := hide (HLC.out.turn h4 h2); have HQL := hide (HQL.out.turn h4); have HD := hide h1; have HA5 := hide h3; have HD5 := hide (show d.lits.length ≤ 6 from by have := HQ4.out; have := h5.2; omega); clear h1 h2 h3 h4 h5 HC)
  clear s0 q0 q1 q2
  have HQL := hide (HQL.out.add (r := d) HD.out HLC.out.lt)
  have HLC := hide (HLC.out.below (belA (.cells #[.int .i64 (d.vars : Nat), .slice d.lh.ao d.lits.length d.lh.cap, .slice d.head.h.ao d.head.l.length d.head.h.cap] 32)))
  obtain ⟨g5, hg5⟩ : ∃ g, y5.heap.size = g := ⟨_, rfl⟩
  rw [hg5] at HQL
  simp only [hg5]
  obtain ⟨X5, hX5⟩ : ∃ X, y5.alloc (.cells #[.int .i64 (d.vars : Nat), .slice d.lh.ao d.lits.length d.lh.cap, .slice d.head.h.ao d.head.l.length d.head.h.cap] 32) = X := ⟨_, rfl⟩
  rw [hX5] at HQL HLC ⊢
  clear hX5 hg5
  have s0 := HLC.out.bs.cell (j := 0) rfl
  have HC := hide (facts_any s X5 w.heap.size L a5 3 HLC.out.tp (by have := HAB.out; have := HA4.out; have := HA5.out; omega) (HLC.out.hsi HSI.out) HPS.out (by decide))
  go_upto_region 7 with (go_at_call 17; refine HC.out.mono ?_; rintro e y6 ⟨X, a6, rfl, h1, h2, h3, h4⟩; have HLC := hide (HLC.out.turn h4 h3); have HQL := hide (HQL.out.turn h4); have HXI := hide h1; have HF := hide h2; clear h1 h2 h3 h4 HC)
  clear s0
  have HI := hide (show IB y6.heap.size X (y6.alloc (.cells #[.slice X.h.ao X.l.length X.h.cap] 46)) from ⟨Box.new _ _ _, HXI.out.mono (belA _)⟩)
  have HLC := hide (HLC.out.below (belA (.cells #[.slice X.h.ao X.l.length X.h.cap] 46)))
  have HQL := hide (HQL.out.below (belA (.cells #[.slice X.h.ao X.l.length X.h.cap] 46)))
  obtain ⟨g6, hg6⟩ : ∃ g, y6.heap.size = g := ⟨_, rfl⟩
  rw [hg6] at HI
  simp only [hg6]
  obtain ⟨X6, hX6⟩ : ∃ x, y6.alloc (.cells #[.slice X.h.ao X.l.length X.h.cap] 46) = x := ⟨_, rfl⟩
  rw [hX6] at HI HQL HLC ⊢
  clear hX6 hg6 HXI HA5 HA4 HAB HP HD
  have s0 := HLC.out.bs.cell (j := 0) rfl
  have q0 := HLC.out.bq.cell (j := 0) rfl
  have q1 := HLC.out.bq.cell (j := 1) rfl
  have q2 := HLC.out.bq.cell (j := 2) rfl
  have p0 := HQL.out.tl.box1.cell (j := 0) rfl
  have p1 := HQL.out.tl.box1.cell (j := 1) rfl
  have p2 := HQL.out.tl.box1.cell (j := 2) rfl
  have HC := hide (lc_alike HLC.out HSI.out HPS.out HSH.out HLC.out.rq HQL.out.tl.rq1)
  go_upto_region 8 with (go_at_call 15; refine HC.out.mono ?_; rintro e y7 ⟨c7, rfl, hc, hb⟩; have HLC := hide (HLC.out.below hb); have HQL := hide (HQL.out.below hb); have HI := hide (HI.out.below hb); obtain rfl : c7 = true := hc.2 ⟨HR.out.vars, HR.out.len, HR.out.emb⟩; clear hc hb HC)
  clear s0 q0 q1 q2 p0 p1 p2
  have s0 := HLC.out.bs.cell (j := 0) rfl
  have p0 := HQL.out.tl.box1.cell (j := 0) rfl
  have p1 := HQL.out.tl.box1.cell (j := 1) rfl
  have p2 := HQL.out.tl.box1.cell (j := 2) rfl
  have d0 := HQL.out.box1.cell (j := 0) rfl
  have d1 := HQL.out.box1.cell (j := 1) rfl
  have d2 := HQL.out.box1.cell (j := 2) rfl
  have HC := hide (lc_alike HLC.out HSI.out HPS.out HSH.out HQL.out.tl.rq1 HQL.out.rq1)
  go_upto_region 9 with (go_at_call 15; refine HC.out.mono ?_; rintro e y8 ⟨c8, rfl, hc, hb⟩; have HLC := hide (HLC.out.below hb); have HQL := hide (HQL.out.below hb); have HI := hide (HI.out.below hb); have H8 := hide hc; clear hc hb HC)
  clear s0 p0 p1 p2 d0 d1 d2
  have s0 := HLC.out.bs.cell (j := 0) rfl
  have q0 := HLC.out.bq.cell (j := 0) rfl
  have q1 := HLC.out.bq.cell (j := 1) rfl
  have q2 := HLC.out.bq.cell (j := 2) rfl
  have p0 := HQL.out.tl.box1.cell (j := 0) rfl
  have p1 := HQL.out.tl.box1.cell (j := 1) rfl
  have p2 := HQL.out.tl.box1.cell (j := 2) rfl
  have HC := hide (lc_contains HLC.out HSI.out HPS.out HSH.out HLC.out.rq HQL.out.tl.rq1)
  go_upto_region 10 with (go_at_call 13; refine HC.out.mono ?_; rintro e y9 ⟨c9, rfl, hc, hb⟩; have HLC := hide (HLC.out.below hb); have HQL := hide (HQL.out.below hb); have HI := hide (HI.out.below hb); obtain rfl : c9 = true := hc.2 HR.out.h2; clear hc hb HC)
  clear s0 q0 q1 q2 p0 p1 p2
  have s0 := HLC.out.bs.cell (j := 0) rfl
  have p0 := HQL.out.tl.box1.cell (j := 0) rfl
  have p1 := HQL.out.tl.box1.cell (j := 1) rfl
  have p2 := HQL.out.tl.box1.cell (j := 2) rfl
  have q0 := HLC.out.bq.cell (j := 0) rfl
  have q1 := HLC.out.bq.cell (j := 1) rfl
  have q2 := HLC.out.bq.cell (j := 2) rfl
  have HC := hide (lc_contains HLC.out HSI.out HPS.out HSH.out HQL.out.tl.rq1 HLC.out.rq)
  go_upto_region 11 with (go_at_call 13; refine HC.out.mono ?_; rintro e y10 ⟨c10, rfl, hc, hb⟩; have HLC := hide (HLC.out.below hb); have HQL := hide (HQL.out.below hb); have HI := hide (HI.out.below hb); obtain rfl : c10 = true := hc.2 HR.out.h1; clear hc hb HC)
  clear s0 p0 p1 p2 q0 q1 q2
  have s0 := HLC.out.bs.cell (j := 0) rfl
  have q0 := HLC.out.bq.cell (j := 0) rfl
  have q1 := HLC.out.bq.cell (j := 1) rfl
  have q2 := HLC.out.bq.cell (j := 2) rfl
  have i0 := HI.out.box.cell (j := 0) rfl
  have HC := hide (lc_eval HLC.out HSI.out HPS.out HSH.out HLC.out.rq HI.out.ins HF.out (by have := HQ4.out; omega))
  go_upto_region 12 with (go_at_call 19; refine HC.out.mono ?_; rintro e y11 ⟨u, rfl, h1, h2, h3, hb⟩; have HLC := hide (HLC.out.below hb); have HQL := hide (HQL.out.below hb); have HI := hide (HI.out.below hb); have HUu := hide (And.intro h1 (And.intro h2 (show Srt u from h3))); clear h1 h2 h3 hb HC)
  clear s0 q0 q1 q2
  clear i0
  have s0 := HLC.out.bs.cell (j := 0) rfl
  have p0 := HQL.out.tl.box1.cell (j := 0) rfl
  have p1 := HQL.out.tl.box1.cell (j := 1) rfl
  have p2 := HQL.out.tl.box1.cell (j := 2) rfl
  have i0 := HI.out.box.cell (j := 0) rfl
  have HC := hide (lc_eval HLC.out HSI.out HPS.out HSH.out HQL.out.tl.rq1 HI.out.ins HF.out (by have := HQ4.out; have := HR.out.len; omega))
  go_upto_region 13 with (go_at_call 19; refine HC.out.mono ?_; rintro e y12 ⟨v, rfl, h1, h2, h3, hb⟩; have HLC := hide (HLC.out.below hb); have HQL := hide (HQL.out.below hb); have HI := hide (HI.out.below hb); have HUu := hide (⟨HUu.out.1.mono hb, HUu.out.2⟩ : RL.In y12 u ∧ _); have HUv := hide (And.intro h1 (And.intro h2 (show Srt v from h3))); clear h1 h2 h3 hb HC)
  clear s0 p0 p1 p2
  clear i0
  have s0 := HLC.out.bs.cell (j := 0) rfl
  have d0 := HQL.out.box1.cell (j := 0) rfl
  have d1 := HQL.out.box1.cell (j := 1) rfl
  have d2 := HQL.out.box1.cell (j := 2) rfl
  have i0 := HI.out.box.cell (j := 0) rfl
  have HC := hide (lc_eval HLC.out HSI.out HPS.out HSH.out HQL.out.rq1 HI.out.ins HF.out (HD5.out))
  go_upto_region 14 with (go_at_call 19; refine HC.out.mono ?_; rintro e y13 ⟨t, rfl, h1, h2, h3, hb⟩; have HLC := hide (HLC.out.below hb); have HQL := hide (HQL.out.below hb); have HI := hide (HI.out.below hb); have HUu := hide (⟨HUu.out.1.mono hb, HUu.out.2⟩ : RL.In y13 u ∧ _); have HUv := hide (⟨HUv.out.1.mono hb, HUv.out.2⟩ : RL.In y13 v ∧ _); have HUt := hide (And.intro h1 (And.intro h2 (show Srt t from h3))); clear h1 h2 h3 hb HC)
  clear s0 d0 d1 d2
  clear i0
  have HC := hide (srows_yes u v y13 HUu.out.1 HUv.out.1 (same_rows HLC.out.rq HF.out HR.out.emb HR.out.len HUu.out.2.1 HUv.out.2.1 HUu.out.2.2 HUv.out.2.2))
  have HC2 := hide (fun (h : c8 = true) (z : World) (hz : Below y13.heap.size y13 z) => srows_yes v t z (HUv.out.1.mono hz) (HUt.out.1.mono hz) (same_rows HQL.out.tl.rq1 HF.out (H8.out.1 h).2.2 (H8.out.1 h).2.1 HUv.out.2.1 HUt.out.2.1 HUv.out.2.2 HUt.out.2.2))
  have HLN := hide HLC.out.rq.len.1
  have HAO := hide (HLC.out.rq.qi.row.2.2.1 HLN.out).1
  clear HUu HUv HUt HR HF HI H8
  cases c8 with
  | false =>
    clear HC2
    go_upto_region 16 with (go_at_call 23; refine HC.out.mono ?_; rintro e y14 ⟨rfl, hb⟩; have HLC := hide (HLC.out.below hb); clear hb HC HQL)
    refine cb_reg16 (ga := qb) (q := q) (l := q.lits[0]'HLN.out) (W := y14) (hide HLC.out.bq) (hide (HLC.out.rq.qi.le (Nat.zero_le _))) (hide ⟨HLN.out, by have := HQ4.out; omega⟩) (hide rfl) HAO ?hc ?hend
    case hc => rfl
    case hend =>
    intro b8 g11 c11 g12 c12 b13 x hb hown hbox hge
    have h := twice_at hb HLC.out.rq HLC.out.lt (by have := HQ4.out; omega) (List.getElem_mem HLN.out) hown hbox hge rfl
    clear hb hown hbox hge
    generalize ((x.setCell ⟨b13, 0, none⟩ (.int .i64 (q.vars : Nat))).setCell ⟨b13, 1, none⟩ (.slice (some ⟨g12, 0, none⟩) (1 + q.lits.length) c12)).setCell ⟨b13, 2, none⟩ (.slice q.head.h.ao q.head.l.length q.head.h.cap) = z at h ⊢
    obtain ⟨T, hT1, hT2, hT3, hT4⟩ : ∃ T : Cq, Box z b13 (qcells T) 32 ∧ RightQ z (colT s) T (w.heap.size + 1) ∧ T.lits.length = q.lits.length + 1 ∧ Hom T.cj q.cj := ⟨_, h.2.1, h.2.2, rfl, twice_hom (List.getElem_mem HLN.out)⟩
    have HLC := hide (HLC.out.below h.1)
    have HTB := hide hT1
    have HTR := hide hT2
    have HTL := hide hT3
    have HTH := hide hT4
    clear h hT1 hT2 hT3 hT4
    have s0 := HLC.out.bs.cell (j := 0) rfl
    have q0 := HLC.out.bq.cell (j := 0) rfl
    have q1 := HLC.out.bq.cell (j := 1) rfl
    have q2 := HLC.out.bq.cell (j := 2) rfl
    have t0 := HTB.out.cell (j := 0) rfl
    have t1 := HTB.out.cell (j := 1) rfl
    have t2 := HTB.out.cell (j := 2) rfl
    have HC := hide (lc_alike HLC.out HSI.out HPS.out HSH.out HLC.out.rq HTR.out)
    go_upto_region 18 with (go_at_call 15; refine HC.out.mono ?_; rintro e y17 ⟨c17, rfl, hc, hb⟩; have HLC := hide (HLC.out.below hb); have HTB := hide (HTB.out.below hb); have HTR := hide (HTR.out.mono hb); have hc17 : c17 = false := Bool.eq_false_iff.2 (fun h => by have := (hc.1 h).2.1; have := HTL.out; omega); clear hc; subst hc17; clear hb HC)
    clear s0 q0 q1 q2 t0 t1 t2
    have s0 := HLC.out.bs.cell (j := 0) rfl
    have q0 := HLC.out.bq.cell (j := 0) rfl
    have q1 := HLC.out.bq.cell (j := 1) rfl
    have q2 := HLC.out.bq.cell (j := 2) rfl
    have t0 := HTB.out.cell (j := 0) rfl
    have t1 := HTB.out.cell (j := 1) rfl
    have t2 := HTB.out.cell (j := 2) rfl
    have HC := hide (lc_contains HLC.out HSI.out HPS.out HSH.out HLC.out.rq HTR.out)
    go_upto_region 19 with (go_at_call 13; refine HC.out.mono ?_; rintro e y18 ⟨c18, rfl, hc, hb⟩; have HLC := hide (HLC.out.below hb); obtain rfl : c18 = true := hc.2 HTH.out; clear hc hb HC)
    clear s0 q0 q1 q2 t0 t1 t2
    have HC := hide (awake_any y18 (ShX HSH.out HLC.out.bel))
    have HW := hide HLC.out.bel
    clear HTB HTR HTL HTH HLC HSI HPS HSH HQ4 HAO
    go_wp2_with (go_at_call 16; refine HC.out.mono ?_; rintro e y19 ⟨rfl, hb⟩; have HE := hide hb; clear hb HC)
    go_ret
    exact ⟨rfl, bel_trans HW.out HE.out⟩
  | true =>
    have HC3 := hide (HC2.out rfl)
    clear HC2
    go_upto_region 16 with (first | (go_at_call 23; refine HC.out.mono ?_; rintro e y14 ⟨rfl, hb⟩; have HLC := hide (HLC.out.below hb); have HC4 := hide (HC3.out _ hb); clear hb HC HQL HC3) | (go_at_call 23; refine HC4.out.mono ?_; rintro e y15 ⟨rfl, hb⟩; have HLC := hide (HLC.out.below hb); clear hb HC4))
    refine cb_reg16 (ga := qb) (q := q) (l := q.lits[0]'HLN.out) (W := y15) (hide HLC.out.bq) (hide (HLC.out.rq.qi.le (Nat.zero_le _))) (hide ⟨HLN.out, by have := HQ4.out; omega⟩) (hide rfl) HAO ?hc ?hend
    case hc => rfl
    case hend =>
    intro b8 g11 c11 g12 c12 b13 x hb hown hbox hge
    have h := twice_at hb HLC.out.rq HLC.out.lt (by have := HQ4.out; omega) (List.getElem_mem HLN.out) hown hbox hge rfl
    clear hb hown hbox hge
    generalize ((x.setCell ⟨b13, 0, none⟩ (.int .i64 (q.vars : Nat))).setCell ⟨b13, 1, none⟩ (.slice (some ⟨g12, 0, none⟩) (1 + q.lits.length) c12)).setCell ⟨b13, 2, none⟩ (.slice q.head.h.ao q.head.l.length q.head.h.cap) = z at h ⊢
    obtain ⟨T, hT1, hT2, hT3, hT4⟩ : ∃ T : Cq, Box z b13 (qcells T) 32 ∧ RightQ z (colT s) T (w.heap.size + 1) ∧ T.lits.length = q.lits.length + 1 ∧ Hom T.cj q.cj := ⟨_, h.2.1, h.2.2, rfl, twice_hom (List.getElem_mem HLN.out)⟩
    have HLC := hide (HLC.out.below h.1)
    have HTB := hide hT1
    have HTR := hide hT2
    have HTL := hide hT3
    have HTH := hide hT4
    clear h hT1 hT2 hT3 hT4
    have s0 := HLC.out.bs.cell (j := 0) rfl
    have q0 := HLC.out.bq.cell (j := 0) rfl
    have q1 := HLC.out.bq.cell (j := 1) rfl
    have q2 := HLC.out.bq.cell (j := 2) rfl
    have t0 := HTB.out.cell (j := 0) rfl
    have t1 := HTB.out.cell (j := 1) rfl
    have t2 := HTB.out.cell (j := 2) rfl
    have HC := hide (lc_alike HLC.out HSI.out HPS.out HSH.out HLC.out.rq HTR.out)
    go_upto_region 18 with (go_at_call 15; refine HC.out.mono ?_; rintro e y17 ⟨c17, rfl, hc, hb⟩; have HLC := hide (HLC.out.below hb); have HTB := hide (HTB.out.below hb); have HTR := hide (HTR.out.mono hb); have hc17 : c17 = false := Bool.eq_false_iff.2 (fun h => by have := (hc.1 h).2.1; have := HTL.out; omega); clear hc; subst hc17; clear hb HC)
    clear s0 q0 q1 q2 t0 t1 t2
    have s0 := HLC.out.bs.cell (j := 0) rfl
    have q0 := HLC.out.bq.cell (j := 0) rfl
    have q1 := HLC.out.bq.cell (j := 1) rfl
    have q2 := HLC.out.bq.cell (j := 2) rfl
    have t0 := HTB.out.cell (j := 0) rfl
    have t1 := HTB.out.cell (j := 1) rfl
    have t2 := HTB.out.cell (j := 2) rfl
    have HC := hide (lc_contains HLC.out HSI.out HPS.out HSH.out HLC.out.rq HTR.out)
    go_upto_region 19 with (go_at_call 13; refine HC.out.mono ?_; rintro e y18 ⟨c18, rfl, hc, hb⟩; have HLC := hide (HLC.out.below hb); obtain rfl : c18 = true := hc.2 HTH.out; clear hc hb HC)
    clear s0 q0 q1 q2 t0 t1 t2
    have HC := hide (awake_any y18 (ShX HSH.out HLC.out.bel))
    have HW := hide HLC.out.bel
    clear HTB HTR HTL HTH HLC HSI HPS HSH HQ4 HAO
    go_wp2_with (go_at_call 16; refine HC.out.mono ?_; rintro e y19 ⟨rfl, hb⟩; have HE := hide hb; clear hb HC)
    go_ret
    exact ⟨rfl, bel_trans HW.out HE.out⟩
end Go.Proofs.YtiijaaohphokcaaGreatDoor

/- What reads as a Go value is one of the trees of the data text, and lies in the world. -/
namespace Go.Proofs.YtiijaaohphokcaaGreatDoor
open Go.RowKit Go.ChangeShapes Go.WideShapes
section
variable {H : Type} {enc : TypeId × Value → H} {w : World} {sp : Nat → Bool} {hd : Bool}
theorem pick_list {α : Type} {p : Nat → α → Prop} : ∀ (n : Nat), (∀ i, i < n → ∃ a, p i a) → ∃ xs : List α, xs.length = n ∧ ∀ i (h : i < xs.length), p i xs[i]
  | 0, _ => ⟨[], rfl, fun i h => absurd h (by simp)⟩
  | n + 1, h => by
    obtain ⟨xs, hl, hx⟩ := pick_list n (fun i hi => h i (by omega))
    obtain ⟨a, ha⟩ := h n (by omega)
    refine ⟨xs ++ [a], by simp [hl], fun i hi => ?_⟩
    by_cases e : i < xs.length
    · rw [List.getElem_append_left e]; exact hx i e
    · have hin : i = xs.length := by simp at hi; omega
      subst hin
      rw [List.getElem_append_right (by omega)]
      simpa [hl] using ha
theorem open_row {P : Program} {α : Type} {t e : TypeId} {size fuel : Nat} {cs : List Value} {x : DataW H × List MemPlace} (cells : α → List Value) (good : α → Prop)
    (ht : P.underlying t = some (.slice e)) (hc : P.cellsOf e = size) (hpos : 0 < size)
    (hel : ∀ fuel' cs' x', fuel' < fuel → DataW.trod enc P w 0 sp hd fuel' e cs' = some x' → ∃ a : α, cs' = cells a ∧ good a)
    (h : DataW.trod enc P w 0 sp hd fuel t cs = some x) : ∃ (h : Hd) (xs : List α), cs = [.slice h.ao xs.length h.cap] ∧ Row w size cells h xs ∧ ∀ a ∈ xs, good a := by
  rcases DataW.trod_slice ht h with ⟨rfl, _⟩ | ⟨a, len, cap, elems, rest, n, hn, rfl, _, _, hl, hm, hlen, hall, _⟩
  · exact ⟨nilHd, [], rfl, Row.nil _ _ _, fun a ha => by cases ha⟩
  · rw [hc] at hall
    have key : ∀ i, i < len → ∃ b : α, (∀ j v, (cells b)[j]? = some v → w.cell? ((a.add (i * size)).add j) = some v) ∧ (cells b).length = size ∧ good b := by
      intro i hi
      have h1 := hall i hi
      rw [List.getElem?_eq_getElem (by omega)] at h1
      obtain ⟨cs', hcs, htr⟩ := Option.bind_eq_some_iff.1 h1
      obtain ⟨b, rfl, hb⟩ := hel n cs' _ (by omega) htr
      obtain ⟨_, hcl, hcell⟩ := World.cells?_some hcs
      refine ⟨b, fun j v hv => ?_, hcl, hb⟩
      have hj : j < size := by rw [← hcl]; exact (List.getElem?_eq_some_iff.1 hv).1
      rw [hcell j hj]; exact hv
    obtain ⟨xs, hxl, hx⟩ := pick_list len key
    subst hxl
    obtain ⟨b, o, spot⟩ := a
    have hspot : 0 < xs.length → spot = none ∧ b < w.heap.size := by
      intro hp
      obtain ⟨g1, g2, _⟩ := hx 0 hp
      have hv : (cells (xs[0]'hp))[0]? = some ((cells (xs[0]'hp))[0]'(by omega)) := List.getElem?_eq_getElem (by omega)
      have := g1 0 _ hv
      simp only [Nat.zero_mul] at this
      have h0 : ((⟨b, o, spot⟩ : Addr).add 0).add 0 = ⟨b, o, spot⟩ := by simp [Addr.add]
      rw [h0] at this
      have hs := World.cell?_spot this
      have hs' : spot = none := by simpa using hs
      subst hs'
      exact ⟨rfl, World.block_lt_of_cell? w ⟨b, o, none⟩ this⟩
    refine ⟨⟨some ⟨b, o, spot⟩, cap⟩, xs, rfl, ⟨hl, hm, fun hp => ?_, fun i hi j v hv => ?_⟩, fun a ha => ?_⟩
    · obtain ⟨rfl, hlt⟩ := hspot hp
      exact ⟨rfl, hlt⟩
    · obtain ⟨rfl, hlt⟩ := hspot (by omega)
      have := (hx i hi).1 j v hv
      rw [Addr.add_lit, Addr.add_lit] at this
      exact this
    · obtain ⟨i, hi, rfl⟩ := List.getElem_of_mem ha
      exact (hx i hi).2.2
theorem int64_of {n : Int} (h : (Lit.int .i64 n).wf = true) : int64 n := by
  exact bounds_i64 h
theorem cells_of_int : Tryz.prog.cellsOf 3 = 1 := by kernel_rfl
theorem open_il {fuel : Nat} {cs : List Value} {x : DataW H × List MemPlace} (h : DataW.trod enc Tryz.prog w 0 sp hd fuel 22 cs = some x) : ∃ r : IL, cs = r.cells ∧ r.In w := by
  obtain ⟨hd, xs, rfl, hr, hg⟩ := open_row icells int64 Tryz.underlying22 cells_of_int (by decide) (fun f cs x _ h => by obtain ⟨n, rfl, _, hw⟩ := DataW.trod_int Tryz.underlying3 h; exact ⟨n, rfl, int64_of hw⟩) h
  exact ⟨⟨hd, xs⟩, rfl, hr, hg⟩
end
end Go.Proofs.YtiijaaohphokcaaGreatDoor

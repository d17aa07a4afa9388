/- querylabfield.Conjunctive: its walk. -/
import Derived.Test.YtiijaaohphokcaaGreatDoorG26
namespace Go.Proofs.YtiijaaohphokcaaGreatDoor
open Go.RowKit
def CjPost (w : World) (b : Nat) (L : IL) (a : Nat) (T : List (List Int)) (n : Nat) (e : Ending) (w' : World) : Prop := ∃ (q : Cq) (a' : Nat), e = .returned (.agg #[.int .i64 (q.vars : Nat), .slice q.lh.ao q.lits.length q.lh.cap, .slice q.head.h.ao q.head.l.length q.head.h.cap]) ∧ RightQ w' T q w.heap.size ∧ TapeIn w' b L a' ∧ a' ≤ a + 100 ∧ w.grownBy w' (some b) ∧ q.lits.length ≤ n
theorem CB.rebase {w z : World} {s : Sch} {b a B1 B2 : Nat} {L : IL} {ts : List Int} {lv ql : Value} {lits : List Li} (h : CB w s b L a ts lv lits ql B1 [] (.slice none 0 0) z) (hB : z.heap.size ≤ B2) : CB w s b L a ts lv lits ql B2 [] (.slice none 0 0) z := ⟨h.ts, h.bs, h.br, h.ol, fun l hl => ⟨(h.sl l hl).row, (h.sl l hl).ty, (h.sl l hl).ge, Nat.lt_of_lt_of_le (h.sl l hl).ty.lt hB⟩, World.ownsRow_nil _ _ _ _, Nat.le_trans (Nat.le_of_lt h.bs.lt) hB⟩
theorem colT_at {s : Sch} {t : Nat} (ht : t < s.tabs.length) : (colT s)[t]? = some ((s.tabs[t]).cols.map Col.typ) := by
  unfold colT
  rw [List.getElem?_map, List.getElem?_eq_getElem ht]
  rfl
theorem own_rowE {α : Type} {w : World} {base : Nat} {e : TypeId} {size : Nat} {v : Value} {cells : α → List Value} {xs : List α} (hs : ∀ x, (cells x).length = size) (hpos : 0 < size) (h : w.ownsRow base e size v xs.length (xs.flatMap cells)) : ∃ hd : Hd, v = .slice hd.ao xs.length hd.cap ∧ Row w size cells hd xs ∧ (0 < xs.length → base ≤ hd.b ∧ v.ownBlock = some hd.b) := by
  obtain ⟨hd, hv, hr⟩ := own_row hs hpos h
  refine ⟨hd, hv, hr, fun hp => ?_⟩
  have h2 : hd.ao = some ⟨hd.b, hd.o, none⟩ := (hr.2.2.1 hp).1
  have h3 : v.ownBlock = some hd.b := by rw [hv, h2]; rfl
  exact ⟨(h.lt _ h3).1, h3⟩
theorem cj_done {w wr : World} {s : Sch} {b a B1 nv : Nat} {L : IL} {ts : List Int} {lv ql cl : Value} {lits : List Li} {cur : List (Tm V)} {T : List (List Int)} {ty : List Int} (h : HP w s b L a ts lv lits ql B1 cur cl nv wr) (hd : Dat T ts lits ty []) (hh : HdOk ts.length cur) (hts : ts.length ≤ 1000) :
    ∃ qhd chd : Hd, ql = .slice qhd.ao lits.length qhd.cap ∧ cl = .slice chd.ao cur.length chd.cap ∧ ∀ Y : World, (∀ g, g ≠ w.heap.size + 1 → g < wr.heap.size → Y.heap[g]? = wr.heap[g]?) → wr.heap.size ≤ Y.heap.size → Cq.In Y w.heap.size ⟨ts.length, qhd, lits, ⟨chd, cur⟩⟩ := by
  have hbr := TyAt.box h.cb.br
  obtain ⟨qhd, e1, r1, o1⟩ := own_rowE (cells := Li.cells) (fun _ => rfl) (by decide) h.cb.ol
  obtain ⟨chd, e2, r2, o2⟩ := own_rowE (cells := Tm.cells) Tm.cells_len (by decide) h.cb.oc
  have hlo := h.cb.lo
  refine ⟨qhd, chd, e1, e2, fun Y hk hs => ?_⟩
  have key : ∀ g T, TyAt wr g T → 32 ≠ T → Y.heap[g]? = wr.heap[g]? := fun g T ht hne => hk g (fun e => ht.ne hbr (fun e2 => hne e2.symm) e) ht.lt
  have hrow : ∀ {α : Type} {size : Nat} {cells : α → List Value} {hd : Hd} {xs : List α}, Row wr size cells hd xs → (0 < xs.length → Y.heap[hd.b]? = wr.heap[hd.b]?) → Row Y size cells hd xs := fun {α size cells hd xs} hr hb => by
    by_cases hp : 0 < xs.length
    · exact row_eqb hr hs (hb hp)
    · have : xs = [] := List.eq_nil_of_length_eq_zero (by omega)
      subst this
      exact ⟨hr.1, hr.2.1, fun h => absurd h (by simp), fun i hi => absurd hi (by simp)⟩
  refine ⟨hrow r1 (fun hp => key _ _ (TyAt.own h.cb.ol (o1 hp).2) (by decide)), fun hp => (o1 hp).1, fun l hl => ?_, hd.tb, ⟨hrow r2 (fun hp => key _ _ (TyAt.own h.cb.oc (o2 hp).2) (by decide)), fun t ht => (hh t ht).2, fun hp => Nat.le_trans hlo (o2 hp).1⟩, hts⟩
  have h3 := h.cb.sl l hl
  exact ⟨row_eqb h3.row hs (key _ _ h3.ty (by decide)), hd.wf l hl, fun _ => h3.ge⟩
abbrev cjX (w : World) (s : Sch) : World := (((w.alloc (.cells #[.slice s.th.ao s.tabs.length s.th.cap] 27)).alloc (.cells #[.int .i64 0, .slice none 0 0, .slice none 0 0] 32)).alloc (.cells #[.int .i64 0, .slice none 0 0, .slice none 0 0] 32)).alloc (.cells #[.slice none 0 0] 22)
theorem cb_start (w : World) (s : Sch) (b : Nat) (L : IL) (a : Nat) (ht : TapeIn w b L a) : CB w s b L a [] (.slice none 0 0) [] (.slice none 0 0) (w.heap.size + 1 + 1 + 1 + 1) [] (.slice none 0 0) (cjX w s) ∧ Box (cjX w s) (w.heap.size + 1 + 1) #[.int .i64 0, .slice none 0 0, .slice none 0 0] 32 ∧ (cjX w s).heap.size = w.heap.size + 1 + 1 + 1 + 1 := by
  unfold cjX
  have b1 := Box.new w #[.slice s.th.ao s.tabs.length s.th.cap] 27
  have l1 := belA (w := w) (.cells #[.slice s.th.ao s.tabs.length s.th.cap] 27)
  have s1 := World.size_alloc w (.cells #[.slice s.th.ao s.tabs.length s.th.cap] 27)
  generalize w.alloc (.cells #[.slice s.th.ao s.tabs.length s.th.cap] 27) = w1 at *
  have b2 := Box.new w1 #[.int .i64 0, .slice none 0 0, .slice none 0 0] 32
  have l2 := belA (w := w1) (.cells #[.int .i64 0, .slice none 0 0, .slice none 0 0] 32)
  have s2 := World.size_alloc w1 (.cells #[.int .i64 0, .slice none 0 0, .slice none 0 0] 32)
  generalize w1.alloc (.cells #[.int .i64 0, .slice none 0 0, .slice none 0 0] 32) = w2 at *
  have b3 := Box.new w2 #[.int .i64 0, .slice none 0 0, .slice none 0 0] 32
  have l3 := belA (w := w2) (.cells #[.int .i64 0, .slice none 0 0, .slice none 0 0] 32)
  have s3 := World.size_alloc w2 (.cells #[.int .i64 0, .slice none 0 0, .slice none 0 0] 32)
  generalize w2.alloc (.cells #[.int .i64 0, .slice none 0 0, .slice none 0 0] 32) = w3 at *
  have b4 := Box.new w3 #[.slice none 0 0] 22
  have l4 := belA (w := w3) (.cells #[.slice none 0 0] 22)
  have s4 := World.size_alloc w3 (.cells #[.slice none 0 0] 22)
  generalize w3.alloc (.cells #[.slice none 0 0] 22) = w4 at *
  rw [s3, s2, s1] at b4 s4
  rw [s2, s1] at b3
  rw [s1] at b2
  have hb := bel_trans l1 (bel_trans l2 (bel_trans l3 l4))
  exact ⟨⟨⟨only_below hb _, Nat.le_refl _, ht.low, ht.mono hb, b4, by omega, World.ownsRow_nil _ _ _ _, fun _ h => absurd h List.not_mem_nil⟩, ((b1.below l2).below l3).below l4, (b2.below l3).below l4, World.ownsRow_nil _ _ _ _, fun _ h => absurd h List.not_mem_nil, World.ownsRow_nil _ _ _ _, by omega⟩, b3.below l4, s4⟩
set_option maxRecDepth 100000 in
set_option maxHeartbeats 16000000 in
theorem conj_any (s : Sch) (w : World) (b : Nat) (L : IL) (a n : Nat) (ht : TapeIn w b L a) (ha : a ≤ 4611686018427380000) (hsi : ∀ z, w.grownBy z (some b) → s.In z) (hp : PSch s) (h3 : ∀ t ∈ s.tabs, t.cols.length ≤ 3) (hn : 1 ≤ n ∧ n ≤ 4) :
    Calls Tryz.prog 9 #[.pointer (some ⟨b, 0, none⟩), .agg #[.slice s.th.ao s.tabs.length s.th.cap], .int .i64 (n : Nat)] w (CjPost w b L a (colT s) n) := by
  obtain ⟨hcb, hbq, hsz⟩ := cb_start w s b L a ht
  have HCB := hide hcb
  have HBQ := hide hbq
  have HSZ := hide hsz
  have HSI := hide hsi
  have HPS := hide hp
  have H3 := hide h3
  have hpa := pos_le L a
  have hr := fmod_ok (x := rawAt L a) (n := ((n : Nat) : Int) - 1 + 1) (by omega)
  obtain ⟨n0, hn0⟩ : ∃ m : Nat, (1 : Int) + nAt L a ((n : Int) - 1 + 1) = (m : Int) := ⟨(1 + nAt L a ((n : Int) - 1 + 1)).toNat, by unfold nAt; omega⟩
  have hnr : 1 ≤ n0 ∧ n0 ≤ n := by unfold nAt at hn0; omega
  have HN0 := hide hn0
  clear ht hsi hp h3 hcb hbq hsz hr hn0
  go_enter Tryz.func9, Tryz.ntmps9
  go_upto_region 3 with fail
  unfold cjX at HCB HBQ HSZ
  generalize (((w.alloc (.cells #[.slice s.th.ao s.tabs.length s.th.cap] 27)).alloc (.cells #[.int .i64 0, .slice none 0 0, .slice none 0 0] 32)).alloc (.cells #[.int .i64 0, .slice none 0 0, .slice none 0 0] 32)).alloc (.cells #[.slice none 0 0] 22) = X at *
  go_wp2_with (go_at_call 38; refine (range_any _ b a L 1 (n : Nat) HCB.out.ts.tp (by omega) (by omega)).mono ?_; rintro e y ⟨rfl, h1, h2⟩; rw [HN0.out]; have HC1 := hide (HCB.out.tape h2 h1); have HB1 := hide (HBQ.out.grown h2 (by have := HCB.out.bw; intro e; injection e with e; omega)); have HS1 := hide h2.size; clear h1 h2)
  have HWN := hide (show w.heap.size + 1 + 1 + 1 + 1 ≤ y.heap.size from by have h1 := HSZ.out; have h2 := HS1.out; omega)
  have HD0 := hide (Dat.start (colT s) [])
  have HA0 := hide (show posAt L a ≤ a + 1 + 12 * 0 from by omega)
  clear HCB HBQ HSZ HS1
  go_loopw [9] (fun i wr => ∃ (k : Nat) (a1 : Nat) (ts : List Int) (lv : Value) (lits : List Li) (ql : Value) (B1 : Nat), i = .int .i64 (k : Nat) ∧ k + lits.length = n0 ∧ Hid (CB w s b L a1 ts lv lits ql B1 [] (.slice none 0 0) wr) ∧ Hid (Box wr (w.heap.size + 1 + 1) #[.int .i64 0, ql, .slice none 0 0] 32) ∧ Hid (Dat (colT s) ts lits [] []) ∧ Hid (a1 ≤ a + 1 + 12 * lits.length) ∧ Hid (w.heap.size + 1 + 1 + 1 + 1 ≤ wr.heap.size)) (fun i _ => (intOf i).toNat)
  case atStart => exact ⟨n0, _, [], _, [], _, _, rfl, rfl, HC1.out, HB1.out, HD0.out, HA0.out, HWN.out⟩
  clear HC1 HB1 HD0 HA0 HWN
  case round =>
    obtain ⟨k, a1, ts, lv, lits, ql, B1, rfl, hk, HC, HB, HD, HA, HWN⟩ := hrel
    by_cases hkp : 0 < k
    · have hkpi : (0 : Int) < (k : Int) := by omega
      have hlt4 : lits.length ≤ 3 := by omega
      have hin := HSI.out _ HC.out.ts.gb
      have htn := hin.rt.len
      have ht1 := HPS.out.n1
      have ht6 := HPS.out.n6
      have HAB := hide (show a1 ≤ 4611686018427381000 from by have := HA.out; omega)
      have hr := fmod_ok (x := rawAt L a1) (n := (s.tabs.length : Int)) (by omega)
      obtain ⟨tb, htb, htbn⟩ : ∃ t : Nat, t < s.tabs.length ∧ nAt L a1 (s.tabs.length : Int) = (t : Int) := ⟨(nAt L a1 (s.tabs.length : Int)).toNat, by unfold nAt; omega, by unfold nAt; omega⟩
      have HTB := hide htbn
      clear hr htbn hin
      have y0 : wr.cell? ⟨w.heap.size, 0, none⟩ = some (.slice s.th.ao s.tabs.length s.th.cap) := HC.out.bs.cell rfl
      have h64 : int64 (s.tabs.length : Int) := by constructor <;> omega
      go_upto_region 7 with (go_at_call 10; refine (n_any _ b a1 L s.tabs.length HC.out.ts.tp (by have := HAB.out; omega) h64).mono ?_; rintro e y1 ⟨rfl, h1, h2⟩; rw [HTB.out]; have HC2 := hide (HC.out.tape h2 h1); have HB2 := hide (HB.out.grown h2 (by have := HC.out.bw; intro e; injection e with e; omega)); have HW2 := hide (Nat.le_trans HWN.out h2.size); clear h1 h2 y0)
      obtain ⟨nm, ch, cols, ph, ht2, _, hpc⟩ := HPS.out.pl _ (List.getElem_mem htb)
      have hc3 : cols.length ≤ 3 := by have := H3.out _ (List.getElem_mem htb); rw [ht2] at this; exact this
      have HTY := hide (show (colT s)[tb]? = some (cols.map Col.typ) from by rw [colT_at htb, ht2])
      have HPC := hide hpc
      have HSR := hide (fun z (hz : w.grownBy z (some b)) => And.intro ((HSI.out z hz).rt.ix htb Tryz.underlying25 sz22) (And.intro (tab_at (HSI.out z hz).rt htb) ((HSI.out z hz).rt.blk htb)))
      have HTI := hide (fun z (hz : w.grownBy z (some b)) => (HSI.out z hz).ts _ (List.getElem_mem htb))
      rw [ht2] at HSR HTI
      have HTBL := hide htb
      clear ht2 hpc htb
      obtain ⟨V, hV⟩ : ∃ V, y1.alloc (.cells #[.int .i64 (tb : Nat), .slice none 0 0] 56) = V := ⟨_, rfl⟩
      obtain ⟨hvb, hvl⟩ := box1X hV
      have HLP := hide (show LP w s b L (posAt L a1) ts lv lits ql y1.heap.size [] (.slice none 0 0) y1.heap.size tb V from
        ⟨(HC2.out.rebase (Nat.le_refl _)).below hvl, HB2.out.below hvl, hvb, fun e => by have := (HC2.out.ol.lt _ e).2; omega, by have := HW2.out; omega⟩)
      have HVS := hide (show y1.heap.size < V.heap.size from hvb.lt)
      rw [hV]
      clear hV hvb hvl HC2 HB2
      have v0 : V.cell? ⟨w.heap.size, 0, none⟩ = some (.slice s.th.ao s.tabs.length s.th.cap) := HLP.out.cb.bs.cell rfl
      have v1 : V.cell? ⟨y1.heap.size, 0, none⟩ = some (.int .i64 (tb : Nat)) := HLP.out.bl.cell rfl
      have v2 := (HSR.out V HLP.out.cb.ts.gb).2.1.2.1
      have hix := (HSR.out V HLP.out.cb.ts.gb).1
      have hbk := (HSR.out V HLP.out.cb.ts.gb).2.2
      have hcn := (HTI.out V HLP.out.cb.ts.gb).rc.len
      have HD2 := hide (HD.out.ty (ty2 := cols.map Col.typ))
      have HA2 := hide (show posAt L a1 ≤ a + 1 + 12 * lits.length + 1 + 3 * 0 from by have h1 := HA.out; have h2 := pos_le L a1; omega)
      go_wp2
      clear v0 v1 v2 hix hbk HD HA HWN HC HB
      generalize y1.heap.size = lx at *
      go_loopw [35] (fun i wr => ∃ (j a2 : Nat) (ts2 : List Int) (lv2 : Value) (cur : List (Tm Go.Proofs.YtiijaaohphokcaaGreatDoor.V)) (cl : Value), j ≤ cols.length ∧ i = .int .i64 (j : Nat) ∧ cur.length = j ∧ Hid (LP w s b L a2 ts2 lv2 lits ql lx cur cl lx tb wr) ∧ Hid (Dat (colT s) ts2 lits (cols.map Col.typ) cur) ∧ Hid (a2 ≤ a + 1 + 12 * lits.length + 1 + 3 * j)) (fun i _ => cols.length - (intOf i).toNat)
      case atStart => exact ⟨0, _, ts, lv, [], _, Nat.zero_le _, rfl, rfl, HLP.out, HD2.out, HA2.out⟩
      clear HLP HD2 HA2
      case round =>
        obtain ⟨j, a2, ts2, lv2, cur, cl, hj, rfl, hcj, HLP, HD, HA⟩ := hrel
        by_cases hlt : j < cols.length
        · have hrc := (HTI.out _ HLP.out.cb.ts.gb).rc
          have hixc := hrc.ix hlt Tryz.underlying73 sz30
          obtain ⟨d0, d1, d2⟩ := col_at hrc hlt
          have hbc := hrc.blk hlt
          have HCT := hide (HPC.out.ty _ (List.getElem_mem hlt))
          have HTJ := hide (show (cols.map Col.typ)[cur.length]? = some (cols[j]).typ from by rw [hcj, List.getElem?_map, List.getElem?_eq_getElem hlt]; rfl)
          obtain ⟨c, hc⟩ : ∃ c, cols[j] = c := ⟨_, rfl⟩
          rw [hc] at d0 d1 d2 HCT HTJ
          clear hc hrc
          have HLT := hide hlt
          obtain ⟨VV, hVV⟩ : ∃ VV, wr.alloc (.cells #[.string c.name, .int .i64 c.typ, .bool c.nul] 72) = VV := ⟨_, rfl⟩
          obtain ⟨hvb, hvl⟩ := box1X hVV
          have hlw := HLP.out.bl.lt
          have hlo := HLP.out.lo
          have HLV := hide (HLP.out.below hvl)
          have HG := hide (show LG w s b L a2 ts2 lv2 lits ql lx cur cl lx tb wr.heap.size c false VV.drew from
            ⟨fun _ => ⟨HLV.out.below ((Below.refl _ _).drew), hvb.below ((Below.refl _ _).drew), by omega⟩, HLV.out.bl.below ((Below.refl _ _).drew), hvb.below ((Below.refl _ _).drew)⟩)
          have HAJ := hide (show a2 ≤ 4611686018427387000 from by have := HA.out; omega)
          have HTSJ := hide (show ts2.length ≤ 900 from by have := HD.out.ln; omega)
          have HCUJ := hide (show cur.length ≤ 1000 from by omega)
          clear hvb hvl hlw hlo
          go_wp2
          try rw [hVV]
          clear hVV hixc d0 d1 d2 hbc
          refine cj_reg10 (w := w) (sc := s) (b := b) (a := a2) (B1 := lx) (lx := lx) (tab := tb) (cx := wr.heap.size) (L := L) (ts := ts2) (lv := lv2) (ql := ql) (cl := cl) (lits := lits) (cur := cur) (co := c) HCT HAJ HTSJ HCUJ (hide ⟨Nat.le_succ _⟩) HG ?hc ?hend
          case hc => rfl
          case hend =>
            intro t5 b6 t6 a3 ts3 lv3 g4 cap4 x3 hx3 ha3 htr hok hwf
            have HX := hide hx3
            have HD3 := hide (HD.out.slot HTJ.out htr hok hwf)
            have HA3 := hide (show a3 ≤ a + 1 + 12 * lits.length + 1 + 3 * (j + 1) from by have := HA.out; omega)
            clear hx3 ha3 htr hok hwf HG HLV HLP HD HA
            go_wp2
            go_roundw
            case rel => exact ⟨j + 1, a3, ts3, lv3, cur ++ [t6], _, HLT.out, by go_num, by rw [List.length_append, hcj]; rfl, HX.out, HD3.out, HA3.out⟩
            case measure => have := HLT.out; simp [intOf]; omega
        · obtain rfl : j = cols.length := by omega
          obtain ⟨⟨ao, cp⟩, hclv, _⟩ := own_row (size := 4) (cells := Tm.cells) Tm.cells_len (by decide) HLP.out.cb.oc
          have hclv : cl = .slice ao cur.length cp := hclv
          subst hclv
          have hcl1 := HPC.out.l1
          have HCJ := hide hcj
          have hc4 : cur.length ≤ 3 := by omega
          have hc5 : 0 < cur.length := by omega
          clear hcj
          obtain ⟨i0, hi, hz0, hz1, hz2⟩ := info_parts info_lit
          have x0 : wr.cell? ⟨lx, 0, none⟩ = some (.int .i64 (tb : Nat)) := HLP.out.bl.cell rfl
          have x1 : wr.cell? ⟨lx, 1, none⟩ = some (.slice ao cur.length cp) := HLP.out.bl.cell rfl
          have x2 : wr.cell? ⟨w.heap.size + 1 + 1, 1, none⟩ = some ql := HLP.out.bq.cell rfl
          have HLPA := hide (HLP.out.below (belA (w := wr) (.cells #[.int .i64 (tb : Nat), .slice ao cur.length cp] 56)))
          have hwl : w.heap.size ≤ wr.heap.size + 1 := by have := HLP.out.bl.lt; have := HLP.out.lo; omega
          go_wp2_with (at_builtin; (refine wpList_append_own _ rfl _ _ 29 rfl w.heap.size 56 i0 (.agg #[.int .i64 0, .slice none 0 0]) 2 32 Tryz.underlying29 hi hz0 hz1 hz2 rfl (by decide) ql lits.length _ rfl HLPA.out.cb.ol ⟨wr.heap.size, 0, none⟩ 1 1 [.int .i64 (tb : Nat), .slice ao cur.length cp] rfl rfl ?c1 ?c2 ?c3 ?c4 ?c5 ?_))
          case c1 => exact new_cells (l := [_, _])
          case c2 => exact two_one rfl rfl
          case c3 => unfold maxLen; omega
          case c4 => omega
          case c5 => simp; omega
          intro v2 z2 hown hgr _
          obtain ⟨g4, cap4, rfl⟩ := ownsRow_succ hown
          have hcb2 := HLPA.out.cb.lit (l := ⟨tb, ⟨⟨ao, cp⟩, cur⟩⟩) hgr hown ⟨rfl, rfl, hc5⟩
          have hbq2 := HLPA.out.bq.grown hgr (fun e => HLPA.out.cb.ql_ne (TyAt.box HLPA.out.bq) (by decide) e.symm)
          have hwz : w.heap.size + 1 + 1 + 1 + 1 ≤ z2.heap.size := by have h1 := HLPA.out.lo; have h2 := HLPA.out.bl.lt; have h3 := hgr.size; omega
          have HB3 := hide (show Box (z2.setCell ⟨w.heap.size + 1 + 1, 1, none⟩ (.slice (some ⟨g4, 0, none⟩) (lits.length + 1) cap4)) (w.heap.size + 1 + 1) #[.int .i64 0, .slice (some ⟨g4, 0, none⟩) (lits.length + 1) cap4, .slice none 0 0] 32 from by
            have := hbq2.set 1 (.slice (some ⟨g4, 0, none⟩) (lits.length + 1) cap4)
            simpa only [List.setIfInBounds_toArray, List.set_cons_zero, List.set_cons_succ] using this)
          have HC3 := hide (hcb2.storeT (by omega) (by omega) (TyAt.box hbq2) (hcb2.ql_ne (TyAt.box hbq2) (by decide)) (by decide) (by decide) 1 (.slice (some ⟨g4, 0, none⟩) (lits.length + 1) cap4))
          have HD3 := hide ((HD.out.lit (hd := ⟨ao, cp⟩) HTY.out (by rw [List.length_map, HCJ.out]) (by omega) (by have := HTBL.out; omega)).ty (ty2 := []))
          have HA3 := hide (show a2 ≤ a + 1 + 12 * (lits.length + 1) from by have := HA.out; omega)
          have HW3 := hide (show w.heap.size + 1 + 1 + 1 + 1 ≤ (z2.setCell ⟨w.heap.size + 1 + 1, 1, none⟩ (.slice (some ⟨g4, 0, none⟩) (lits.length + 1) cap4)).heap.size from by simpa using hwz)
          have q1 := hbq2.cell (j := 1) (v := ql) rfl
          have qf := hbq2.fr 1
          clear hown hgr hi hz0 hz1 hz2 hcb2 hbq2 hwz x0 x1 x2 HLPA HLP HD HA
          go_wp2
          go_roundw
          case rel => exact ⟨k - 1, a2, ts2, lv2, lits ++ [(⟨tb, ⟨⟨ao, cp⟩, cur⟩⟩ : Li)], _, _, by go_num, by rw [List.length_append]; simp only [List.length_cons, List.length_nil]; omega, HC3.out, HB3.out, HD3.out, by rw [List.length_append]; exact HA3.out, HW3.out⟩
          case measure => simp [intOf]; omega
    · obtain rfl : k = 0 := by omega
      have hl1 : 1 ≤ lits.length := by omega
      have hl4 : lits.length ≤ n := by omega
      obtain ⟨hd, hlv, _⟩ := HC.out.ts.il
      have HLV := hide hlv
      have x0 : wr.cell? ⟨w.heap.size + 1 + 1 + 1, 0, none⟩ = some (.slice hd.ao ts.length hd.cap) := by rw [← hlv]; exact HC.out.ts.bx.cell rfl
      have q0 : wr.cell? ⟨w.heap.size + 1 + 1, 0, none⟩ = some (.int .i64 0) := HB.out.cell rfl
      have qf := HB.out.fr 0
      have HC2 := hide (HC.out.storeT (by omega) (by omega) (TyAt.box HB.out) (HC.out.ql_ne (TyAt.box HB.out) (by decide)) (by decide) (by decide) 0 (.int .i64 (ts.length : Nat)))
      have HB2 := hide (show Box (wr.setCell ⟨w.heap.size + 1 + 1, 0, none⟩ (.int .i64 (ts.length : Nat))) (w.heap.size + 1 + 1) #[.int .i64 (ts.length : Nat), ql, .slice none 0 0] 32 from by
        have := HB.out.set 0 (.int .i64 (ts.length : Nat))
        simpa only [List.setIfInBounds_toArray, List.set_cons_zero, List.set_cons_succ] using this)
      have HTS := hide (show ts.length ≤ 900 from by have := HD.out.ln; simp only [List.length_nil] at this; omega)
      have hts := HTS.out
      have hpa1 := pos_le L a1
      have haa := HA.out
      have hr2 := fmod_ok (x := rawAt L a1) (n := (2 : Int) - 1 + 1) (by omega)
      obtain ⟨n1, hn1⟩ : ∃ m : Nat, (1 : Int) + nAt L a1 (2 - 1 + 1) = (m : Int) := ⟨(1 + nAt L a1 (2 - 1 + 1)).toNat, by unfold nAt; omega⟩
      have hnr1 : 1 ≤ n1 ∧ n1 ≤ 2 := by unfold nAt at hn1; omega
      have HN1 := hide hn1
      clear hlv hr2 hn1 HC HB
      go_wp2_with (go_at_call 38; refine (range_any _ b a1 L 1 2 HC2.out.ts.tp (by omega) (by omega)).mono ?_; rintro e y2 ⟨rfl, h1, h2⟩; rw [HN1.out]; have HC3 := hide (HC2.out.tape h2 h1); have HB3 := hide (HB2.out.grown h2 (by have := HC2.out.bw; intro e; injection e with e; omega)); clear h1 h2)
      have HH0 := hide (show HP w s b L (posAt L a1) ts lv lits ql y2.heap.size [] (.slice none 0 0) ts.length y2 from ⟨HC3.out.rebase (Nat.le_refl _), HB3.out, Nat.le_refl _⟩)
      generalize y2.heap.size = B2 at *
      clear HC3 HB3 HC2 HB2 x0 q0 qf
      go_loopw [13] (fun i wr => ∃ (k a2 : Nat) (cur : List (Tm Go.Proofs.YtiijaaohphokcaaGreatDoor.V)) (cl : Value), i = .int .i64 (k : Nat) ∧ k + cur.length = n1 ∧ Hid (HP w s b L a2 ts lv lits ql B2 cur cl ts.length wr) ∧ Hid (HdOk ts.length cur) ∧ Hid (a2 ≤ a1 + 1 + 2 * cur.length)) (fun i _ => (intOf i).toNat)
      case atStart => exact ⟨n1, _, [], _, rfl, rfl, HH0.out, fun _ h => absurd h List.not_mem_nil, show posAt L a1 ≤ a1 + 1 + 2 * 0 from by omega⟩
      clear HH0
      case round =>
        obtain ⟨k, a2, cur, cl, rfl, hk, HH, HHD, HA2⟩ := hrel
        have hpa2 := pos_le L a2
        have haa2 := HA2.out
        have hx0 : wr.cell? ⟨w.heap.size + 1 + 1 + 1, 0, none⟩ = some (.slice hd.ao ts.length hd.cap) := by rw [← HLV.out]; exact HH.out.cb.ts.bx.cell rfl
        by_cases hkp : 0 < k
        · have hkpi : (0 : Int) < (k : Int) := by omega
          have HK2 := hide (show cur.length ≤ 1 from by omega)
          have hcu := HK2.out
          by_cases ht0 : ts.length = 0
          · have h0b : ((ts.length : Int) == 0) = true := beq_iff_eq.2 (by omega)
            go_wp2
            have hm3 := fmod_ok (x := rawAt L (a2)) (n := 3) (by omega)
            obtain ⟨m, hm⟩ : ∃ m, nAt L (a2) 3 = m := ⟨_, rfl⟩
            have HM := hide hm
            have HMR := hide (show 0 ≤ m ∧ m < 3 from by rw [← hm]; exact hm3)
            clear hm3 hm
            refine cj_reg18 (w := w) (sc := s) (b := b) (a := a2) (B1 := B2) (nv := ts.length) (L := L) (ts := ts) (lv := lv) (ql := ql) (cl := cl) (lits := lits) (cur := cur) (m := m) (hide (by omega)) (hide (by omega)) (hide (fun _ x h => h.sz)) (hide ⟨by rw [if_neg (by decide)]; exact HH.out.below ((Below.refl _ _).drew)⟩) HM ?hc ?hend
            case hc => rfl
            case hend =>
              intro b6 g4 cap4 x3 hx3
              have HX := hide hx3
              have hnv := newI (n := m) (by have := HMR.out; omega)
              have HHD3 := hide (HHD.out.snoc (t := .c ⟨1, m, ⟨#[]⟩⟩) ⟨hnv.2.1, by show (1 : Int) ≠ 0; decide, by show (1 : Int) ≠ 2; decide⟩ hnv.2.2)
              have hpa3 := pos_le L (a2)
              clear hx3 hnv HH HHD
              go_wp2
              go_roundw
              case rel => exact ⟨k - 1, _, cur ++ [(.c ⟨1, m, ⟨#[]⟩⟩ : Tm Go.Proofs.YtiijaaohphokcaaGreatDoor.V)], _, by go_num, by rw [List.length_append]; simp only [List.length_cons, List.length_nil]; omega, HX.out, HHD3.out, by rw [List.length_append]; simp only [List.length_cons, List.length_nil]; show posAt L (a2) ≤ _; omega⟩
              case measure => simp [intOf]; omega
          · have h0b : ((ts.length : Int) == 0) = false := beq_eq_false_iff_ne.2 (by omega)
            obtain ⟨m6, hm6⟩ : ∃ m, nAt L a2 6 = m := ⟨_, rfl⟩
            have HM6 := hide hm6
            clear hm6
            by_cases h5 : m6 = 5
            · have hb5 : (m6 == 5) = true := beq_iff_eq.2 h5
              clear h5
              go_wp2_with (go_at_call 10; refine (n_any _ b a2 L 6 HH.out.cb.ts.tp (by omega) (by constructor <;> decide)).mono ?_; rintro e y3 ⟨rfl, h1, h2⟩; rw [HM6.out]; have HH2 := hide (HH.out.tape h2 h1); clear h1 h2)
              have hm3 := fmod_ok (x := rawAt L (posAt L a2)) (n := 3) (by omega)
              obtain ⟨m, hm⟩ : ∃ m, nAt L (posAt L a2) 3 = m := ⟨_, rfl⟩
              have HM := hide hm
              have HMR := hide (show 0 ≤ m ∧ m < 3 from by rw [← hm]; exact hm3)
              clear hm3 hm
              refine cj_reg18 (w := w) (sc := s) (b := b) (a := posAt L a2) (B1 := B2) (nv := ts.length) (L := L) (ts := ts) (lv := lv) (ql := ql) (cl := cl) (lits := lits) (cur := cur) (m := m) (hide (by omega)) (hide (by omega)) (hide (fun _ x h => h.sz)) (hide ⟨by rw [if_neg (by decide)]; exact HH2.out.below ((Below.refl _ _).drew)⟩) HM ?hc ?hend
              case hc => rfl
              case hend =>
                intro b6 g4 cap4 x3 hx3
                have HX := hide hx3
                have hnv := newI (n := m) (by have := HMR.out; omega)
                have HHD3 := hide (HHD.out.snoc (t := .c ⟨1, m, ⟨#[]⟩⟩) ⟨hnv.2.1, by show (1 : Int) ≠ 0; decide, by show (1 : Int) ≠ 2; decide⟩ hnv.2.2)
                have hpa3 := pos_le L (posAt L a2)
                clear hx3 hnv HH HH2 HHD
                go_wp2
                go_roundw
                case rel => exact ⟨k - 1, _, cur ++ [(.c ⟨1, m, ⟨#[]⟩⟩ : Tm Go.Proofs.YtiijaaohphokcaaGreatDoor.V)], _, by go_num, by rw [List.length_append]; simp only [List.length_cons, List.length_nil]; omega, HX.out, HHD3.out, by rw [List.length_append]; simp only [List.length_cons, List.length_nil]; show posAt L (posAt L a2) ≤ _; omega⟩
                case measure => simp [intOf]; omega
            · have hb5 : (m6 == 5) = false := beq_eq_false_iff_ne.2 h5
              clear h5
              have hmt := fmod_ok (x := rawAt L (posAt L a2)) (n := (ts.length : Int)) (by omega)
              obtain ⟨kk, hkk, hkn⟩ : ∃ m : Nat, m < ts.length ∧ nAt L (posAt L a2) (ts.length : Int) = (m : Int) := ⟨(nAt L (posAt L a2) (ts.length : Int)).toNat, by unfold nAt; omega, by unfold nAt; omega⟩
              have HKN := hide hkn
              clear hmt hkn
              go_wp2_with (go_at_call 10; refine (n_any _ b a2 L 6 HH.out.cb.ts.tp (by omega) (by constructor <;> decide)).mono ?_; rintro e y3 ⟨rfl, h1, h2⟩; rw [HM6.out]; have HH2 := hide (HH.out.tape h2 h1); clear h1 h2)
              refine cj_reg19 (w := w) (sc := s) (b := b) (a := posAt L a2) (B1 := B2) (nv := ts.length) (L := L) (ts := ts) (lv := lv) (ql := ql) (cl := cl) (lits := lits) (cur := cur) (k := kk) (hd := hd) (hide (by omega)) (hide (by omega)) (hide (fun _ x h => h.sz)) (hide ⟨by rw [if_neg (by decide)]; exact HH2.out.below ((Below.refl _ _).drew)⟩) HKN HTS HLV ?hc ?hend
              case hc => rfl
              case hend =>
                intro b7 g4 cap4 x3 hx3
                have HX := hide hx3
                have HHD3 := hide (HHD.out.snoc (t := .v kk) hkk (show kk ≤ 1000 by omega))
                have hpa3 := pos_le L (posAt L a2)
                clear hx3 HH HH2 HHD
                go_wp2
                go_roundw
                case rel => exact ⟨k - 1, _, cur ++ [(.v kk : Tm Go.Proofs.YtiijaaohphokcaaGreatDoor.V)], _, by go_num, by rw [List.length_append]; simp only [List.length_cons, List.length_nil]; omega, HX.out, HHD3.out, by rw [List.length_append]; simp only [List.length_cons, List.length_nil]; show posAt L (posAt L a2) ≤ _; omega⟩
                case measure => simp [intOf]; omega
        · obtain rfl : k = 0 := by omega
          have q0 : wr.cell? ⟨w.heap.size + 1 + 1, 0, none⟩ = some (.int .i64 (ts.length : Nat)) := HH.out.bq.cell rfl
          obtain ⟨qhd, chd, hq, hc, hIN⟩ := cj_done HH.out HD.out HHD.out (by omega)
          have HIN := hide hIN
          clear hIN
          subst hq
          subst hc
          have q1 : wr.cell? ⟨w.heap.size + 1 + 1, 1, none⟩ = some (.slice qhd.ao lits.length qhd.cap) := HH.out.bq.cell rfl
          have q2 : wr.cell? ⟨w.heap.size + 1 + 1, 2, none⟩ = some (.slice chd.ao cur.length chd.cap) := HH.out.bq.cell rfl
          have r0 : wr.cell? ⟨w.heap.size + 1, 0, none⟩ = some (.int .i64 0) := HH.out.cb.br.cell rfl
          have r1 : wr.cell? ⟨w.heap.size + 1, 1, none⟩ = some (.slice none 0 0) := HH.out.cb.br.cell rfl
          have r2 : wr.cell? ⟨w.heap.size + 1, 2, none⟩ = some (.slice none 0 0) := HH.out.cb.br.cell rfl
          have f0 := HH.out.cb.br.fr 0
          have f1 := HH.out.cb.br.fr 1
          have f2 := HH.out.cb.br.fr 2
          have HG := hide (set3 wr (w.heap.size + 1) (.int .i64 (ts.length : Nat)) (.slice qhd.ao lits.length qhd.cap) (.slice chd.ao cur.length chd.cap))
          have HCN := hide (show 0 < cur.length ∧ cur.length ≤ 24 from by omega)
          have HLN := hide (And.intro hl1 hl4)
          have HAL := hide (show a2 ≤ a + 100 from by omega)
          go_wp2
          have HF : CjPost w b L a (colT s) n (.returned (.agg #[.int .i64 (ts.length : Nat), .slice qhd.ao lits.length qhd.cap, .slice chd.ao cur.length chd.cap])) (((wr.setCell ⟨w.heap.size + 1, 0, none⟩ (.int .i64 (ts.length : Nat))).setCell ⟨w.heap.size + 1, 1, none⟩ (.slice qhd.ao lits.length qhd.cap)).setCell ⟨w.heap.size + 1, 2, none⟩ (.slice chd.ao cur.length chd.cap)) := by
            refine ⟨⟨ts.length, qhd, lits, ⟨chd, cur⟩⟩, a2, rfl, ⟨HIN.out _ (fun g h1 h2 => HG.out.block g h2 (fun e => by injection e with e; exact h1 e)) HG.out.size, ⟨_, HD.out.right (by omega) (by omega) rfl rfl HHD.out HCN.out.1 HCN.out.2⟩, fun ty hty => ?_⟩, tz2 HH.out.cb.ts.tp HG.out HH.out.cb.ts.ll (by omega), HAL.out, gb_then HH.out.cb.ts.gb HG.out (by omega), HLN.out.2⟩
            obtain ⟨t, ht, rfl⟩ := List.mem_map.1 hty
            rw [List.length_map]
            exact Nat.le_trans (H3.out t ht) (by decide)
          refine bodyPost_ret (v := .agg #[.int .i64 (ts.length : Nat), .slice qhd.ao lits.length qhd.cap, .slice chd.ao cur.length chd.cap]) ?_ ?_ ?_
          case refine_3 => exact HF
          case refine_2 => rfl
          simp [results, Tryz.results9, go_sem, r0, r1, r2]
end Go.Proofs.YtiijaaohphokcaaGreatDoor

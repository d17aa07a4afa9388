/- querylabfield.named: slots with other names of variables. -/
import Derived.Test.YtiijaaohphokcaaGreatDoorG37
import Derived.Maps.AppendAt
namespace Go.Proofs.YtiijaaohphokcaaGreatDoor
open Go.RowKit
abbrev nmT (names : List Nat) : Tm V → Tm V := Tm.app fun x => .v (nmf names x)
theorem nmT_wf {names : List Nat} {t : Tm V} (h : t.wf) (hn : ∀ x ∈ names, x ≤ 1000) : (nmT names t).wf := by
  cases t with
  | c k => exact h
  | v x =>
    show nmf names x ≤ 1000
    unfold nmf
    rw [List.getD_eq_getElem?_getD]
    cases hx : names[x]? with
    | none => exact Nat.zero_le _
    | some y => exact hn y (List.mem_of_getElem? hx)
theorem info_sl4 : (Tryz.prog.info? 83).map (fun i => (i.zero, i.size, i.bytes)) = some (some (.agg #[.int .i64 0, .int .i64 0, .int .i64 0, .string ByteArray.empty]), 4, 40) := by kernel_rfl
def NamedPost (l : List (Tm V)) (names : List Nat) (w : World) (e : Ending) (w' : World) : Prop := ∃ r : TL, e = .returned (.slice r.h.ao r.l.length r.h.cap) ∧ r.l = l.map (nmT names) ∧ r.In w' w.heap.size ∧ Below w.heap.size w w'
set_option maxRecDepth 100000 in
set_option maxHeartbeats 8000000 in
theorem named_any (l : TL) (N : IL) (names : List Nat) (B : Nat) (w : World) (hl : l.In w B) (hN : N.In w) (hNl : N.l = ofs names) (hv : ∀ x, Tm.v x ∈ l.l → x < names.length) (hn : ∀ x ∈ names, x ≤ 1000) (hll : l.l.length ≤ 1000) :
    Calls Tryz.prog 63 #[.slice l.h.ao l.l.length l.h.cap, .slice N.h.ao N.l.length N.h.cap] w (NamedPost l.l names w) := by
  have HL := hide hl
  have HN := hide hN
  have HNL := hide hNl
  have HV := hide hv
  have HNW := hide hn
  have hln := hl.row.len
  obtain ⟨i4, hi4, hz40, hz41, hz42⟩ := info_parts info_sl4
  have HI4 := hide (And.intro hi4 (And.intro hz40 (And.intro hz41 hz42)))
  clear hl hN hNl hv hn hi4 hz40 hz41 hz42
  go_enter Tryz.func63, Tryz.ntmps63
  go_wp2
  go_loopw [5, 10] (fun v i wr => ∃ (k : Nat) (ts : List (Tm V)) (u : Value), u = v ∧ k ≤ l.l.length ∧ i = .int .i64 k ∧ Hid (ts = (l.l.take k).map (nmT names)) ∧ Hid (wr.ownsRow w.heap.size 83 4 v ts.length (ts.flatMap Tm.cells)) ∧ Hid (∀ t ∈ ts, t.wf) ∧ Hid (Below w.heap.size w wr)) (fun _ i => fun _ => l.l.length - (intOf i).toNat)
  case atStart => exact ⟨0, [], _, rfl, Nat.zero_le _, rfl, hide rfl, hide (World.ownsRow_nil _ _ _ _), hide (fun _ h => by cases h), hide (Below.refl _ _)⟩
  case round =>
  obtain ⟨k, ts, u, rfl, hk, rfl, HTS, HO, HW, HB⟩ := hrel
  have HTL := hide (show ts.length ≤ 1000 from by rw [HTS.out, List.length_map, List.length_take]; omega)
  by_cases hlt : k < l.l.length
  · have hlr := (HL.out.mono HB.out).row
    have hix := hlr.ix hlt Tryz.underlying30 szslot
    obtain ⟨c0, c1, c2, c3⟩ := tm_at hlr hlt
    have hbk := hlr.blk hlt
    obtain ⟨t, ht⟩ : ∃ t, l.l[k] = t := ⟨_, rfl⟩
    have HTM := hide (show t ∈ l.l from ht ▸ List.getElem_mem hlt)
    have HTK := hide (show (l.l.take (k + 1)).map (nmT names) = ts ++ [nmT names t] from by rw [List.take_succ_eq_append_getElem hlt, List.map_append, ht, HTS.out]; rfl)
    have HWF := hide (show (nmT names t).wf from nmT_wf (HL.out.wf t HTM.out) HNW.out)
    rw [ht] at c0 c1 c2 c3
    obtain ⟨X, hX⟩ : ∃ X, wr.alloc (.cells #[.int .i64 t.nr, .int .i64 t.val.kind, .int .i64 t.val.num, .string t.val.text] 83) = X := ⟨_, rfl⟩
    have HXB := hide (box1X hX).2
    have HXX := hide (box1X hX).1
    have HXW := hide (bel_trans HB.out HXB.out)
    have HXE := hide hX
    clear ht hX hlr
    have hwr : w.heap.size ≤ wr.heap.size := HB.out.size
    cases t with
    | c kc =>
      have hnr : (Tm.c kc : Tm V).nr = -1 := rfl
      have hvl : (Tm.c kc : Tm V).val = kc := rfl
      rw [hnr, hvl] at HXX HXE
      rw [hnr] at c0
      rw [hvl] at c1 c2 c3
      have x0 : X.cell? ⟨wr.heap.size, 0, none⟩ = some (.int .i64 (-1)) := HXX.out.cell rfl
      have x1 : X.cell? ⟨wr.heap.size, 1, none⟩ = some (.int .i64 kc.kind) := HXX.out.cell rfl
      have x2 : X.cell? ⟨wr.heap.size, 2, none⟩ = some (.int .i64 kc.num) := HXX.out.cell rfl
      have x3 : X.cell? ⟨wr.heap.size, 3, none⟩ = some (.string kc.text) := HXX.out.cell rfl
      have HXO := hide (HO.out.kept (only_below HXB.out none) (Classical.em _))
      clear hnr hvl
      go_upto_region 5 with fail
      rw [HXE.out]
      clear HXE c0 c1 c2 c3 hix
      go_wp2_with (at_builtin; refine wpList_append_own _ rfl _ _ 30 rfl w.heap.size 83 i4 (.agg #[.int .i64 0, .int .i64 0, .int .i64 0, .string ByteArray.empty]) 4 40 Tryz.underlying30 HI4.out.1 HI4.out.2.1 HI4.out.2.2.1 HI4.out.2.2.2 rfl (by decide) _ _ _ rfl (HXO.out.alloc _) ⟨X.heap.size, 0, none⟩ 1 1 [.int .i64 (-1), .int .i64 kc.kind, .int .i64 kc.num, .string kc.text] rfl rfl (new_cells (l := [.int .i64 (-1), .int .i64 kc.kind, .int .i64 kc.num, .string kc.text])) (tm_one (.c kc)) (by have := HTL.out; unfold maxLen; omega) (by have := HTL.out; omega) (by have := HXB.out.size; simp; omega) ?_; intro nv2 Y4 hown4 hgr4 _)
      have HO4 := hide (show Y4.ownsRow w.heap.size 83 4 nv2 (ts ++ [(.c kc : Tm V)]).length ((ts ++ [(.c kc : Tm V)]).flatMap Tm.cells) from by rw [rows_snoc, List.length_append]; exact hown4)
      have HB4 := hide ((bel_trans HXW.out (belA _)).grown hgr4 (bel_trans HXW.out (belA _)).size (fun j e => (HXO.out.lt j e).1))
      clear hown4 hgr4 x0 x1 x2 x3
      go_roundw
      case rel => exact ⟨k + 1, ts ++ [(.c kc : Tm V)], nv2, rfl, by omega, by go_num, hide HTK.out.symm, HO4, hide (fun t ht => by rcases List.mem_append.1 ht with h | h; exact HW.out t h; rw [List.mem_singleton.1 h]; exact HWF.out), HB4⟩
      case measure => simp [intOf]; omega
    | v x =>
      have hnr : (Tm.v x : Tm V).nr = (x : Int) := rfl
      have hvl : (Tm.v x : Tm V).val = nulV := rfl
      rw [hnr, hvl] at HXX HXE
      rw [hnr] at c0
      rw [hvl] at c1 c2 c3
      simp only [nulV] at HXX HXE c1 c2 c3
      have hxn := HV.out x HTM.out
      have hxN : x < N.l.length := by rw [HNL.out, List.length_map]; exact hxn
      have hNr := (HN.out.mono HXW.out).1
      have hixn := hNr.ix hxN Tryz.underlying22 szil
      have n0 := int_at hNr hxN
      have hbn := hNr.blk hxN
      have hnv : N.l[x] = ((nmf names x : Nat) : Int) := by
        have h1 : N.l[x]? = some ((nmf names x : Nat) : Int) := by
          rw [HNL.out]
          unfold ofs nmf
          rw [List.getElem?_map, List.getElem?_eq_getElem hxn, List.getD_eq_getElem?_getD, List.getElem?_eq_getElem hxn]; rfl
        exact (List.getElem?_eq_some_iff.1 h1).2
      rw [hnv] at n0
      obtain ⟨y, hy⟩ : ∃ y, nmf names x = y := ⟨_, rfl⟩
      have HY := hide hy
      rw [hy] at n0
      have x0 : X.cell? ⟨wr.heap.size, 0, none⟩ = some (.int .i64 (x : Nat)) := HXX.out.cell rfl
      have xf := HXX.out.fr 0
      have hge : (0 : Int) ≤ (x : Int) := by omega
      have HXO := hide (HO.out.kept (only_below HXB.out none) (Classical.em _))
      have HBS := hide (HXX.out.set 0 (.int .i64 (y : Nat)))
      have hXs : wr.heap.size < X.heap.size := HXX.out.lt
      clear hnr hvl hnv hy
      go_upto_region 5 with fail
      rw [HXE.out]
      clear HXE c0 c1 c2 c3 hix
      go_upto_region 7 with fail
      have HBS := hide (show Box (X.setCell ⟨wr.heap.size, 0, none⟩ (.int .i64 (y : Nat))) wr.heap.size #[.int .i64 (y : Nat), .int .i64 0, .int .i64 0, .string ⟨#[]⟩] 83 from by
        have h := HBS.out
        simpa only [List.setIfInBounds_toArray, List.set_cons_zero] using h)
      have HXO2 := hide (HXO.out.kept (gb_set X wr.heap.size 0 (.int .i64 (y : Nat))) (own_far (fun j e => by have := (HO.out.lt j e).2; omega)))
      have HXW2 := hide (show Below w.heap.size w (X.setCell ⟨wr.heap.size, 0, none⟩ (.int .i64 (y : Nat))) from HXW.out.grown (gb_set _ _ _ _) HXW.out.size (fun j e => by injection e with e; omega))
      have hsz : X.heap.size = (X.setCell ⟨wr.heap.size, 0, none⟩ (.int .i64 (y : Nat))).heap.size := by simp
      have HSZ := hide hsz
      clear hsz x0 xf n0 hixn HXX
      generalize X.setCell ⟨wr.heap.size, 0, none⟩ (.int .i64 (y : Nat)) = X2 at *
      have x0 : X2.cell? ⟨wr.heap.size, 0, none⟩ = some (.int .i64 (y : Nat)) := HBS.out.cell rfl
      have x1 : X2.cell? ⟨wr.heap.size, 1, none⟩ = some (.int .i64 0) := HBS.out.cell rfl
      have x2 : X2.cell? ⟨wr.heap.size, 2, none⟩ = some (.int .i64 0) := HBS.out.cell rfl
      have x3 : X2.cell? ⟨wr.heap.size, 3, none⟩ = some (.string ⟨#[]⟩) := HBS.out.cell rfl
      go_wp2_with (at_builtin; refine wpList_append_own _ rfl _ _ 30 rfl w.heap.size 83 i4 (.agg #[.int .i64 0, .int .i64 0, .int .i64 0, .string ByteArray.empty]) 4 40 Tryz.underlying30 HI4.out.1 HI4.out.2.1 HI4.out.2.2.1 HI4.out.2.2.2 rfl (by decide) _ _ _ rfl (HXO2.out.alloc _) ⟨X2.heap.size, 0, none⟩ 1 1 [.int .i64 (y : Nat), .int .i64 0, .int .i64 0, .string ⟨#[]⟩] rfl rfl (new_cells (l := [.int .i64 (y : Nat), .int .i64 0, .int .i64 0, .string ⟨#[]⟩])) (tm_one (.v y)) (by have := HTL.out; unfold maxLen; omega) (by have := HTL.out; omega) (by have := HSZ.out; simp; omega) ?_; intro nv2 Y4 hown4 hgr4 _)
      have HO4 := hide (show Y4.ownsRow w.heap.size 83 4 nv2 (ts ++ [(.v y : Tm V)]).length ((ts ++ [(.v y : Tm V)]).flatMap Tm.cells) from by rw [rows_snoc, List.length_append]; exact hown4)
      have HB4 := hide ((bel_trans HXW2.out (belA _)).grown hgr4 (bel_trans HXW2.out (belA _)).size (fun j e => (HXO2.out.lt j e).1))
      have HTY := hide (show nmT names (.v x) = .v y from by show Tm.v (nmf names x) = _; rw [HY.out])
      clear hown4 hgr4 x0 x1 x2 x3
      go_roundw
      case rel => exact ⟨k + 1, ts ++ [(.v y : Tm V)], nv2, rfl, by omega, by go_num, hide (by rw [HTK.out, HTY.out]), HO4, hide (fun t ht => by rcases List.mem_append.1 ht with h | h; exact HW.out t h; rw [List.mem_singleton.1 h, ← HTY.out]; exact HWF.out), HB4⟩
      case measure => simp [intOf]; omega
  · have HTE := hide (show ts = l.l.map (nmT names) from by rw [HTS.out, List.take_of_length_le (by omega)])
    obtain ⟨hd, hu, hrow, hown⟩ := own_rowE (cells := Tm.cells) Tm.cells_len (by decide) HO.out
    subst hu
    have HF := hide (show NamedPost l.l names w (.returned (.slice hd.ao ts.length hd.cap)) wr from ⟨⟨hd, ts⟩, rfl, HTE.out, ⟨hrow, HW.out, fun hp => (hown hp).1⟩, HB.out⟩)
    clear hrow hown
    go_wp2
    go_ret
    exact HF.out
end Go.Proofs.YtiijaaohphokcaaGreatDoor

/- querylabfield.Renamed: the region that appends a literal. -/
namespace Go
open Go.RowKit
theorem wp_append_own_at {P : Program} {w : World} {o : Oper} {a : Act} {K : Act → World → Prop} {Q : Exit → Act → World → Prop} (s x : Operand) (t : TypeId)
    (ho : o.op = .call { callee := .builtin .append, args := #[s, x], argTypes := #[t, t] })
    (base : Nat) (e : TypeId) (i : TypeInfo) (z : Value) (size bytes : Nat) (ht : P.underlying t = some (.slice e)) (hi : P.info? e = some i) (hz : i.zero = some z)
    (hsize : i.size = size) (hby : i.bytes = bytes) (hzs : z.cells.size = size) (hsz : 0 < size)
    (v : Value) (n : Nat) (xs : List Value) (hs : a.eval s = v) (hown : w.ownsRow base e size v n xs)
    (ad : Addr) (m c : Nat) (news : List Value) (hx : a.eval x = .slice (some ad) m c) (hl : news.length = m * size) (hnews : ∀ j u, news[j]? = some u → w.cell? (ad.add j) = some u) (h1 : ∀ u ∈ news, u.oneCell' = true)
    (h63 : n + m ≤ maxLen) (hbytes : (n + m) * bytes ≤ 140737488355328) (hbase : base ≤ w.heap.size)
    (h : ∀ v' w', w'.ownsRow base e size v' (n + m) (xs ++ news) → w.grownBy w' v.ownBlock → (v'.ownBlock = v.ownBlock ∨ v'.ownBlock = some w.heap.size) → K (a.put o.dst v') w') : o.wp P a w K Q := by
  obtain ⟨v', w', hr, h2, h3, _, h5⟩ := run_append_own_at (P := P) w base t o.type e i z size bytes ht hi hz hsize hby hzs hsz v n xs hown ad m c news hl hnews h1 h63 hbytes hbase
  unfold Oper.wp execOp
  simp only [ho, resolve, invoke, builtin, Sem.run_bind, Sem.run_pure, Result.andThen_ok, List.map_toArray, List.map_cons, List.map_nil, hs, hx, hr]
  exact h v' w' h2 h3 h5
end Go
namespace Go.Proofs.YtiijaaohphokcaaGreatDoor
open Go.RowKit
theorem info_li2 : (Tryz.prog.info? 56).map (fun i => (i.zero, i.size, i.bytes)) = some (some (.agg #[.int .i64 0, .slice none 0 0]), 2, 32) := by kernel_rfl
set_option maxRecDepth 100000 in
set_option maxHeartbeats 4000000 in
theorem rn_reg6 {g3 g5 im B B1 : Nat} {q : Cq} {l : Li} {lv va : Value} {outs : List Li} {N : IL} {names : List Nat} {W : World} (HQB : Hid (Box W g3 (qcells q) 32)) (HOB : Hid (Box W g5 #[va, lv, .slice none 0 0] 32)) (HQR : Hid (Row W 2 Li.cells q.lh q.lits)) (HI : Hid (im < q.lits.length)) (HL : Hid (q.lits[im]'HI.out = l)) (HSL : Hid (l.sl.In W B1)) (HN : Hid (N.In W)) (HNL : Hid (N.l = ofs names)) (HV : Hid (∀ x, Tm.v x ∈ l.sl.l → x < names.length)) (HNW : Hid (∀ x ∈ names, x ≤ 1000)) (HLL : Hid (l.sl.l.length ≤ 1000)) (HOL : Hid (outs.length ≤ 1000)) (HBB : Hid (B ≤ W.heap.size)) (HO : Hid (W.ownsRow B 56 2 lv outs.length (outs.flatMap Li.cells))) (HNE : Hid (lv.ownBlock ≠ some g5)) {Q : Exit → Act → World → Prop} {c : Code} {u0 u1 u2 u4 u7 u9 u10 u11 u12 u13 u14 u15 u16 u17 u18 u19 u20 u21 u22 u23 u24 u25 u26 u27 u28 u29 u30 u31 u32 u33 u34 u35 u36 u37 u38 u39 u40 u41 u42 u43 u44 u45 u46 u47 u48 u49 u50 u51 u52 : Value} (hc : c = codeIn [1, 1, 1, 0, 1, 4, 5, 1, 1, 0, 4, 1] (Tryz.f22.body.getD .skip)) (hend : ∀ (r5 r6 : TL) (b7 : Nat) (r7 : TL) (g4 cap4 : Nat) (x y : World), Below W.heap.size W x → r7.l = l.sl.l.map (nmT names) → r7.In x W.heap.size → x.grownBy y lv.ownBlock → y.ownsRow B 56 2 (.slice (some ⟨g4, 0, none⟩) (outs.length + 1) cap4) (outs ++ [(⟨l.tab, r7⟩ : Li)]).length ((outs ++ [(⟨l.tab, r7⟩ : Li)]).flatMap Li.cells) → ((Value.slice (some ⟨g4, 0, none⟩) (outs.length + 1) cap4).ownBlock = lv.ownBlock ∨ (Value.slice (some ⟨g4, 0, none⟩) (outs.length + 1) cap4).ownBlock = some x.heap.size) → Q .normal { tmps := (u0 :: u1 :: u2 :: (.pointer (some ⟨g3, 0, none⟩)) :: u4 :: (.pointer (some ⟨g5, 0, none⟩)) :: (.slice N.h.ao N.l.length N.h.cap) :: u7 :: (.int .i64 (im : Nat)) :: u9 :: u10 :: u11 :: u12 :: u13 :: u14 :: u15 :: u16 :: u17 :: u18 :: u19 :: u20 :: u21 :: u22 :: u23 :: u24 :: u25 :: .pointer (some ⟨g5, 1, none⟩) :: lv :: .pointer (some ⟨g3, 1, none⟩) :: .slice q.lh.ao q.lits.length q.lh.cap :: .int .i64 (im : Nat) :: .pointer (some ⟨q.lh.b, q.lh.o + im * 2, none⟩) :: .pointer (some ⟨q.lh.b, q.lh.o + im * 2, none⟩) :: .int .i64 (l.tab : Nat) :: .pointer (some ⟨g3, 1, none⟩) :: .slice q.lh.ao q.lits.length q.lh.cap :: .int .i64 (im : Nat) :: .pointer (some ⟨q.lh.b, q.lh.o + im * 2, none⟩) :: .pointer (some ⟨q.lh.b, q.lh.o + im * 2 + 1, none⟩) :: .slice l.sl.h.ao l.sl.l.length l.sl.h.cap :: .slice N.h.ao N.l.length N.h.cap :: .slice (TL.h r5).ao (TL.l r5).length (TL.h r5).cap :: .agg #[.int .i64 (l.tab : Nat), .slice (TL.h r6).ao (TL.l r6).length (TL.h r6).cap] :: .slice (some ⟨b7, 0, none⟩) 1 1 :: .slice (some ⟨g4, 0, none⟩) (outs.length + 1) cap4 :: .pointer (some ⟨g5, 1, none⟩) :: u46 :: u47 :: u48 :: u49 :: u50 :: u51 :: u52 :: []).toArray, defers := [] } (y.setCell ⟨g5, 1, none⟩ (.slice (some ⟨g4, 0, none⟩) (outs.length + 1) cap4))) : Code.wp Tryz.prog c Q { tmps := (u0 :: u1 :: u2 :: (.pointer (some ⟨g3, 0, none⟩)) :: u4 :: (.pointer (some ⟨g5, 0, none⟩)) :: (.slice N.h.ao N.l.length N.h.cap) :: u7 :: (.int .i64 (im : Nat)) :: u9 :: u10 :: u11 :: u12 :: u13 :: u14 :: u15 :: u16 :: u17 :: u18 :: u19 :: u20 :: u21 :: u22 :: u23 :: u24 :: u25 :: u26 :: u27 :: u28 :: u29 :: u30 :: u31 :: u32 :: u33 :: u34 :: u35 :: u36 :: u37 :: u38 :: u39 :: u40 :: u41 :: u42 :: u43 :: u44 :: u45 :: u46 :: u47 :: u48 :: u49 :: u50 :: u51 :: u52 :: []).toArray, defers := [] } W := by
  subst hc
  conv => enter [2]; whnf
  refine wp_region_tail (by kernel_rfl) (by kernel_rfl) 18 (by show 18 < _; decide) (by kernel_rfl) (by kernel_rfl) (fun s : Nat → Value => ({ tmps := (u0 :: u1 :: u2 :: (.pointer (some ⟨g3, 0, none⟩)) :: u4 :: (.pointer (some ⟨g5, 0, none⟩)) :: (.slice N.h.ao N.l.length N.h.cap) :: u7 :: (.int .i64 (im : Nat)) :: u9 :: u10 :: u11 :: u12 :: u13 :: u14 :: u15 :: u16 :: u17 :: u18 :: u19 :: u20 :: u21 :: u22 :: u23 :: u24 :: u25 :: s 26 :: s 27 :: s 28 :: s 29 :: s 30 :: s 31 :: s 32 :: s 33 :: s 34 :: s 35 :: s 36 :: s 37 :: s 38 :: s 39 :: s 40 :: s 41 :: s 42 :: s 43 :: u44 :: u45 :: u46 :: u47 :: u48 :: u49 :: u50 :: u51 :: u52 :: []).toArray, defers := [] } : Act)) (fun k => if k = 26 then u26 else if k = 27 then u27 else if k = 28 then u28 else if k = 29 then u29 else if k = 30 then u30 else if k = 31 then u31 else if k = 32 then u32 else if k = 33 then u33 else if k = 34 then u34 else if k = 35 then u35 else if k = 36 then u36 else if k = 37 then u37 else if k = 38 then u38 else if k = 39 then u39 else if k = 40 then u40 else if k = 41 then u41 else if k = 42 then u42 else if k = 43 then u43 else undef) rfl (fun i v x => (i = 15 → ∃ r5, v = .slice (TL.h r5).ao (TL.l r5).length (TL.h r5).cap ∧ TL.l r5 = l.sl.l.map (nmT names) ∧ TL.In x W.heap.size r5) ∧ (i = 16 → ∃ r6, v = .agg #[.int .i64 (l.tab : Nat), .slice (TL.h r6).ao (TL.l r6).length (TL.h r6).cap] ∧ TL.l r6 = l.sl.l.map (nmT names) ∧ TL.In x W.heap.size r6) ∧ (i = 17 → ∃ b7 r7, v = .slice (some ⟨b7, 0, none⟩) 1 1 ∧ Box x b7 #[.int .i64 (l.tab : Nat), .slice (TL.h r7).ao (TL.l r7).length (TL.h r7).cap] 56 ∧ TL.l r7 = l.sl.l.map (nmT names) ∧ TL.In x W.heap.size r7) ∧ (i ≠ 15 → i ≠ 16 → i ≠ 17 → ([.pointer (some ⟨g5, 1, none⟩), lv, .pointer (some ⟨g3, 1, none⟩), .slice q.lh.ao q.lits.length q.lh.cap, .int .i64 (im : Nat), .pointer (some ⟨q.lh.b, q.lh.o + im * 2, none⟩), .pointer (some ⟨q.lh.b, q.lh.o + im * 2, none⟩), .int .i64 (l.tab : Nat), .pointer (some ⟨g3, 1, none⟩), .slice q.lh.ao q.lits.length q.lh.cap, .int .i64 (im : Nat), .pointer (some ⟨q.lh.b, q.lh.o + im * 2, none⟩), .pointer (some ⟨q.lh.b, q.lh.o + im * 2 + 1, none⟩), .slice l.sl.h.ao l.sl.l.length l.sl.h.cap, .slice N.h.ao N.l.length N.h.cap, undef, undef, undef] : List Value)[i]? = some v)) (fun i v x y h hb => ⟨fun hi => (by obtain ⟨r5, h0, q0, q1⟩ := h.1 hi; exact ⟨r5, h0, q0, q1.mono hb⟩), fun hi => (by obtain ⟨r6, h0, q0, q1⟩ := h.2.1 hi; exact ⟨r6, h0, q0, q1.mono hb⟩), fun hi => (by obtain ⟨b7, r7, h0, q0, q1, q2⟩ := h.2.2.1 hi; exact ⟨b7, r7, h0, q0.below hb, q1, q2.mono hb⟩), h.2.2.2⟩) (fun i => ([26, 27, 28, 29, 30, 31, 32, 33, 34, 35, 36, 37, 38, 39, 40, 41, 42, 43] : List Nat).getD i 0) ?inj ?step ?last
  case inj =>
    intro i j hi hj h
    have hI : i = 0 ∨ i = 1 ∨ i = 2 ∨ i = 3 ∨ i = 4 ∨ i = 5 ∨ i = 6 ∨ i = 7 ∨ i = 8 ∨ i = 9 ∨ i = 10 ∨ i = 11 ∨ i = 12 ∨ i = 13 ∨ i = 14 ∨ i = 15 ∨ i = 16 ∨ i = 17 := by omega
    have hJ : j = 0 ∨ j = 1 ∨ j = 2 ∨ j = 3 ∨ j = 4 ∨ j = 5 ∨ j = 6 ∨ j = 7 ∨ j = 8 ∨ j = 9 ∨ j = 10 ∨ j = 11 ∨ j = 12 ∨ j = 13 ∨ j = 14 ∨ j = 15 ∨ j = 16 ∨ j = 17 := by omega
    rcases hI with rfl | rfl | rfl | rfl | rfl | rfl | rfl | rfl | rfl | rfl | rfl | rfl | rfl | rfl | rfl | rfl | rfl | rfl <;> rcases hJ with rfl | rfl | rfl | rfl | rfl | rfl | rfl | rfl | rfl | rfl | rfl | rfl | rfl | rfl | rfl | rfl | rfl | rfl <;> first | rfl | (exact absurd h (by decide))
  case last =>
    intro s x hv hb
    have HB := hide hb
    clear hb
    have z0 : s 26 = .pointer (some ⟨g5, 1, none⟩) := by have h := (hv 0 (by decide)).2.2.2 (by decide) (by decide) (by decide); injection h with h; exact h.symm
    have z1 : s 27 = lv := by have h := (hv 1 (by decide)).2.2.2 (by decide) (by decide) (by decide); injection h with h; exact h.symm
    have z2 : s 28 = .pointer (some ⟨g3, 1, none⟩) := by have h := (hv 2 (by decide)).2.2.2 (by decide) (by decide) (by decide); injection h with h; exact h.symm
    have z3 : s 29 = .slice q.lh.ao q.lits.length q.lh.cap := by have h := (hv 3 (by decide)).2.2.2 (by decide) (by decide) (by decide); injection h with h; exact h.symm
    have z4 : s 30 = .int .i64 (im : Nat) := by have h := (hv 4 (by decide)).2.2.2 (by decide) (by decide) (by decide); injection h with h; exact h.symm
    have z5 : s 31 = .pointer (some ⟨q.lh.b, q.lh.o + im * 2, none⟩) := by have h := (hv 5 (by decide)).2.2.2 (by decide) (by decide) (by decide); injection h with h; exact h.symm
    have z6 : s 32 = .pointer (some ⟨q.lh.b, q.lh.o + im * 2, none⟩) := by have h := (hv 6 (by decide)).2.2.2 (by decide) (by decide) (by decide); injection h with h; exact h.symm
    have z7 : s 33 = .int .i64 (l.tab : Nat) := by have h := (hv 7 (by decide)).2.2.2 (by decide) (by decide) (by decide); injection h with h; exact h.symm
    have z8 : s 34 = .pointer (some ⟨g3, 1, none⟩) := by have h := (hv 8 (by decide)).2.2.2 (by decide) (by decide) (by decide); injection h with h; exact h.symm
    have z9 : s 35 = .slice q.lh.ao q.lits.length q.lh.cap := by have h := (hv 9 (by decide)).2.2.2 (by decide) (by decide) (by decide); injection h with h; exact h.symm
    have z10 : s 36 = .int .i64 (im : Nat) := by have h := (hv 10 (by decide)).2.2.2 (by decide) (by decide) (by decide); injection h with h; exact h.symm
    have z11 : s 37 = .pointer (some ⟨q.lh.b, q.lh.o + im * 2, none⟩) := by have h := (hv 11 (by decide)).2.2.2 (by decide) (by decide) (by decide); injection h with h; exact h.symm
    have z12 : s 38 = .pointer (some ⟨q.lh.b, q.lh.o + im * 2 + 1, none⟩) := by have h := (hv 12 (by decide)).2.2.2 (by decide) (by decide) (by decide); injection h with h; exact h.symm
    have z13 : s 39 = .slice l.sl.h.ao l.sl.l.length l.sl.h.cap := by have h := (hv 13 (by decide)).2.2.2 (by decide) (by decide) (by decide); injection h with h; exact h.symm
    have z14 : s 40 = .slice N.h.ao N.l.length N.h.cap := by have h := (hv 14 (by decide)).2.2.2 (by decide) (by decide) (by decide); injection h with h; exact h.symm
    obtain ⟨r5, hz15, hg15_0, hg15_1⟩ := (hv 15 (by decide)).1 rfl
    have z15 : s 41 = .slice (TL.h r5).ao (TL.l r5).length (TL.h r5).cap := hz15
    clear hz15
    obtain ⟨r6, hz16, hg16_0, hg16_1⟩ := (hv 16 (by decide)).2.1 rfl
    have z16 : s 42 = .agg #[.int .i64 (l.tab : Nat), .slice (TL.h r6).ao (TL.l r6).length (TL.h r6).cap] := hz16
    clear hz16
    obtain ⟨b7, r7, hz17, hg17_0, hg17_1, hg17_2⟩ := (hv 17 (by decide)).2.2.1 rfl
    have z17 : s 43 = .slice (some ⟨b7, 0, none⟩) 1 1 := hz17
    clear hz17
    clear hv
    obtain ⟨i0, hi, hz0, hz1, hz2⟩ := info_parts info_li2
    have HLX := hide (HO.out.kept (only_below HB.out none) (Classical.em _))
    have HBX := hide (HOB.out.below HB.out)
    have HR7 := hide (And.intro hg17_1 hg17_2)
    show Oper.wp _ _ _ _ _ _
    refine wp_append_own_at _ _ 29 rfl B 56 i0 (.agg #[.int .i64 0, .slice none 0 0]) 2 32 Tryz.underlying29 hi hz0 hz1 hz2 rfl (by decide) lv outs.length _ (by show s 27 = _; exact z1) HLX.out ⟨b7, 0, none⟩ 1 1 [.int .i64 (l.tab : Nat), .slice (TL.h r7).ao (TL.l r7).length (TL.h r7).cap] (by show s 43 = _; exact z17) rfl (box_cells3 (l := [.int .i64 (l.tab : Nat), .slice (TL.h r7).ao (TL.l r7).length (TL.h r7).cap]) hg17_0) (two_one rfl rfl) (by have := HOL.out; unfold maxLen; omega) (by have := HOL.out; omega) (Nat.le_trans HBB.out HB.out.size) ?_
    intro v2 y2 hown hgr hbl
    obtain ⟨g4, cap4, rfl, _, _⟩ := World.ownsRow.form hown (by omega)
    have HS := hide (show y2.ownsRow B 56 2 (.slice (some ⟨g4, 0, none⟩) (outs.length + 1) cap4) (outs ++ [(⟨l.tab, r7⟩ : Li)]).length ((outs ++ [(⟨l.tab, r7⟩ : Li)]).flatMap Li.cells) from by rw [rows_snoc, List.length_append]; exact hown)
    have HG := hide hgr
    have HBL := hide (show (Value.slice (some ⟨g4, 0, none⟩) (outs.length + 1) cap4).ownBlock = lv.ownBlock ∨ (Value.slice (some ⟨g4, 0, none⟩) (outs.length + 1) cap4).ownBlock = some x.heap.size from hbl)
    have hbe := HBX.out.grown hgr (fun e => HNE.out e.symm)
    have o1 := hbe.cell (j := 1) rfl
    have f1 := hbe.fr 1
    clear hown hgr hbl hi hz0 hz1 hz2 hg17_0 hg17_1 hg17_2 hbe hg15_0 hg15_1 hg16_0 hg16_1
    show Oper.wp _ _ _ _ _ _
    refine opwp_K (fun K2 hK2 => ?_)
    go_simp
    refine hK2 _ _ ?_
    show Oper.wp _ _ _ _ _ _
    clear hK2
    refine opwp_K (fun K3 hK3 => ?_)
    go_simp
    refine hK3 _ _ ?_
    have h := hend r5 r6 b7 r7 g4 cap4 x y2 HB.out HR7.out.1 HR7.out.2 HG.out HS.out HBL.out
    show Q _ _ _
    first | exact h | (simp only [z0, z1, z2, z3, z4, z5, z6, z7, z8, z9, z10, z11, z12, z13, z14, z15, z16, z17]; exact h)
  case step =>
    intro i o s x hin ho he hb
    have HB := hide hb
    clear hb
    have hcase : i = 0 ∨ i = 1 ∨ i = 2 ∨ i = 3 ∨ i = 4 ∨ i = 5 ∨ i = 6 ∨ i = 7 ∨ i = 8 ∨ i = 9 ∨ i = 10 ∨ i = 11 ∨ i = 12 ∨ i = 13 ∨ i = 14 ∨ i = 15 ∨ i = 16 ∨ i = 17 := by omega
    rcases hcase with rfl | rfl | rfl | rfl | rfl | rfl | rfl | rfl | rfl | rfl | rfl | rfl | rfl | rfl | rfl | rfl | rfl | rfl
    · injection ho with ho
      subst ho
      clear he
      refine opwp_K (fun K2 hK2 => ?_)
      go_simp
      exact hK2 _ _ ⟨(.pointer (some ⟨g5, 1, none⟩)), (by first | rfl | (simp [List.getD]; done)), Below.refl _ _, ⟨fun h => absurd h (by decide), fun h => absurd h (by decide), fun h => absurd h (by decide), fun _ _ _ => rfl⟩⟩
    · injection ho with ho
      subst ho
      have z0 : s 26 = .pointer (some ⟨g5, 1, none⟩) := by have h := (he ⟨0, .data⟩ (by simp) rfl).2.2.2 (by decide) (by decide) (by decide); injection h with h; exact h.symm
      clear he
      have hbe := HOB.out.below HB.out
      have k1 := hbe.cell (j := 1) rfl
      clear hbe
      refine opwp_K (fun K2 hK2 => ?_)
      go_simp
      exact hK2 _ _ ⟨(lv), (by first | rfl | (simp [z0]; done)), Below.refl _ _, ⟨fun h => absurd h (by decide), fun h => absurd h (by decide), fun h => absurd h (by decide), fun _ _ _ => rfl⟩⟩
    · injection ho with ho
      subst ho
      clear he
      refine opwp_K (fun K2 hK2 => ?_)
      go_simp
      exact hK2 _ _ ⟨(.pointer (some ⟨g3, 1, none⟩)), (by first | rfl | (simp [List.getD]; done)), Below.refl _ _, ⟨fun h => absurd h (by decide), fun h => absurd h (by decide), fun h => absurd h (by decide), fun _ _ _ => rfl⟩⟩
    · injection ho with ho
      subst ho
      have z2 : s 28 = .pointer (some ⟨g3, 1, none⟩) := by have h := (he ⟨2, .data⟩ (by simp) rfl).2.2.2 (by decide) (by decide) (by decide); injection h with h; exact h.symm
      clear he
      have hbe := HQB.out.below HB.out
      have k1 := hbe.cell (j := 1) rfl
      clear hbe
      refine opwp_K (fun K2 hK2 => ?_)
      go_simp
      exact hK2 _ _ ⟨(.slice q.lh.ao q.lits.length q.lh.cap), (by first | rfl | (simp [z2]; done)), Below.refl _ _, ⟨fun h => absurd h (by decide), fun h => absurd h (by decide), fun h => absurd h (by decide), fun _ _ _ => rfl⟩⟩
    · injection ho with ho
      subst ho
      clear he
      refine opwp_K (fun K2 hK2 => ?_)
      go_simp
      exact hK2 _ _ ⟨(.int .i64 (im : Nat)), (by first | rfl | (simp [List.getD]; done)), Below.refl _ _, ⟨fun h => absurd h (by decide), fun h => absurd h (by decide), fun h => absurd h (by decide), fun _ _ _ => rfl⟩⟩
    · injection ho with ho
      subst ho
      have z3 : s 29 = .slice q.lh.ao q.lits.length q.lh.cap := by have h := (he ⟨3, .data⟩ (by simp) rfl).2.2.2 (by decide) (by decide) (by decide); injection h with h; exact h.symm
      have z4 : s 30 = .int .i64 (im : Nat) := by have h := (he ⟨4, .data⟩ (by simp) rfl).2.2.2 (by decide) (by decide) (by decide); injection h with h; exact h.symm
      clear he
      have hixl := (HQR.out.mono HB.out).ix HI.out Tryz.underlying29 szlit
      refine opwp_K (fun K2 hK2 => ?_)
      go_simp
      exact hK2 _ _ ⟨(.pointer (some ⟨q.lh.b, q.lh.o + im * 2, none⟩)), (by first | rfl | (simp [z3, z4]; done)), Below.refl _ _, ⟨fun h => absurd h (by decide), fun h => absurd h (by decide), fun h => absurd h (by decide), fun _ _ _ => rfl⟩⟩
    · injection ho with ho
      subst ho
      have z5 : s 31 = .pointer (some ⟨q.lh.b, q.lh.o + im * 2, none⟩) := by have h := (he ⟨5, .data⟩ (by simp) rfl).2.2.2 (by decide) (by decide) (by decide); injection h with h; exact h.symm
      clear he
      refine opwp_K (fun K2 hK2 => ?_)
      go_simp
      exact hK2 _ _ ⟨(.pointer (some ⟨q.lh.b, q.lh.o + im * 2, none⟩)), (by first | rfl | (simp [z5]; done)), Below.refl _ _, ⟨fun h => absurd h (by decide), fun h => absurd h (by decide), fun h => absurd h (by decide), fun _ _ _ => rfl⟩⟩
    · injection ho with ho
      subst ho
      have z6 : s 32 = .pointer (some ⟨q.lh.b, q.lh.o + im * 2, none⟩) := by have h := (he ⟨6, .data⟩ (by simp) rfl).2.2.2 (by decide) (by decide) (by decide); injection h with h; exact h.symm
      clear he
      obtain ⟨c0, _⟩ := li_at (HQR.out.mono HB.out) HI.out
      rw [HL.out] at c0
      refine opwp_K (fun K2 hK2 => ?_)
      go_simp
      exact hK2 _ _ ⟨(.int .i64 (l.tab : Nat)), (by first | rfl | (simp [z6]; done)), Below.refl _ _, ⟨fun h => absurd h (by decide), fun h => absurd h (by decide), fun h => absurd h (by decide), fun _ _ _ => rfl⟩⟩
    · injection ho with ho
      subst ho
      clear he
      refine opwp_K (fun K2 hK2 => ?_)
      go_simp
      exact hK2 _ _ ⟨(.pointer (some ⟨g3, 1, none⟩)), (by first | rfl | (simp [List.getD]; done)), Below.refl _ _, ⟨fun h => absurd h (by decide), fun h => absurd h (by decide), fun h => absurd h (by decide), fun _ _ _ => rfl⟩⟩
    · injection ho with ho
      subst ho
      have z8 : s 34 = .pointer (some ⟨g3, 1, none⟩) := by have h := (he ⟨8, .data⟩ (by simp) rfl).2.2.2 (by decide) (by decide) (by decide); injection h with h; exact h.symm
      clear he
      have hbe := HQB.out.below HB.out
      have k1 := hbe.cell (j := 1) rfl
      clear hbe
      refine opwp_K (fun K2 hK2 => ?_)
      go_simp
      exact hK2 _ _ ⟨(.slice q.lh.ao q.lits.length q.lh.cap), (by first | rfl | (simp [z8]; done)), Below.refl _ _, ⟨fun h => absurd h (by decide), fun h => absurd h (by decide), fun h => absurd h (by decide), fun _ _ _ => rfl⟩⟩
    · injection ho with ho
      subst ho
      clear he
      refine opwp_K (fun K2 hK2 => ?_)
      go_simp
      exact hK2 _ _ ⟨(.int .i64 (im : Nat)), (by first | rfl | (simp [List.getD]; done)), Below.refl _ _, ⟨fun h => absurd h (by decide), fun h => absurd h (by decide), fun h => absurd h (by decide), fun _ _ _ => rfl⟩⟩
    · injection ho with ho
      subst ho
      have z9 : s 35 = .slice q.lh.ao q.lits.length q.lh.cap := by have h := (he ⟨9, .data⟩ (by simp) rfl).2.2.2 (by decide) (by decide) (by decide); injection h with h; exact h.symm
      have z10 : s 36 = .int .i64 (im : Nat) := by have h := (he ⟨10, .data⟩ (by simp) rfl).2.2.2 (by decide) (by decide) (by decide); injection h with h; exact h.symm
      clear he
      have hixl := (HQR.out.mono HB.out).ix HI.out Tryz.underlying29 szlit
      refine opwp_K (fun K2 hK2 => ?_)
      go_simp
      exact hK2 _ _ ⟨(.pointer (some ⟨q.lh.b, q.lh.o + im * 2, none⟩)), (by first | rfl | (simp [z9, z10]; done)), Below.refl _ _, ⟨fun h => absurd h (by decide), fun h => absurd h (by decide), fun h => absurd h (by decide), fun _ _ _ => rfl⟩⟩
    · injection ho with ho
      subst ho
      have z11 : s 37 = .pointer (some ⟨q.lh.b, q.lh.o + im * 2, none⟩) := by have h := (he ⟨11, .data⟩ (by simp) rfl).2.2.2 (by decide) (by decide) (by decide); injection h with h; exact h.symm
      clear he
      refine opwp_K (fun K2 hK2 => ?_)
      go_simp
      exact hK2 _ _ ⟨(.pointer (some ⟨q.lh.b, q.lh.o + im * 2 + 1, none⟩)), (by first | rfl | (simp [z11]; done)), Below.refl _ _, ⟨fun h => absurd h (by decide), fun h => absurd h (by decide), fun h => absurd h (by decide), fun _ _ _ => rfl⟩⟩
    · injection ho with ho
      subst ho
      have z12 : s 38 = .pointer (some ⟨q.lh.b, q.lh.o + im * 2 + 1, none⟩) := by have h := (he ⟨12, .data⟩ (by simp) rfl).2.2.2 (by decide) (by decide) (by decide); injection h with h; exact h.symm
      clear he
      obtain ⟨_, c1⟩ := li_at (HQR.out.mono HB.out) HI.out
      rw [HL.out] at c1
      refine opwp_K (fun K2 hK2 => ?_)
      go_simp
      exact hK2 _ _ ⟨(.slice l.sl.h.ao l.sl.l.length l.sl.h.cap), (by first | rfl | (simp [z12]; done)), Below.refl _ _, ⟨fun h => absurd h (by decide), fun h => absurd h (by decide), fun h => absurd h (by decide), fun _ _ _ => rfl⟩⟩
    · injection ho with ho
      subst ho
      clear he
      refine opwp_K (fun K2 hK2 => ?_)
      go_simp
      exact hK2 _ _ ⟨(.slice N.h.ao N.l.length N.h.cap), (by first | rfl | (simp [List.getD]; done)), Below.refl _ _, ⟨fun h => absurd h (by decide), fun h => absurd h (by decide), fun h => absurd h (by decide), fun _ _ _ => rfl⟩⟩
    · injection ho with ho
      subst ho
      have z13 : s 39 = .slice l.sl.h.ao l.sl.l.length l.sl.h.cap := by have h := (he ⟨13, .data⟩ (by simp) rfl).2.2.2 (by decide) (by decide) (by decide); injection h with h; exact h.symm
      have z14 : s 40 = .slice N.h.ao N.l.length N.h.cap := by have h := (he ⟨14, .data⟩ (by simp) rfl).2.2.2 (by decide) (by decide) (by decide); injection h with h; exact h.symm
      clear he
      refine opwp_K (fun K2 hK2 => ?_)
      go_simp
      go_at_call 63
      refine (named_any l.sl N names B1 x (HSL.out.mono HB.out) (HN.out.mono HB.out) HNL.out HV.out HNW.out HLL.out).mono ?_
      rintro _ z ⟨r, rfl, h1, h2, hz⟩
      have H1 := hide h1
      clear h1
      go_simp
      exact hK2 _ _ ⟨_, (by first | rfl | (simp [z13, z14]; done)), hz, ⟨fun _ => ⟨r, rfl, H1.out, ⟨h2.row, h2.wf, h2.ge.le HB.out.size⟩⟩, fun h => absurd h (by decide), fun h => absurd h (by decide), fun h _ _ => absurd rfl h⟩⟩
    · injection ho with ho
      subst ho
      have z7 : s 33 = .int .i64 (l.tab : Nat) := by have h := (he ⟨7, .data⟩ (by simp) rfl).2.2.2 (by decide) (by decide) (by decide); injection h with h; exact h.symm
      obtain ⟨r5, hz15, hg15_0, hg15_1⟩ := (he ⟨15, .data⟩ (by simp) rfl).1 rfl
      have z15 : s 41 = .slice (TL.h r5).ao (TL.l r5).length (TL.h r5).cap := hz15
      clear hz15
      clear he
      have H0 := hide hg15_0
      clear hg15_0
      refine opwp_K (fun K2 hK2 => ?_)
      go_simp
      exact hK2 _ _ ⟨_, (by first | rfl | (simp [z7, z15]; done)), Below.refl _ _, ⟨fun h => absurd h (by decide), fun _ => ⟨r5, rfl, H0.out, hg15_1⟩, fun h => absurd h (by decide), fun _ h _ => absurd rfl h⟩⟩
    · injection ho with ho
      subst ho
      obtain ⟨r6, hz16, hg16_0, hg16_1⟩ := (he ⟨16, .data⟩ (by simp) rfl).2.1 rfl
      have z16 : s 42 = .agg #[.int .i64 (l.tab : Nat), .slice (TL.h r6).ao (TL.l r6).length (TL.h r6).cap] := hz16
      clear hz16
      clear he
      have H0 := hide hg16_0
      clear hg16_0
      refine opwp_K (fun K2 hK2 => ?_)
      go_simp
      exact hK2 _ _ ⟨_, (by first | rfl | (simp [z16]; done)), belA _, ⟨fun h => absurd h (by decide), fun h => absurd h (by decide), fun _ => ⟨_, r6, rfl, Box.new _ _ _, H0.out, hg16_1.mono (belA _)⟩, fun _ _ h => absurd rfl h⟩⟩
end Go.Proofs.YtiijaaohphokcaaGreatDoor

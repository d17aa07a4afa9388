/- querylabfield.Conjunctive: its regions that draw their order. -/
import Derived.Test.YtiijaaohphokcaaGreatDoorG33
namespace Go.Proofs.YtiijaaohphokcaaGreatDoor
open Go.RowKit

noncomputable def cjBody : Code := Tryz.f9.body.getD .skip
/-- While a literal is made: its box lx, the query's box. -/
structure LP (w : World) (s : Sch) (b : Nat) (L : IL) (a : Nat) (ts : List Int) (lv : Value) (lits : List Li) (ql : Value) (B1 : Nat) (cur : List (Tm V)) (cl : Value) (lx tab : Nat) (z : World) : Prop where
  cb : CB w s b L a ts lv lits ql B1 cur cl z
  bq : Box z (w.heap.size + 1 + 1) #[.int .i64 0, ql, .slice none 0 0] 32
  bl : Box z lx #[.int .i64 (tab : Nat), cl] 56
  nq : ql.ownBlock ≠ some lx
  lo : w.heap.size + 1 + 1 + 1 < lx
/-- .. and the column's box. -/
structure LQ (w : World) (s : Sch) (b : Nat) (L : IL) (a : Nat) (ts : List Int) (lv : Value) (lits : List Li) (ql : Value) (B1 : Nat) (cur : List (Tm V)) (cl : Value) (lx tab cx : Nat) (c : Col) (z : World) : Prop where
  lp : LP w s b L a ts lv lits ql B1 cur cl lx tab z
  bc : Box z cx #[.string c.name, .int .i64 c.typ, .bool c.nul] 72
  lc : w.heap.size + 1 + 1 + 1 < cx
section
variable {w z y : World} {s : Sch} {b a a' B1 lx tab cx : Nat} {L : IL} {ts ts' : List Int} {lv lv' ql cl : Value} {lits : List Li} {cur : List (Tm V)} {c : Col}
theorem kept_box {g : Nat} {cs : Array Value} {T : TypeId} (hb : b < w.heap.size) (ht : TS w w.heap.size b L a (w.heap.size + 1 + 1 + 1) ts lv z) (hk : KeptT z y b (w.heap.size + 1 + 1 + 1) lv) (h : Box z g cs T) (h1 : w.heap.size ≤ g) (h2 : g ≠ w.heap.size + 1 + 1 + 1) (h3 : 3 ≠ T) : Box y g cs T :=
  (hk g h.lt (by omega) h2 (ht.own_ne (TyAt.box h) h3)).trans h
theorem LP.move (h : LP w s b L a ts lv lits ql B1 cur cl lx tab z) (hk : KeptT z y b (w.heap.size + 1 + 1 + 1) lv) (hs : z.heap.size ≤ y.heap.size) (ht : TS w w.heap.size b L a' (w.heap.size + 1 + 1 + 1) ts' lv' y) : LP w s b L a' ts' lv' lits ql B1 cur cl lx tab y := by
  have hb := h.cb.bw
  have hlo := h.lo
  exact ⟨h.cb.move hk hs ht, kept_box hb h.cb.ts hk h.bq (by omega) (by omega) (by decide), kept_box hb h.cb.ts hk h.bl (by omega) (by omega) (by decide), h.nq, h.lo⟩
theorem LP.below (h : LP w s b L a ts lv lits ql B1 cur cl lx tab z) (hb : Below z.heap.size z y) : LP w s b L a ts lv lits ql B1 cur cl lx tab y := ⟨h.cb.below hb, h.bq.below hb, h.bl.below hb, h.nq, h.lo⟩
theorem LQ.move (h : LQ w s b L a ts lv lits ql B1 cur cl lx tab cx c z) (hk : KeptT z y b (w.heap.size + 1 + 1 + 1) lv) (hs : z.heap.size ≤ y.heap.size) (ht : TS w w.heap.size b L a' (w.heap.size + 1 + 1 + 1) ts' lv' y) : LQ w s b L a' ts' lv' lits ql B1 cur cl lx tab cx c y := by
  have hb := h.lp.cb.bw
  have hlo := h.lc
  exact ⟨h.lp.move hk hs ht, kept_box hb h.lp.cb.ts hk h.bc (by omega) (by omega) (by decide), h.lc⟩
theorem LQ.below (h : LQ w s b L a ts lv lits ql B1 cur cl lx tab cx c z) (hb : Below z.heap.size z y) : LQ w s b L a ts lv lits ql B1 cur cl lx tab cx c y := ⟨h.lp.below hb, h.bc.below hb, h.lc⟩
/-- A slot is appended to the literal. -/
theorem LP.app {t : Tm V} {v2 : Value} (h : LP w s b L a ts lv lits ql B1 cur cl lx tab z) (hg : z.grownBy y cl.ownBlock) (ho : y.ownsRow B1 83 4 v2 (cur.length + 1) (cur.flatMap Tm.cells ++ Tm.cells t)) : LP w s b L a ts lv lits ql B1 (cur ++ [t]) v2 lx tab (y.setCell ⟨lx, 1, none⟩ v2) ∧ Box y lx #[.int .i64 (tab : Nat), cl] 56 := by
  have hlo := h.lo
  have hbl := h.bl.grown hg (fun e => h.cb.cl_ne (TyAt.box h.bl) (by decide) e.symm)
  have hbq := h.bq.grown hg (fun e => h.cb.cl_ne (TyAt.box h.bq) (by decide) e.symm)
  have hcb := h.cb.app (t := t) hg ho
  have hs := gb_set y lx 1 v2
  refine ⟨⟨hcb.storeT (by omega) (by omega) (TyAt.box hbl) h.nq (by decide) (by decide) 1 v2, hbq.grown hs (by intro e; injection e with e; omega), ?_, h.nq, h.lo⟩, hbl⟩
  have := hbl.set 1 v2
  simpa only [List.setIfInBounds_toArray, List.set_cons_zero, List.set_cons_succ] using this
end
/-- Behind the slot's call: the slot t. -/
structure ST (w : World) (s : Sch) (b : Nat) (L : IL) (a : Nat) (ts : List Int) (lits : List Li) (ql : Value) (B1 : Nat) (cur : List (Tm V)) (cl : Value) (lx tab : Nat) (typ : Int) (t : Tm V) (a' : Nat) (ts' : List Int) (lv' : Value) (x : World) : Prop where
  lp : LP w s b L a' ts' lv' lits ql B1 cur cl lx tab x
  ap : a' ≤ a + 3
  tr : ts' = ts ∨ (ts' = ts ++ [typ] ∧ t = .v ts.length)
  ok : SlotOk ts'.length (fun n => ts'.getD n 0) t typ
  wf : t.wf
theorem ST.below {w x y : World} {s : Sch} {b a a' B1 lx tab : Nat} {L : IL} {ts ts' : List Int} {lv' ql cl : Value} {lits : List Li} {cur : List (Tm V)} {typ : Int} {t : Tm V} (h : ST w s b L a ts lits ql B1 cur cl lx tab typ t a' ts' lv' x) (hb : Below x.heap.size x y) : ST w s b L a ts lits ql B1 cur cl lx tab typ t a' ts' lv' y := ⟨h.lp.below hb, h.ap, h.tr, h.ok, h.wf⟩
/-- Ahead of the call all; behind it the boxes. -/
structure LG (w : World) (s : Sch) (b : Nat) (L : IL) (a : Nat) (ts : List Int) (lv : Value) (lits : List Li) (ql : Value) (B1 : Nat) (cur : List (Tm V)) (cl : Value) (lx tab cx : Nat) (c : Col) (bb : Bool) (x : World) : Prop where
  lq : bb = false → LQ w s b L a ts lv lits ql B1 cur cl lx tab cx c x
  bl : Box x lx #[.int .i64 (tab : Nat), cl] 56
  bc : Box x cx #[.string c.name, .int .i64 c.typ, .bool c.nul] 72
theorem LG.below {w x y : World} {s : Sch} {b a B1 lx tab cx : Nat} {L : IL} {ts : List Int} {lv ql cl : Value} {lits : List Li} {cur : List (Tm V)} {c : Col} {bb : Bool} (h : LG w s b L a ts lv lits ql B1 cur cl lx tab cx c bb x) (hb : Below x.heap.size x y) : LG w s b L a ts lv lits ql B1 cur cl lx tab cx c bb y := ⟨fun e => (h.lq e).below hb, h.bl.below hb, h.bc.below hb⟩
theorem info_slot4 : (Tryz.prog.info? 83).map (fun i => (i.zero, i.size, i.bytes)) = some (some (.agg #[.int .i64 0, .int .i64 0, .int .i64 0, .string ⟨#[]⟩]), 4, 40) := by kernel_rfl
theorem tm_one (t : Tm V) : ∀ u ∈ [Value.int .i64 t.nr, .int .i64 t.val.kind, .int .i64 t.val.num, .string t.val.text], u.oneCell' = true := fun u hu => by
  simp only [List.mem_cons, List.not_mem_nil, or_false] at hu
  rcases hu with rfl | rfl | rfl | rfl <;> rfl

/-- The base of the current row lies below each world's size. -/
structure B1le (w : World) (s : Sch) (b : Nat) (L : IL) (lits : List Li) (ql : Value) (B1 : Nat) (cur : List (Tm V)) (cl : Value) (lx tab : Nat) : Prop where
  lt : B1 ≤ lx + 1
theorem B1le.le {w : World} {s : Sch} {b : Nat} {L : IL} {lits : List Li} {ql : Value} {B1 : Nat} {cur : List (Tm V)} {cl : Value} {lx tab a2 : Nat} {ts2 : List Int} {lv2 : Value} (h : B1le w s b L lits ql B1 cur cl lx tab) (x : World) (hl : LP w s b L a2 ts2 lv2 lits ql B1 cur cl lx tab x) : B1 ≤ x.heap.size := by
  have := h.lt; have := hl.bl.lt; omega

set_option maxRecDepth 100000 in
set_option maxHeartbeats 4000000 in
theorem cj_reg10 {w : World} {sc : Sch} {b a B1 lx tab cx : Nat} {L : IL} {ts : List Int} {lv ql cl : Value} {lits : List Li} {cur : List (Tm V)} {co : Col} {W : World} (HTY : Hid (co.typ = 1 ∨ co.typ = 3)) (HA : Hid (a ≤ 4611686018427387000)) (HTS : Hid (ts.length ≤ 900)) (HCU : Hid (cur.length ≤ 1000)) (HB1 : Hid (B1le w sc b L lits ql B1 cur cl lx tab)) (HG0 : Hid (LG w sc b L a ts lv lits ql B1 cur cl lx tab cx co false W.drew)) {Q : Exit → Act → World → Prop} {c : Code} {u1 u2 u3 u4 u5 u6 u7 u9 u11 u13 u14 u15 u16 u17 u18 u19 u20 u21 u22 u23 u24 u25 u26 u27 u28 u29 u30 u31 u32 u33 u34 u35 u36 u37 u38 u39 u40 u41 u42 u43 u44 u45 u46 u47 u48 u49 u50 u51 u52 u53 u54 u55 u56 u57 u58 u59 u60 u61 u62 u63 u64 u65 u66 u67 u68 u69 u70 u71 u72 u73 u74 u75 u76 u77 u78 u79 u80 u81 u82 u83 u84 u85 u86 u87 u88 u89 u90 u91 : Value} (hc : c = codeIn [1, 1, 1, 0, 1, 4, 5, 1, 0, 4, 1, 0, 1, 4, 5, 1, 1, 0, 4, 1] cjBody) (hend : ∀ (t5 : Tm V) (b6 : Nat) (t6 : Tm V) (a2 : Nat) (ts2 : List Int) (lv2 : Value) (g4 cap4 : Nat) x, LP w sc b L a2 ts2 lv2 lits ql B1 (cur ++ [t6]) (.slice (some ⟨g4, 0, none⟩) (cur.length + 1) cap4) lx tab x → a2 ≤ a + 3 → (ts2 = ts ∨ (ts2 = ts ++ [co.typ] ∧ t6 = .v ts.length)) → SlotOk ts2.length (fun n => ts2.getD n 0) t6 co.typ → t6.wf → Q .normal { tmps := ((.pointer (some ⟨b, 0, none⟩)) :: u1 :: u2 :: u3 :: u4 :: u5 :: u6 :: u7 :: (.pointer (some ⟨w.heap.size + 1 + 1 + 1, 0, none⟩)) :: u9 :: (.pointer (some ⟨lx, 0, none⟩)) :: u11 :: (.pointer (some ⟨cx, 0, none⟩)) :: u13 :: u14 :: u15 :: u16 :: u17 :: u18 :: u19 :: u20 :: u21 :: u22 :: u23 :: u24 :: u25 :: u26 :: u27 :: u28 :: u29 :: u30 :: u31 :: u32 :: u33 :: u34 :: u35 :: u36 :: u37 :: u38 :: .pointer (some ⟨lx, 1, none⟩) :: cl :: .pointer (some ⟨b, 0, none⟩) :: .pointer (some ⟨cx, 1, none⟩) :: .int .i64 co.typ :: .agg #[.int .i64 t5.nr, .int .i64 t5.val.kind, .int .i64 t5.val.num, .string t5.val.text] :: .slice (some ⟨b6, 0, none⟩) 1 1 :: .slice (some ⟨g4, 0, none⟩) (cur.length + 1) cap4 :: .pointer (some ⟨lx, 1, none⟩) :: u48 :: u49 :: u50 :: u51 :: u52 :: u53 :: u54 :: u55 :: u56 :: u57 :: u58 :: u59 :: u60 :: u61 :: u62 :: u63 :: u64 :: u65 :: u66 :: u67 :: u68 :: u69 :: u70 :: u71 :: u72 :: u73 :: u74 :: u75 :: u76 :: u77 :: u78 :: u79 :: u80 :: u81 :: u82 :: u83 :: u84 :: u85 :: u86 :: u87 :: u88 :: u89 :: u90 :: u91 :: []).toArray, defers := [] } x) : Code.wp Tryz.prog c Q { tmps := ((.pointer (some ⟨b, 0, none⟩)) :: u1 :: u2 :: u3 :: u4 :: u5 :: u6 :: u7 :: (.pointer (some ⟨w.heap.size + 1 + 1 + 1, 0, none⟩)) :: u9 :: (.pointer (some ⟨lx, 0, none⟩)) :: u11 :: (.pointer (some ⟨cx, 0, none⟩)) :: u13 :: u14 :: u15 :: u16 :: u17 :: u18 :: u19 :: u20 :: u21 :: u22 :: u23 :: u24 :: u25 :: u26 :: u27 :: u28 :: u29 :: u30 :: u31 :: u32 :: u33 :: u34 :: u35 :: u36 :: u37 :: u38 :: u39 :: u40 :: u41 :: u42 :: u43 :: u44 :: u45 :: u46 :: u47 :: u48 :: u49 :: u50 :: u51 :: u52 :: u53 :: u54 :: u55 :: u56 :: u57 :: u58 :: u59 :: u60 :: u61 :: u62 :: u63 :: u64 :: u65 :: u66 :: u67 :: u68 :: u69 :: u70 :: u71 :: u72 :: u73 :: u74 :: u75 :: u76 :: u77 :: u78 :: u79 :: u80 :: u81 :: u82 :: u83 :: u84 :: u85 :: u86 :: u87 :: u88 :: u89 :: u90 :: u91 :: []).toArray, defers := [] } W := by
  subst hc
  conv => enter [2]; whnf
  refine wp_region_tailH (by kernel_rfl) (by kernel_rfl) 7 (by show 7 < _; decide) (by kernel_rfl) (by kernel_rfl) (fun s : Nat → Value => ({ tmps := ((.pointer (some ⟨b, 0, none⟩)) :: u1 :: u2 :: u3 :: u4 :: u5 :: u6 :: u7 :: (.pointer (some ⟨w.heap.size + 1 + 1 + 1, 0, none⟩)) :: u9 :: (.pointer (some ⟨lx, 0, none⟩)) :: u11 :: (.pointer (some ⟨cx, 0, none⟩)) :: u13 :: u14 :: u15 :: u16 :: u17 :: u18 :: u19 :: u20 :: u21 :: u22 :: u23 :: u24 :: u25 :: u26 :: u27 :: u28 :: u29 :: u30 :: u31 :: u32 :: u33 :: u34 :: u35 :: u36 :: u37 :: u38 :: s 39 :: s 40 :: s 41 :: s 42 :: s 43 :: s 44 :: s 45 :: u46 :: u47 :: u48 :: u49 :: u50 :: u51 :: u52 :: u53 :: u54 :: u55 :: u56 :: u57 :: u58 :: u59 :: u60 :: u61 :: u62 :: u63 :: u64 :: u65 :: u66 :: u67 :: u68 :: u69 :: u70 :: u71 :: u72 :: u73 :: u74 :: u75 :: u76 :: u77 :: u78 :: u79 :: u80 :: u81 :: u82 :: u83 :: u84 :: u85 :: u86 :: u87 :: u88 :: u89 :: u90 :: u91 :: []).toArray, defers := [] } : Act)) (fun k => if k = 39 then u39 else if k = 40 then u40 else if k = 41 then u41 else if k = 42 then u42 else if k = 43 then u43 else if k = 44 then u44 else if k = 45 then u45 else undef) rfl 5 (by decide) (fun i => ([false, false, false, false, false, true, true] : List Bool).getD i false) (by kernel_rfl) (fun _ _ => True) (LG w sc b L a ts lv lits ql B1 cur cl lx tab cx co) ?g0 (fun i v x => (i = 5 → ∃ t5 a2 ts2 lv2, v = .agg #[.int .i64 t5.nr, .int .i64 t5.val.kind, .int .i64 t5.val.num, .string t5.val.text] ∧ ST w sc b L a ts lits ql B1 cur cl lx tab co.typ t5 a2 ts2 lv2 x) ∧ (i = 6 → ∃ b6 t6 a2 ts2 lv2, v = .slice (some ⟨b6, 0, none⟩) 1 1 ∧ ST w sc b L a ts lits ql B1 cur cl lx tab co.typ t6 a2 ts2 lv2 x ∧ Box x b6 #[.int .i64 t6.nr, .int .i64 t6.val.kind, .int .i64 t6.val.num, .string t6.val.text] 83) ∧ (i ≠ 5 → i ≠ 6 → ([.pointer (some ⟨lx, 1, none⟩), cl, .pointer (some ⟨b, 0, none⟩), .pointer (some ⟨cx, 1, none⟩), .int .i64 co.typ, undef, undef] : List Value)[i]? = some v)) (fun i v x y h hb => ⟨fun hi => (by obtain ⟨t5, a2, ts2, lv2, h0, q0⟩ := h.1 hi; exact ⟨t5, a2, ts2, lv2, h0, q0.below hb⟩), fun hi => (by obtain ⟨b6, t6, a2, ts2, lv2, h0, q0, q1⟩ := h.2.1 hi; exact ⟨b6, t6, a2, ts2, lv2, h0, q0.below hb, q1.below hb⟩), h.2.2⟩) (fun i v x y hd _ _ h hb => ⟨fun hi => (by subst hi; exact absurd hd (by decide)), fun hi => (by subst hi; exact absurd hd (by decide)), h.2.2⟩) (fun i => ([39, 40, 41, 42, 43, 44, 45] : List Nat).getD i 0) ?inj ?step ?last
  case g0 => exact HG0.out
  case inj =>
    intro i j hi hj h
    have hI : i = 0 ∨ i = 1 ∨ i = 2 ∨ i = 3 ∨ i = 4 ∨ i = 5 ∨ i = 6 := by omega
    have hJ : j = 0 ∨ j = 1 ∨ j = 2 ∨ j = 3 ∨ j = 4 ∨ j = 5 ∨ j = 6 := by omega
    rcases hI with rfl | rfl | rfl | rfl | rfl | rfl | rfl <;> rcases hJ with rfl | rfl | rfl | rfl | rfl | rfl | rfl <;> first | rfl | (exact absurd h (by decide))
  case last =>
    intro s x hv hgt
    have HG := hide hgt
    clear hgt
    have z0 : s 39 = .pointer (some ⟨lx, 1, none⟩) := by have h := (hv 0 (by decide)).2.2 (by decide) (by decide); injection h with h; exact h.symm
    have z1 : s 40 = cl := by have h := (hv 1 (by decide)).2.2 (by decide) (by decide); injection h with h; exact h.symm
    have z2 : s 41 = .pointer (some ⟨b, 0, none⟩) := by have h := (hv 2 (by decide)).2.2 (by decide) (by decide); injection h with h; exact h.symm
    have z3 : s 42 = .pointer (some ⟨cx, 1, none⟩) := by have h := (hv 3 (by decide)).2.2 (by decide) (by decide); injection h with h; exact h.symm
    have z4 : s 43 = .int .i64 co.typ := by have h := (hv 4 (by decide)).2.2 (by decide) (by decide); injection h with h; exact h.symm
    obtain ⟨t5, a2, ts2, lv2, hz5, hg5_0⟩ := (hv 5 (by decide)).1 rfl
    have z5 : s 44 = .agg #[.int .i64 t5.nr, .int .i64 t5.val.kind, .int .i64 t5.val.num, .string t5.val.text] := hz5
    clear hz5
    obtain ⟨b6, t6, a2, ts2, lv2, hz6, hg6_0, hg6_1⟩ := (hv 6 (by decide)).2.1 rfl
    have z6 : s 45 = .slice (some ⟨b6, 0, none⟩) 1 1 := hz6
    clear hz6
    clear hv
    obtain ⟨i0, hi, hz0, hz1, hz2⟩ := info_parts info_slot4
    have HLP := hide hg6_0
    show Oper.wp _ _ _ _ _ _
    refine wp_append_own x _ _ 30 rfl B1 83 i0 (.agg #[.int .i64 0, .int .i64 0, .int .i64 0, .string ⟨#[]⟩]) 4 40 Tryz.underlying30 hi hz0 hz1 hz2 rfl (by decide) cl cur.length _ (by show s 40 = _; exact z1) HLP.out.lp.cb.oc ⟨b6, 0, none⟩ 1 1 [.int .i64 t6.nr, .int .i64 t6.val.kind, .int .i64 t6.val.num, .string t6.val.text] (by show s 45 = _; exact z6) rfl (box_cells hg6_1) (tm_one t6) (by have := HCU.out; unfold maxLen; omega) (by have := HCU.out; omega) (HB1.out.le x HLP.out.lp) ?_
    intro v2 y2 hown hgr _
    obtain ⟨g4, cap4, rfl⟩ := ownsRow_succ hown
    obtain ⟨hA, hbl⟩ := HLP.out.lp.app (t := t6) hgr (by rw [Tm.cells_eq]; exact hown)
    have HS := hide hA
    have k1 := hbl.cell (j := 1) rfl
    have f1 := hbl.fr 1
    clear hown hgr hi hz0 hz1 hz2 hg6_0 hg6_1 hA hbl
    show Oper.wp _ _ _ _ _ _
    refine opwp_K (fun K2 hK2 => ?_)
    go_simp
    refine hK2 _ _ ?_
    show Oper.wp _ _ _ _ _ _
    clear hK2
    refine opwp_K (fun K3 hK3 => ?_)
    go_simp
    refine hK3 _ _ ?_
    have h := hend t5 b6 t6 _ _ _ g4 cap4 _ HS.out HLP.out.ap HLP.out.tr HLP.out.ok HLP.out.wf
    show Q _ _ _
    first | exact h | (simp only [z0, z1, z2, z3, z4, z5, z6]; exact h)
  case step =>
    intro i o s x hin ho he bb hgb hbf hbt
    have HG := hide hgb
    clear hgb
    have hcase : i = 0 ∨ i = 1 ∨ i = 2 ∨ i = 3 ∨ i = 4 ∨ i = 5 ∨ i = 6 := by omega
    rcases hcase with rfl | rfl | rfl | rfl | rfl | rfl | rfl
    · injection ho with ho
      subst ho
      clear he hbf hbt
      refine opwp_K (fun K2 hK2 => ?_)
      go_simp
      exact hK2 _ _ ⟨(.pointer (some ⟨lx, 1, none⟩)), (by first | rfl | (simp [List.getD]; done)), sI_ne (by decide) (Below.refl _ _), gIf_ne (G := LG w sc b L a ts lv lits ql B1 cur cl lx tab cx co) (by decide) HG.out, ⟨fun h => absurd h (by decide), fun h => absurd h (by decide), fun _ _ => rfl⟩⟩
    · injection ho with ho
      subst ho
      have z0 : s 39 = .pointer (some ⟨lx, 1, none⟩) := by have h := (he ⟨0, .data⟩ (by simp) rfl).2.2 (by decide) (by decide); injection h with h; exact h.symm
      clear he hbf hbt
      have k1 := HG.out.bl.cell (j := 1) rfl
      refine opwp_K (fun K2 hK2 => ?_)
      go_simp
      exact hK2 _ _ ⟨(cl), (by first | rfl | (simp [z0]; done)), sI_ne (by decide) (Below.refl _ _), gIf_ne (G := LG w sc b L a ts lv lits ql B1 cur cl lx tab cx co) (by decide) HG.out, ⟨fun h => absurd h (by decide), fun h => absurd h (by decide), fun _ _ => rfl⟩⟩
    · injection ho with ho
      subst ho
      clear he hbf hbt
      refine opwp_K (fun K2 hK2 => ?_)
      go_simp
      exact hK2 _ _ ⟨(.pointer (some ⟨b, 0, none⟩)), (by first | rfl | (simp [List.getD]; done)), sI_ne (by decide) (Below.refl _ _), gIf_ne (G := LG w sc b L a ts lv lits ql B1 cur cl lx tab cx co) (by decide) HG.out, ⟨fun h => absurd h (by decide), fun h => absurd h (by decide), fun _ _ => rfl⟩⟩
    · injection ho with ho
      subst ho
      clear he hbf hbt
      refine opwp_K (fun K2 hK2 => ?_)
      go_simp
      exact hK2 _ _ ⟨(.pointer (some ⟨cx, 1, none⟩)), (by first | rfl | (simp [List.getD]; done)), sI_ne (by decide) (Below.refl _ _), gIf_ne (G := LG w sc b L a ts lv lits ql B1 cur cl lx tab cx co) (by decide) HG.out, ⟨fun h => absurd h (by decide), fun h => absurd h (by decide), fun _ _ => rfl⟩⟩
    · injection ho with ho
      subst ho
      have z3 : s 42 = .pointer (some ⟨cx, 1, none⟩) := by have h := (he ⟨3, .data⟩ (by simp) rfl).2.2 (by decide) (by decide); injection h with h; exact h.symm
      clear he hbf hbt
      have k1 := HG.out.bc.cell (j := 1) rfl
      refine opwp_K (fun K2 hK2 => ?_)
      go_simp
      exact hK2 _ _ ⟨(.int .i64 co.typ), (by first | rfl | (simp [z3]; done)), sI_ne (by decide) (Below.refl _ _), gIf_ne (G := LG w sc b L a ts lv lits ql B1 cur cl lx tab cx co) (by decide) HG.out, ⟨fun h => absurd h (by decide), fun h => absurd h (by decide), fun _ _ => rfl⟩⟩
    · injection ho with ho
      subst ho
      have z2 : s 41 = .pointer (some ⟨b, 0, none⟩) := by have h := (he ⟨2, .data⟩ (by simp) rfl).2.2 (by decide) (by decide); injection h with h; exact h.symm
      have z4 : s 43 = .int .i64 co.typ := by have h := (he ⟨4, .data⟩ (by simp) rfl).2.2 (by decide) (by decide); injection h with h; exact h.symm
      obtain rfl : bb = false := hbf rfl
      clear he hbf hbt
      have HQ := hide (HG.out.lq rfl)
      refine opwp_K (fun K2 hK2 => ?_)
      go_simp
      go_at_call 40
      refine (slot_any w w.heap.size b L a (w.heap.size + 1 + 1 + 1) ts lv co.typ x HQ.out.lp.cb.ts HTY.out HA.out HTS.out).mono ?_
      rintro e y ⟨t, ts2, lv2, a2, rfl, hT, hap, htr, hok, hwf, hk, hs⟩
      go_simp
      have hL := HQ.out.move hk hs hT
      exact hK2 _ _ ⟨(_), (by first | rfl | (simp [z2, z4]; done)), sI_eq rfl (trivial), gIf_eq (G := LG w sc b L a ts lv lits ql B1 cur cl lx tab cx co) (⟨fun e => (by cases e), hL.lp.bl, hL.bc⟩), ⟨fun _ => ⟨t, a2, ts2, lv2, rfl, ⟨hL.lp, hap, htr, hok, hwf⟩⟩, fun h => absurd h (by decide), fun h _ => absurd rfl h⟩⟩
    · injection ho with ho
      subst ho
      obtain ⟨t5, a2, ts2, lv2, hz5, hg5_0⟩ := (he ⟨5, .data⟩ (by simp) rfl).1 rfl
      have z5 : s 44 = .agg #[.int .i64 t5.nr, .int .i64 t5.val.kind, .int .i64 t5.val.num, .string t5.val.text] := hz5
      clear hz5
      obtain rfl : bb = true := hbt ⟨⟨5, .data⟩, by simp, rfl, rfl⟩
      clear he hbf hbt
      refine opwp_K (fun K2 hK2 => ?_)
      go_simp
      exact hK2 _ _ ⟨(_), (by first | rfl | (simp [z5]; done)), sI_ne (by decide) (belA _), gIf_ne (G := LG w sc b L a ts lv lits ql B1 cur cl lx tab cx co) (by decide) (HG.out.below (belA _)), ⟨fun h => absurd h (by decide), fun _ => ⟨_, t5, a2, ts2, lv2, rfl, hg5_0.below (belA _), Box.new _ _ _⟩, fun _ h => absurd rfl h⟩⟩

end Go.Proofs.YtiijaaohphokcaaGreatDoor

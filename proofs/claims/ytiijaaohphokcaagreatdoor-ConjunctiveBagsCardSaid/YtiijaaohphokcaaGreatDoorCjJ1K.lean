/- A plain schema under construction (querylabfield.Plain); the region that appends a column. -/
import Derived.Test.YtiijaaohphokcaaGreatDoorCjI9K
namespace Go.Proofs.YtiijaaohphokcaaGreatDoor
open Go.RowKit
structure FinT (w : World) (B1 : Nat) (x : World) (t : Tab) : Prop where
  eq : t = pt t.name t.ch t.cols t.prim.h
  rc : Row x 3 Col.cells t.ch t.cols
  pr : IL.In x ⟨t.prim.h, [0]⟩
  tc : TyAt x t.ch.b 72
  tp : TyAt x t.prim.h.b 3
  gc : w.heap.size ≤ t.ch.b
  gp : w.heap.size ≤ t.prim.h.b
  lc : t.ch.b < B1
  lp : t.prim.h.b < B1
  wf : ∀ c ∈ t.cols, c.wf
  nm : t.name.size ≤ 1000
theorem FinT.eqb {w x y : World} {B1 : Nat} {t : Tab} (h : FinT w B1 x t) (hs : x.heap.size ≤ y.heap.size) (h1 : y.heap[t.ch.b]? = x.heap[t.ch.b]?) (h2 : y.heap[t.prim.h.b]? = x.heap[t.prim.h.b]?) : FinT w B1 y t :=
  ⟨h.eq, row_eqb h.rc hs h1, ⟨row_eqb h.pr.1 hs h2, h.pr.2⟩, h.tc.eqb h1, h.tp.eqb h2, h.gc, h.gp, h.lc, h.lp, h.wf, h.nm⟩
structure PSt (w : World) (b : Nat) (L : IL) (a : Nat) (tabs : List Tab) (tv : Value) (B1 : Nat) (z : World) : Prop where
  gb : w.grownBy z (some b)
  ll : b < w.heap.size ∧ (0 < L.l.length → L.h.b < w.heap.size)
  tp : TapeIn z b L a
  br : Box z w.heap.size #[.slice none 0 0] 27
  bs : Box z (w.heap.size + 1) #[tv] 27
  ot : z.ownsRow w.heap.size 78 6 tv tabs.length (tabs.flatMap Tab.cells)
  fin : ∀ t ∈ tabs, FinT w B1 z t
  lo : w.heap.size ≤ B1
section
variable {w z y : World} {b a a' B1 : Nat} {L : IL} {tabs : List Tab} {tv : Value}
theorem PSt.move (h : PSt w b L a tabs tv B1 z) (hg : w.grownBy y (some b)) (hs : z.heap.size ≤ y.heap.size) (ht : TapeIn y b L a') (hk : ∀ g T, TyAt z g T → w.heap.size ≤ g → g < B1 → y.heap[g]? = z.heap[g]?) (hk2 : y.heap[w.heap.size]? = z.heap[w.heap.size]? ∧ y.heap[w.heap.size + 1]? = z.heap[w.heap.size + 1]? ∧ ∀ g, tv.ownBlock = some g → y.heap[g]? = z.heap[g]?) : PSt w b L a' tabs tv B1 y :=
  ⟨hg, h.ll, ht, hk2.1.trans h.br, hk2.2.1.trans h.bs, own_eqb h.ot hk2.2.2, fun t h1 => (h.fin t h1).eqb hs (hk _ _ (h.fin t h1).tc (h.fin t h1).gc (h.fin t h1).lc) (hk _ _ (h.fin t h1).tp (h.fin t h1).gp (h.fin t h1).lp), h.lo⟩
theorem PSt.below (h : PSt w b L a tabs tv B1 z) (hb : Below z.heap.size z y) : PSt w b L a tabs tv B1 y :=
  h.move (h.gb.trans (only_below hb _)) hb.size (h.tp.mono hb) (fun g T ht _ _ => hb.block g ht.lt) ⟨hb.block _ h.br.lt, hb.block _ h.bs.lt, fun g e => hb.block g (TyAt.own h.ot e).lt⟩
theorem PSt.tape (h : PSt w b L a tabs tv B1 z) (hg : z.grownBy y (some b)) (ht : TapeIn y b L a') : PSt w b L a' tabs tv B1 y := by
  have hl := h.ll.1
  have key : ∀ g, w.heap.size ≤ g → g < z.heap.size → y.heap[g]? = z.heap[g]? := fun g h1 h2 => hg.block g h2 (by intro e; injection e with e; omega)
  exact h.move (h.gb.trans hg) hg.size ht (fun g T ht h1 _ => key g h1 ht.lt) ⟨key _ (Nat.le_refl _) h.br.lt, key _ (by omega) h.bs.lt, fun g e => key g (h.ot.lt g e).1 (TyAt.own h.ot e).lt⟩
theorem PSt.far {c : Nat} (h : PSt w b L a tabs tv B1 z) (hg : z.grownBy y (some c)) (hc : B1 ≤ c) (h2 : w.heap.size + 1 < B1) (ht : tv.ownBlock ≠ some c) : PSt w b L a tabs tv B1 y := by
  have hl := h.ll
  have key : ∀ g, g ≠ c → g < z.heap.size → y.heap[g]? = z.heap[g]? := fun g h1 h2 => hg.block g h2 (by intro e; injection e with e; exact h1 e)
  exact h.move (h.gb.andThen hg (fun j e => by injection e with e; left; omega)) hg.size (tz2 h.tp hg hl (by omega)) (fun g _ ht h1 h2 => key g (by omega) ht.lt) ⟨key _ (by omega) h.br.lt, key _ (by omega) h.bs.lt, fun g e => key g (fun e2 => ht (by rw [← e2]; exact e)) (TyAt.own h.ot e).lt⟩
end
structure PT (w : World) (b : Nat) (L : IL) (a : Nat) (tabs : List Tab) (tv : Value) (B1 cx : Nat) (nm : ByteArray) (cols : List Col) (lc : Value) (pg : Nat) (z : World) : Prop where
  ps : PSt w b L a tabs tv B1 z
  bx : Box z cx #[.string nm, lc, .slice (some ⟨pg, 0, none⟩) 1 1, .slice none 0 0, .slice none 0 0, .slice none 0 0] 78
  oc : z.ownsRow B1 72 3 lc cols.length (cols.flatMap Col.cells)
  bp : Box z pg #[.int .i64 0] 3
  cl : B1 ≤ cx
  gl : B1 ≤ pg
  lo : w.heap.size + 1 < B1
  nt : tv.ownBlock ≠ some cx
section
variable {w z y : World} {b a a' B1 cx pg : Nat} {L : IL} {tabs : List Tab} {tv lc : Value} {nm : ByteArray} {cols : List Col}
theorem PT.below (h : PT w b L a tabs tv B1 cx nm cols lc pg z) (hb : Below z.heap.size z y) : PT w b L a tabs tv B1 cx nm cols lc pg y := ⟨h.ps.below hb, h.bx.below hb, h.oc.kept (only_below hb none) (Classical.em _), h.bp.below hb, h.cl, h.gl, h.lo, h.nt⟩
theorem PT.tape (h : PT w b L a tabs tv B1 cx nm cols lc pg z) (hg : z.grownBy y (some b)) (ht : TapeIn y b L a') : PT w b L a' tabs tv B1 cx nm cols lc pg y := by
  have hl := h.ps.ll.1
  have h1 := h.ps.lo; have h2 := h.cl; have h3 := h.gl
  exact ⟨h.ps.tape hg ht, h.bx.grown hg (by intro e; injection e with e; omega), h.oc.kept hg (.inr (fun e => by have := (h.oc.lt b e).1; omega)), h.bp.grown hg (by intro e; injection e with e; omega), h.cl, h.gl, h.lo, h.nt⟩
theorem PT.app {c : Col} {v2 : Value} (h : PT w b L a tabs tv B1 cx nm cols lc pg z) (hg : z.grownBy y lc.ownBlock) (ho : y.ownsRow B1 72 3 v2 (cols.length + 1) (cols.flatMap Col.cells ++ Col.cells c)) : PT w b L a tabs tv B1 cx nm (cols ++ [c]) v2 pg (y.setCell ⟨cx, 1, none⟩ v2) ∧ Box y cx #[.string nm, lc, .slice (some ⟨pg, 0, none⟩) 1 1, .slice none 0 0, .slice none 0 0, .slice none 0 0] 78 := by
  have hlc : ∀ {g T}, TyAt z g T → 72 ≠ T → lc.ownBlock ≠ some g := fun ht hne e => (TyAt.own h.oc e).ne ht hne rfl
  have hbx := h.bx.grown hg (fun e => hlc (TyAt.box h.bx) (by decide) e.symm)
  have hbp := h.bp.grown hg (fun e => hlc (TyAt.box h.bp) (by decide) e.symm)
  have hps : PSt w b L a tabs tv B1 y := by
    cases hv : lc.ownBlock with
    | none => rw [hv] at hg; exact h.ps.below ⟨hg.os, hg.tape, hg.output, hg.size, fun i hi => hg.block i hi (by simp)⟩
    | some j => rw [hv] at hg; exact h.ps.far hg (h.oc.lt j hv).1 h.lo (fun e => (TyAt.own h.ps.ot e).ne (TyAt.own h.oc hv) (by decide) rfl)
  have hs := gb_set y cx 1 v2
  refine ⟨⟨hps.far hs h.cl h.lo h.nt, ?_, ?_, hbp.grown hs (fun e => by injection e with e; exact (TyAt.box hbp).ne (TyAt.box hbx) (by decide) e), h.cl, h.gl, h.lo, h.nt⟩, hbx⟩
  · have := hbx.set 1 v2
    simpa only [List.setIfInBounds_toArray, List.set_cons_zero, List.set_cons_succ] using this
  · have e : (cols ++ [c]).flatMap Col.cells = cols.flatMap Col.cells ++ Col.cells c := by rw [List.flatMap_append, List.flatMap_cons, List.flatMap_nil, List.append_nil]
    rw [e, List.length_append]
    exact ho.kept hs (.inr (fun e => (TyAt.own ho e).ne (TyAt.box hbx) (by decide) rfl))
end
structure PG (w : World) (b : Nat) (L : IL) (a : Nat) (tabs : List Tab) (tv : Value) (B1 cx : Nat) (nm : ByteArray) (cols : List Col) (lc : Value) (pg : Nat) (bb : Bool) (x : World) : Prop where
  pt : PT w b L (if bb = true then posAt L a else a) tabs tv B1 cx nm cols lc pg x
theorem PG.below {w x y : World} {b a B1 cx pg : Nat} {L : IL} {tabs : List Tab} {tv lc : Value} {nm : ByteArray} {cols : List Col} {bb : Bool} (h : PG w b L a tabs tv B1 cx nm cols lc pg bb x) (hb : Below x.heap.size x y) : PG w b L a tabs tv B1 cx nm cols lc pg bb y := ⟨h.pt.below hb⟩
theorem info_col3 : (Tryz.prog.info? 72).map (fun i => (i.zero, i.size, i.bytes)) = some (some (.agg #[.string ⟨#[]⟩, .int .i64 0, .bool false]), 3, 32) := by kernel_rfl
theorem col_one {a : ByteArray} {b : Int} {c : Bool} : ∀ u ∈ [Value.string a, .int .i64 b, .bool c], u.oneCell' = true := fun u hu => by
  simp only [List.mem_cons, List.not_mem_nil, or_false] at hu
  rcases hu with rfl | rfl | rfl <;> rfl
def cnm (c : UInt8) : ByteArray := (⟨#[99]⟩ : ByteArray) ++ ⟨#[c]⟩
set_option maxRecDepth 100000 in
theorem conv1 {x : World} {b : Nat} {c : UInt8} (h : Box x b #[.int .u8 (c.toNat : Int)] 5) : (convert 70 9 (.slice (some ⟨b, 0, none⟩) 1 1)).run Tryz.prog x = .ok (.string ⟨#[c]⟩) x :=
  run_convert_bytes_back _ 70 9 5 ⟨b, 0, none⟩ 1 [c] rfl rfl rfl (fun j hj => by
    have h0 : j = 0 := by simp at hj; omega
    subst h0
    exact h.cell rfl)
noncomputable def plBody : Code := Tryz.f8.body.getD .skip
set_option maxRecDepth 100000 in
set_option maxHeartbeats 4000000 in
theorem pl_reg9_1 {w : World} {b a B1 cx pg : Nat} {L : IL} {tabs : List Tab} {tv lc : Value} {nm : ByteArray} {cols : List Col} {W : World} (HA : Hid (a ≤ 4611686018427387000)) (HCU : Hid (cols.length ≤ 1000)) (HG0 : Hid (PG w b L a tabs tv B1 cx nm cols lc pg false W.drew)) {Q : Exit → Act → World → Prop} {c : Code} {u1 u2 u3 u4 u7 u8 u9 u10 u11 u12 u13 u14 u15 u16 u17 u18 u19 u20 u21 u22 u23 u24 u25 u26 u27 u28 u29 u30 u31 u32 u33 u34 u35 u36 u37 u38 u39 u40 u41 u42 u43 u44 u45 u46 u47 u48 u49 u50 u51 u52 : Value} (hc : c = codeIn [1, 1, 0, 1, 4, 5, 1, 0, 4, 1, 0, 1, 4, 5, 1, 0, 4] plBody) (hend : ∀ (b5 b9 : Nat) (t10 t11 : Int) (b12 : Nat) (t12 : Int) (g4 cap4 : Nat) x, PT w b L (posAt L a) tabs tv B1 cx nm (cols ++ [⟨cnm 98, t12, false⟩]) (.slice (some ⟨g4, 0, none⟩) (cols.length + 1) cap4) pg x → (t12 = 1 ∨ t12 = 3) → Q .normal { tmps := ((.pointer (some ⟨b, 0, none⟩)) :: u1 :: u2 :: u3 :: u4 :: (.pointer (some ⟨cx, 0, none⟩)) :: (.int .i64 1) :: u7 :: u8 :: u9 :: u10 :: u11 :: u12 :: u13 :: u14 :: u15 :: u16 :: u17 :: u18 :: u19 :: u20 :: u21 :: u22 :: u23 :: u24 :: u25 :: u26 :: u27 :: u28 :: u29 :: u30 :: .pointer (some ⟨cx, 1, none⟩) :: lc :: .int .i64 1 :: .int .i64 98 :: .int .u8 98 :: .slice (some ⟨b5, 0, none⟩) 1 1 :: .string ⟨#[98]⟩ :: .string (cnm 98) :: .pointer (some ⟨b, 0, none⟩) :: .slice (some ⟨b9, 0, none⟩) 3 3 :: .int .i64 t10 :: .agg #[.string (cnm 98), .int .i64 t11, .bool false] :: .slice (some ⟨b12, 0, none⟩) 1 1 :: .slice (some ⟨g4, 0, none⟩) (cols.length + 1) cap4 :: .pointer (some ⟨cx, 1, none⟩) :: u46 :: u47 :: u48 :: u49 :: u50 :: u51 :: u52 :: []).toArray, defers := [] } x) : Code.wp Tryz.prog c Q { tmps := ((.pointer (some ⟨b, 0, none⟩)) :: u1 :: u2 :: u3 :: u4 :: (.pointer (some ⟨cx, 0, none⟩)) :: (.int .i64 1) :: u7 :: u8 :: u9 :: u10 :: u11 :: u12 :: u13 :: u14 :: u15 :: u16 :: u17 :: u18 :: u19 :: u20 :: u21 :: u22 :: u23 :: u24 :: u25 :: u26 :: u27 :: u28 :: u29 :: u30 :: u31 :: u32 :: u33 :: u34 :: u35 :: u36 :: u37 :: u38 :: u39 :: u40 :: u41 :: u42 :: u43 :: u44 :: u45 :: u46 :: u47 :: u48 :: u49 :: u50 :: u51 :: u52 :: []).toArray, defers := [] } W := by
  subst hc
  conv => enter [2]; whnf
  refine wp_region_tailH (by kernel_rfl) (by kernel_rfl) 13 (by show 13 < _; decide) (by kernel_rfl) (by kernel_rfl) (fun s : Nat → Value => ({ tmps := ((.pointer (some ⟨b, 0, none⟩)) :: u1 :: u2 :: u3 :: u4 :: (.pointer (some ⟨cx, 0, none⟩)) :: (.int .i64 1) :: u7 :: u8 :: u9 :: u10 :: u11 :: u12 :: u13 :: u14 :: u15 :: u16 :: u17 :: u18 :: u19 :: u20 :: u21 :: u22 :: u23 :: u24 :: u25 :: u26 :: u27 :: u28 :: u29 :: u30 :: s 31 :: s 32 :: s 33 :: s 34 :: s 35 :: s 36 :: s 37 :: s 38 :: s 39 :: s 40 :: s 41 :: s 42 :: s 43 :: u44 :: u45 :: u46 :: u47 :: u48 :: u49 :: u50 :: u51 :: u52 :: []).toArray, defers := [] } : Act)) (fun k => if k = 31 then u31 else if k = 32 then u32 else if k = 33 then u33 else if k = 34 then u34 else if k = 35 then u35 else if k = 36 then u36 else if k = 37 then u37 else if k = 38 then u38 else if k = 39 then u39 else if k = 40 then u40 else if k = 41 then u41 else if k = 42 then u42 else if k = 43 then u43 else undef) rfl 10 (by decide) (fun i => ([false, false, false, false, false, false, false, false, false, false, true, true, true] : List Bool).getD i false) (by kernel_rfl) (fun x y => x.grownBy y (some b)) (PG w b L a tabs tv B1 cx nm cols lc pg) ?g0 (fun i v x => (i = 5 → ∃ b5, v = .slice (some ⟨b5, 0, none⟩) 1 1 ∧ Box x b5 #[.int .u8 98] 5 ∧ b5 ≠ b) ∧ (i = 9 → ∃ b9, v = .slice (some ⟨b9, 0, none⟩) 3 3 ∧ Box x b9 #[.int .i64 1, .int .i64 1, .int .i64 3] 3 ∧ b9 ≠ b) ∧ (i = 10 → ∃ t10, v = .int .i64 t10 ∧ (t10 = 1 ∨ t10 = 3)) ∧ (i = 11 → ∃ t11, v = .agg #[.string (cnm 98), .int .i64 t11, .bool false] ∧ (t11 = 1 ∨ t11 = 3)) ∧ (i = 12 → ∃ b12 t12, v = .slice (some ⟨b12, 0, none⟩) 1 1 ∧ Box x b12 #[.string (cnm 98), .int .i64 t12, .bool false] 72 ∧ (t12 = 1 ∨ t12 = 3)) ∧ (i ≠ 5 → i ≠ 9 → i ≠ 10 → i ≠ 11 → i ≠ 12 → ([.pointer (some ⟨cx, 1, none⟩), lc, .int .i64 1, .int .i64 98, .int .u8 98, undef, .string ⟨#[98]⟩, .string (cnm 98), .pointer (some ⟨b, 0, none⟩), undef, undef, undef, undef] : List Value)[i]? = some v)) (fun i v x y h hb => ⟨fun hi => (by obtain ⟨b5, h0, q0, q1⟩ := h.1 hi; exact ⟨b5, h0, q0.below hb, q1⟩), fun hi => (by obtain ⟨b9, h0, q0, q1⟩ := h.2.1 hi; exact ⟨b9, h0, q0.below hb, q1⟩), fun hi => (by obtain ⟨t10, h0, q0⟩ := h.2.2.1 hi; exact ⟨t10, h0, q0⟩), fun hi => (by obtain ⟨t11, h0, q0⟩ := h.2.2.2.1 hi; exact ⟨t11, h0, q0⟩), fun hi => (by obtain ⟨b12, t12, h0, q0, q1⟩ := h.2.2.2.2.1 hi; exact ⟨b12, t12, h0, q0.below hb, q1⟩), h.2.2.2.2.2⟩) (fun i v x y hd _ _ h hb => ⟨fun hi => (by obtain ⟨b5, h0, q0, q1⟩ := h.1 hi; exact ⟨b5, h0, q0.grown hb (by intro e; injection e with e; exact q1 e), q1⟩), fun hi => (by obtain ⟨b9, h0, q0, q1⟩ := h.2.1 hi; exact ⟨b9, h0, q0.grown hb (by intro e; injection e with e; exact q1 e), q1⟩), fun hi => (by subst hi; exact absurd hd (by decide)), fun hi => (by subst hi; exact absurd hd (by decide)), fun hi => (by subst hi; exact absurd hd (by decide)), h.2.2.2.2.2⟩) (fun i => ([31, 32, 33, 34, 35, 36, 37, 38, 39, 40, 41, 42, 43] : List Nat).getD i 0) ?inj ?step ?last
  case g0 => exact HG0.out
  case inj =>
    intro i j hi hj h
    have hI : i = 0 ∨ i = 1 ∨ i = 2 ∨ i = 3 ∨ i = 4 ∨ i = 5 ∨ i = 6 ∨ i = 7 ∨ i = 8 ∨ i = 9 ∨ i = 10 ∨ i = 11 ∨ i = 12 := by omega
    have hJ : j = 0 ∨ j = 1 ∨ j = 2 ∨ j = 3 ∨ j = 4 ∨ j = 5 ∨ j = 6 ∨ j = 7 ∨ j = 8 ∨ j = 9 ∨ j = 10 ∨ j = 11 ∨ j = 12 := by omega
    rcases hI with rfl | rfl | rfl | rfl | rfl | rfl | rfl | rfl | rfl | rfl | rfl | rfl | rfl <;> rcases hJ with rfl | rfl | rfl | rfl | rfl | rfl | rfl | rfl | rfl | rfl | rfl | rfl | rfl <;> first | rfl | (exact absurd h (by decide))
  case last =>
    intro s x hv hgt
    have HG := hide hgt
    clear hgt
    have z0 : s 31 = .pointer (some ⟨cx, 1, none⟩) := by have h := (hv 0 (by decide)).2.2.2.2.2 (by decide) (by decide) (by decide) (by decide) (by decide); injection h with h; exact h.symm
    have z1 : s 32 = lc := by have h := (hv 1 (by decide)).2.2.2.2.2 (by decide) (by decide) (by decide) (by decide) (by decide); injection h with h; exact h.symm
    have z2 : s 33 = .int .i64 1 := by have h := (hv 2 (by decide)).2.2.2.2.2 (by decide) (by decide) (by decide) (by decide) (by decide); injection h with h; exact h.symm
    have z3 : s 34 = .int .i64 98 := by have h := (hv 3 (by decide)).2.2.2.2.2 (by decide) (by decide) (by decide) (by decide) (by decide); injection h with h; exact h.symm
    have z4 : s 35 = .int .u8 98 := by have h := (hv 4 (by decide)).2.2.2.2.2 (by decide) (by decide) (by decide) (by decide) (by decide); injection h with h; exact h.symm
    obtain ⟨b5, hz5, hg5_0, hg5_1⟩ := (hv 5 (by decide)).1 rfl
    have z5 : s 36 = .slice (some ⟨b5, 0, none⟩) 1 1 := hz5
    clear hz5
    have z6 : s 37 = .string ⟨#[98]⟩ := by have h := (hv 6 (by decide)).2.2.2.2.2 (by decide) (by decide) (by decide) (by decide) (by decide); injection h with h; exact h.symm
    have z7 : s 38 = .string (cnm 98) := by have h := (hv 7 (by decide)).2.2.2.2.2 (by decide) (by decide) (by decide) (by decide) (by decide); injection h with h; exact h.symm
    have z8 : s 39 = .pointer (some ⟨b, 0, none⟩) := by have h := (hv 8 (by decide)).2.2.2.2.2 (by decide) (by decide) (by decide) (by decide) (by decide); injection h with h; exact h.symm
    obtain ⟨b9, hz9, hg9_0, hg9_1⟩ := (hv 9 (by decide)).2.1 rfl
    have z9 : s 40 = .slice (some ⟨b9, 0, none⟩) 3 3 := hz9
    clear hz9
    obtain ⟨t10, hz10, hg10_0⟩ := (hv 10 (by decide)).2.2.1 rfl
    have z10 : s 41 = .int .i64 t10 := hz10
    clear hz10
    obtain ⟨t11, hz11, hg11_0⟩ := (hv 11 (by decide)).2.2.2.1 rfl
    have z11 : s 42 = .agg #[.string (cnm 98), .int .i64 t11, .bool false] := hz11
    clear hz11
    obtain ⟨b12, t12, hz12, hg12_0, hg12_1⟩ := (hv 12 (by decide)).2.2.2.2.1 rfl
    have z12 : s 43 = .slice (some ⟨b12, 0, none⟩) 1 1 := hz12
    clear hz12
    clear hv
    obtain ⟨i0, hi, hz0, hz1, hz2⟩ := info_parts info_col3
    have HH := hide HG.out.pt
    rw [if_pos rfl] at HH
    show Oper.wp _ _ _ _ _ _
    refine wp_append_own x _ _ 73 rfl B1 72 i0 (.agg #[.string ⟨#[]⟩, .int .i64 0, .bool false]) 3 32 Tryz.underlying73 hi hz0 hz1 hz2 rfl (by decide) lc cols.length _ (by show s 32 = _; exact z1) HH.out.oc ⟨b12, 0, none⟩ 1 1 [.string (cnm 98), .int .i64 t12, .bool false] (by show s 43 = _; exact z12) rfl (box_cells hg12_0) col_one (by have := HCU.out; unfold maxLen; omega) (by have := HCU.out; omega) (Nat.le_trans HH.out.cl (Nat.le_of_lt HH.out.bx.lt)) ?_
    intro v2 y2 hown hgr _
    obtain ⟨g4, cap4, rfl⟩ := ownsRow_succ hown
    obtain ⟨hA, hbl⟩ := HH.out.app (c := ⟨cnm 98, t12, false⟩) hgr hown
    have HS := hide hA
    have k1 := hbl.cell (j := 1) rfl
    have f1 := hbl.fr 1
    clear hown hgr hi hz0 hz1 hz2 hg12_0 hg5_0 hg9_0 hA hbl
    show Oper.wp _ _ _ _ _ _
    refine opwp_K (fun K2 hK2 => ?_)
    go_simp
    refine hK2 _ _ ?_
    show Oper.wp _ _ _ _ _ _
    clear hK2
    refine opwp_K (fun K3 hK3 => ?_)
    go_simp
    refine hK3 _ _ ?_
    have h := hend b5 b9 t10 t11 b12 t12 g4 cap4 _ HS.out hg12_1
    show Q _ _ _
    first | exact h | (simp only [z0, z1, z2, z3, z4, z5, z6, z7, z8, z9, z10, z11, z12]; exact h)
  case step =>
    intro i o s x hin ho he bb hgb hbf hbt
    have HG := hide hgb
    clear hgb
    have hcase : i = 0 ∨ i = 1 ∨ i = 2 ∨ i = 3 ∨ i = 4 ∨ i = 5 ∨ i = 6 ∨ i = 7 ∨ i = 8 ∨ i = 9 ∨ i = 10 ∨ i = 11 ∨ i = 12 := by omega
    rcases hcase with rfl | rfl | rfl | rfl | rfl | rfl | rfl | rfl | rfl | rfl | rfl | rfl | rfl
    · injection ho with ho
      subst ho
      clear he hbf hbt
      refine opwp_K (fun K2 hK2 => ?_)
      go_simp
      exact hK2 _ _ ⟨(.pointer (some ⟨cx, 1, none⟩)), (by first | rfl | (simp [List.getD]; done)), sI_ne (by decide) (Below.refl _ _), gIf_ne (G := PG w b L a tabs tv B1 cx nm cols lc pg) (by decide) HG.out, ⟨fun h => absurd h (by decide), fun h => absurd h (by decide), fun h => absurd h (by decide), fun h => absurd h (by decide), fun h => absurd h (by decide), fun _ _ _ _ _ => rfl⟩⟩
    · injection ho with ho
      subst ho
      have z0 : s 31 = .pointer (some ⟨cx, 1, none⟩) := by have h := (he ⟨0, .data⟩ (by simp) rfl).2.2.2.2.2 (by decide) (by decide) (by decide) (by decide) (by decide); injection h with h; exact h.symm
      clear he hbf hbt
      have k1 := HG.out.pt.bx.cell (j := 1) rfl
      refine opwp_K (fun K2 hK2 => ?_)
      go_simp
      exact hK2 _ _ ⟨(lc), (by first | rfl | (simp [z0]; done)), sI_ne (by decide) (Below.refl _ _), gIf_ne (G := PG w b L a tabs tv B1 cx nm cols lc pg) (by decide) HG.out, ⟨fun h => absurd h (by decide), fun h => absurd h (by decide), fun h => absurd h (by decide), fun h => absurd h (by decide), fun h => absurd h (by decide), fun _ _ _ _ _ => rfl⟩⟩
    · injection ho with ho
      subst ho
      clear he hbf hbt
      refine opwp_K (fun K2 hK2 => ?_)
      go_simp
      exact hK2 _ _ ⟨(.int .i64 1), (by first | rfl | (simp [List.getD]; done)), sI_ne (by decide) (Below.refl _ _), gIf_ne (G := PG w b L a tabs tv B1 cx nm cols lc pg) (by decide) HG.out, ⟨fun h => absurd h (by decide), fun h => absurd h (by decide), fun h => absurd h (by decide), fun h => absurd h (by decide), fun h => absurd h (by decide), fun _ _ _ _ _ => rfl⟩⟩
    · injection ho with ho
      subst ho
      have z2 : s 33 = .int .i64 1 := by have h := (he ⟨2, .data⟩ (by simp) rfl).2.2.2.2.2 (by decide) (by decide) (by decide) (by decide) (by decide); injection h with h; exact h.symm
      clear he hbf hbt
      have hw : IntKind.i64.wrap 98 = 98 := by rw [IntKind.wrap_i64]; omega
      refine opwp_K (fun K2 hK2 => ?_)
      go_simp
      exact hK2 _ _ ⟨(.int .i64 98), (by first | rfl | (simp [z2, hw]; done)), sI_ne (by decide) (Below.refl _ _), gIf_ne (G := PG w b L a tabs tv B1 cx nm cols lc pg) (by decide) HG.out, ⟨fun h => absurd h (by decide), fun h => absurd h (by decide), fun h => absurd h (by decide), fun h => absurd h (by decide), fun h => absurd h (by decide), fun _ _ _ _ _ => rfl⟩⟩
    · injection ho with ho
      subst ho
      have z3 : s 34 = .int .i64 98 := by have h := (he ⟨3, .data⟩ (by simp) rfl).2.2.2.2.2 (by decide) (by decide) (by decide) (by decide) (by decide); injection h with h; exact h.symm
      clear he hbf hbt
      have hw : IntKind.u8.wrap 98 = 98 := by decide
      refine opwp_K (fun K2 hK2 => ?_)
      go_simp
      exact hK2 _ _ ⟨(.int .u8 98), (by first | rfl | (simp [z3, hw]; done)), sI_ne (by decide) (Below.refl _ _), gIf_ne (G := PG w b L a tabs tv B1 cx nm cols lc pg) (by decide) HG.out, ⟨fun h => absurd h (by decide), fun h => absurd h (by decide), fun h => absurd h (by decide), fun h => absurd h (by decide), fun h => absurd h (by decide), fun _ _ _ _ _ => rfl⟩⟩
    · injection ho with ho
      subst ho
      have z4 : s 35 = .int .u8 98 := by have h := (he ⟨4, .data⟩ (by simp) rfl).2.2.2.2.2 (by decide) (by decide) (by decide) (by decide) (by decide); injection h with h; exact h.symm
      clear he hbf hbt
      have HBZ := hide HG.out.pt.ps.tp.lt
      refine opwp_K (fun K2 hK2 => ?_)
      go_simp
      exact hK2 _ _ ⟨_, (by first | rfl | (simp [z4]; done)), sI_ne (by decide) (belA _), gIf_ne (G := PG w b L a tabs tv B1 cx nm cols lc pg) (by decide) (HG.out.below (belA _)), ⟨fun _ => ⟨_, rfl, Box.new _ _ _, by have := HBZ.out; omega⟩, fun h => absurd h (by decide), fun h => absurd h (by decide), fun h => absurd h (by decide), fun h => absurd h (by decide), fun h _ _ _ _ => absurd rfl h⟩⟩
    · injection ho with ho
      subst ho
      obtain ⟨b5, hz5, hg5_0, hg5_1⟩ := (he ⟨5, .data⟩ (by simp) rfl).1 rfl
      have z5 : s 36 = .slice (some ⟨b5, 0, none⟩) 1 1 := hz5
      clear hz5
      clear he hbf hbt
      have hcv := conv1 (c := 98) hg5_0
      clear hg5_0
      refine opwp_K (fun K2 hK2 => ?_)
      go_simp
      exact hK2 _ _ ⟨(.string ⟨#[98]⟩), (by first | rfl | (simp [z5]; done)), sI_ne (by decide) (Below.refl _ _), gIf_ne (G := PG w b L a tabs tv B1 cx nm cols lc pg) (by decide) HG.out, ⟨fun h => absurd h (by decide), fun h => absurd h (by decide), fun h => absurd h (by decide), fun h => absurd h (by decide), fun h => absurd h (by decide), fun _ _ _ _ _ => rfl⟩⟩
    · injection ho with ho
      subst ho
      have z6 : s 37 = .string ⟨#[98]⟩ := by have h := (he ⟨6, .data⟩ (by simp) rfl).2.2.2.2.2 (by decide) (by decide) (by decide) (by decide) (by decide); injection h with h; exact h.symm
      clear he hbf hbt
      have hsz : ((⟨#[99]⟩ : ByteArray) ++ ⟨#[98]⟩).size = 2 := rfl
      refine opwp_K (fun K2 hK2 => ?_)
      go_simp
      exact hK2 _ _ ⟨(.string (cnm 98)), (by first | rfl | (simp [z6, cnm]; done)), sI_ne (by decide) (Below.refl _ _), gIf_ne (G := PG w b L a tabs tv B1 cx nm cols lc pg) (by decide) HG.out, ⟨fun h => absurd h (by decide), fun h => absurd h (by decide), fun h => absurd h (by decide), fun h => absurd h (by decide), fun h => absurd h (by decide), fun _ _ _ _ _ => rfl⟩⟩
    · injection ho with ho
      subst ho
      clear he hbf hbt
      refine opwp_K (fun K2 hK2 => ?_)
      go_simp
      exact hK2 _ _ ⟨(.pointer (some ⟨b, 0, none⟩)), (by first | rfl | (simp [List.getD]; done)), sI_ne (by decide) (Below.refl _ _), gIf_ne (G := PG w b L a tabs tv B1 cx nm cols lc pg) (by decide) HG.out, ⟨fun h => absurd h (by decide), fun h => absurd h (by decide), fun h => absurd h (by decide), fun h => absurd h (by decide), fun h => absurd h (by decide), fun _ _ _ _ _ => rfl⟩⟩
    · injection ho with ho
      subst ho
      clear he hbf hbt
      have HBZ := hide HG.out.pt.ps.tp.lt
      refine opwp_K (fun K2 hK2 => ?_)
      go_simp
      exact hK2 _ _ ⟨_, (by first | rfl | (simp [List.getD]; done)), sI_ne (by decide) (belA _), gIf_ne (G := PG w b L a tabs tv B1 cx nm cols lc pg) (by decide) (HG.out.below (belA _)), ⟨fun h => absurd h (by decide), fun _ => ⟨_, rfl, Box.new _ _ _, by have := HBZ.out; omega⟩, fun h => absurd h (by decide), fun h => absurd h (by decide), fun h => absurd h (by decide), fun _ h _ _ _ => absurd rfl h⟩⟩
    · injection ho with ho
      subst ho
      have z8 : s 39 = .pointer (some ⟨b, 0, none⟩) := by have h := (he ⟨8, .data⟩ (by simp) rfl).2.2.2.2.2 (by decide) (by decide) (by decide) (by decide) (by decide); injection h with h; exact h.symm
      obtain ⟨b9, hz9, hg9_0, hg9_1⟩ := (he ⟨9, .data⟩ (by simp) rfl).2.1 rfl
      have z9 : s 40 = .slice (some ⟨b9, 0, none⟩) 3 3 := hz9
      clear hz9
      obtain rfl : bb = false := hbf rfl
      clear he hbf hbt
      have HQ := hide HG.out.pt
      rw [if_neg (by decide)] at HQ
      have HIL := hide (il_box (xs := [1, 1, 3]) hg9_0 (by decide) (fun n hn => by simp only [List.mem_cons, List.not_mem_nil, or_false] at hn; rcases hn with rfl | rfl | rfl <;> (constructor <;> decide)))
      have HBN := hide hg9_1
      clear hg9_0 hg9_1
      refine opwp_K (fun K2 hK2 => ?_)
      go_simp
      go_at_call 39
      refine (pick_any x b a L ⟨⟨some ⟨b9, 0, none⟩, 3⟩, [1, 1, 3]⟩ HQ.out.ps.tp (by have := HA.out; omega) HIL.out (by show 0 < 3; decide) HBN.out).mono ?_
      rintro e y ⟨⟨k, hk, _, rfl⟩, h1, h2⟩
      have hm := List.getElem_mem hk
      generalize ([1, 1, 3] : List Int)[k] = tt at *
      have hm : tt = 1 ∨ tt = 3 := by simp only [List.mem_cons, List.not_mem_nil, or_false] at hm; omega
      go_simp
      have hp := HQ.out.tape h2 h1
      exact hK2 _ _ ⟨_, (by first | rfl | (simp [z8, z9]; done)), sI_eq rfl (h2), gIf_eq (G := PG w b L a tabs tv B1 cx nm cols lc pg) (⟨by rw [if_pos rfl]; exact hp⟩), ⟨fun h => absurd h (by decide), fun h => absurd h (by decide), fun _ => ⟨tt, rfl, hm⟩, fun h => absurd h (by decide), fun h => absurd h (by decide), fun _ _ h _ _ => absurd rfl h⟩⟩
    · injection ho with ho
      subst ho
      have z7 : s 38 = .string (cnm 98) := by have h := (he ⟨7, .data⟩ (by simp) rfl).2.2.2.2.2 (by decide) (by decide) (by decide) (by decide) (by decide); injection h with h; exact h.symm
      obtain ⟨t10, hz10, hg10_0⟩ := (he ⟨10, .data⟩ (by simp) rfl).2.2.1 rfl
      have z10 : s 41 = .int .i64 t10 := hz10
      clear hz10
      obtain rfl : bb = true := hbt ⟨⟨10, .data⟩, by simp, rfl, rfl⟩
      clear he hbf hbt
      refine opwp_K (fun K2 hK2 => ?_)
      go_simp
      exact hK2 _ _ ⟨_, (by first | rfl | (simp [z7, z10]; done)), sI_ne (by decide) (Below.refl _ _), gIf_ne (G := PG w b L a tabs tv B1 cx nm cols lc pg) (by decide) HG.out, ⟨fun h => absurd h (by decide), fun h => absurd h (by decide), fun h => absurd h (by decide), fun _ => ⟨t10, rfl, hg10_0⟩, fun h => absurd h (by decide), fun _ _ _ h _ => absurd rfl h⟩⟩
    · injection ho with ho
      subst ho
      obtain ⟨t11, hz11, hg11_0⟩ := (he ⟨11, .data⟩ (by simp) rfl).2.2.2.1 rfl
      have z11 : s 42 = .agg #[.string (cnm 98), .int .i64 t11, .bool false] := hz11
      clear hz11
      clear he hbf hbt
      refine opwp_K (fun K2 hK2 => ?_)
      go_simp
      exact hK2 _ _ ⟨_, (by first | rfl | (simp [z11]; done)), sI_ne (by decide) (belA _), gIf_ne (G := PG w b L a tabs tv B1 cx nm cols lc pg) (by decide) (HG.out.below (belA _)), ⟨fun h => absurd h (by decide), fun h => absurd h (by decide), fun h => absurd h (by decide), fun h => absurd h (by decide), fun _ => ⟨_, t11, rfl, Box.new _ _ _, hg11_0⟩, fun _ _ _ _ h => absurd rfl h⟩⟩
set_option maxRecDepth 100000 in
set_option maxHeartbeats 4000000 in
theorem pl_reg9_2 {w : World} {b a B1 cx pg : Nat} {L : IL} {tabs : List Tab} {tv lc : Value} {nm : ByteArray} {cols : List Col} {W : World} (HA : Hid (a ≤ 4611686018427387000)) (HCU : Hid (cols.length ≤ 1000)) (HG0 : Hid (PG w b L a tabs tv B1 cx nm cols lc pg false W.drew)) {Q : Exit → Act → World → Prop} {c : Code} {u1 u2 u3 u4 u7 u8 u9 u10 u11 u12 u13 u14 u15 u16 u17 u18 u19 u20 u21 u22 u23 u24 u25 u26 u27 u28 u29 u30 u31 u32 u33 u34 u35 u36 u37 u38 u39 u40 u41 u42 u43 u44 u45 u46 u47 u48 u49 u50 u51 u52 : Value} (hc : c = codeIn [1, 1, 0, 1, 4, 5, 1, 0, 4, 1, 0, 1, 4, 5, 1, 0, 4] plBody) (hend : ∀ (b5 b9 : Nat) (t10 t11 : Int) (b12 : Nat) (t12 : Int) (g4 cap4 : Nat) x, PT w b L (posAt L a) tabs tv B1 cx nm (cols ++ [⟨cnm 99, t12, false⟩]) (.slice (some ⟨g4, 0, none⟩) (cols.length + 1) cap4) pg x → (t12 = 1 ∨ t12 = 3) → Q .normal { tmps := ((.pointer (some ⟨b, 0, none⟩)) :: u1 :: u2 :: u3 :: u4 :: (.pointer (some ⟨cx, 0, none⟩)) :: (.int .i64 2) :: u7 :: u8 :: u9 :: u10 :: u11 :: u12 :: u13 :: u14 :: u15 :: u16 :: u17 :: u18 :: u19 :: u20 :: u21 :: u22 :: u23 :: u24 :: u25 :: u26 :: u27 :: u28 :: u29 :: u30 :: .pointer (some ⟨cx, 1, none⟩) :: lc :: .int .i64 2 :: .int .i64 99 :: .int .u8 99 :: .slice (some ⟨b5, 0, none⟩) 1 1 :: .string ⟨#[99]⟩ :: .string (cnm 99) :: .pointer (some ⟨b, 0, none⟩) :: .slice (some ⟨b9, 0, none⟩) 3 3 :: .int .i64 t10 :: .agg #[.string (cnm 99), .int .i64 t11, .bool false] :: .slice (some ⟨b12, 0, none⟩) 1 1 :: .slice (some ⟨g4, 0, none⟩) (cols.length + 1) cap4 :: .pointer (some ⟨cx, 1, none⟩) :: u46 :: u47 :: u48 :: u49 :: u50 :: u51 :: u52 :: []).toArray, defers := [] } x) : Code.wp Tryz.prog c Q { tmps := ((.pointer (some ⟨b, 0, none⟩)) :: u1 :: u2 :: u3 :: u4 :: (.pointer (some ⟨cx, 0, none⟩)) :: (.int .i64 2) :: u7 :: u8 :: u9 :: u10 :: u11 :: u12 :: u13 :: u14 :: u15 :: u16 :: u17 :: u18 :: u19 :: u20 :: u21 :: u22 :: u23 :: u24 :: u25 :: u26 :: u27 :: u28 :: u29 :: u30 :: u31 :: u32 :: u33 :: u34 :: u35 :: u36 :: u37 :: u38 :: u39 :: u40 :: u41 :: u42 :: u43 :: u44 :: u45 :: u46 :: u47 :: u48 :: u49 :: u50 :: u51 :: u52 :: []).toArray, defers := [] } W := by
  subst hc
  conv => enter [2]; whnf
  refine wp_region_tailH (by kernel_rfl) (by kernel_rfl) 13 (by show 13 < _; decide) (by kernel_rfl) (by kernel_rfl) (fun s : Nat → Value => ({ tmps := ((.pointer (some ⟨b, 0, none⟩)) :: u1 :: u2 :: u3 :: u4 :: (.pointer (some ⟨cx, 0, none⟩)) :: (.int .i64 2) :: u7 :: u8 :: u9 :: u10 :: u11 :: u12 :: u13 :: u14 :: u15 :: u16 :: u17 :: u18 :: u19 :: u20 :: u21 :: u22 :: u23 :: u24 :: u25 :: u26 :: u27 :: u28 :: u29 :: u30 :: s 31 :: s 32 :: s 33 :: s 34 :: s 35 :: s 36 :: s 37 :: s 38 :: s 39 :: s 40 :: s 41 :: s 42 :: s 43 :: u44 :: u45 :: u46 :: u47 :: u48 :: u49 :: u50 :: u51 :: u52 :: []).toArray, defers := [] } : Act)) (fun k => if k = 31 then u31 else if k = 32 then u32 else if k = 33 then u33 else if k = 34 then u34 else if k = 35 then u35 else if k = 36 then u36 else if k = 37 then u37 else if k = 38 then u38 else if k = 39 then u39 else if k = 40 then u40 else if k = 41 then u41 else if k = 42 then u42 else if k = 43 then u43 else undef) rfl 10 (by decide) (fun i => ([false, false, false, false, false, false, false, false, false, false, true, true, true] : List Bool).getD i false) (by kernel_rfl) (fun x y => x.grownBy y (some b)) (PG w b L a tabs tv B1 cx nm cols lc pg) ?g0 (fun i v x => (i = 5 → ∃ b5, v = .slice (some ⟨b5, 0, none⟩) 1 1 ∧ Box x b5 #[.int .u8 99] 5 ∧ b5 ≠ b) ∧ (i = 9 → ∃ b9, v = .slice (some ⟨b9, 0, none⟩) 3 3 ∧ Box x b9 #[.int .i64 1, .int .i64 1, .int .i64 3] 3 ∧ b9 ≠ b) ∧ (i = 10 → ∃ t10, v = .int .i64 t10 ∧ (t10 = 1 ∨ t10 = 3)) ∧ (i = 11 → ∃ t11, v = .agg #[.string (cnm 99), .int .i64 t11, .bool false] ∧ (t11 = 1 ∨ t11 = 3)) ∧ (i = 12 → ∃ b12 t12, v = .slice (some ⟨b12, 0, none⟩) 1 1 ∧ Box x b12 #[.string (cnm 99), .int .i64 t12, .bool false] 72 ∧ (t12 = 1 ∨ t12 = 3)) ∧ (i ≠ 5 → i ≠ 9 → i ≠ 10 → i ≠ 11 → i ≠ 12 → ([.pointer (some ⟨cx, 1, none⟩), lc, .int .i64 2, .int .i64 99, .int .u8 99, undef, .string ⟨#[99]⟩, .string (cnm 99), .pointer (some ⟨b, 0, none⟩), undef, undef, undef, undef] : List Value)[i]? = some v)) (fun i v x y h hb => ⟨fun hi => (by obtain ⟨b5, h0, q0, q1⟩ := h.1 hi; exact ⟨b5, h0, q0.below hb, q1⟩), fun hi => (by obtain ⟨b9, h0, q0, q1⟩ := h.2.1 hi; exact ⟨b9, h0, q0.below hb, q1⟩), fun hi => (by obtain ⟨t10, h0, q0⟩ := h.2.2.1 hi; exact ⟨t10, h0, q0⟩), fun hi => (by obtain ⟨t11, h0, q0⟩ := h.2.2.2.1 hi; exact ⟨t11, h0, q0⟩), fun hi => (by obtain ⟨b12, t12, h0, q0, q1⟩ := h.2.2.2.2.1 hi; exact ⟨b12, t12, h0, q0.below hb, q1⟩), h.2.2.2.2.2⟩) (fun i v x y hd _ _ h hb => ⟨fun hi => (by obtain ⟨b5, h0, q0, q1⟩ := h.1 hi; exact ⟨b5, h0, q0.grown hb (by intro e; injection e with e; exact q1 e), q1⟩), fun hi => (by obtain ⟨b9, h0, q0, q1⟩ := h.2.1 hi; exact ⟨b9, h0, q0.grown hb (by intro e; injection e with e; exact q1 e), q1⟩), fun hi => (by subst hi; exact absurd hd (by decide)), fun hi => (by subst hi; exact absurd hd (by decide)), fun hi => (by subst hi; exact absurd hd (by decide)), h.2.2.2.2.2⟩) (fun i => ([31, 32, 33, 34, 35, 36, 37, 38, 39, 40, 41, 42, 43] : List Nat).getD i 0) ?inj ?step ?last
  case g0 => exact HG0.out
  case inj =>
    intro i j hi hj h
    have hI : i = 0 ∨ i = 1 ∨ i = 2 ∨ i = 3 ∨ i = 4 ∨ i = 5 ∨ i = 6 ∨ i = 7 ∨ i = 8 ∨ i = 9 ∨ i = 10 ∨ i = 11 ∨ i = 12 := by omega
    have hJ : j = 0 ∨ j = 1 ∨ j = 2 ∨ j = 3 ∨ j = 4 ∨ j = 5 ∨ j = 6 ∨ j = 7 ∨ j = 8 ∨ j = 9 ∨ j = 10 ∨ j = 11 ∨ j = 12 := by omega
    rcases hI with rfl | rfl | rfl | rfl | rfl | rfl | rfl | rfl | rfl | rfl | rfl | rfl | rfl <;> rcases hJ with rfl | rfl | rfl | rfl | rfl | rfl | rfl | rfl | rfl | rfl | rfl | rfl | rfl <;> first | rfl | (exact absurd h (by decide))
  case last =>
    intro s x hv hgt
    have HG := hide hgt
    clear hgt
    have z0 : s 31 = .pointer (some ⟨cx, 1, none⟩) := by have h := (hv 0 (by decide)).2.2.2.2.2 (by decide) (by decide) (by decide) (by decide) (by decide); injection h with h; exact h.symm
    have z1 : s 32 = lc := by have h := (hv 1 (by decide)).2.2.2.2.2 (by decide) (by decide) (by decide) (by decide) (by decide); injection h with h; exact h.symm
    have z2 : s 33 = .int .i64 2 := by have h := (hv 2 (by decide)).2.2.2.2.2 (by decide) (by decide) (by decide) (by decide) (by decide); injection h with h; exact h.symm
    have z3 : s 34 = .int .i64 99 := by have h := (hv 3 (by decide)).2.2.2.2.2 (by decide) (by decide) (by decide) (by decide) (by decide); injection h with h; exact h.symm
    have z4 : s 35 = .int .u8 99 := by have h := (hv 4 (by decide)).2.2.2.2.2 (by decide) (by decide) (by decide) (by decide) (by decide); injection h with h; exact h.symm
    obtain ⟨b5, hz5, hg5_0, hg5_1⟩ := (hv 5 (by decide)).1 rfl
    have z5 : s 36 = .slice (some ⟨b5, 0, none⟩) 1 1 := hz5
    clear hz5
    have z6 : s 37 = .string ⟨#[99]⟩ := by have h := (hv 6 (by decide)).2.2.2.2.2 (by decide) (by decide) (by decide) (by decide) (by decide); injection h with h; exact h.symm
    have z7 : s 38 = .string (cnm 99) := by have h := (hv 7 (by decide)).2.2.2.2.2 (by decide) (by decide) (by decide) (by decide) (by decide); injection h with h; exact h.symm
    have z8 : s 39 = .pointer (some ⟨b, 0, none⟩) := by have h := (hv 8 (by decide)).2.2.2.2.2 (by decide) (by decide) (by decide) (by decide) (by decide); injection h with h; exact h.symm
    obtain ⟨b9, hz9, hg9_0, hg9_1⟩ := (hv 9 (by decide)).2.1 rfl
    have z9 : s 40 = .slice (some ⟨b9, 0, none⟩) 3 3 := hz9
    clear hz9
    obtain ⟨t10, hz10, hg10_0⟩ := (hv 10 (by decide)).2.2.1 rfl
    have z10 : s 41 = .int .i64 t10 := hz10
    clear hz10
    obtain ⟨t11, hz11, hg11_0⟩ := (hv 11 (by decide)).2.2.2.1 rfl
    have z11 : s 42 = .agg #[.string (cnm 99), .int .i64 t11, .bool false] := hz11
    clear hz11
    obtain ⟨b12, t12, hz12, hg12_0, hg12_1⟩ := (hv 12 (by decide)).2.2.2.2.1 rfl
    have z12 : s 43 = .slice (some ⟨b12, 0, none⟩) 1 1 := hz12
    clear hz12
    clear hv
    obtain ⟨i0, hi, hz0, hz1, hz2⟩ := info_parts info_col3
    have HH := hide HG.out.pt
    rw [if_pos rfl] at HH
    show Oper.wp _ _ _ _ _ _
    refine wp_append_own x _ _ 73 rfl B1 72 i0 (.agg #[.string ⟨#[]⟩, .int .i64 0, .bool false]) 3 32 Tryz.underlying73 hi hz0 hz1 hz2 rfl (by decide) lc cols.length _ (by show s 32 = _; exact z1) HH.out.oc ⟨b12, 0, none⟩ 1 1 [.string (cnm 99), .int .i64 t12, .bool false] (by show s 43 = _; exact z12) rfl (box_cells hg12_0) col_one (by have := HCU.out; unfold maxLen; omega) (by have := HCU.out; omega) (Nat.le_trans HH.out.cl (Nat.le_of_lt HH.out.bx.lt)) ?_
    intro v2 y2 hown hgr _
    obtain ⟨g4, cap4, rfl⟩ := ownsRow_succ hown
    obtain ⟨hA, hbl⟩ := HH.out.app (c := ⟨cnm 99, t12, false⟩) hgr hown
    have HS := hide hA
    have k1 := hbl.cell (j := 1) rfl
    have f1 := hbl.fr 1
    clear hown hgr hi hz0 hz1 hz2 hg12_0 hg5_0 hg9_0 hA hbl
    show Oper.wp _ _ _ _ _ _
    refine opwp_K (fun K2 hK2 => ?_)
    go_simp
    refine hK2 _ _ ?_
    show Oper.wp _ _ _ _ _ _
    clear hK2
    refine opwp_K (fun K3 hK3 => ?_)
    go_simp
    refine hK3 _ _ ?_
    have h := hend b5 b9 t10 t11 b12 t12 g4 cap4 _ HS.out hg12_1
    show Q _ _ _
    first | exact h | (simp only [z0, z1, z2, z3, z4, z5, z6, z7, z8, z9, z10, z11, z12]; exact h)
  case step =>
    intro i o s x hin ho he bb hgb hbf hbt
    have HG := hide hgb
    clear hgb
    have hcase : i = 0 ∨ i = 1 ∨ i = 2 ∨ i = 3 ∨ i = 4 ∨ i = 5 ∨ i = 6 ∨ i = 7 ∨ i = 8 ∨ i = 9 ∨ i = 10 ∨ i = 11 ∨ i = 12 := by omega
    rcases hcase with rfl | rfl | rfl | rfl | rfl | rfl | rfl | rfl | rfl | rfl | rfl | rfl | rfl
    · injection ho with ho
      subst ho
      clear he hbf hbt
      refine opwp_K (fun K2 hK2 => ?_)
      go_simp
      exact hK2 _ _ ⟨(.pointer (some ⟨cx, 1, none⟩)), (by first | rfl | (simp [List.getD]; done)), sI_ne (by decide) (Below.refl _ _), gIf_ne (G := PG w b L a tabs tv B1 cx nm cols lc pg) (by decide) HG.out, ⟨fun h => absurd h (by decide), fun h => absurd h (by decide), fun h => absurd h (by decide), fun h => absurd h (by decide), fun h => absurd h (by decide), fun _ _ _ _ _ => rfl⟩⟩
    · injection ho with ho
      subst ho
      have z0 : s 31 = .pointer (some ⟨cx, 1, none⟩) := by have h := (he ⟨0, .data⟩ (by simp) rfl).2.2.2.2.2 (by decide) (by decide) (by decide) (by decide) (by decide); injection h with h; exact h.symm
      clear he hbf hbt
      have k1 := HG.out.pt.bx.cell (j := 1) rfl
      refine opwp_K (fun K2 hK2 => ?_)
      go_simp
      exact hK2 _ _ ⟨(lc), (by first | rfl | (simp [z0]; done)), sI_ne (by decide) (Below.refl _ _), gIf_ne (G := PG w b L a tabs tv B1 cx nm cols lc pg) (by decide) HG.out, ⟨fun h => absurd h (by decide), fun h => absurd h (by decide), fun h => absurd h (by decide), fun h => absurd h (by decide), fun h => absurd h (by decide), fun _ _ _ _ _ => rfl⟩⟩
    · injection ho with ho
      subst ho
      clear he hbf hbt
      refine opwp_K (fun K2 hK2 => ?_)
      go_simp
      exact hK2 _ _ ⟨(.int .i64 2), (by first | rfl | (simp [List.getD]; done)), sI_ne (by decide) (Below.refl _ _), gIf_ne (G := PG w b L a tabs tv B1 cx nm cols lc pg) (by decide) HG.out, ⟨fun h => absurd h (by decide), fun h => absurd h (by decide), fun h => absurd h (by decide), fun h => absurd h (by decide), fun h => absurd h (by decide), fun _ _ _ _ _ => rfl⟩⟩
    · injection ho with ho
      subst ho
      have z2 : s 33 = .int .i64 2 := by have h := (he ⟨2, .data⟩ (by simp) rfl).2.2.2.2.2 (by decide) (by decide) (by decide) (by decide) (by decide); injection h with h; exact h.symm
      clear he hbf hbt
      have hw : IntKind.i64.wrap 99 = 99 := by rw [IntKind.wrap_i64]; omega
      refine opwp_K (fun K2 hK2 => ?_)
      go_simp
      exact hK2 _ _ ⟨(.int .i64 99), (by first | rfl | (simp [z2, hw]; done)), sI_ne (by decide) (Below.refl _ _), gIf_ne (G := PG w b L a tabs tv B1 cx nm cols lc pg) (by decide) HG.out, ⟨fun h => absurd h (by decide), fun h => absurd h (by decide), fun h => absurd h (by decide), fun h => absurd h (by decide), fun h => absurd h (by decide), fun _ _ _ _ _ => rfl⟩⟩
    · injection ho with ho
      subst ho
      have z3 : s 34 = .int .i64 99 := by have h := (he ⟨3, .data⟩ (by simp) rfl).2.2.2.2.2 (by decide) (by decide) (by decide) (by decide) (by decide); injection h with h; exact h.symm
      clear he hbf hbt
      have hw : IntKind.u8.wrap 99 = 99 := by decide
      refine opwp_K (fun K2 hK2 => ?_)
      go_simp
      exact hK2 _ _ ⟨(.int .u8 99), (by first | rfl | (simp [z3, hw]; done)), sI_ne (by decide) (Below.refl _ _), gIf_ne (G := PG w b L a tabs tv B1 cx nm cols lc pg) (by decide) HG.out, ⟨fun h => absurd h (by decide), fun h => absurd h (by decide), fun h => absurd h (by decide), fun h => absurd h (by decide), fun h => absurd h (by decide), fun _ _ _ _ _ => rfl⟩⟩
    · injection ho with ho
      subst ho
      have z4 : s 35 = .int .u8 99 := by have h := (he ⟨4, .data⟩ (by simp) rfl).2.2.2.2.2 (by decide) (by decide) (by decide) (by decide) (by decide); injection h with h; exact h.symm
      clear he hbf hbt
      have HBZ := hide HG.out.pt.ps.tp.lt
      refine opwp_K (fun K2 hK2 => ?_)
      go_simp
      exact hK2 _ _ ⟨_, (by first | rfl | (simp [z4]; done)), sI_ne (by decide) (belA _), gIf_ne (G := PG w b L a tabs tv B1 cx nm cols lc pg) (by decide) (HG.out.below (belA _)), ⟨fun _ => ⟨_, rfl, Box.new _ _ _, by have := HBZ.out; omega⟩, fun h => absurd h (by decide), fun h => absurd h (by decide), fun h => absurd h (by decide), fun h => absurd h (by decide), fun h _ _ _ _ => absurd rfl h⟩⟩
    · injection ho with ho
      subst ho
      obtain ⟨b5, hz5, hg5_0, hg5_1⟩ := (he ⟨5, .data⟩ (by simp) rfl).1 rfl
      have z5 : s 36 = .slice (some ⟨b5, 0, none⟩) 1 1 := hz5
      clear hz5
      clear he hbf hbt
      have hcv := conv1 (c := 99) hg5_0
      clear hg5_0
      refine opwp_K (fun K2 hK2 => ?_)
      go_simp
      exact hK2 _ _ ⟨(.string ⟨#[99]⟩), (by first | rfl | (simp [z5]; done)), sI_ne (by decide) (Below.refl _ _), gIf_ne (G := PG w b L a tabs tv B1 cx nm cols lc pg) (by decide) HG.out, ⟨fun h => absurd h (by decide), fun h => absurd h (by decide), fun h => absurd h (by decide), fun h => absurd h (by decide), fun h => absurd h (by decide), fun _ _ _ _ _ => rfl⟩⟩
    · injection ho with ho
      subst ho
      have z6 : s 37 = .string ⟨#[99]⟩ := by have h := (he ⟨6, .data⟩ (by simp) rfl).2.2.2.2.2 (by decide) (by decide) (by decide) (by decide) (by decide); injection h with h; exact h.symm
      clear he hbf hbt
      have hsz : ((⟨#[99]⟩ : ByteArray) ++ ⟨#[99]⟩).size = 2 := rfl
      refine opwp_K (fun K2 hK2 => ?_)
      go_simp
      exact hK2 _ _ ⟨(.string (cnm 99)), (by first | rfl | (simp [z6, cnm]; done)), sI_ne (by decide) (Below.refl _ _), gIf_ne (G := PG w b L a tabs tv B1 cx nm cols lc pg) (by decide) HG.out, ⟨fun h => absurd h (by decide), fun h => absurd h (by decide), fun h => absurd h (by decide), fun h => absurd h (by decide), fun h => absurd h (by decide), fun _ _ _ _ _ => rfl⟩⟩
    · injection ho with ho
      subst ho
      clear he hbf hbt
      refine opwp_K (fun K2 hK2 => ?_)
      go_simp
      exact hK2 _ _ ⟨(.pointer (some ⟨b, 0, none⟩)), (by first | rfl | (simp [List.getD]; done)), sI_ne (by decide) (Below.refl _ _), gIf_ne (G := PG w b L a tabs tv B1 cx nm cols lc pg) (by decide) HG.out, ⟨fun h => absurd h (by decide), fun h => absurd h (by decide), fun h => absurd h (by decide), fun h => absurd h (by decide), fun h => absurd h (by decide), fun _ _ _ _ _ => rfl⟩⟩
    · injection ho with ho
      subst ho
      clear he hbf hbt
      have HBZ := hide HG.out.pt.ps.tp.lt
      refine opwp_K (fun K2 hK2 => ?_)
      go_simp
      exact hK2 _ _ ⟨_, (by first | rfl | (simp [List.getD]; done)), sI_ne (by decide) (belA _), gIf_ne (G := PG w b L a tabs tv B1 cx nm cols lc pg) (by decide) (HG.out.below (belA _)), ⟨fun h => absurd h (by decide), fun _ => ⟨_, rfl, Box.new _ _ _, by have := HBZ.out; omega⟩, fun h => absurd h (by decide), fun h => absurd h (by decide), fun h => absurd h (by decide), fun _ h _ _ _ => absurd rfl h⟩⟩
    · injection ho with ho
      subst ho
      have z8 : s 39 = .pointer (some ⟨b, 0, none⟩) := by have h := (he ⟨8, .data⟩ (by simp) rfl).2.2.2.2.2 (by decide) (by decide) (by decide) (by decide) (by decide); injection h with h; exact h.symm
      obtain ⟨b9, hz9, hg9_0, hg9_1⟩ := (he ⟨9, .data⟩ (by simp) rfl).2.1 rfl
      have z9 : s 40 = .slice (some ⟨b9, 0, none⟩) 3 3 := hz9
      clear hz9
      obtain rfl : bb = false := hbf rfl
      clear he hbf hbt
      have HQ := hide HG.out.pt
      rw [if_neg (by decide)] at HQ
      have HIL := hide (il_box (xs := [1, 1, 3]) hg9_0 (by decide) (fun n hn => by simp only [List.mem_cons, List.not_mem_nil, or_false] at hn; rcases hn with rfl | rfl | rfl <;> (constructor <;> decide)))
      have HBN := hide hg9_1
      clear hg9_0 hg9_1
      refine opwp_K (fun K2 hK2 => ?_)
      go_simp
      go_at_call 39
      refine (pick_any x b a L ⟨⟨some ⟨b9, 0, none⟩, 3⟩, [1, 1, 3]⟩ HQ.out.ps.tp (by have := HA.out; omega) HIL.out (by show 0 < 3; decide) HBN.out).mono ?_
      rintro e y ⟨⟨k, hk, _, rfl⟩, h1, h2⟩
      have hm := List.getElem_mem hk
      generalize ([1, 1, 3] : List Int)[k] = tt at *
      have hm : tt = 1 ∨ tt = 3 := by simp only [List.mem_cons, List.not_mem_nil, or_false] at hm; omega
      go_simp
      have hp := HQ.out.tape h2 h1
      exact hK2 _ _ ⟨_, (by first | rfl | (simp [z8, z9]; done)), sI_eq rfl (h2), gIf_eq (G := PG w b L a tabs tv B1 cx nm cols lc pg) (⟨by rw [if_pos rfl]; exact hp⟩), ⟨fun h => absurd h (by decide), fun h => absurd h (by decide), fun _ => ⟨tt, rfl, hm⟩, fun h => absurd h (by decide), fun h => absurd h (by decide), fun _ _ h _ _ => absurd rfl h⟩⟩
    · injection ho with ho
      subst ho
      have z7 : s 38 = .string (cnm 99) := by have h := (he ⟨7, .data⟩ (by simp) rfl).2.2.2.2.2 (by decide) (by decide) (by decide) (by decide) (by decide); injection h with h; exact h.symm
      obtain ⟨t10, hz10, hg10_0⟩ := (he ⟨10, .data⟩ (by simp) rfl).2.2.1 rfl
      have z10 : s 41 = .int .i64 t10 := hz10
      clear hz10
      obtain rfl : bb = true := hbt ⟨⟨10, .data⟩, by simp, rfl, rfl⟩
      clear he hbf hbt
      refine opwp_K (fun K2 hK2 => ?_)
      go_simp
      exact hK2 _ _ ⟨_, (by first | rfl | (simp [z7, z10]; done)), sI_ne (by decide) (Below.refl _ _), gIf_ne (G := PG w b L a tabs tv B1 cx nm cols lc pg) (by decide) HG.out, ⟨fun h => absurd h (by decide), fun h => absurd h (by decide), fun h => absurd h (by decide), fun _ => ⟨t10, rfl, hg10_0⟩, fun h => absurd h (by decide), fun _ _ _ h _ => absurd rfl h⟩⟩
    · injection ho with ho
      subst ho
      obtain ⟨t11, hz11, hg11_0⟩ := (he ⟨11, .data⟩ (by simp) rfl).2.2.2.1 rfl
      have z11 : s 42 = .agg #[.string (cnm 99), .int .i64 t11, .bool false] := hz11
      clear hz11
      clear he hbf hbt
      refine opwp_K (fun K2 hK2 => ?_)
      go_simp
      exact hK2 _ _ ⟨_, (by first | rfl | (simp [z11]; done)), sI_ne (by decide) (belA _), gIf_ne (G := PG w b L a tabs tv B1 cx nm cols lc pg) (by decide) (HG.out.below (belA _)), ⟨fun h => absurd h (by decide), fun h => absurd h (by decide), fun h => absurd h (by decide), fun h => absurd h (by decide), fun _ => ⟨_, t11, rfl, Box.new _ _ _, hg11_0⟩, fun _ _ _ _ h => absurd rfl h⟩⟩
end Go.Proofs.YtiijaaohphokcaaGreatDoor

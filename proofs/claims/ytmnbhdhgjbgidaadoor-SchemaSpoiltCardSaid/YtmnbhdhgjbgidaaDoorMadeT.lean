/- made.Expr's closure 'two' at any tape, given what made.Expr answers at the depth below. -/
import Derived.Test.YtmnbhdhgjbgidaaDoorMadeX
import Derived.Test.YtmnbhdhgjbgidaaDoorMadeL
import Derived.Deep.RegionHeld3
import Derived.Deep.RegionLaw
namespace Go.Proofs.YtmnbhdhgjbgidaaDoor
open Go.RowKit

/-- Each block but b and g is as it was. -/
def Kept (b g : Nat) (W w' : World) : Prop := (∀ k, k < W.heap.size → k ≠ b → k ≠ g → w'.heap[k]? = W.heap[k]?) ∧ W.heap.size ≤ w'.heap.size
theorem Kept.refl (b g : Nat) (W : World) : Kept b g W W := ⟨fun _ _ _ _ => rfl, Nat.le_refl _⟩
theorem Kept.drew {b g : Nat} {W x : World} (h : Kept b g W x) : Kept b g W x.drew := h
theorem Kept.grown {b g : Nat} {W x y : World} (h : Kept b g W x) (hg : x.grownBy y (some b)) : Kept b g W y :=
  ⟨fun k hk h1 h2 => (hg.block k (Nat.lt_of_lt_of_le hk h.2) (by simpa using h1)).trans (h.1 k hk h1 h2), Nat.le_trans h.2 hg.size⟩
theorem Kept.grown0 {b g : Nat} {W x y : World} (h : Kept b g W x) (hg : x.grownBy y none) : Kept b g W y := h.grown (hg.but _)
theorem Kept.alloc {b g : Nat} {W x : World} (h : Kept b g W x) (o : Obj) : Kept b g W (x.alloc o) := h.grown (only_below (belA o) _)
theorem Kept.set {b g : Nat} {W x : World} (h : Kept b g W x) (j : Nat) (v : Value) : Kept b g W (x.setCell ⟨g, j, none⟩ v) :=
  ⟨fun k hk h1 h2 => (Below.heap_setCell _ _ _ _ (fun e => h2 (by rw [e]))).trans (h.1 k hk h1 h2), Nat.le_trans h.2 (by simp [World.setCell])⟩
theorem Kept.box {b g k : Nat} {W x : World} {cs : Array Value} {T : TypeId} (h : Kept b g W x) (hb : Box W k cs T) (h1 : k ≠ b) (h2 : k ≠ g) : Box x k cs T := (h.1 k hb.lt h1 h2).trans hb
theorem gb_drew {x y : World} {r : Option Nat} (h : x.drew.grownBy y r) : x.grownBy y r := ⟨h.os, h.tape, h.output, h.size, h.block⟩
theorem bel_self (w : World) : Below w.heap.size w w.drew := (Below.refl _ _).drew

/-- The zero of api.Expr, in a box. -/
abbrev ZE : Obj := .cells #[.int .i64 0, .int .i64 0, .int .i64 0, .string ⟨#[]⟩, .int .i64 0, .slice none 0 0] 45
/-- A world in which an expression has been laid into a new box. -/
abbrev laid (w : World) (e : Ex) : World := w.alloc (.cells #[.int .i64 e.op, .int .i64 e.typ, .int .i64 e.num, .string e.text, .int .i64 e.col, .slice e.kh.ao e.kids.length e.kh.cap] 45)
theorem laid_box (w : World) (e : Ex) : Box (laid w e) w.heap.size e.cells.toArray 45 := Box.new w e.cells.toArray 45
theorem laid_below (w : World) (e : Ex) : Below w.heap.size w (laid w e) := belA _

/-- An expression of Kids. -/
abbrev nodeEx (op : Int) (g cap : Nat) (xs : List Ex) : Ex := ⟨op, 0, 0, ⟨#[]⟩, 0, ⟨some ⟨g, 0, none⟩, cap⟩, xs⟩
theorem exl (x : Ex) : x.cells.length = 6 := rfl
theorem node_in {w : World} {g : Nat} {op : Int} {xs : List Ex} (hop : int64 op) (hxs : ∀ x ∈ xs, x.In w) (hl : xs.length ≤ 1000) (hb : Box w g (xs.flatMap Ex.cells).toArray 45) : (nodeEx op g xs.length xs).In w :=
  ⟨_, ⟨hop, z64, z64, by show (0 : Nat) ≤ maxLen; omega, z64⟩, row_of_box exl (by unfold maxLen; omega) hb, hxs⟩
theorem node_fresh {g cap B : Nat} {op : Int} {xs : List Ex} (hB : B ≤ g) (hxs : ∀ x ∈ xs, x.Fresh B) : (nodeEx op g cap xs).Fresh B := ⟨_, fun _ => hB, hxs⟩

/-- No block of an expression is g. -/
inductive Ex.Off (g : Nat) : Ex → Prop where
  | mk (e : Ex) (hb : 0 < e.kids.length → e.kh.b ≠ g) (hk : ∀ k ∈ e.kids, Ex.Off g k) : Ex.Off g e
theorem Ex.In.off {w : World} {e : Ex} {g : Nat} (h : e.In w) (hg : w.heap.size ≤ g) : e.Off g := by
  induction h with
  | mk e _ hr _ ih => exact ⟨e, fun hp => by have := hr.blk hp; omega, ih⟩
theorem Ex.Fresh.off {B g : Nat} {e : Ex} (h : e.Fresh B) (hg : g < B) : e.Off g := by
  induction h with
  | mk e h1 _ ih => exact ⟨e, fun hp => by have := h1 hp; omega, ih⟩
theorem Ex.In.grownOff {w w' : World} {g : Nat} {e : Ex} (h : e.In w) (hf : e.Off g) (hg : w.grownBy w' (some g)) : e.In w' := by
  induction h with
  | mk e hw hr hk ih =>
    cases hf with
    | mk _ hb hk' => exact ⟨e, hw, row_grown hr hg hb, fun k hkk => ih k hkk (hk' k hkk)⟩

/-- What made.Expr answers at a depth. -/
def ExprAt (n N : Nat) (d : Int) : Prop := ∀ (w : World) (b a : Nat) (L r : IL) (k : Int), isT k = true → TapeIn w b L a → a + n ≤ 4611686018427370000 → r.In w → r.l.length ≤ 1000 → (0 < r.l.length → r.h.b ≠ b) →
  Calls Tryd.prog 19 #[.pointer (some ⟨b, 0, none⟩), .slice r.h.ao r.l.length r.h.cap, .int .i64 k, .int .i64 d] w fun e w' => ExOut w w' b a n N L e
/-- What 'two' answers. -/
def TwoOut (w w' : World) (b a n N : Nat) (L : IL) (op : Int) (r : Ending) : Prop :=
  (∃ (e1 e2 : Ex) (g : Nat), r = .returned (.agg #[.int .i64 op, .int .i64 0, .int .i64 0, .string ⟨#[]⟩, .int .i64 0, .slice (some ⟨g, 0, none⟩) 2 2]) ∧ (∀ x ∈ [e1, e2], x.In w' ∧ x.Fresh w.heap.size ∧ x.size ≤ N ∧ x.Off g) ∧ Box w' g ([e1, e2].flatMap Ex.cells).toArray 45 ∧ w.heap.size ≤ g) ∧ (∃ a', a ≤ a' ∧ a' ≤ a + n ∧ TapeIn w' b L a') ∧ w.grownBy w' (some b)
theorem TwoOut.ex {w w' : World} {b a n N : Nat} {L : IL} {op : Int} {r : Ending} (h : TwoOut w w' b a n N L op r) (hop : int64 op) : ExOut w w' b a n (1 + 2 * N) L r := by
  obtain ⟨⟨e1, e2, g, rfl, hx, hb, hg⟩, ht, hgr⟩ := h
  refine ⟨⟨nodeEx op g 2 [e1, e2], rfl, node_in hop (fun x hx' => (hx x hx').1) (by simp) hb, node_fresh hg (fun x hx' => (hx x hx').2.1), ?_⟩, ht, hgr⟩
  have h1 := (hx e1 (by simp)).2.2.1
  have h2 := (hx e2 (by simp)).2.2.1
  rw [Ex.size_eq]
  simp only [Ex.sizes]
  omega

/-- An expression that is handed back through a result's box. -/
theorem ex_done {w x : World} {b a a' n N g : Nat} {L : IL} {e : Ex} {B : Nat} (hx : e.In x) (hf : e.Fresh B) (hB : g < B) (hw : w.heap.size ≤ g) (hs : e.size ≤ N) (h1 : a ≤ a') (h2 : a' ≤ a + n) (ht : TapeIn x b L a') (hg : w.grownBy x (some b)) (hL : b < w.heap.size ∧ (0 < L.l.length → L.h.b < w.heap.size)) :
    ExOut w ((((((x.setCell ⟨g, 0, none⟩ (.int .i64 e.op)).setCell ⟨g, 1, none⟩ (.int .i64 e.typ)).setCell ⟨g, 2, none⟩ (.int .i64 e.num)).setCell ⟨g, 3, none⟩ (.string e.text)).setCell ⟨g, 4, none⟩ (.int .i64 e.col)).setCell ⟨g, 5, none⟩ (.slice e.kh.ao e.kids.length e.kh.cap)) b a n N L (.returned (.agg #[.int .i64 e.op, .int .i64 e.typ, .int .i64 e.num, .string e.text, .int .i64 e.col, .slice e.kh.ao e.kids.length e.kh.cap])) :=
  ⟨⟨e, rfl, hx.grown hf (set6 _ _ _ _ _ _ _ _) hB, hf.mono (by omega), hs⟩, ⟨a', h1, h2, tz2 ht (set6 _ _ _ _ _ _ _ _) hL hw⟩, gb_then hg (set6 _ _ _ _ _ _ _ _) hw⟩

set_option maxRecDepth 100000 in
set_option maxHeartbeats 4000000 in
theorem two_any {d : Int} (hd : 2 ≤ d ∧ d ≤ 3) {n N : Nat} (hE : ExprAt n N (d - 1)) (w : World) (b a : Nat) (L r : IL) (op x : Int) (hx : isT x = true) (ht : TapeIn w b L a) (ha : a + 2 * n ≤ 4611686018427370000) (hr : r.In w) (hrn : r.l.length ≤ 1000) (hrb : 0 < r.l.length → r.h.b ≠ b)
    (g0 g1 g2 : Nat) (T0 T1 T2 : TypeId) (h0 : Box w g0 #[.pointer (some ⟨b, 0, none⟩)] T0) (h1 : Box w g1 #[.slice r.h.ao r.l.length r.h.cap] T1) (h2 : Box w g2 #[.int .i64 d] T2) (n0 : g0 ≠ b) (n1 : g1 ≠ b) (n2 : g2 ≠ b) :
    Calls Tryd.prog 42 #[.int .i64 op, .int .i64 x, .pointer (some ⟨g0, 0, none⟩), .pointer (some ⟨g1, 0, none⟩), .pointer (some ⟨g2, 0, none⟩)] w fun e w' => TwoOut w w' b a (2 * n) N L op e := by
  have hbl := ht.lt
  have hl0 := h0.lt
  have hl1 := h1.lt
  have hl2 := h2.lt
  have HLW := hide ht.low
  have HEE := hide hE
  have HB0 := hide (belA (w := w) ZE)
  have HT := hide (ht.mono HB0.out)
  have HR := hide (hr.mono HB0.out)
  have HK := hide (Box.new w #[.int .i64 0, .int .i64 0, .int .i64 0, .string ⟨#[]⟩, .int .i64 0, .slice none 0 0] 45)
  have H0 := hide (h0.below HB0.out)
  have H1 := hide (h1.below HB0.out)
  have H2 := hide (h2.below HB0.out)
  have hw1 : IntKind.i64.wrap (d - 1) = d - 1 := by
    have hc : d = 2 ∨ d = 3 := by omega
    rcases hc with rfl | rfl <;> rfl
  clear ht hr hE h0 h1 h2
  have y0 := H0.out.cell (j := 0) rfl
  have y1 := H1.out.cell (j := 0) rfl
  have y2 := H2.out.cell (j := 0) rfl
  go_enter Tryd.func42, Tryd.ntmps42
  go_upto_region 2 with (go_at_call 19; refine (HEE.out _ b a L r x hx HT.out (by omega) HR.out hrn hrb).mono ?_; rintro e w2 ⟨⟨e1, rfl, hi1, hf1, hs1⟩, ⟨a1, ha1, hb1, ht2⟩, hg2⟩; have HI1 := hide hi1; have HF1 := hide hf1; have HG2 := hide hg2; have HT2 := hide ht2; clear hi1 hf1 hg2 ht2)
  have hsz2 := HG2.out.size
  simp only [World.size_alloc] at hsz2
  generalize hV : w2.alloc (.cells #[.int .i64 e1.op, .int .i64 e1.typ, .int .i64 e1.num, .string e1.text, .int .i64 e1.col, .slice e1.kh.ao e1.kids.length e1.kh.cap] 45) = V
  have HBL := hide (show Below w2.heap.size w2 V from hV ▸ laid_below w2 e1)
  have HBX := hide (show Box V w2.heap.size e1.cells.toArray 45 from hV ▸ laid_box w2 e1)
  clear hV
  have HGL := hide (show w.grownBy (V) (some b) from ((only_below HB0.out _).trans HG2.out).trans (only_below HBL.out _))
  have HTL := hide (HT2.out.mono HBL.out)
  have HIL := hide (HI1.out.mono HBL.out)
  have HRL := hide (show r.In (V) from IL.In.mono ⟨row_grown HR.out.1 HG2.out hrb, HR.out.2⟩ HBL.out)
  have H0L := hide ((H0.out.grown HG2.out (by simpa using n0)).below HBL.out)
  have H1L := hide ((H1.out.grown HG2.out (by simpa using n1)).below HBL.out)
  have H2L := hide ((H2.out.grown HG2.out (by simpa using n2)).below HBL.out)
  have HKL := hide ((HK.out.grown HG2.out (by simp; omega)).below HBL.out)
  have hszL := HBL.out.size
  clear HI1 HT2 HBL y0 y1 y2 HT HR HK H0 H1 H2
  have hvl := HBX.out.lt
  have HE1 := hide (show ∀ w', Kept b w.heap.size V w' → Box w' w2.heap.size e1.cells.toArray 45 from fun w' h => h.box HBX.out (by omega) (by omega))
  have y8 : ∀ w', Kept b w.heap.size V w' → w'.cell? ⟨w2.heap.size, 0, none⟩ = some (.int .i64 e1.op) := fun w' h => (HE1.out w' h).cell (j := 0) rfl
  have y9 : ∀ w', Kept b w.heap.size V w' → w'.cell? ⟨w2.heap.size, 1, none⟩ = some (.int .i64 e1.typ) := fun w' h => (HE1.out w' h).cell (j := 1) rfl
  have y10 : ∀ w', Kept b w.heap.size V w' → w'.cell? ⟨w2.heap.size, 2, none⟩ = some (.int .i64 e1.num) := fun w' h => (HE1.out w' h).cell (j := 2) rfl
  have y11 : ∀ w', Kept b w.heap.size V w' → w'.cell? ⟨w2.heap.size, 3, none⟩ = some (.string e1.text) := fun w' h => (HE1.out w' h).cell (j := 3) rfl
  have y12 : ∀ w', Kept b w.heap.size V w' → w'.cell? ⟨w2.heap.size, 4, none⟩ = some (.int .i64 e1.col) := fun w' h => (HE1.out w' h).cell (j := 4) rfl
  have y13 : ∀ w', Kept b w.heap.size V w' → w'.cell? ⟨w2.heap.size, 5, none⟩ = some (.slice e1.kh.ao e1.kids.length e1.kh.cap) := fun w' h => (HE1.out w' h).cell (j := 5) rfl
  have z0 : ∀ w', Kept b w.heap.size V w' → w'.cell? ⟨g0, 0, none⟩ = some (.pointer (some ⟨b, 0, none⟩)) := fun w' h => (h.box H0L.out n0 (by omega)).cell (j := 0) rfl
  have z1 : ∀ w', Kept b w.heap.size V w' → w'.cell? ⟨g1, 0, none⟩ = some (.slice r.h.ao r.l.length r.h.cap) := fun w' h => (h.box H1L.out n1 (by omega)).cell (j := 0) rfl
  have z2 : ∀ w', Kept b w.heap.size V w' → w'.cell? ⟨g2, 0, none⟩ = some (.int .i64 d) := fun w' h => (h.box H2L.out n2 (by omega)).cell (j := 0) rfl
  go_region_held3 (fun w' => Kept b w.heap.size V w') ((with_reducible first | exact Kept.drew (Kept.refl _ _ _) | exact Kept.grown (by assumption) (by assumption) | exact Kept.alloc (by assumption) _ | exact Kept.set (Kept.set (Kept.set (Kept.set (Kept.set (Kept.set (by assumption) _ _) _ _) _ _) _ _) _ _) _ _))
    (first
      | (go_at_call 19; refine (HEE.out _ b a1 L r x hx (HTL.out.mono (bel_self _)) (by omega) (HRL.out.mono (bel_self _)) hrn hrb).mono ?_; rintro e w5 ⟨⟨e2, rfl, hi2, hf2, hs2⟩, ⟨a2, ha2, hb2, ht5⟩, hg5⟩; have HI2 := hide hi2; have HF2 := hide hf2; have HT5 := hide ht5; have HG5 := hide (gb_drew hg5); have hkb := HKL.out.grown HG5.out (by simp; omega); have hkb2 := hkb.below (belA (.cells #[.int .i64 e1.op, .int .i64 e1.typ, .int .i64 e1.num, .string e1.text, .int .i64 e1.col, .slice e1.kh.ao e1.kids.length e1.kh.cap, .int .i64 e2.op, .int .i64 e2.typ, .int .i64 e2.num, .string e2.text, .int .i64 e2.col, .slice e2.kh.ao e2.kids.length e2.kh.cap] 45)); have HKA := hide hkb2; have e0 := hkb2.cell (j := 0) rfl; have f0 := hkb2.fr 0; have c1 := hkb2.cell (j := 1) rfl; have f1 := hkb2.fr 1; have c2 := hkb2.cell (j := 2) rfl; have f2 := hkb2.fr 2; have c3 := hkb2.cell (j := 3) rfl; have f3 := hkb2.fr 3; have c4 := hkb2.cell (j := 4) rfl; have f4 := hkb2.fr 4; have c5 := hkb2.cell (j := 5) rfl; have f5 := hkb2.fr 5; clear hi2 hf2 ht5 hkb hkb2))
  have hf1 := HF1.out
  have hf2 := HF2.out
  have hs5 := HG5.out.size
  simp only [World.size_alloc] at hf1
  have hf2' : e2.Fresh (w.heap.size + 1) := hf2.mono (by show w.heap.size + 1 ≤ V.heap.size; omega)
  have ho1 : e1.Off w5.heap.size := (HIL.out.grown hf1 HG5.out (by omega)).off (Nat.le_refl _)
  have ho2 : e2.Off w5.heap.size := HI2.out.off (Nat.le_refl _)
  have hi1 : e1.In (w5.alloc (.cells ([e1, e2].flatMap Ex.cells).toArray 45)) := (HIL.out.grown hf1 HG5.out (by omega)).mono (belA _)
  have hi2 : e2.In (w5.alloc (.cells ([e1, e2].flatMap Ex.cells).toArray 45)) := HI2.out.mono (belA _)
  have htp : TapeIn (w5.alloc (.cells ([e1, e2].flatMap Ex.cells).toArray 45)) b L a2 := HT5.out.mono (belA _)
  have hbx := Box.new w5 ([e1, e2].flatMap Ex.cells).toArray 45
  have hgw : w.grownBy (w5.alloc (.cells ([e1, e2].flatMap Ex.cells).toArray 45)) (some b) := (HGL.out.trans HG5.out).trans (only_below (belA _) _)
  have q0 := HKA.out.set 0 (.int .i64 op)
  have q1 := q0.set 1 (.int .i64 0)
  have q2 := q1.set 2 (.int .i64 0)
  have q3 := q2.set 3 (.string ⟨#[]⟩)
  have q4 := q3.set 4 (.int .i64 0)
  have q5 := q4.set 5 (.slice (some ⟨w5.heap.size, 0, none⟩) 2 2)
  have r0 := q5.cell (j := 0) rfl
  have r1 := q5.cell (j := 1) rfl
  have r2 := q5.cell (j := 2) rfl
  have r3 := q5.cell (j := 3) rfl
  have r4 := q5.cell (j := 4) rfl
  have r5 := q5.cell (j := 5) rfl
  have HF := hide (show TwoOut w ((((((((w5.alloc (.cells ([e1, e2].flatMap Ex.cells).toArray 45)).setCell ⟨w.heap.size, 0, none⟩ (.int .i64 op)).setCell ⟨w.heap.size, 1, none⟩ (.int .i64 0)).setCell ⟨w.heap.size, 2, none⟩ (.int .i64 0)).setCell ⟨w.heap.size, 3, none⟩ (.string ⟨#[]⟩)).setCell ⟨w.heap.size, 4, none⟩ (.int .i64 0)).setCell ⟨w.heap.size, 5, none⟩ (.slice (some ⟨w5.heap.size, 0, none⟩) 2 2))) b a (2 * n) N L op (.returned (.agg #[.int .i64 op, .int .i64 0, .int .i64 0, .string ⟨#[]⟩, .int .i64 0, .slice (some ⟨w5.heap.size, 0, none⟩) 2 2])) from
    ⟨⟨e1, e2, w5.heap.size, rfl, fun x hx => by
        simp only [List.mem_cons, List.not_mem_nil, or_false] at hx
        rcases hx with rfl | rfl
        · exact ⟨hi1.grown hf1 (set6 _ _ _ _ _ _ _ _) (by omega), hf1.mono (by omega), hs1, ho1⟩
        · exact ⟨hi2.grown hf2' (set6 _ _ _ _ _ _ _ _) (by omega), hf2'.mono (by omega), hs2, ho2⟩, hbx.grown (set6 _ _ _ _ _ _ _ _) (by simp; omega), by omega⟩, ⟨a2, by omega, by omega, tz2 htp (set6 _ _ _ _ _ _ _ _) HLW.out (Nat.le_refl _)⟩, gb_then hgw (set6 _ _ _ _ _ _ _ _) (Nat.le_refl _)⟩)
  clear hf1 hf2 hf2' ho1 ho2 hi1 hi2 htp hbx hgw q0 q1 q2 q3 q4 q5 y8 y9 y10 y11 y12 y13 z0 z1 z2
  go_wp2_with fail
  exact bodyPost_ret (v := .agg #[.int .i64 op, .int .i64 0, .int .i64 0, .string ⟨#[]⟩, .int .i64 0, .slice (some ⟨w5.heap.size, 0, none⟩) 2 2]) (by simp [results, Tryd.results42, go_sem, r0, r1, r2, r3, r4, r5]) rfl HF.out
end Go.Proofs.YtmnbhdhgjbgidaaDoor

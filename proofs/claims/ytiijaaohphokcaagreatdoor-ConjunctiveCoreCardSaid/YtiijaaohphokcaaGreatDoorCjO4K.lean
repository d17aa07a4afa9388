/- conjunctive.numbered: what stands in the world while it runs. -/
import Derived.Test.YtiijaaohphokcaaGreatDoorG23
namespace Go.Proofs.YtiijaaohphokcaaGreatDoor
open Go.RowKit Go.Maps

theorem row_ne {α : Type} {w w' : World} {size b : Nat} {cells : α → List Value} {h : Hd} {xs : List α} (hr : Row w size cells h xs) (hg : w.grownBy w' (some b)) (hne : h.b ≠ b) : Row w' size cells h xs := by
  obtain ⟨h1, h2, h3, h4⟩ := hr
  refine ⟨h1, h2, fun hp => ⟨(h3 hp).1, Nat.lt_of_lt_of_le (h3 hp).2 hg.size⟩, fun i hi j v hv => ?_⟩
  have hp : 0 < xs.length := by omega
  rw [World.cell?_of_block (w := w) (a := ⟨h.b, _, none⟩) (hg.block h.b (h3 hp).2 (by intro e; injection e with e; exact hne e))]
  exact h4 i hi j v hv
theorem row_row {α : Type} {w w' : World} {size : Nat} {row : Option Nat} {cells : α → List Value} {h : Hd} {xs : List α} (hr : Row w size cells h xs) (hg : w.grownBy w' row) (hne : some h.b ≠ row) : Row w' size cells h xs := by
  obtain ⟨h1, h2, h3, h4⟩ := hr
  refine ⟨h1, h2, fun hp => ⟨(h3 hp).1, Nat.lt_of_lt_of_le (h3 hp).2 hg.size⟩, fun i hi j v hv => ?_⟩
  have hp : 0 < xs.length := by omega
  rw [World.cell?_of_block (w := w) (a := ⟨h.b, _, none⟩) (hg.block h.b (h3 hp).2 hne)]
  exact h4 i hi j v hv
/-- A row of slots of a block of its own. -/
structure SlAt (w : World) (x : World) (l : TL) : Prop where
  row : Row x 4 Tm.cells l.h l.l
  ty : TyAt x l.h.b 83
  ge : w.heap.size ≤ l.h.b
theorem SlAt.grown {w x y : World} {l : TL} {row : Option Nat} (h : SlAt w x l) (hg : x.grownBy y row) (hne : some l.h.b ≠ row) : SlAt w y l := ⟨row_row h.row hg hne, h.ty.grown hg hne, h.ge⟩
/-- w: the world ahead; ob: the block of the result's draft, nb: that of the map's variable, mb: the map's. -/
structure NuW (w : World) (q : Cq) (ob nb mb k : Nat) (outs : List Li) (lv : Value) (o : List Nat) (x : World) : Prop where
  bel : Below w.heap.size w x
  bq : Box x w.heap.size (qcells q) 32
  br : Box x (w.heap.size + 1) #[.int .i64 0, .slice none 0 0, .slice none 0 0] 32
  bn : Box x nb #[.map (some mb)] 137
  nm : NM x mb o
  bo : Box x ob #[.int .i64 0, lv, .slice none 0 0] 32
  own : x.ownsRow (w.heap.size + 2) 56 2 lv k (outs.flatMap Li.cells)
  sl : ∀ l ∈ outs, SlAt w x l.sl
  lo : w.heap.size + 2 ≤ ob ∧ w.heap.size + 2 ≤ nb ∧ w.heap.size + 2 ≤ mb
section
variable {w x y : World} {q : Cq} {ob nb mb k : Nat} {outs : List Li} {lv : Value} {o o' : List Nat}
theorem NuW.lv_ne (h : NuW w q ob nb mb k outs lv o x) {b : Nat} {T : TypeId} (ht : TyAt x b T) (hne : 56 ≠ T) : lv.ownBlock ≠ some b := fun e => (TyAt.own h.own e).ne ht hne rfl
theorem NuW.lv_mb (h : NuW w q ob nb mb k outs lv o x) : lv.ownBlock ≠ some mb := fun e => (TyAt.own h.own e).map h.nm rfl
/-- The map turns. -/
theorem NuW.turn (h : NuW w q ob nb mb k outs lv o x) (hg : x.grownBy y (some mb)) (hm : NM y mb o') : NuW w q ob nb mb k outs lv o' y := by
  have hl := h.lo
  have hs : ∀ {b : Nat} {T : TypeId}, TyAt x b T → some b ≠ some mb := fun ht e => by injection e with e; exact ht.map h.nm e
  exact ⟨h.bel.grown hg h.bel.size (fun j e => by injection e with e; omega), h.bq.grown hg (hs (.box h.bq)), h.br.grown hg (hs (.box h.br)), h.bn.grown hg (hs (.box h.bn)), hm, h.bo.grown hg (hs (.box h.bo)), h.own.kept hg (.inr h.lv_mb), fun l hl => (h.sl l hl).grown hg (hs (h.sl l hl).ty), h.lo⟩
theorem NuW.call (h : NuW w q ob nb mb k outs lv o x) (hb : Below x.heap.size x y) : NuW w q ob nb mb k outs lv o y := h.turn (only_below hb _) (h.nm.below hb)
/-- A literal is appended. -/
theorem NuW.app (h : NuW w q ob nb mb k outs lv o x) {l : Li} {v2 : Value} (hl : SlAt w x l.sl) (hg : x.grownBy y lv.ownBlock) (hown : y.ownsRow (w.heap.size + 2) 56 2 v2 (k + 1) (outs.flatMap Li.cells ++ Li.cells l)) :
    NuW w q ob nb mb (k + 1) (outs ++ [l]) v2 o (y.setCell ⟨ob, 1, none⟩ v2) := by
  have hlo := h.lo
  have hs : ∀ {b : Nat} {T : TypeId}, TyAt x b T → 56 ≠ T → some b ≠ lv.ownBlock := fun ht hne e => h.lv_ne ht hne e.symm
  have hbo := h.bo.grown hg (hs (.box h.bo) (by decide))
  have hg2 := gb_set y ob 1 v2
  have hbel : Below w.heap.size w y := h.bel.grown hg h.bel.size (fun j e => by have := (h.own.lt j e).1; omega)
  have hnm : NM y mb o := h.nm.grown hg (fun e => h.lv_mb e.symm)
  have hso : ∀ {b : Nat} {T : TypeId}, TyAt y b T → 32 ≠ T → some b ≠ some ob := fun ht hne e => by injection e with e; exact (TyAt.box hbo).ne ht hne e.symm
  have hsl : ∀ a, SlAt w x a → SlAt w (y.setCell ⟨ob, 1, none⟩ v2) a := fun a ha => by
    have h1 := ha.grown hg (hs ha.ty (by decide))
    exact h1.grown hg2 (hso h1.ty (by decide))
  have hbn := h.bn.grown hg (hs (.box h.bn) (by decide))
  refine ⟨hbel.grown hg2 hbel.size (fun j e => by injection e with e; omega), (h.bq.grown hg (hs (.box h.bq) (by decide))).grown hg2 (by intro e; injection e with e; omega), (h.br.grown hg (hs (.box h.br) (by decide))).grown hg2 (by intro e; injection e with e; omega), hbn.grown hg2 (hso (.box hbn) (by decide)), hnm.grown hg2 (by intro e; injection e with e; exact (TyAt.box hbo).map hnm e.symm), ?_, ?_, fun a ha => ?_, h.lo⟩
  · have := hbo.set 1 v2
    simpa only [List.setIfInBounds_toArray, List.set_cons_zero, List.set_cons_succ] using this
  · have h2 := hown.kept hg2 (.inr (fun e => (TyAt.own hown e).ne (TyAt.box hbo) (by decide) rfl))
    rwa [List.flatMap_append, List.flatMap_cons, List.flatMap_nil, List.append_nil]
  · rcases List.mem_append.1 ha with ha | ha
    · exact hsl _ (h.sl a ha)
    · rw [List.mem_singleton.1 ha]; exact hsl _ hl
end
/-- The literals numbered so far are those of the query. -/
def OutsOk (q : Cq) (k : Nat) (outs : List Li) : Prop := outs.length = k ∧ outs.map Li.lt = (q.cj.lits.take k).map (fun a => (a.1, a.2.map (ren (occQ [] (q.cj.lits.take k)))))
theorem cj_at (q : Cq) {k : Nat} (hk : k < q.lits.length) (hk2 : k < q.cj.lits.length) : q.cj.lits[k] = (q.lits[k]).lt := List.getElem_map (f := Li.lt) (l := q.lits) (h := by simpa using hk)
theorem occQ_take {q : Cq} {k : Nat} (hk : k < q.lits.length) : occQ [] (q.cj.lits.take (k + 1)) = occL (occQ [] (q.cj.lits.take k)) (q.lits[k]).sl.l := by
  have hk2 : k < q.cj.lits.length := by rw [show q.cj.lits.length = q.lits.length from List.length_map _]; exact hk
  rw [List.take_succ_eq_append_getElem hk2]
  unfold occQ
  rw [List.foldl_append]
  show occL _ (q.cj.lits[k]).2 = _
  rw [cj_at q hk hk2]
  rfl
theorem OutsOk.snoc {q : Cq} {k : Nat} {outs : List Li} (h : OutsOk q k outs) (hk : k < q.lits.length) {hd : Hd} : OutsOk q (k + 1) (outs ++ [⟨(q.lits[k]).tab, ⟨hd, (q.lits[k]).sl.l.map (ren (occL (occQ [] (q.cj.lits.take k)) (q.lits[k]).sl.l))⟩⟩]) := by
  have hk2 : k < q.cj.lits.length := by rw [show q.cj.lits.length = q.lits.length from List.length_map _]; exact hk
  have he : q.cj.lits[k] = (q.lits[k]).lt := cj_at q hk hk2
  refine ⟨by rw [List.length_append, h.1]; rfl, ?_⟩
  rw [List.map_append, h.2, occQ_take hk, List.take_succ_eq_append_getElem hk2, List.map_append, he]
  refine congr (congrArg _ (List.map_congr_left (fun a ha => ?_))) rfl
  have : a.2.map (ren (occL (occQ [] (q.cj.lits.take k)) (q.lits[k]).sl.l)) = a.2.map (ren (occQ [] (q.cj.lits.take k))) := ren_pre (occL_pre _ _) (fun x hx => occQ_mem _ _ _ ⟨a, ha, hx⟩)
  rw [this]
end Go.Proofs.YtiijaaohphokcaaGreatDoor

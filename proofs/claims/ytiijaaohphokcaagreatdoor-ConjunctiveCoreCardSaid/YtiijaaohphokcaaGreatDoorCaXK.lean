/- law27.ConjunctiveCore: what is held on the way; its region that draws its order. -/
import Derived.Test.YtiijaaohphokcaaGreatDoorG46
import Derived.Test.YtiijaaohphokcaaGreatDoorCjL4K
import Derived.Test.YtiijaaohphokcaaGreatDoorCjJ4K
import Derived.Test.YtiijaaohphokcaaGreatDoorG33
namespace Go.Proofs.YtiijaaohphokcaaGreatDoor
open Go.RowKit

theorem Box.cell_eq {w : World} {g : Nat} {cs : Array Value} {T : TypeId} (h : Box w g cs T) (j : Nat) : w.cell? ⟨g, j, none⟩ = cs[j]? := cell_of_row w g j cs T (0, 0) h
/-- A row of slots is no query's box. -/
theorem slots_off {x : World} {g : Nat} {q0 : Cq} {T : TypeId} {l : List (Tm V)} {h : Hd} (hb : Box x g (qcells q0) T) (hr : Row x 4 Tm.cells h l) (hp : 0 < l.length) : h.b ≠ g := by
  intro e
  have h1 := (tm_at hr hp).2.2.2
  rw [e, hb.cell_eq] at h1
  have h2 := (Array.getElem?_eq_some_iff.1 h1).1
  have h3 : h.o + 0 * 4 + 3 < 3 := h2
  omega
/-- A row of literals is no query's box. -/
theorem lits_off {x : World} {g : Nat} {q0 : Cq} {T : TypeId} {ls : List Li} {h : Hd} (hb : Box x g (qcells q0) T) (h0 : Row x 2 Li.cells q0.lh q0.lits) (hp0 : 0 < q0.lits.length) (hr : Row x 2 Li.cells h ls) (hp : 0 < ls.length) (hs : Row x 4 Tm.cells ls[0].sl.h ls[0].sl.l) : h.b ≠ g := by
  intro e
  obtain ⟨h1, h2⟩ := li_at hr hp
  rw [e, hb.cell_eq] at h1 h2
  have ho : h.o = 0 := by
    have h3 := (Array.getElem?_eq_some_iff.1 h2).1
    have h3 : h.o + 0 * 2 + 1 < 3 := h3
    have : h.o = 0 ∨ h.o = 1 := by omega
    rcases this with h4 | h4
    · exact h4
    · rw [h4] at h1
      have h5 : (some (Value.slice q0.lh.ao q0.lits.length q0.lh.cap)) = some (.int .i64 (ls[0].tab : Nat)) := h1
      cases h5
  rw [ho] at h2
  have h5 : (some (Value.slice q0.lh.ao q0.lits.length q0.lh.cap)) = some (.slice ls[0].sl.h.ao ls[0].sl.l.length ls[0].sl.h.cap) := h2
  injection h5 with h5
  injection h5 with e1 e2 _
  have hp3 : 0 < ls[0].sl.l.length := by omega
  have k1 := (li_at h0 hp0).2
  have k2 := (tm_at hs hp3).2.1
  have eb : q0.lh.b = ls[0].sl.h.b := by unfold Hd.b; rw [e1]
  have eo : q0.lh.o = ls[0].sl.h.o := by unfold Hd.o; rw [e1]
  rw [eb, eo] at k1
  have k3 : (some (Value.slice q0.lits[0].sl.h.ao q0.lits[0].sl.l.length q0.lits[0].sl.h.cap)) = some (.int .i64 ls[0].sl.l[0].val.kind) := k1.symm.trans k2
  cases k3
theorem RightQ.len {w : World} {T : List (List Int)} {q : Cq} {B : Nat} (h : RightQ w T q B) : 0 < q.lits.length ∧ 0 < q.head.l.length := by
  obtain ⟨τ, hr⟩ := h.ri
  have h1 := hr.n1
  have h2 := hr.h1
  exact ⟨by rwa [show q.cj.lits.length = q.lits.length from List.length_map _] at h1, h2⟩
theorem RightQ.le {w : World} {T : List (List Int)} {q : Cq} {B B' : Nat} (h : RightQ w T q B) (hb : B' ≤ B) : RightQ w T q B' := ⟨h.qi.le hb, h.ri, h.tl⟩
/-- A query that a box of another holds not is kept while that box is stored to. -/
theorem RightQ.put {x y : World} {T : List (List Int)} {q q0 : Cq} {B B0 g : Nat} {U : TypeId} (h : RightQ x T q B) (h0 : RightQ x T q0 B0) (hb : Box x g (qcells q0) U) (hg : x.grownBy y (some g)) : RightQ y T q B := by
  have hl := h.len
  refine ⟨⟨row_grown h.qi.row hg (fun hp => lits_off hb h0.qi.row h0.len.1 h.qi.row hp (h.qi.sl _ (List.getElem_mem hp)).row), h.qi.ge, fun l hl => ?_, h.qi.tb, ?_, h.qi.vr⟩, h.ri, h.tl⟩
  · have k := h.qi.sl l hl
    exact ⟨row_grown k.row hg (fun hp => slots_off hb k.row hp), k.wf, k.ge⟩
  · have k := h.qi.hd
    exact ⟨row_grown k.row hg (fun hp => slots_off hb k.row hp), k.wf, k.ge⟩
/-- What is held on the way: the tape, the schema and its box, the query and its box. -/
structure LC (w : World) (L : IL) (s : Sch) (w2 : World) (qb a : Nat) (q : Cq) (x : World) : Prop where
  bel : Below w.heap.size w x
  tp : TapeIn x w.heap.size L a
  gr : w2.grownBy x (some w.heap.size)
  bs : Box x w2.heap.size #[.slice s.th.ao s.tabs.length s.th.cap] 27
  bq : Box x qb (qcells q) 32
  rq : RightQ x (colT s) q (w.heap.size + 1)
  lo : w.heap.size < w2.heap.size
  qlo : w2.heap.size < qb
  ll : 0 < L.l.length → L.h.b < w2.heap.size
/-- .. while Weaker turns the tape. -/
structure LG5 (w : World) (L : IL) (s : Sch) (w2 : World) (qb a : Nat) (q : Cq) (bb : Bool) (x : World) : Prop where
  bel : Below w.heap.size w x
  tp : bb = false → TapeIn x w.heap.size L a
  gr : w2.grownBy x (some w.heap.size)
  bs : Box x w2.heap.size #[.slice s.th.ao s.tabs.length s.th.cap] 27
  bq : Box x qb (qcells q) 32
  rq : RightQ x (colT s) q (w.heap.size + 1)
  lo : w.heap.size < w2.heap.size
  qlo : w2.heap.size < qb
  ll : 0 < L.l.length → L.h.b < w2.heap.size
section
variable {w w2 x y : World} {L : IL} {s : Sch} {qb a a2 : Nat} {q r : Cq} {bb : Bool}
theorem bgrow {w x y : World} (h : Below w.heap.size w x) (hg : x.grownBy y (some w.heap.size)) : Below w.heap.size w y := h.grown hg h.size (fun k hk => by injection hk with hk; omega)
theorem LC.below (h : LC w L s w2 qb a q x) (hb : Below x.heap.size x y) : LC w L s w2 qb a q y :=
  ⟨bel_trans h.bel hb, h.tp.mono hb, h.gr.andThen (only_below hb (some w.heap.size)) (fun j e => .inr e), h.bs.below hb, h.bq.below hb, h.rq.mono hb, h.lo, h.qlo, h.ll⟩
theorem LC.turn (h : LC w L s w2 qb a q x) (hg : x.grownBy y (some w.heap.size)) (ht : TapeIn y w.heap.size L a2) : LC w L s w2 qb a2 q y := by
  have h1 := h.lo
  have h2 := h.qlo
  exact ⟨bgrow h.bel hg, ht, h.gr.andThen hg (fun j e => .inr e), h.bs.grown hg (by intro e; injection e with e; omega), h.bq.grown hg (by intro e; injection e with e; omega), h.rq.grown hg (by omega), h.lo, h.qlo, h.ll⟩
theorem LC.start (h : LC w L s w2 qb a q x) : LG5 w L s w2 qb a q false x := ⟨h.bel, fun _ => h.tp, h.gr, h.bs, h.bq, h.rq, h.lo, h.qlo, h.ll⟩
theorem LG5.turn (h : LG5 w L s w2 qb a q bb x) (hg : x.grownBy y (some w.heap.size)) : LG5 w L s w2 qb a q true y := by
  have h1 := h.lo
  have h2 := h.qlo
  exact ⟨bgrow h.bel hg, fun e => (by cases e), h.gr.andThen hg (fun j e => .inr e), h.bs.grown hg (by intro e; injection e with e; omega), h.bq.grown hg (by intro e; injection e with e; omega), h.rq.grown hg (by omega), h.lo, h.qlo, h.ll⟩
theorem LG5.store (h : LG5 w L s w2 qb a q true x) (ht : TapeIn x w.heap.size L a2) (hr : RightQ x (colT s) r (w.heap.size + 1)) :
    LC w L s w2 qb a2 r (((x.setCell ⟨qb, 0, none⟩ (.int .i64 (r.vars : Nat))).setCell ⟨qb, 1, none⟩ (.slice r.lh.ao r.lits.length r.lh.cap)).setCell ⟨qb, 2, none⟩ (.slice r.head.h.ao r.head.l.length r.head.h.cap)) := by
  have h1 := h.lo
  have h2 := h.qlo
  have hg := set3 x qb (.int .i64 (r.vars : Nat)) (.slice r.lh.ao r.lits.length r.lh.cap) (.slice r.head.h.ao r.head.l.length r.head.h.cap)
  have hb := ((h.bq.set 0 (.int .i64 (r.vars : Nat))).set 1 (.slice r.lh.ao r.lits.length r.lh.cap)).set 2 (.slice r.head.h.ao r.head.l.length r.head.h.cap)
  have hrq := hr.put h.rq h.bq hg
  have hbs : w2.heap.size < x.heap.size := h.bs.lt
  generalize ((x.setCell ⟨qb, 0, none⟩ (.int .i64 (r.vars : Nat))).setCell ⟨qb, 1, none⟩ (.slice r.lh.ao r.lits.length r.lh.cap)).setCell ⟨qb, 2, none⟩ (.slice r.head.h.ao r.head.l.length r.head.h.cap) = y at *
  have htl := ht.lt
  refine ⟨h.bel.grown hg h.bel.size (fun k hk => by injection hk with hk; omega), ⟨?_, ?_, ?_, il_grown ht.row hg (fun hp => by have := h.ll hp; omega), ht.ne⟩, h.gr.andThen hg (fun j e => .inl (by injection e with e; omega)), h.bs.grown hg (by intro e; injection e with e; omega), ?_, hrq, h1, h2, h.ll⟩
  · rw [hg.cell_far ⟨w.heap.size, 0, none⟩ htl (fun e => by have e : some w.heap.size = some qb := e; injection e with e; omega)]; exact ht.lst
  · rw [hg.cell_far ⟨w.heap.size, 1, none⟩ htl (fun e => by have e : some w.heap.size = some qb := e; injection e with e; omega)]; exact ht.pos
  · rw [hg.frozen_far ⟨w.heap.size, 1, none⟩ htl (fun e => by have e : some w.heap.size = some qb := e; injection e with e; omega)]; exact ht.fr
  · simpa only [qcells, List.setIfInBounds_toArray, List.set_cons_zero, List.set_cons_succ] using hb
theorem LG5.hsi (h : LG5 w L s w2 qb a q bb x) (hs : ∀ z, w2.grownBy z (some w.heap.size) → s.In z) : ∀ z, x.grownBy z (some w.heap.size) → s.In z := fun z hz => hs z (h.gr.andThen hz (fun j e => .inr e))
theorem LC.hsi (h : LC w L s w2 qb a q x) (hs : ∀ z, w2.grownBy z (some w.heap.size) → s.In z) : ∀ z, x.grownBy z (some w.heap.size) → s.In z := fun z hz => hs z (h.gr.andThen hz (fun j e => .inr e))
theorem LG5.below (h : LG5 w L s w2 qb a q bb x) (hb : Below x.heap.size x y) : LG5 w L s w2 qb a q bb y :=
  ⟨bel_trans h.bel hb, fun e => (h.tp e).mono hb, h.gr.andThen (only_below hb (some w.heap.size)) (fun j e => .inr e), h.bs.below hb, h.bq.below hb, h.rq.mono hb, h.lo, h.qlo, h.ll⟩
end

set_option maxRecDepth 100000 in
set_option maxHeartbeats 4000000 in
theorem cc_reg5 {w w2 : World} {sc : Sch} {qb a : Nat} {L : IL} {q : Cq} {W : World} (HA : Hid (a ≤ 4611686018427370000)) (HPS : Hid (PSch sc)) (HSI : Hid (∀ z, w2.grownBy z (some w.heap.size) → sc.In z)) (HG0 : Hid (LG5 w L sc w2 qb a q false W.drew)) {Q : Exit → Act → World → Prop} {c : Code} {u0 u1 u2 u6 u7 u8 u9 u10 u11 u12 u13 u14 u15 u16 u17 u18 u19 u20 u21 u22 u23 u24 u25 u26 u27 u28 u29 u30 u31 u32 u33 u34 u35 u36 u37 u38 u39 u40 u41 u42 u43 u44 u45 u46 u47 u48 u49 u50 u51 u52 u53 u54 u55 u56 u57 u58 u59 u60 u61 u62 u63 u64 u65 u66 u67 u68 u69 u70 u71 u72 u73 u74 u75 u76 u77 u78 u79 u80 u81 u82 u83 u84 u85 u86 u87 u88 u89 u90 u91 u92 u93 u94 u95 u96 u97 u98 u99 u100 u101 u102 u103 u104 u105 u106 u107 u108 u109 u110 u111 u112 u113 u114 u115 u116 u117 u118 u119 u120 u121 u122 u123 u124 u125 u126 u127 u128 u129 u130 u131 u132 u133 u134 u135 u136 u137 u138 u139 u140 u141 u142 u143 u144 u145 u146 u147 u148 u149 u150 u151 u152 u153 u154 u155 u156 u157 u158 u159 u160 u161 : Value} (hc : c = codeIn [1, 1, 1, 1, 0, 1, 2] (Tryz.f3.body.getD .skip)) (hend : ∀ (t5 t6 : Cq) (a3 : Nat) x, LC w L sc w2 qb a3 t6 x → a3 ≤ a + 6 → Q .normal { tmps := (u0 :: u1 :: u2 :: (.pointer (some ⟨w.heap.size, 0, none⟩)) :: (.pointer (some ⟨w2.heap.size, 0, none⟩)) :: (.pointer (some ⟨qb, 0, none⟩)) :: u6 :: u7 :: u8 :: u9 :: u10 :: u11 :: u12 :: u13 :: u14 :: u15 :: u16 :: u17 :: u18 :: u19 :: u20 :: u21 :: u22 :: u23 :: u24 :: u25 :: u26 :: u27 :: u28 :: u29 :: u30 :: u31 :: u32 :: .pointer (some ⟨w.heap.size, 0, none⟩) :: .agg #[.slice sc.th.ao sc.tabs.length sc.th.cap] :: .pointer (some ⟨w.heap.size, 0, none⟩) :: .agg #[.slice sc.th.ao sc.tabs.length sc.th.cap] :: .agg #[.int .i64 (q.vars : Nat), .slice q.lh.ao q.lits.length q.lh.cap, .slice q.head.h.ao q.head.l.length q.head.h.cap] :: .agg #[.int .i64 (t5.vars : Nat), .slice t5.lh.ao t5.lits.length t5.lh.cap, .slice t5.head.h.ao t5.head.l.length t5.head.h.cap] :: .agg #[.int .i64 (t6.vars : Nat), .slice t6.lh.ao t6.lits.length t6.lh.cap, .slice t6.head.h.ao t6.head.l.length t6.head.h.cap] :: u40 :: u41 :: u42 :: u43 :: u44 :: u45 :: u46 :: u47 :: u48 :: u49 :: u50 :: u51 :: u52 :: u53 :: u54 :: u55 :: u56 :: u57 :: u58 :: u59 :: u60 :: u61 :: u62 :: u63 :: u64 :: u65 :: u66 :: u67 :: u68 :: u69 :: u70 :: u71 :: u72 :: u73 :: u74 :: u75 :: u76 :: u77 :: u78 :: u79 :: u80 :: u81 :: u82 :: u83 :: u84 :: u85 :: u86 :: u87 :: u88 :: u89 :: u90 :: u91 :: u92 :: u93 :: u94 :: u95 :: u96 :: u97 :: u98 :: u99 :: u100 :: u101 :: u102 :: u103 :: u104 :: u105 :: u106 :: u107 :: u108 :: u109 :: u110 :: u111 :: u112 :: u113 :: u114 :: u115 :: u116 :: u117 :: u118 :: u119 :: u120 :: u121 :: u122 :: u123 :: u124 :: u125 :: u126 :: u127 :: u128 :: u129 :: u130 :: u131 :: u132 :: u133 :: u134 :: u135 :: u136 :: u137 :: u138 :: u139 :: u140 :: u141 :: u142 :: u143 :: u144 :: u145 :: u146 :: u147 :: u148 :: u149 :: u150 :: u151 :: u152 :: u153 :: u154 :: u155 :: u156 :: u157 :: u158 :: u159 :: u160 :: u161 :: []).toArray, defers := [] } x) : Code.wp Tryz.prog c Q { tmps := (u0 :: u1 :: u2 :: (.pointer (some ⟨w.heap.size, 0, none⟩)) :: (.pointer (some ⟨w2.heap.size, 0, none⟩)) :: (.pointer (some ⟨qb, 0, none⟩)) :: u6 :: u7 :: u8 :: u9 :: u10 :: u11 :: u12 :: u13 :: u14 :: u15 :: u16 :: u17 :: u18 :: u19 :: u20 :: u21 :: u22 :: u23 :: u24 :: u25 :: u26 :: u27 :: u28 :: u29 :: u30 :: u31 :: u32 :: u33 :: u34 :: u35 :: u36 :: u37 :: u38 :: u39 :: u40 :: u41 :: u42 :: u43 :: u44 :: u45 :: u46 :: u47 :: u48 :: u49 :: u50 :: u51 :: u52 :: u53 :: u54 :: u55 :: u56 :: u57 :: u58 :: u59 :: u60 :: u61 :: u62 :: u63 :: u64 :: u65 :: u66 :: u67 :: u68 :: u69 :: u70 :: u71 :: u72 :: u73 :: u74 :: u75 :: u76 :: u77 :: u78 :: u79 :: u80 :: u81 :: u82 :: u83 :: u84 :: u85 :: u86 :: u87 :: u88 :: u89 :: u90 :: u91 :: u92 :: u93 :: u94 :: u95 :: u96 :: u97 :: u98 :: u99 :: u100 :: u101 :: u102 :: u103 :: u104 :: u105 :: u106 :: u107 :: u108 :: u109 :: u110 :: u111 :: u112 :: u113 :: u114 :: u115 :: u116 :: u117 :: u118 :: u119 :: u120 :: u121 :: u122 :: u123 :: u124 :: u125 :: u126 :: u127 :: u128 :: u129 :: u130 :: u131 :: u132 :: u133 :: u134 :: u135 :: u136 :: u137 :: u138 :: u139 :: u140 :: u141 :: u142 :: u143 :: u144 :: u145 :: u146 :: u147 :: u148 :: u149 :: u150 :: u151 :: u152 :: u153 :: u154 :: u155 :: u156 :: u157 :: u158 :: u159 :: u160 :: u161 :: []).toArray, defers := [] } W := by
  subst hc
  conv => enter [2]; whnf
  refine wp_region_tailH (by kernel_rfl) (by kernel_rfl) 6 (by show 6 < _; decide) (by kernel_rfl) (by kernel_rfl) (fun s : Nat → Value => ({ tmps := (u0 :: u1 :: u2 :: (.pointer (some ⟨w.heap.size, 0, none⟩)) :: (.pointer (some ⟨w2.heap.size, 0, none⟩)) :: (.pointer (some ⟨qb, 0, none⟩)) :: u6 :: u7 :: u8 :: u9 :: u10 :: u11 :: u12 :: u13 :: u14 :: u15 :: u16 :: u17 :: u18 :: u19 :: u20 :: u21 :: u22 :: u23 :: u24 :: u25 :: u26 :: u27 :: u28 :: u29 :: u30 :: u31 :: u32 :: s 33 :: s 34 :: s 35 :: s 36 :: s 37 :: s 38 :: u39 :: u40 :: u41 :: u42 :: u43 :: u44 :: u45 :: u46 :: u47 :: u48 :: u49 :: u50 :: u51 :: u52 :: u53 :: u54 :: u55 :: u56 :: u57 :: u58 :: u59 :: u60 :: u61 :: u62 :: u63 :: u64 :: u65 :: u66 :: u67 :: u68 :: u69 :: u70 :: u71 :: u72 :: u73 :: u74 :: u75 :: u76 :: u77 :: u78 :: u79 :: u80 :: u81 :: u82 :: u83 :: u84 :: u85 :: u86 :: u87 :: u88 :: u89 :: u90 :: u91 :: u92 :: u93 :: u94 :: u95 :: u96 :: u97 :: u98 :: u99 :: u100 :: u101 :: u102 :: u103 :: u104 :: u105 :: u106 :: u107 :: u108 :: u109 :: u110 :: u111 :: u112 :: u113 :: u114 :: u115 :: u116 :: u117 :: u118 :: u119 :: u120 :: u121 :: u122 :: u123 :: u124 :: u125 :: u126 :: u127 :: u128 :: u129 :: u130 :: u131 :: u132 :: u133 :: u134 :: u135 :: u136 :: u137 :: u138 :: u139 :: u140 :: u141 :: u142 :: u143 :: u144 :: u145 :: u146 :: u147 :: u148 :: u149 :: u150 :: u151 :: u152 :: u153 :: u154 :: u155 :: u156 :: u157 :: u158 :: u159 :: u160 :: u161 :: []).toArray, defers := [] } : Act)) (fun k => if k = 33 then u33 else if k = 34 then u34 else if k = 35 then u35 else if k = 36 then u36 else if k = 37 then u37 else if k = 38 then u38 else undef) rfl 5 (by decide) (fun i => ([false, false, false, false, false, true] : List Bool).getD i false) (by kernel_rfl) (fun _ _ => True) (LG5 w L sc w2 qb a q) ?g0 (fun i v x => (i = 5 → ∃ t5 a2, v = .agg #[.int .i64 (t5.vars : Nat), .slice t5.lh.ao t5.lits.length t5.lh.cap, .slice t5.head.h.ao t5.head.l.length t5.head.h.cap] ∧ RightQ x (colT sc) t5 (w.heap.size + 1) ∧ TapeIn x w.heap.size L a2 ∧ a2 ≤ a + 3) ∧ (i ≠ 5 → ([.pointer (some ⟨w.heap.size, 0, none⟩), .agg #[.slice sc.th.ao sc.tabs.length sc.th.cap], .pointer (some ⟨w.heap.size, 0, none⟩), .agg #[.slice sc.th.ao sc.tabs.length sc.th.cap], .agg #[.int .i64 (q.vars : Nat), .slice q.lh.ao q.lits.length q.lh.cap, .slice q.head.h.ao q.head.l.length q.head.h.cap], undef] : List Value)[i]? = some v)) (fun i v x y h hb => ⟨fun hi => (by obtain ⟨t5, a2, h0, q0, q1, q2⟩ := h.1 hi; exact ⟨t5, a2, h0, q0.mono hb, q1.mono hb, q2⟩), h.2⟩) (fun i v x y hd _ _ h hb => ⟨fun hi => (by subst hi; exact absurd hd (by decide)), h.2⟩) (fun i => ([33, 34, 35, 36, 37, 38] : List Nat).getD i 0) ?inj ?step ?last
  case g0 => exact HG0.out
  case inj =>
    intro i j hi hj h
    have hI : i = 0 ∨ i = 1 ∨ i = 2 ∨ i = 3 ∨ i = 4 ∨ i = 5 := by omega
    have hJ : j = 0 ∨ j = 1 ∨ j = 2 ∨ j = 3 ∨ j = 4 ∨ j = 5 := by omega
    rcases hI with rfl | rfl | rfl | rfl | rfl | rfl <;> rcases hJ with rfl | rfl | rfl | rfl | rfl | rfl <;> first | rfl | (exact absurd h (by decide))
  case last =>
    intro s x hv hgt
    have HG := hide hgt
    clear hgt
    have z0 : s 33 = .pointer (some ⟨w.heap.size, 0, none⟩) := by have h := (hv 0 (by decide)).2 (by decide); injection h with h; exact h.symm
    have z1 : s 34 = .agg #[.slice sc.th.ao sc.tabs.length sc.th.cap] := by have h := (hv 1 (by decide)).2 (by decide); injection h with h; exact h.symm
    have z2 : s 35 = .pointer (some ⟨w.heap.size, 0, none⟩) := by have h := (hv 2 (by decide)).2 (by decide); injection h with h; exact h.symm
    have z3 : s 36 = .agg #[.slice sc.th.ao sc.tabs.length sc.th.cap] := by have h := (hv 3 (by decide)).2 (by decide); injection h with h; exact h.symm
    have z4 : s 37 = .agg #[.int .i64 (q.vars : Nat), .slice q.lh.ao q.lits.length q.lh.cap, .slice q.head.h.ao q.head.l.length q.head.h.cap] := by have h := (hv 4 (by decide)).2 (by decide); injection h with h; exact h.symm
    obtain ⟨t5, a2, hz5, hg5_0, hg5_1, hg5_2⟩ := (hv 5 (by decide)).1 rfl
    have z5 : s 38 = .agg #[.int .i64 (t5.vars : Nat), .slice t5.lh.ao t5.lits.length t5.lh.cap, .slice t5.head.h.ao t5.head.l.length t5.head.h.cap] := hz5
    clear hz5
    clear hv
    have HQ5 := hide hg5_0
    have HT5 := hide hg5_1
    have HLG := hide HG.out
    clear hg5_0 hg5_1
    show Oper.wp _ _ _ _ _ _
    refine opwp_K (fun K2 hK2 => ?_)
    go_simp
    go_at_call 11
    refine (weaker_any sc t5 x w.heap.size L a2 HT5.out (by have := HA.out; omega) (HLG.out.hsi HSI.out) HPS.out HQ5.out).mono ?_
    rintro e y ⟨t6, a3, rfl, h1, h2, h3, h4⟩
    have HR6 := hide h1
    have HT6 := hide h2
    have HL6 := hide (HLG.out.turn h4)
    clear h1 h2 h4 HLG HG HQ5 HT5
    go_simp
    refine hK2 _ _ ?_
    show Oper.wp _ _ _ _ _ _
    clear hK2
    have k0 := HL6.out.bq.cell (j := 0) rfl
    have k1 := HL6.out.bq.cell (j := 1) rfl
    have k2 := HL6.out.bq.cell (j := 2) rfl
    have f0 := HL6.out.bq.fr 0
    have f1 := HL6.out.bq.fr 1
    have f2 := HL6.out.bq.fr 2
    refine opwp_K (fun K3 hK3 => ?_)
    go_simp
    refine hK3 _ _ ?_
    have h := hend t5 t6 a3 _ (HL6.out.store HT6.out HR6.out) (by omega)
    show Q _ _ _
    first | exact h | (simp only [z0, z1, z2, z3, z4, z5]; exact h)
  case step =>
    intro i o s x hin ho he bb hgb hbf hbt
    have HG := hide hgb
    clear hgb
    have hcase : i = 0 ∨ i = 1 ∨ i = 2 ∨ i = 3 ∨ i = 4 ∨ i = 5 := by omega
    rcases hcase with rfl | rfl | rfl | rfl | rfl | rfl
    · injection ho with ho
      subst ho
      clear he hbf hbt
      refine opwp_K (fun K2 hK2 => ?_)
      go_simp
      exact hK2 _ _ ⟨(.pointer (some ⟨w.heap.size, 0, none⟩)), (by first | rfl | (simp [List.getD]; done)), sI_ne (by decide) (Below.refl _ _), gIf_ne (G := LG5 w L sc w2 qb a q) (by decide) HG.out, ⟨fun h => absurd h (by decide), fun _ => rfl⟩⟩
    · injection ho with ho
      subst ho
      clear he hbf hbt
      have k0 := HG.out.bs.cell (j := 0) rfl
      refine opwp_K (fun K2 hK2 => ?_)
      go_simp
      exact hK2 _ _ ⟨(.agg #[.slice sc.th.ao sc.tabs.length sc.th.cap]), (by first | rfl | (simp [List.getD]; done)), sI_ne (by decide) (Below.refl _ _), gIf_ne (G := LG5 w L sc w2 qb a q) (by decide) HG.out, ⟨fun h => absurd h (by decide), fun _ => rfl⟩⟩
    · injection ho with ho
      subst ho
      clear he hbf hbt
      refine opwp_K (fun K2 hK2 => ?_)
      go_simp
      exact hK2 _ _ ⟨(.pointer (some ⟨w.heap.size, 0, none⟩)), (by first | rfl | (simp [List.getD]; done)), sI_ne (by decide) (Below.refl _ _), gIf_ne (G := LG5 w L sc w2 qb a q) (by decide) HG.out, ⟨fun h => absurd h (by decide), fun _ => rfl⟩⟩
    · injection ho with ho
      subst ho
      clear he hbf hbt
      have k0 := HG.out.bs.cell (j := 0) rfl
      refine opwp_K (fun K2 hK2 => ?_)
      go_simp
      exact hK2 _ _ ⟨(.agg #[.slice sc.th.ao sc.tabs.length sc.th.cap]), (by first | rfl | (simp [List.getD]; done)), sI_ne (by decide) (Below.refl _ _), gIf_ne (G := LG5 w L sc w2 qb a q) (by decide) HG.out, ⟨fun h => absurd h (by decide), fun _ => rfl⟩⟩
    · injection ho with ho
      subst ho
      clear he hbf hbt
      have k0 := HG.out.bq.cell (j := 0) rfl
      have k1 := HG.out.bq.cell (j := 1) rfl
      have k2 := HG.out.bq.cell (j := 2) rfl
      refine opwp_K (fun K2 hK2 => ?_)
      go_simp
      exact hK2 _ _ ⟨(.agg #[.int .i64 (q.vars : Nat), .slice q.lh.ao q.lits.length q.lh.cap, .slice q.head.h.ao q.head.l.length q.head.h.cap]), (by first | rfl | (simp [List.getD]; done)), sI_ne (by decide) (Below.refl _ _), gIf_ne (G := LG5 w L sc w2 qb a q) (by decide) HG.out, ⟨fun h => absurd h (by decide), fun _ => rfl⟩⟩
    · injection ho with ho
      subst ho
      have z2 : s 35 = .pointer (some ⟨w.heap.size, 0, none⟩) := by have h := (he ⟨2, .data⟩ (by simp) rfl).2 (by decide); injection h with h; exact h.symm
      have z3 : s 36 = .agg #[.slice sc.th.ao sc.tabs.length sc.th.cap] := by have h := (he ⟨3, .data⟩ (by simp) rfl).2 (by decide); injection h with h; exact h.symm
      have z4 : s 37 = .agg #[.int .i64 (q.vars : Nat), .slice q.lh.ao q.lits.length q.lh.cap, .slice q.head.h.ao q.head.l.length q.head.h.cap] := by have h := (he ⟨4, .data⟩ (by simp) rfl).2 (by decide); injection h with h; exact h.symm
      obtain rfl : bb = false := hbf rfl
      clear he hbf hbt
      have HLG := hide HG.out
      refine opwp_K (fun K2 hK2 => ?_)
      go_simp
      go_at_call 11
      refine (weaker_any sc q x w.heap.size L a (HLG.out.tp rfl) (by have := HA.out; omega) (HLG.out.hsi HSI.out) HPS.out HLG.out.rq).mono ?_
      rintro e y ⟨t5, a2, rfl, h1, h2, h3, h4⟩
      go_simp
      exact hK2 _ _ ⟨(_), (by first | rfl | (simp [z2, z3, z4]; done)), sI_eq rfl (trivial), gIf_eq (G := LG5 w L sc w2 qb a q) (HLG.out.turn h4), ⟨fun _ => ⟨t5, a2, rfl, h1, h2, h3⟩, fun h => absurd rfl h⟩⟩

end Go.Proofs.YtiijaaohphokcaaGreatDoor

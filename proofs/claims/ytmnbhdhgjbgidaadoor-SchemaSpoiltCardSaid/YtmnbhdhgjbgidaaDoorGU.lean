/- made.Expr at any tape: CASE. -/
import Derived.Test.YtmnbhdhgjbgidaaDoorMadeU2
import Derived.Test.YtmnbhdhgjbgidaaDoorMadeU5
namespace Go.Proofs.YtmnbhdhgjbgidaaDoor
open Go.RowKit


set_option maxRecDepth 100000 in
set_option maxHeartbeats 4000000 in
theorem expr_case {d : Int} (hd : 2 ≤ d ∧ d ≤ 3) {n N : Nat} (hE : ExprAt n N (d - 1)) (w : World) (b a : Nat) (L r : IL) (k : Int) (hk : isT k = true) (ht : TapeIn w b L a) (ha : a + (10 + 5 * n) ≤ 4611686018427370000) (hr : r.In w) (hrn : r.l.length ≤ 1000) (hrb : 0 < r.l.length → r.h.b ≠ b) (m1 : Int) (hm1 : L.next a 4 = m1) (m2 : Int) (hm2 : L.next (a + 1) 4 = m2) (h0 : m1 ≠ 0) (h1 : m2 = 0) :
    Calls Tryd.prog 19 #[.pointer (some ⟨b, 0, none⟩), .slice r.h.ao r.l.length r.h.cap, .int .i64 k, .int .i64 d] w fun e w' => ExOut w w' b a (10 + 5 * n) (1 + 4 * N) L e := by
  have hbl := ht.lt
  have hn := hr.1.len
  have HLW := hide ht.low
  have HK64 := hide hk
  have HEE := hide hE
  have HBW := hide (((belAA (w := w) (.cells #[.pointer (some ⟨b, 0, none⟩)] 23) (.cells #[.slice r.h.ao r.l.length r.h.cap] 22)).alloc (by simp only [World.size_alloc]; omega) (.cells #[.int .i64 d] 3)).alloc (by simp only [World.size_alloc]; omega) ZE)
  have B0 := hide ((((Box.new w #[.pointer (some ⟨b, 0, none⟩)] 23).below (belA (.cells #[.slice r.h.ao r.l.length r.h.cap] 22))).below (belA (.cells #[.int .i64 d] 3))).below (belA ZE))
  have B1 := hide ((((Box.new (w.alloc (.cells #[.pointer (some ⟨b, 0, none⟩)] 23)) #[.slice r.h.ao r.l.length r.h.cap] 22)).below (belA (.cells #[.int .i64 d] 3))).below (belA ZE))
  have B2 := hide (((Box.new ((w.alloc (.cells #[.pointer (some ⟨b, 0, none⟩)] 23)).alloc (.cells #[.slice r.h.ao r.l.length r.h.cap] 22)) #[.int .i64 d] 3)).below (belA ZE))
  have B3 := hide (Box.new (((w.alloc (.cells #[.pointer (some ⟨b, 0, none⟩)] 23)).alloc (.cells #[.slice r.h.ao r.l.length r.h.cap] 22)).alloc (.cells #[.int .i64 d] 3)) #[.int .i64 0, .int .i64 0, .int .i64 0, .string ⟨#[]⟩, .int .i64 0, .slice none 0 0] 45)
  simp only [World.size_alloc] at B0 B1 B2 B3
  have HT0 := hide (ht.mono HBW.out)
  have HR0 := hide (hr.mono HBW.out)
  have hszW := HBW.out.size
  clear ht hr hk hE
  have hw1 : IntKind.i64.wrap (d - 1) = d - 1 := by
    have hc : d = 2 ∨ d = 3 := by omega
    rcases hc with rfl | rfl <;> rfl
  have hd1 : ¬ d ≤ 1 := by omega
  go_enter Tryd.func19, Tryd.ntmps19
  go_upto_region 1 with (fail)
  have HSW := hide (show ((((w.alloc (.cells #[.pointer (some ⟨b, 0, none⟩)] 23)).alloc (.cells #[.slice r.h.ao r.l.length r.h.cap] 22)).alloc (.cells #[.int .i64 d] 3)).alloc (.cells #[.int .i64 0, .int .i64 0, .int .i64 0, .string ⟨#[]⟩, .int .i64 0, .slice none 0 0] 45)).heap.size = w.heap.size + 4 from by simp)
  generalize (((w.alloc (.cells #[.pointer (some ⟨b, 0, none⟩)] 23)).alloc (.cells #[.slice r.h.ao r.l.length r.h.cap] 22)).alloc (.cells #[.int .i64 d] 3)).alloc (.cells #[.int .i64 0, .int .i64 0, .int .i64 0, .string ⟨#[]⟩, .int .i64 0, .slice none 0 0] 45) = W at *
  have hws : W.heap.size = w.heap.size + 4 := HSW.out
  have HG0 := hide (World.grownBy.refl W (some b))
  have HWG := hide (show w.grownBy W (some b) from only_below HBW.out _)
  have hmf : ∀ (fn : Fn) (first cap : Array Value) (w : World), (Instr.makeFunc fn first cap).run Tryd.prog w = .ok (.func fn first cap) w := fun _ _ _ _ => rfl
  have x0 := B0.out.cell (j := 0) rfl
  have x1 := B1.out.cell (j := 0) rfl
  have x2 := B2.out.cell (j := 0) rfl
  have hr1 := L.next_ok a (n := 4) (by decide)
  rw [hm1] at hr1
  have HN1 := hide hm1
  clear hm1
  have hr2 := L.next_ok (a + 1) (n := 4) (by decide)
  rw [hm2] at hr2
  have HN2 := hide hm2
  clear hm2
  subst h1
  have hm1_0 : (m1 == 0) = false := beq_eq_false_iff_ne.2 (by omega)
  go_upto_region 8 with (first
    | (go_at_call 19; refine (HEE.out _ b a1 L r k HK64.out (HT3.out.mono (belA _)) (by omega) ⟨row_grown HR0.out.1 (HG3.out.trans (only_below (belA _) _)) hrb, HR0.out.2⟩ hrn hrb).mono ?_; rintro e v4 ⟨⟨p, rfl, hi1, hf1, hs2⟩, ⟨a2, ha2, hb2, ht1⟩, hg1⟩; have HI2 := hide hi1; have HF2 := hide (hf1.mono (Nat.le_trans HG3.out.size (belA _).size)); have HT4 := hide ht1; have HG34 := hide hg1; clear hi1 hf1 ht1 hg1)
    | (go_at_call 19; refine (HEE.out _ b (a + 1 + 1) L r 2 rfl HT2.out (by omega) ⟨row_grown HR0.out.1 HG2.out hrb, HR0.out.2⟩ hrn hrb).mono ?_; rintro e v3 ⟨⟨q, rfl, hi1, hf1, hs1⟩, ⟨a1, ha1, hb1, ht1⟩, hg1⟩; have HI1 := hide hi1; have HF1 := hide (hf1.mono HG2.out.size); have HT3 := hide ht1; have HG3 := hide (HG2.out.trans hg1); have HGL := hide hg1; clear hi1 hf1 ht1 hg1; have z0_3 := ((B0.out.grown HG3.out (by simp; omega)).below (belA (.cells #[.int .i64 q.op, .int .i64 q.typ, .int .i64 q.num, .string q.text, .int .i64 q.col, .slice q.kh.ao q.kids.length q.kh.cap] 45))).cell (j := 0) rfl; have z1_3 := ((B1.out.grown HG3.out (by simp; omega)).below (belA (.cells #[.int .i64 q.op, .int .i64 q.typ, .int .i64 q.num, .string q.text, .int .i64 q.col, .slice q.kh.ao q.kids.length q.kh.cap] 45))).cell (j := 0) rfl; have z2_3 := ((B2.out.grown HG3.out (by simp; omega)).below (belA (.cells #[.int .i64 q.op, .int .i64 q.typ, .int .i64 q.num, .string q.text, .int .i64 q.col, .slice q.kh.ao q.kids.length q.kh.cap] 45))).cell (j := 0) rfl)
    | (go_at_call 10; refine (next_any _ b (a + 1) L _ HT1.out (by omega) (by omega) ⟨by omega, by omega⟩).mono ?_; rintro e v2 ⟨rfl, htt, hgg⟩; rw [HN2.out]; have HT2 := hide htt; have HG2 := hide (HG1.out.trans hgg); clear htt hgg; have y0_2 := (B0.out.grown HG2.out (by simp; omega)).cell (j := 0) rfl; have y1_2 := (B1.out.grown HG2.out (by simp; omega)).cell (j := 0) rfl; have y2_2 := (B2.out.grown HG2.out (by simp; omega)).cell (j := 0) rfl)
    | (go_at_call 10; refine (next_any _ b a L _ HT0.out (by omega) (by omega) ⟨by omega, by omega⟩).mono ?_; rintro e v1 ⟨rfl, htt, hgg⟩; rw [HN1.out]; have HT1 := hide htt; have HG1 := hide (HG0.out.trans hgg); clear htt hgg; have y0_1 := (B0.out.grown HG1.out (by simp; omega)).cell (j := 0) rfl; have y1_1 := (B1.out.grown HG1.out (by simp; omega)).cell (j := 0) rfl; have y2_1 := (B2.out.grown HG1.out (by simp; omega)).cell (j := 0) rfl))
  generalize hV : v4.alloc (.cells #[.int .i64 p.op, .int .i64 p.typ, .int .i64 p.num, .string p.text, .int .i64 p.col, .slice p.kh.ao p.kids.length p.kh.cap] 45) = V
  have HPB := hide (show Box V v4.heap.size p.cells.toArray 45 from hV ▸ Box.new v4 p.cells.toArray 45)
  have HBV := hide (show Below v4.heap.size v4 V from hV ▸ belA _)
  clear hV
  have hs3 := HG3.out.size
  have hs4 := HG34.out.size
  simp only [World.size_alloc] at hs4
  have hs5 := HBV.out.size
  have HG4 := hide ((HG3.out.trans (only_below (belA (.cells #[.int .i64 q.op, .int .i64 q.typ, .int .i64 q.num, .string q.text, .int .i64 q.col, .slice q.kh.ao q.kids.length q.kh.cap] 45)) _)).trans HG34.out)
  have HGV := hide (HG4.out.trans (only_below HBV.out _))
  have HQB := hide (((Box.new v3 q.cells.toArray 45).grown HG34.out (by simp; omega)).below HBV.out)
  have HIQ := hide (((HI1.out.mono (belA (.cells #[.int .i64 q.op, .int .i64 q.typ, .int .i64 q.num, .string q.text, .int .i64 q.col, .slice q.kh.ao q.kids.length q.kh.cap] 45))).grown HF1.out HG34.out (by omega)).mono HBV.out)
  have HIP := hide (HI2.out.mono HBV.out)
  have HTV := hide (HT4.out.mono HBV.out)
  have hpl := HPB.out.lt
  clear HI1 HI2 HT4 HT3 HT2 HT1 HBV x0 x1 x2
  have z0 : ∀ w', Kept b (w.heap.size + 1 + 1 + 1) V w' → w'.cell? ⟨w.heap.size, 0, none⟩ = some (.pointer (some ⟨b, 0, none⟩)) := fun w' h => (h.box (B0.out.grown HGV.out (by simp; omega)) (by omega) (by omega)).cell (j := 0) rfl
  have z1 : ∀ w', Kept b (w.heap.size + 1 + 1 + 1) V w' → w'.cell? ⟨w.heap.size + 1, 0, none⟩ = some (.slice r.h.ao r.l.length r.h.cap) := fun w' h => (h.box (B1.out.grown HGV.out (by simp; omega)) (by omega) (by omega)).cell (j := 0) rfl
  have z2 : ∀ w', Kept b (w.heap.size + 1 + 1 + 1) V w' → w'.cell? ⟨w.heap.size + 1 + 1, 0, none⟩ = some (.int .i64 d) := fun w' h => (h.box (B2.out.grown HGV.out (by simp; omega)) (by omega) (by omega)).cell (j := 0) rfl
  have qb0 : ∀ w', Kept b (w.heap.size + 1 + 1 + 1) V w' → w'.cell? ⟨v3.heap.size, 0, none⟩ = some (.int .i64 q.op) := fun w' h => (h.box HQB.out (by omega) (by omega)).cell (j := 0) rfl
  have qb1 : ∀ w', Kept b (w.heap.size + 1 + 1 + 1) V w' → w'.cell? ⟨v3.heap.size, 1, none⟩ = some (.int .i64 q.typ) := fun w' h => (h.box HQB.out (by omega) (by omega)).cell (j := 1) rfl
  have qb2 : ∀ w', Kept b (w.heap.size + 1 + 1 + 1) V w' → w'.cell? ⟨v3.heap.size, 2, none⟩ = some (.int .i64 q.num) := fun w' h => (h.box HQB.out (by omega) (by omega)).cell (j := 2) rfl
  have qb3 : ∀ w', Kept b (w.heap.size + 1 + 1 + 1) V w' → w'.cell? ⟨v3.heap.size, 3, none⟩ = some (.string q.text) := fun w' h => (h.box HQB.out (by omega) (by omega)).cell (j := 3) rfl
  have qb4 : ∀ w', Kept b (w.heap.size + 1 + 1 + 1) V w' → w'.cell? ⟨v3.heap.size, 4, none⟩ = some (.int .i64 q.col) := fun w' h => (h.box HQB.out (by omega) (by omega)).cell (j := 4) rfl
  have qb5 : ∀ w', Kept b (w.heap.size + 1 + 1 + 1) V w' → w'.cell? ⟨v3.heap.size, 5, none⟩ = some (.slice q.kh.ao q.kids.length q.kh.cap) := fun w' h => (h.box HQB.out (by omega) (by omega)).cell (j := 5) rfl
  have pb0 : ∀ w', Kept b (w.heap.size + 1 + 1 + 1) V w' → w'.cell? ⟨v4.heap.size, 0, none⟩ = some (.int .i64 p.op) := fun w' h => (h.box HPB.out (by omega) (by omega)).cell (j := 0) rfl
  have pb1 : ∀ w', Kept b (w.heap.size + 1 + 1 + 1) V w' → w'.cell? ⟨v4.heap.size, 1, none⟩ = some (.int .i64 p.typ) := fun w' h => (h.box HPB.out (by omega) (by omega)).cell (j := 1) rfl
  have pb2 : ∀ w', Kept b (w.heap.size + 1 + 1 + 1) V w' → w'.cell? ⟨v4.heap.size, 2, none⟩ = some (.int .i64 p.num) := fun w' h => (h.box HPB.out (by omega) (by omega)).cell (j := 2) rfl
  have pb3 : ∀ w', Kept b (w.heap.size + 1 + 1 + 1) V w' → w'.cell? ⟨v4.heap.size, 3, none⟩ = some (.string p.text) := fun w' h => (h.box HPB.out (by omega) (by omega)).cell (j := 3) rfl
  have pb4 : ∀ w', Kept b (w.heap.size + 1 + 1 + 1) V w' → w'.cell? ⟨v4.heap.size, 4, none⟩ = some (.int .i64 p.col) := fun w' h => (h.box HPB.out (by omega) (by omega)).cell (j := 4) rfl
  have pb5 : ∀ w', Kept b (w.heap.size + 1 + 1 + 1) V w' → w'.cell? ⟨v4.heap.size, 5, none⟩ = some (.slice p.kh.ao p.kids.length p.kh.cap) := fun w' h => (h.box HPB.out (by omega) (by omega)).cell (j := 5) rfl
  go_region_held3 (fun w' => Kept b (w.heap.size + 1 + 1 + 1) V w') ((with_reducible first | exact Kept.drew (Kept.refl _ _ _) | exact Kept.grown (by assumption) (by assumption) | exact Kept.alloc (by assumption) _ | exact Kept.set (Kept.set (Kept.set (Kept.set (Kept.set (Kept.set (by assumption) _ _) _ _) _ _) _ _) _ _) _ _))
    (first
      | (go_at_call 19; refine (HEE.out _ b a2 L r k HK64.out (HTV.out.mono (bel_self _)) (by omega) (IL.In.mono ⟨row_grown HR0.out.1 HGV.out hrb, HR0.out.2⟩ (bel_self _)) hrn hrb).mono ?_; rintro e v5 ⟨⟨s, rfl, hi1, hf1, hs6⟩, ⟨a3, ha3, hb3, ht1⟩, hg1⟩; have HI5 := hide hi1; have HF5 := hide hf1; have HT5 := hide ht1; have HG5 := hide (gb_drew hg1); clear hi1 hf1 ht1; have hkb := (B3.out.grown (HGV.out.trans HG5.out) (by simp; omega)).below (belA (.cells #[.int .i64 q.op, .int .i64 q.typ, .int .i64 q.num, .string q.text, .int .i64 q.col, .slice q.kh.ao q.kids.length q.kh.cap, .int .i64 p.op, .int .i64 p.typ, .int .i64 p.num, .string p.text, .int .i64 p.col, .slice p.kh.ao p.kids.length p.kh.cap, .int .i64 s.op, .int .i64 s.typ, .int .i64 s.num, .string s.text, .int .i64 s.col, .slice s.kh.ao s.kids.length s.kh.cap] 45)); have e0 := hkb.cell (j := 0) rfl; have f0 := hkb.fr 0; have e1 := hkb.cell (j := 1) rfl; have f1 := hkb.fr 1; have e2 := hkb.cell (j := 2) rfl; have f2 := hkb.fr 2; have e3 := hkb.cell (j := 3) rfl; have f3 := hkb.fr 3; have e4 := hkb.cell (j := 4) rfl; have f4 := hkb.fr 4; have e5 := hkb.cell (j := 5) rfl; have f5 := hkb.fr 5; clear hkb))
  have hsv := HG5.out.size
  have hin : (nodeEx 26 v5.heap.size 3 [q, p, s]).In (v5.alloc (.cells ([q, p, s].flatMap Ex.cells).toArray 45)) := node_in (by constructor <;> decide) (fun x hx => by
    simp only [List.mem_cons, List.not_mem_nil, or_false] at hx
    rcases hx with rfl | rfl | rfl
    · exact (HIQ.out.grown HF1.out HG5.out (by omega)).mono (belA _)
    · exact (HIP.out.grown HF2.out HG5.out (by omega)).mono (belA _)
    · exact HI5.out.mono (belA _)) (by simp) (Box.new v5 _ _)
  have hfr : (nodeEx 26 v5.heap.size 3 [q, p, s]).Fresh W.heap.size := node_fresh (by omega) (fun x hx => by
    simp only [List.mem_cons, List.not_mem_nil, or_false] at hx
    rcases hx with rfl | rfl | rfl
    · exact HF1.out
    · exact HF2.out
    · exact HF5.out.mono (by show W.heap.size ≤ V.heap.size; omega))
  have hsq : (nodeEx 26 v5.heap.size 3 [q, p, s]).size ≤ 1 + 4 * N := by rw [Ex.size_eq]; simp only [Ex.sizes]; omega
  have HF := hide (ex_done (w := w) (b := b) (a := a) (n := 10 + 5 * n) (N := 1 + 4 * N) (L := L) (g := w.heap.size + 1 + 1 + 1) (B := W.heap.size) (e := nodeEx 26 v5.heap.size 3 [q, p, s]) hin hfr (by omega) (by omega) hsq (by omega) (by omega) (HT5.out.mono (belA _)) ((HWG.out.trans (HGV.out.trans HG5.out)).trans (only_below (belA _) _)) HLW.out)
  clear hin hfr hsq
  clear z0 z1 z2 qb0 qb1 qb2 qb3 qb4 qb5 pb0 pb1 pb2 pb3 pb4 pb5
  go_wp2_with fail
  exact bodyPost_ret (v := .agg #[.int .i64 26, .int .i64 0, .int .i64 0, .string ⟨#[]⟩, .int .i64 0, .slice (some ⟨v5.heap.size, 0, none⟩) 3 3]) (by simp [results, Tryd.results19, go_sem, e0, e1, e2, e3, e4, e5]) rfl HF.out

end Go.Proofs.YtmnbhdhgjbgidaaDoor

/- made.Expr at any tape: NOT. -/
namespace Go.Proofs.YtmnbhdhgjbgidaaDoor
open Go.RowKit

/-- The two operators of a NOT. -/
def ops2 : List Int := [24, 25]
theorem ops2_at {j : Nat} (h : j < ops2.length) : ops2[j] = 24 + (j : Int) := by
  have h2 : j = 0 ∨ j = 1 := by have : j < 2 := h; omega
  rcases h2 with rfl | rfl <;> rfl

set_option maxRecDepth 100000 in
set_option maxHeartbeats 4000000 in
theorem expr_not {d : Int} (hd : 2 ≤ d ∧ d ≤ 3) {n N : Nat} (hE : ExprAt n N (d - 1)) (w : World) (b a : Nat) (L r : IL) (k : Int) (hk : isT k = true) (ht : TapeIn w b L a) (ha : a + (10 + 5 * n) ≤ 4611686018427370000) (hr : r.In w) (hrn : r.l.length ≤ 1000) (hrb : 0 < r.l.length → r.h.b ≠ b) (m1 : Int) (hm1 : L.next a 4 = m1) (m2 : Int) (hm2 : L.next (a + 1) 4 = m2) (m3 : Int) (hm3 : L.next (a + 1 + 1) 3 = m3) (m4 : Int) (hm4 : L.next (a + 1 + 1 + 1) 6 = m4) (h0 : m1 ≠ 0) (h1 : 2 ≤ m2) (hk0 : k = 2) (h3 : m4 = 1) :
    Calls Tryd.prog 19 #[.pointer (some ⟨b, 0, none⟩), .slice r.h.ao r.l.length r.h.cap, .int .i64 k, .int .i64 d] w fun e w' => ExOut w w' b a (10 + 5 * n) (1 + 4 * N) L e := by
  have hbl := ht.lt
  have hn := hr.1.len
  have HLW := hide ht.low
  have HK64 := hide hk
  have HEE := hide hE
  have HBW := hide (((belAA (w := w) (.cells #[.pointer (some ⟨b, 0, none⟩)] 23) (.cells #[.slice r.h.ao r.l.length r.h.cap] 22)).alloc (by simp only [World.size_alloc]; omega) (.cells #[.int .i64 d] 3)).alloc (by simp only [World.size_alloc]; omega) ZE)
  have B0 := hide ((((Box.new w #[.pointer (some ⟨b, 0, none⟩)] 23).below (belA (.cells #[.slice r.h.ao r.l.length r.h.cap] 22))).below (belA (.cells #[.int .i64 d] 3))).below (belA ZE))
  have B1 := hide ((((Box.new (w.alloc (.cells #[.pointer (some ⟨b, 0, none⟩)] 23)) #[.slice r.h.ao r.l.length r.h.cap] 22)).below (belA (.cells #[.int .i64 d] 3))).below (belA ZE))
  have B2 := hide (((Box.new ((w.alloc (.cells #[.pointer (some ⟨b, 0, none⟩)] 23)).alloc (.cells #[.slice r.h.ao r.l.length r.h.cap] 22)) #[.int .i64 d] 3)).below (belA ZE))
  have B3 := hide (Box.new (((w.alloc (.cells #[.pointer (some ⟨b, 0, none⟩)] 23)).alloc (.cells #[.slice r.h.ao r.l.length r.h.cap] 22)).alloc (.cells #[.int .i64 d] 3)) #[.int .i64 0, .int .i64 0, .int .i64 0, .string ⟨#[]⟩, .int .i64 0, .slice none 0 0] 45)
  simp only [World.size_alloc] at B0 B1 B2 B3
  have HT0 := hide (ht.mono HBW.out)
  have HR0 := hide (hr.mono HBW.out)
  have hszW := HBW.out.size
  clear ht hr hk hE
  have hw1 : IntKind.i64.wrap (d - 1) = d - 1 := by
    have hc : d = 2 ∨ d = 3 := by omega
    rcases hc with rfl | rfl <;> rfl
  have hd1 : ¬ d ≤ 1 := by omega
  go_enter Tryd.func19, Tryd.ntmps19
  go_upto_region 1 with (fail)
  have HSW := hide (show ((((w.alloc (.cells #[.pointer (some ⟨b, 0, none⟩)] 23)).alloc (.cells #[.slice r.h.ao r.l.length r.h.cap] 22)).alloc (.cells #[.int .i64 d] 3)).alloc (.cells #[.int .i64 0, .int .i64 0, .int .i64 0, .string ⟨#[]⟩, .int .i64 0, .slice none 0 0] 45)).heap.size = w.heap.size + 4 from by simp)
  generalize (((w.alloc (.cells #[.pointer (some ⟨b, 0, none⟩)] 23)).alloc (.cells #[.slice r.h.ao r.l.length r.h.cap] 22)).alloc (.cells #[.int .i64 d] 3)).alloc (.cells #[.int .i64 0, .int .i64 0, .int .i64 0, .string ⟨#[]⟩, .int .i64 0, .slice none 0 0] 45) = W at *
  have hws : W.heap.size = w.heap.size + 4 := HSW.out
  have HG0 := hide (World.grownBy.refl W (some b))
  have HWG := hide (show w.grownBy W (some b) from only_below HBW.out _)
  have hmf : ∀ (fn : Fn) (first cap : Array Value) (w : World), (Instr.makeFunc fn first cap).run Tryd.prog w = .ok (.func fn first cap) w := fun _ _ _ _ => rfl
  have x0 := B0.out.cell (j := 0) rfl
  have x1 := B1.out.cell (j := 0) rfl
  have x2 := B2.out.cell (j := 0) rfl
  have hr1 := L.next_ok a (n := 4) (by decide)
  rw [hm1] at hr1
  have HN1 := hide hm1
  clear hm1
  have hr2 := L.next_ok (a + 1) (n := 4) (by decide)
  rw [hm2] at hr2
  have HN2 := hide hm2
  clear hm2
  have hr3 := L.next_ok (a + 1 + 1) (n := 3) (by decide)
  rw [hm3] at hr3
  have HN3 := hide hm3
  clear hm3
  have hr4 := L.next_ok (a + 1 + 1 + 1) (n := 6) (by decide)
  rw [hm4] at hr4
  have HN4 := hide hm4
  clear hm4
  subst h3
  subst hk0
  have hm1_0 : (m1 == 0) = false := beq_eq_false_iff_ne.2 (by omega)
  have hm2_0 : (m2 == 0) = false := beq_eq_false_iff_ne.2 (by omega)
  have hm2_1 : (m2 == 1) = false := beq_eq_false_iff_ne.2 (by omega)
  have hx1 : IntKind.i64.wrap (1 + m3) = 1 + m3 := (by rw [IntKind.wrap_i64]; omega)
  have hxt : isT (1 + m3) = true := decide_eq_true (by omega)
  go_upto_region 25 with (first
    | (go_at_call 10; refine (next_any _ b a L _ HT0.out (by omega) (by omega) ⟨by omega, by omega⟩).mono ?_; rintro e v1 ⟨rfl, htt, hgg⟩; rw [HN1.out]; have HT1 := hide htt; have HG1 := hide (HG0.out.trans hgg); clear htt hgg; have y0_1 := (B0.out.grown HG1.out (by simp; omega)).cell (j := 0) rfl; have y1_1 := (B1.out.grown HG1.out (by simp; omega)).cell (j := 0) rfl; have y2_1 := (B2.out.grown HG1.out (by simp; omega)).cell (j := 0) rfl)
    | (go_at_call 10; refine (next_any _ b (a + 1) L _ HT1.out (by omega) (by omega) ⟨by omega, by omega⟩).mono ?_; rintro e v2 ⟨rfl, htt, hgg⟩; rw [HN2.out]; have HT2 := hide htt; have HG2 := hide (HG1.out.trans hgg); clear htt hgg; have y0_2 := (B0.out.grown HG2.out (by simp; omega)).cell (j := 0) rfl; have y1_2 := (B1.out.grown HG2.out (by simp; omega)).cell (j := 0) rfl; have y2_2 := (B2.out.grown HG2.out (by simp; omega)).cell (j := 0) rfl)
    | (go_at_call 10; refine (next_any _ b (a + 1 + 1) L _ HT2.out (by omega) (by omega) ⟨by omega, by omega⟩).mono ?_; rintro e v3 ⟨rfl, htt, hgg⟩; rw [HN3.out]; have HT3 := hide htt; have HG3 := hide (HG2.out.trans hgg); clear htt hgg; have y0_3 := (B0.out.grown HG3.out (by simp; omega)).cell (j := 0) rfl; have y1_3 := (B1.out.grown HG3.out (by simp; omega)).cell (j := 0) rfl; have y2_3 := (B2.out.grown HG3.out (by simp; omega)).cell (j := 0) rfl)
    | (go_at_call 10; refine (next_any _ b (a + 1 + 1 + 1) L _ HT3.out (by omega) (by omega) ⟨by omega, by omega⟩).mono ?_; rintro e v4 ⟨rfl, htt, hgg⟩; rw [HN4.out]; have HT4 := hide htt; have HG4 := hide (HG3.out.trans hgg); clear htt hgg; have y0_4 := (B0.out.grown HG4.out (by simp; omega)).cell (j := 0) rfl; have y1_4 := (B1.out.grown HG4.out (by simp; omega)).cell (j := 0) rfl; have y2_4 := (B2.out.grown HG4.out (by simp; omega)).cell (j := 0) rfl))
  generalize hV : v4.alloc (.cells #[.int .i64 24, .int .i64 25] 3) = V
  have HLB := hide (show Box V v4.heap.size (ops2.flatMap icells).toArray 3 from hV ▸ Box.new v4 #[.int .i64 24, .int .i64 25] 3)
  have HBV := hide (show Below v4.heap.size v4 V from hV ▸ belA _)
  clear hV
  have hs4 := HG4.out.size
  have hs5 := HBV.out.size
  have hll := HLB.out.lt
  have HGV := hide (HG4.out.trans (only_below HBV.out _))
  have HTV := hide (HT4.out.mono HBV.out)
  have HROW := hide (row_of_box (size := 1) (cells := icells) (xs := ops2) (fun _ => rfl) (by decide) HLB.out)
  have HIX := hide (show ∀ j : Nat, j < 2 → ∀ U, (Instr.indexAt 22 (.slice (some ⟨v4.heap.size, 0, none⟩) 2 2) (.int .i64 (j : Int))).run Tryd.prog U = .ok (.pointer (some ⟨v4.heap.size, j, none⟩)) U from fun j hj U => by
    have := HROW.out.ix (i := j) hj Tryd.underlying22 szint U
    simp only [Hd.b, Hd.o, Option.getD_some, Nat.zero_add, Nat.mul_one] at this
    exact this)
  have HC := hide (show ∀ j : Nat, j < 2 → ∀ w', Kept b (w.heap.size + 1 + 1 + 1) V w' → w'.cell? ⟨v4.heap.size, j, none⟩ = some (.int .i64 (24 + (j : Int))) from fun j hj w' h => by
    have h1 := row_of_box (size := 1) (cells := icells) (xs := ops2) (fun _ => rfl) (by decide) (h.box HLB.out (by omega) (by omega))
    have h2 := h1.2.2.2 j hj 0 _ rfl
    simpa [Hd.b, Hd.o, ops2_at hj] using h2)
  clear HT4 HT3 HT2 HT1 HBV x0 x1 x2 HROW
  have z0 : ∀ w', Kept b (w.heap.size + 1 + 1 + 1) V w' → w'.cell? ⟨w.heap.size, 0, none⟩ = some (.pointer (some ⟨b, 0, none⟩)) := fun w' h => (h.box (B0.out.grown HGV.out (by simp; omega)) (by omega) (by omega)).cell (j := 0) rfl
  have z1 : ∀ w', Kept b (w.heap.size + 1 + 1 + 1) V w' → w'.cell? ⟨w.heap.size + 1, 0, none⟩ = some (.slice r.h.ao r.l.length r.h.cap) := fun w' h => (h.box (B1.out.grown HGV.out (by simp; omega)) (by omega) (by omega)).cell (j := 0) rfl
  have z2 : ∀ w', Kept b (w.heap.size + 1 + 1 + 1) V w' → w'.cell? ⟨w.heap.size + 1 + 1, 0, none⟩ = some (.int .i64 d) := fun w' h => (h.box (B2.out.grown HGV.out (by simp; omega)) (by omega) (by omega)).cell (j := 0) rfl
  go_region_held3 (fun w' => Kept b (w.heap.size + 1 + 1 + 1) V w') ((with_reducible first | exact Kept.drew (Kept.refl _ _ _) | exact Kept.grown (by assumption) (by assumption) | exact Kept.alloc (by assumption) _ | exact Kept.set (Kept.set (Kept.set (Kept.set (Kept.set (Kept.set (by assumption) _ _) _ _) _ _) _ _) _ _) _ _))
    (first
      | (go_at_call 10; refine (next_any _ b (a + 1 + 1 + 1 + 1) L 2 (HTV.out.mono (bel_self _)) (by omega) (by omega) ⟨by omega, by omega⟩).mono ?_; rintro e v5 ⟨rfl, htt, hgg⟩; obtain ⟨j, hj, hj2⟩ : ∃ j : Nat, L.next (a + 1 + 1 + 1 + 1) 2 = j ∧ j < 2 := ⟨(L.next (a + 1 + 1 + 1 + 1) 2).toNat, by have := (L.next_ok (a + 1 + 1 + 1 + 1) (n := 2) (by decide)).1; omega, by have := L.next_ok (a + 1 + 1 + 1 + 1) (n := 2) (by decide); omega⟩; rw [hj]; have hix := HIX.out j hj2; have hcj := HC.out j hj2; have HT5 := hide htt; have HG5 := hide (gb_drew hgg); clear htt)
      | (go_at_call 19; refine (HEE.out _ b (a + 1 + 1 + 1 + 1 + 1) L r 2 rfl HT5.out (by omega) ⟨row_grown HR0.out.1 (HGV.out.trans HG5.out) hrb, HR0.out.2⟩ hrn hrb).mono ?_; rintro e v6 ⟨⟨q, rfl, hi1, hf1, hs1⟩, ⟨a1, ha1, hb1, htt⟩, hgg⟩; have HG6 := hide (HG5.out.trans hgg); have HI6 := hide hi1; have HF6 := hide (hf1.mono (Nat.le_trans (Nat.le_trans HGV.out.size HG5.out.size) (Nat.le_refl _))); have HT6 := hide (show ∃ a6, a ≤ a6 ∧ a6 ≤ a + (10 + 5 * n) ∧ TapeIn v6 b L a6 from ⟨a1, by omega, by omega, htt⟩); clear htt hi1 hf1; have hkb := (B3.out.grown (HGV.out.trans HG6.out) (by simp; omega)).below (belA (.cells #[.int .i64 q.op, .int .i64 q.typ, .int .i64 q.num, .string q.text, .int .i64 q.col, .slice q.kh.ao q.kids.length q.kh.cap] 45)); have e0 := hkb.cell (j := 0) rfl; have f0 := hkb.fr 0; have e1 := hkb.cell (j := 1) rfl; have f1 := hkb.fr 1; have e2 := hkb.cell (j := 2) rfl; have f2 := hkb.fr 2; have e3 := hkb.cell (j := 3) rfl; have f3 := hkb.fr 3; have e4 := hkb.cell (j := 4) rfl; have f4 := hkb.fr 4; have e5 := hkb.cell (j := 5) rfl; have f5 := hkb.fr 5; clear hkb)
      | (go_at_call 19; refine (HEE.out _ b (a + 1 + 1 + 1 + 1) L r 2 rfl (HTV.out.mono (bel_self _)) (by omega) ⟨row_grown HR0.out.1 HGV.out hrb, HR0.out.2⟩ hrn hrb).mono ?_; rintro e v5 ⟨⟨q, rfl, hi1, hf1, hs1⟩, ⟨a1, ha1, hb1, htt⟩, hgg⟩; have HT5 := hide htt; have HG5 := hide (gb_drew hgg); have HI5 := hide hi1; have HF6 := hide (hf1.mono (show W.heap.size ≤ V.drew.heap.size from HGV.out.size)); clear htt hi1 hf1)
      | (go_at_call 10; refine (next_any _ b a1 L 2 HT5.out (by omega) (by omega) ⟨by omega, by omega⟩).mono ?_; rintro e v6 ⟨rfl, htt, hgg⟩; obtain ⟨j, hj, hj2⟩ : ∃ j : Nat, L.next a1 2 = j ∧ j < 2 := ⟨(L.next a1 2).toNat, by have := (L.next_ok a1 (n := 2) (by decide)).1; omega, by have := L.next_ok a1 (n := 2) (by decide); omega⟩; rw [hj]; have hix := HIX.out j hj2; have hcj := HC.out j hj2; have HG6 := hide (HG5.out.trans hgg); have HI6 := hide (HI5.out.grown HF6.out hgg (by omega)); have HT6 := hide (show ∃ a6, a ≤ a6 ∧ a6 ≤ a + (10 + 5 * n) ∧ TapeIn v6 b L a6 from ⟨a1 + 1, by omega, by omega, htt⟩); clear htt; have hkb := (B3.out.grown (HGV.out.trans HG6.out) (by simp; omega)).below (belA (.cells #[.int .i64 q.op, .int .i64 q.typ, .int .i64 q.num, .string q.text, .int .i64 q.col, .slice q.kh.ao q.kids.length q.kh.cap] 45)); have e0 := hkb.cell (j := 0) rfl; have f0 := hkb.fr 0; have e1 := hkb.cell (j := 1) rfl; have f1 := hkb.fr 1; have e2 := hkb.cell (j := 2) rfl; have f2 := hkb.fr 2; have e3 := hkb.cell (j := 3) rfl; have f3 := hkb.fr 3; have e4 := hkb.cell (j := 4) rfl; have f4 := hkb.fr 4; have e5 := hkb.cell (j := 5) rfl; have f5 := hkb.fr 5; clear hkb)
      | (go_at_call 10; refine (next_any _ b a1 L 2 (HT5.out.mono (belA _)) (by omega) (by omega) ⟨by omega, by omega⟩).mono ?_; rintro e v6 ⟨rfl, htt, hgg⟩; obtain ⟨j, hj, hj2⟩ : ∃ j : Nat, L.next a1 2 = j ∧ j < 2 := ⟨(L.next a1 2).toNat, by have := (L.next_ok a1 (n := 2) (by decide)).1; omega, by have := L.next_ok a1 (n := 2) (by decide); omega⟩; rw [hj]; have hix := HIX.out j hj2; have hcj := HC.out j hj2; have HG6 := hide ((HG5.out.trans (only_below (belA (.cells #[.int .i64 q.op, .int .i64 q.typ, .int .i64 q.num, .string q.text, .int .i64 q.col, .slice q.kh.ao q.kids.length q.kh.cap] 45)) _)).trans hgg); have HX6 := hide ((Box.new v5 ([q].flatMap Ex.cells).toArray 45).grown hgg (by have := HG5.out.size; simp; omega)); have HI6 := hide ((HI5.out.mono (belA _)).grown HF6.out hgg (by omega)); have HT6 := hide (show ∃ a6, a ≤ a6 ∧ a6 ≤ a + (10 + 5 * n) ∧ TapeIn v6 b L a6 from ⟨a1 + 1, by omega, by omega, htt⟩); clear htt; have hkb := B3.out.grown (HGV.out.trans HG6.out) (by simp; omega); have e0 := hkb.cell (j := 0) rfl; have f0 := hkb.fr 0; have e1 := hkb.cell (j := 1) rfl; have f1 := hkb.fr 1; have e2 := hkb.cell (j := 2) rfl; have f2 := hkb.fr 2; have e3 := hkb.cell (j := 3) rfl; have f3 := hkb.fr 3; have e4 := hkb.cell (j := 4) rfl; have f4 := hkb.fr 4; have e5 := hkb.cell (j := 5) rfl; have f5 := hkb.fr 5; clear hkb))
  all_goals first
    | (
      have hsv := HG6.out.size
      skip
      obtain ⟨a6, h6a, h6b, ht6⟩ := HT6.out
      have hop : int64 (24 + (j : Int)) := by constructor <;> omega
      have hin : (nodeEx (24 + (j : Int)) v6.heap.size 1 [q]).In (v6.alloc (.cells ([q].flatMap Ex.cells).toArray 45)) := node_in hop (fun x hx => by rw [List.mem_singleton.1 hx]; exact HI6.out.mono (belA _)) (by simp) (Box.new v6 _ _)
      have hfr : (nodeEx (24 + (j : Int)) v6.heap.size 1 [q]).Fresh W.heap.size := node_fresh (by omega) (fun x hx => by rw [List.mem_singleton.1 hx]; exact HF6.out)
      have hsq : (nodeEx (24 + (j : Int)) v6.heap.size 1 [q]).size ≤ 1 + 4 * N := by rw [Ex.size_eq]; simp only [Ex.sizes]; omega
      have HF := hide (ex_done (w := w) (b := b) (a := a) (n := 10 + 5 * n) (N := 1 + 4 * N) (L := L) (g := w.heap.size + 1 + 1 + 1) (B := W.heap.size) (e := nodeEx (24 + (j : Int)) v6.heap.size 1 [q]) hin hfr (by omega) (by omega) hsq h6a h6b (ht6.mono (belA _)) (((HWG.out.trans (HGV.out.trans HG6.out)).trans (only_below (belA _) _))) HLW.out)
      clear hin hfr hsq ht6 z0 z1 z2
      go_wp2_with fail
      exact bodyPost_ret (v := .agg #[.int .i64 (24 + (j : Int)), .int .i64 0, .int .i64 0, .string ⟨#[]⟩, .int .i64 0, .slice (some ⟨v6.heap.size, 0, none⟩) 1 1]) (by simp [results, Tryd.results19, go_sem, e0, e1, e2, e3, e4, e5]) rfl HF.out)
    | (
      have hsv := HG6.out.size
      have hs55 := HG5.out.size
      obtain ⟨a6, h6a, h6b, ht6⟩ := HT6.out
      have hop : int64 (24 + (j : Int)) := by constructor <;> omega
      have hin : (nodeEx (24 + (j : Int)) v5.heap.size 1 [q]).In (v6) := node_in hop (fun x hx => by rw [List.mem_singleton.1 hx]; exact HI6.out) (by simp) HX6.out
      have hfr : (nodeEx (24 + (j : Int)) v5.heap.size 1 [q]).Fresh W.heap.size := node_fresh (by omega) (fun x hx => by rw [List.mem_singleton.1 hx]; exact HF6.out)
      have hsq : (nodeEx (24 + (j : Int)) v5.heap.size 1 [q]).size ≤ 1 + 4 * N := by rw [Ex.size_eq]; simp only [Ex.sizes]; omega
      have HF := hide (ex_done (w := w) (b := b) (a := a) (n := 10 + 5 * n) (N := 1 + 4 * N) (L := L) (g := w.heap.size + 1 + 1 + 1) (B := W.heap.size) (e := nodeEx (24 + (j : Int)) v5.heap.size 1 [q]) hin hfr (by omega) (by omega) hsq h6a h6b (ht6) ((HWG.out.trans (HGV.out.trans HG6.out))) HLW.out)
      clear hin hfr hsq ht6 z0 z1 z2
      go_wp2_with fail
      exact bodyPost_ret (v := .agg #[.int .i64 (24 + (j : Int)), .int .i64 0, .int .i64 0, .string ⟨#[]⟩, .int .i64 0, .slice (some ⟨v5.heap.size, 0, none⟩) 1 1]) (by simp [results, Tryd.results19, go_sem, e0, e1, e2, e3, e4, e5]) rfl HF.out)

end Go.Proofs.YtmnbhdhgjbgidaaDoor

/- made.Expr at any tape, at most three deep. -/
namespace Go.Proofs.YtmnbhdhgjbgidaaDoor
open Go.RowKit

theorem expr_base {d : Int} (hd : d ≤ 1) : ExprAt 2 1 d := fun w b a L r k hk ht ha hr hrn hrb => expr_one hd w b a L r k hk ht ha hr hrn hrb
theorem expr_step {d : Int} (hd : 2 ≤ d ∧ d ≤ 3) {n N : Nat} (hE : ExprAt n N (d - 1)) : ExprAt (10 + 5 * n) (1 + 4 * N) d := by
  intro w b a L r k hk ht ha hr hrn hrb
  have h3 := isT_ne hk
  have r2 := L.next_ok (a + 1) (n := 4) (by decide)
  have r3 := L.next_ok (a + 1 + 1 + 1) (n := 6) (by decide)
  by_cases c1 : L.next a 4 = 0
  · exact expr_pick hd hE w b a L r k hk ht ha hr hrn hrb _ rfl c1
  by_cases c2 : L.next (a + 1) 4 = 0
  · exact expr_case hd hE w b a L r k hk ht ha hr hrn hrb _ rfl _ rfl c1 c2
  by_cases c3 : L.next (a + 1) 4 = 1
  · exact expr_coal hd hE w b a L r k hk ht ha hr hrn hrb _ rfl _ rfl c1 c3
  have c4 : 2 ≤ L.next (a + 1) 4 := by omega
  by_cases k3 : k = 3
  · exact expr_cat hd hE w b a L r k hk ht ha hr hrn hrb _ rfl _ rfl c1 c4 k3
  by_cases k1 : k = 1
  · by_cases c5 : L.next (a + 1) 4 = 2
    · exact expr_add hd hE w b a L r k hk ht ha hr hrn hrb _ rfl _ rfl _ rfl c1 c5 k1
    have c6 : L.next (a + 1) 4 = 3 := by omega
    by_cases c7 : L.next (a + 1 + 1) 2 = 0
    · exact expr_neg hd hE w b a L r k hk ht ha hr hrn hrb _ rfl _ rfl _ rfl c1 c6 c7 k1
    · exact expr_len hd hE w b a L r k hk ht ha hr hrn hrb _ rfl _ rfl _ rfl c1 c6 c7 k1
  have k2 : k = 2 := by omega
  by_cases d0 : L.next (a + 1 + 1 + 1) 6 = 0
  · exact expr_and hd hE w b a L r k hk ht ha hr hrn hrb _ rfl _ rfl _ rfl _ rfl _ rfl c1 c4 k2 d0
  by_cases d1 : L.next (a + 1 + 1 + 1) 6 = 1
  · exact expr_not hd hE w b a L r k hk ht ha hr hrn hrb _ rfl _ rfl _ rfl _ rfl c1 c4 k2 d1
  by_cases d2 : L.next (a + 1 + 1 + 1) 6 = 2
  · exact expr_isnull hd hE w b a L r k hk ht ha hr hrn hrb _ rfl _ rfl _ rfl _ rfl c1 c4 k2 d2
  by_cases d3 : L.next (a + 1 + 1 + 1) 6 = 3
  · exact expr_in hd hE w b a L r k hk ht ha hr hrn hrb _ rfl _ rfl _ rfl _ rfl c1 c4 k2 d3
  · exact expr_cmp hd hE w b a L r k hk ht ha hr hrn hrb _ rfl _ rfl _ rfl _ rfl _ rfl c1 c4 k2 (by omega)
theorem expr_two : ExprAt 20 5 2 := expr_step (n := 2) (N := 1) ⟨by decide, by decide⟩ (expr_base (by decide))
theorem expr_any3 : ExprAt 110 21 3 := expr_step (n := 20) (N := 5) ⟨by decide, by decide⟩ expr_two
end Go.Proofs.YtmnbhdhgjbgidaaDoor

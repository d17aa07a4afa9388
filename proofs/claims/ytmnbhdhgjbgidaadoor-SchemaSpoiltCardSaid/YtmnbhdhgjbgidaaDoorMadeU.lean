/- made.Expr at any tape: its plain branches. -/
import Derived.Test.YtmnbhdhgjbgidaaDoorMadeT
namespace Go.Proofs.YtmnbhdhgjbgidaaDoor
open Go.RowKit


set_option maxRecDepth 100000 in
set_option maxHeartbeats 4000000 in
theorem expr_one {d : Int} (hd : d ≤ 1) (w : World) (b a : Nat) (L r : IL) (k : Int) (hk : isT k = true) (ht : TapeIn w b L a) (ha : a + 2 ≤ 4611686018427370000) (hr : r.In w) (hrn : r.l.length ≤ 1000) (hrb : 0 < r.l.length → r.h.b ≠ b) :
    Calls Tryd.prog 19 #[.pointer (some ⟨b, 0, none⟩), .slice r.h.ao r.l.length r.h.cap, .int .i64 k, .int .i64 d] w fun e w' => ExOut w w' b a 2 1 L e := by
  have hbl := ht.lt
  have hn := hr.1.len
  have HLW := hide ht.low
  have HK64 := hide hk
  have HBW := hide (((belAA (w := w) (.cells #[.pointer (some ⟨b, 0, none⟩)] 23) (.cells #[.slice r.h.ao r.l.length r.h.cap] 22)).alloc (by simp only [World.size_alloc]; omega) (.cells #[.int .i64 d] 3)).alloc (by simp only [World.size_alloc]; omega) ZE)
  have B0 := hide ((((Box.new w #[.pointer (some ⟨b, 0, none⟩)] 23).below (belA (.cells #[.slice r.h.ao r.l.length r.h.cap] 22))).below (belA (.cells #[.int .i64 d] 3))).below (belA ZE))
  have B1 := hide ((((Box.new (w.alloc (.cells #[.pointer (some ⟨b, 0, none⟩)] 23)) #[.slice r.h.ao r.l.length r.h.cap] 22)).below (belA (.cells #[.int .i64 d] 3))).below (belA ZE))
  have B2 := hide (((Box.new ((w.alloc (.cells #[.pointer (some ⟨b, 0, none⟩)] 23)).alloc (.cells #[.slice r.h.ao r.l.length r.h.cap] 22)) #[.int .i64 d] 3)).below (belA ZE))
  have B3 := hide (Box.new (((w.alloc (.cells #[.pointer (some ⟨b, 0, none⟩)] 23)).alloc (.cells #[.slice r.h.ao r.l.length r.h.cap] 22)).alloc (.cells #[.int .i64 d] 3)) #[.int .i64 0, .int .i64 0, .int .i64 0, .string ⟨#[]⟩, .int .i64 0, .slice none 0 0] 45)
  simp only [World.size_alloc] at B0 B1 B2 B3
  have HT0 := hide (ht.mono HBW.out)
  have HR0 := hide (hr.mono HBW.out)
  have hszW := HBW.out.size
  clear ht hr hk

  go_enter Tryd.func19, Tryd.ntmps19
  go_upto_region 1 with (fail)
  have HSW := hide (show ((((w.alloc (.cells #[.pointer (some ⟨b, 0, none⟩)] 23)).alloc (.cells #[.slice r.h.ao r.l.length r.h.cap] 22)).alloc (.cells #[.int .i64 d] 3)).alloc (.cells #[.int .i64 0, .int .i64 0, .int .i64 0, .string ⟨#[]⟩, .int .i64 0, .slice none 0 0] 45)).heap.size = w.heap.size + 4 from by simp)
  generalize (((w.alloc (.cells #[.pointer (some ⟨b, 0, none⟩)] 23)).alloc (.cells #[.slice r.h.ao r.l.length r.h.cap] 22)).alloc (.cells #[.int .i64 d] 3)).alloc (.cells #[.int .i64 0, .int .i64 0, .int .i64 0, .string ⟨#[]⟩, .int .i64 0, .slice none 0 0] 45) = W at *
  have hws : W.heap.size = w.heap.size + 4 := HSW.out
  have HG0 := hide (World.grownBy.refl W (some b))
  have HWG := hide (show w.grownBy W (some b) from only_below HBW.out _)
  have hmf : ∀ (fn : Fn) (first cap : Array Value) (w : World), (Instr.makeFunc fn first cap).run Tryd.prog w = .ok (.func fn first cap) w := fun _ _ _ _ => rfl
  have x0 := B0.out.cell (j := 0) rfl
  have x1 := B1.out.cell (j := 0) rfl
  have x2 := B2.out.cell (j := 0) rfl
  go_wp2_with (first
    | (go_at_call 41; refine (pick_any _ b a L r k HK64.out HT0.out (by omega) ⟨row_grown HR0.out.1 HG0.out hrb, HR0.out.2⟩ hrn).mono ?_; rintro e v1 ⟨⟨q, rfl, hi1, hf1, hs1⟩, ⟨a1, ha1, hb1, ht1⟩, hg1⟩; have HI1 := hide hi1; have HF1 := hide (hf1.mono HG0.out.size); have HT1 := hide ht1; have HG1 := hide (HG0.out.trans hg1); have HGL := hide hg1; clear hi1 hf1 ht1 hg1; have hkb := B3.out.grown HG1.out (by simp; omega); have e0 := hkb.cell (j := 0) rfl; have f0 := hkb.fr 0; have e1 := hkb.cell (j := 1) rfl; have f1 := hkb.fr 1; have e2 := hkb.cell (j := 2) rfl; have f2 := hkb.fr 2; have e3 := hkb.cell (j := 3) rfl; have f3 := hkb.fr 3; have e4 := hkb.cell (j := 4) rfl; have f4 := hkb.fr 4; have e5 := hkb.cell (j := 5) rfl; have f5 := hkb.fr 5; clear hkb))
  have hsv := HG1.out.size
  have HF := hide (ex_done (w := w) (b := b) (a := a) (n := 2) (N := 1) (L := L) (g := w.heap.size + 1 + 1 + 1) (B := W.heap.size) (e := q) HI1.out HF1.out (by omega) (by omega) (by omega) (by omega) (by omega) HT1.out (HWG.out.trans HG1.out) HLW.out)
  go_wp2_with fail
  exact bodyPost_ret (v := .agg #[.int .i64 (q).op, .int .i64 (q).typ, .int .i64 (q).num, .string (q).text, .int .i64 (q).col, .slice (q).kh.ao (q).kids.length (q).kh.cap]) (by simp [results, Tryd.results19, go_sem, e0, e1, e2, e3, e4, e5]) rfl HF.out


set_option maxRecDepth 100000 in
set_option maxHeartbeats 4000000 in
theorem expr_pick {d : Int} (hd : 2 ≤ d ∧ d ≤ 3) {n N : Nat} (hE : ExprAt n N (d - 1)) (w : World) (b a : Nat) (L r : IL) (k : Int) (hk : isT k = true) (ht : TapeIn w b L a) (ha : a + (10 + 5 * n) ≤ 4611686018427370000) (hr : r.In w) (hrn : r.l.length ≤ 1000) (hrb : 0 < r.l.length → r.h.b ≠ b) (m1 : Int) (hm1 : L.next a 4 = m1) (h0 : m1 = 0) :
    Calls Tryd.prog 19 #[.pointer (some ⟨b, 0, none⟩), .slice r.h.ao r.l.length r.h.cap, .int .i64 k, .int .i64 d] w fun e w' => ExOut w w' b a (10 + 5 * n) (1 + 4 * N) L e := by
  have hbl := ht.lt
  have hn := hr.1.len
  have HLW := hide ht.low
  have HK64 := hide hk
  have HEE := hide hE
  have HBW := hide (((belAA (w := w) (.cells #[.pointer (some ⟨b, 0, none⟩)] 23) (.cells #[.slice r.h.ao r.l.length r.h.cap] 22)).alloc (by simp only [World.size_alloc]; omega) (.cells #[.int .i64 d] 3)).alloc (by simp only [World.size_alloc]; omega) ZE)
  have B0 := hide ((((Box.new w #[.pointer (some ⟨b, 0, none⟩)] 23).below (belA (.cells #[.slice r.h.ao r.l.length r.h.cap] 22))).below (belA (.cells #[.int .i64 d] 3))).below (belA ZE))
  have B1 := hide ((((Box.new (w.alloc (.cells #[.pointer (some ⟨b, 0, none⟩)] 23)) #[.slice r.h.ao r.l.length r.h.cap] 22)).below (belA (.cells #[.int .i64 d] 3))).below (belA ZE))
  have B2 := hide (((Box.new ((w.alloc (.cells #[.pointer (some ⟨b, 0, none⟩)] 23)).alloc (.cells #[.slice r.h.ao r.l.length r.h.cap] 22)) #[.int .i64 d] 3)).below (belA ZE))
  have B3 := hide (Box.new (((w.alloc (.cells #[.pointer (some ⟨b, 0, none⟩)] 23)).alloc (.cells #[.slice r.h.ao r.l.length r.h.cap] 22)).alloc (.cells #[.int .i64 d] 3)) #[.int .i64 0, .int .i64 0, .int .i64 0, .string ⟨#[]⟩, .int .i64 0, .slice none 0 0] 45)
  simp only [World.size_alloc] at B0 B1 B2 B3
  have HT0 := hide (ht.mono HBW.out)
  have HR0 := hide (hr.mono HBW.out)
  have hszW := HBW.out.size
  clear ht hr hk hE
  have hw1 : IntKind.i64.wrap (d - 1) = d - 1 := by
    have hc : d = 2 ∨ d = 3 := by omega
    rcases hc with rfl | rfl <;> rfl
  have hd1 : ¬ d ≤ 1 := by omega
  go_enter Tryd.func19, Tryd.ntmps19
  go_upto_region 1 with (fail)
  have HSW := hide (show ((((w.alloc (.cells #[.pointer (some ⟨b, 0, none⟩)] 23)).alloc (.cells #[.slice r.h.ao r.l.length r.h.cap] 22)).alloc (.cells #[.int .i64 d] 3)).alloc (.cells #[.int .i64 0, .int .i64 0, .int .i64 0, .string ⟨#[]⟩, .int .i64 0, .slice none 0 0] 45)).heap.size = w.heap.size + 4 from by simp)
  generalize (((w.alloc (.cells #[.pointer (some ⟨b, 0, none⟩)] 23)).alloc (.cells #[.slice r.h.ao r.l.length r.h.cap] 22)).alloc (.cells #[.int .i64 d] 3)).alloc (.cells #[.int .i64 0, .int .i64 0, .int .i64 0, .string ⟨#[]⟩, .int .i64 0, .slice none 0 0] 45) = W at *
  have hws : W.heap.size = w.heap.size + 4 := HSW.out
  have HG0 := hide (World.grownBy.refl W (some b))
  have HWG := hide (show w.grownBy W (some b) from only_below HBW.out _)
  have hmf : ∀ (fn : Fn) (first cap : Array Value) (w : World), (Instr.makeFunc fn first cap).run Tryd.prog w = .ok (.func fn first cap) w := fun _ _ _ _ => rfl
  have x0 := B0.out.cell (j := 0) rfl
  have x1 := B1.out.cell (j := 0) rfl
  have x2 := B2.out.cell (j := 0) rfl
  have hr1 := L.next_ok a (n := 4) (by decide)
  rw [hm1] at hr1
  have HN1 := hide hm1
  clear hm1
  subst h0
  go_wp2_with (first
    | (go_at_call 10; refine (next_any _ b a L _ HT0.out (by omega) (by omega) ⟨by omega, by omega⟩).mono ?_; rintro e v1 ⟨rfl, htt, hgg⟩; rw [HN1.out]; have HT1 := hide htt; have HG1 := hide (HG0.out.trans hgg); clear htt hgg; have y0_1 := (B0.out.grown HG1.out (by simp; omega)).cell (j := 0) rfl; have y1_1 := (B1.out.grown HG1.out (by simp; omega)).cell (j := 0) rfl; have y2_1 := (B2.out.grown HG1.out (by simp; omega)).cell (j := 0) rfl)
    | (go_at_call 41; refine (pick_any _ b (a + 1) L r k HK64.out HT1.out (by omega) ⟨row_grown HR0.out.1 HG1.out hrb, HR0.out.2⟩ hrn).mono ?_; rintro e v2 ⟨⟨q, rfl, hi1, hf1, hs1⟩, ⟨a1, ha1, hb1, ht1⟩, hg1⟩; have HI1 := hide hi1; have HF1 := hide (hf1.mono HG1.out.size); have HT2 := hide ht1; have HG2 := hide (HG1.out.trans hg1); have HGL := hide hg1; clear hi1 hf1 ht1 hg1; have hkb := B3.out.grown HG2.out (by simp; omega); have e0 := hkb.cell (j := 0) rfl; have f0 := hkb.fr 0; have e1 := hkb.cell (j := 1) rfl; have f1 := hkb.fr 1; have e2 := hkb.cell (j := 2) rfl; have f2 := hkb.fr 2; have e3 := hkb.cell (j := 3) rfl; have f3 := hkb.fr 3; have e4 := hkb.cell (j := 4) rfl; have f4 := hkb.fr 4; have e5 := hkb.cell (j := 5) rfl; have f5 := hkb.fr 5; clear hkb))
  have hsv := HG2.out.size
  have HF := hide (ex_done (w := w) (b := b) (a := a) (n := 10 + 5 * n) (N := 1 + 4 * N) (L := L) (g := w.heap.size + 1 + 1 + 1) (B := W.heap.size) (e := q) HI1.out HF1.out (by omega) (by omega) (by omega) (by omega) (by omega) HT2.out (HWG.out.trans HG2.out) HLW.out)
  go_wp2_with fail
  exact bodyPost_ret (v := .agg #[.int .i64 (q).op, .int .i64 (q).typ, .int .i64 (q).num, .string (q).text, .int .i64 (q).col, .slice (q).kh.ao (q).kids.length (q).kh.cap]) (by simp [results, Tryd.results19, go_sem, e0, e1, e2, e3, e4, e5]) rfl HF.out


set_option maxRecDepth 100000 in
set_option maxHeartbeats 4000000 in
theorem expr_coal {d : Int} (hd : 2 ≤ d ∧ d ≤ 3) {n N : Nat} (hE : ExprAt n N (d - 1)) (w : World) (b a : Nat) (L r : IL) (k : Int) (hk : isT k = true) (ht : TapeIn w b L a) (ha : a + (10 + 5 * n) ≤ 4611686018427370000) (hr : r.In w) (hrn : r.l.length ≤ 1000) (hrb : 0 < r.l.length → r.h.b ≠ b) (m1 : Int) (hm1 : L.next a 4 = m1) (m2 : Int) (hm2 : L.next (a + 1) 4 = m2) (h0 : m1 ≠ 0) (h1 : m2 = 1) :
    Calls Tryd.prog 19 #[.pointer (some ⟨b, 0, none⟩), .slice r.h.ao r.l.length r.h.cap, .int .i64 k, .int .i64 d] w fun e w' => ExOut w w' b a (10 + 5 * n) (1 + 4 * N) L e := by
  have hbl := ht.lt
  have hn := hr.1.len
  have HLW := hide ht.low
  have HK64 := hide hk
  have HEE := hide hE
  have HBW := hide (((belAA (w := w) (.cells #[.pointer (some ⟨b, 0, none⟩)] 23) (.cells #[.slice r.h.ao r.l.length r.h.cap] 22)).alloc (by simp only [World.size_alloc]; omega) (.cells #[.int .i64 d] 3)).alloc (by simp only [World.size_alloc]; omega) ZE)
  have B0 := hide ((((Box.new w #[.pointer (some ⟨b, 0, none⟩)] 23).below (belA (.cells #[.slice r.h.ao r.l.length r.h.cap] 22))).below (belA (.cells #[.int .i64 d] 3))).below (belA ZE))
  have B1 := hide ((((Box.new (w.alloc (.cells #[.pointer (some ⟨b, 0, none⟩)] 23)) #[.slice r.h.ao r.l.length r.h.cap] 22)).below (belA (.cells #[.int .i64 d] 3))).below (belA ZE))
  have B2 := hide (((Box.new ((w.alloc (.cells #[.pointer (some ⟨b, 0, none⟩)] 23)).alloc (.cells #[.slice r.h.ao r.l.length r.h.cap] 22)) #[.int .i64 d] 3)).below (belA ZE))
  have B3 := hide (Box.new (((w.alloc (.cells #[.pointer (some ⟨b, 0, none⟩)] 23)).alloc (.cells #[.slice r.h.ao r.l.length r.h.cap] 22)).alloc (.cells #[.int .i64 d] 3)) #[.int .i64 0, .int .i64 0, .int .i64 0, .string ⟨#[]⟩, .int .i64 0, .slice none 0 0] 45)
  simp only [World.size_alloc] at B0 B1 B2 B3
  have HT0 := hide (ht.mono HBW.out)
  have HR0 := hide (hr.mono HBW.out)
  have hszW := HBW.out.size
  clear ht hr hk hE
  have hw1 : IntKind.i64.wrap (d - 1) = d - 1 := by
    have hc : d = 2 ∨ d = 3 := by omega
    rcases hc with rfl | rfl <;> rfl
  have hd1 : ¬ d ≤ 1 := by omega
  go_enter Tryd.func19, Tryd.ntmps19
  go_upto_region 1 with (fail)
  have HSW := hide (show ((((w.alloc (.cells #[.pointer (some ⟨b, 0, none⟩)] 23)).alloc (.cells #[.slice r.h.ao r.l.length r.h.cap] 22)).alloc (.cells #[.int .i64 d] 3)).alloc (.cells #[.int .i64 0, .int .i64 0, .int .i64 0, .string ⟨#[]⟩, .int .i64 0, .slice none 0 0] 45)).heap.size = w.heap.size + 4 from by simp)
  generalize (((w.alloc (.cells #[.pointer (some ⟨b, 0, none⟩)] 23)).alloc (.cells #[.slice r.h.ao r.l.length r.h.cap] 22)).alloc (.cells #[.int .i64 d] 3)).alloc (.cells #[.int .i64 0, .int .i64 0, .int .i64 0, .string ⟨#[]⟩, .int .i64 0, .slice none 0 0] 45) = W at *
  have hws : W.heap.size = w.heap.size + 4 := HSW.out
  have HG0 := hide (World.grownBy.refl W (some b))
  have HWG := hide (show w.grownBy W (some b) from only_below HBW.out _)
  have hmf : ∀ (fn : Fn) (first cap : Array Value) (w : World), (Instr.makeFunc fn first cap).run Tryd.prog w = .ok (.func fn first cap) w := fun _ _ _ _ => rfl
  have x0 := B0.out.cell (j := 0) rfl
  have x1 := B1.out.cell (j := 0) rfl
  have x2 := B2.out.cell (j := 0) rfl
  have hr1 := L.next_ok a (n := 4) (by decide)
  rw [hm1] at hr1
  have HN1 := hide hm1
  clear hm1
  have hr2 := L.next_ok (a + 1) (n := 4) (by decide)
  rw [hm2] at hr2
  have HN2 := hide hm2
  clear hm2
  subst h1
  have hm1_0 : (m1 == 0) = false := beq_eq_false_iff_ne.2 (by omega)
  have HOP := hide (show int64 27 by constructor <;> omega)
  go_wp2_with (first
    | (go_at_call 10; refine (next_any _ b a L _ HT0.out (by omega) (by omega) ⟨by omega, by omega⟩).mono ?_; rintro e v1 ⟨rfl, htt, hgg⟩; rw [HN1.out]; have HT1 := hide htt; have HG1 := hide (HG0.out.trans hgg); clear htt hgg; have y0_1 := (B0.out.grown HG1.out (by simp; omega)).cell (j := 0) rfl; have y1_1 := (B1.out.grown HG1.out (by simp; omega)).cell (j := 0) rfl; have y2_1 := (B2.out.grown HG1.out (by simp; omega)).cell (j := 0) rfl)
    | (go_at_call 10; refine (next_any _ b (a + 1) L _ HT1.out (by omega) (by omega) ⟨by omega, by omega⟩).mono ?_; rintro e v2 ⟨rfl, htt, hgg⟩; rw [HN2.out]; have HT2 := hide htt; have HG2 := hide (HG1.out.trans hgg); clear htt hgg; have y0_2 := (B0.out.grown HG2.out (by simp; omega)).cell (j := 0) rfl; have y1_2 := (B1.out.grown HG2.out (by simp; omega)).cell (j := 0) rfl; have y2_2 := (B2.out.grown HG2.out (by simp; omega)).cell (j := 0) rfl)
    | (go_at_call 42; refine (two_any hd HEE.out _ b (a + 1 + 1) L r _ k HK64.out HT2.out (by omega) ⟨row_grown HR0.out.1 HG2.out hrb, HR0.out.2⟩ hrn hrb w.heap.size (w.heap.size + 1) (w.heap.size + 1 + 1) _ _ _ (B0.out.grown HG2.out (by simp; omega)) (B1.out.grown HG2.out (by simp; omega)) (B2.out.grown HG2.out (by simp; omega)) (by omega) (by omega) (by omega)).mono ?_; rintro e v3 ho; obtain ⟨⟨q, rfl, hi1, hf1, hs1⟩, ⟨a1, ha1, hb1, ht1⟩, hg1⟩ := ho.ex HOP.out; have HI1 := hide hi1; have HF1 := hide (hf1.mono HG2.out.size); have HT3 := hide ht1; have HG3 := hide (HG2.out.trans hg1); have HGL := hide hg1; clear ho hi1 hf1 ht1 hg1; have hkb := B3.out.grown HG3.out (by simp; omega); have e0 := hkb.cell (j := 0) rfl; have f0 := hkb.fr 0; have e1 := hkb.cell (j := 1) rfl; have f1 := hkb.fr 1; have e2 := hkb.cell (j := 2) rfl; have f2 := hkb.fr 2; have e3 := hkb.cell (j := 3) rfl; have f3 := hkb.fr 3; have e4 := hkb.cell (j := 4) rfl; have f4 := hkb.fr 4; have e5 := hkb.cell (j := 5) rfl; have f5 := hkb.fr 5; clear hkb))
  have hsv := HG3.out.size
  have HF := hide (ex_done (w := w) (b := b) (a := a) (n := 10 + 5 * n) (N := 1 + 4 * N) (L := L) (g := w.heap.size + 1 + 1 + 1) (B := W.heap.size) (e := q) HI1.out HF1.out (by omega) (by omega) (by omega) (by omega) (by omega) HT3.out (HWG.out.trans HG3.out) HLW.out)
  go_wp2_with fail
  exact bodyPost_ret (v := .agg #[.int .i64 (q).op, .int .i64 (q).typ, .int .i64 (q).num, .string (q).text, .int .i64 (q).col, .slice (q).kh.ao (q).kids.length (q).kh.cap]) (by simp [results, Tryd.results19, go_sem, e0, e1, e2, e3, e4, e5]) rfl HF.out


set_option maxRecDepth 100000 in
set_option maxHeartbeats 4000000 in
theorem expr_cat {d : Int} (hd : 2 ≤ d ∧ d ≤ 3) {n N : Nat} (hE : ExprAt n N (d - 1)) (w : World) (b a : Nat) (L r : IL) (k : Int) (hk : isT k = true) (ht : TapeIn w b L a) (ha : a + (10 + 5 * n) ≤ 4611686018427370000) (hr : r.In w) (hrn : r.l.length ≤ 1000) (hrb : 0 < r.l.length → r.h.b ≠ b) (m1 : Int) (hm1 : L.next a 4 = m1) (m2 : Int) (hm2 : L.next (a + 1) 4 = m2) (h0 : m1 ≠ 0) (h1 : 2 ≤ m2) (hk0 : k = 3) :
    Calls Tryd.prog 19 #[.pointer (some ⟨b, 0, none⟩), .slice r.h.ao r.l.length r.h.cap, .int .i64 k, .int .i64 d] w fun e w' => ExOut w w' b a (10 + 5 * n) (1 + 4 * N) L e := by
  have hbl := ht.lt
  have hn := hr.1.len
  have HLW := hide ht.low
  have HK64 := hide hk
  have HEE := hide hE
  have HBW := hide (((belAA (w := w) (.cells #[.pointer (some ⟨b, 0, none⟩)] 23) (.cells #[.slice r.h.ao r.l.length r.h.cap] 22)).alloc (by simp only [World.size_alloc]; omega) (.cells #[.int .i64 d] 3)).alloc (by simp only [World.size_alloc]; omega) ZE)
  have B0 := hide ((((Box.new w #[.pointer (some ⟨b, 0, none⟩)] 23).below (belA (.cells #[.slice r.h.ao r.l.length r.h.cap] 22))).below (belA (.cells #[.int .i64 d] 3))).below (belA ZE))
  have B1 := hide ((((Box.new (w.alloc (.cells #[.pointer (some ⟨b, 0, none⟩)] 23)) #[.slice r.h.ao r.l.length r.h.cap] 22)).below (belA (.cells #[.int .i64 d] 3))).below (belA ZE))
  have B2 := hide (((Box.new ((w.alloc (.cells #[.pointer (some ⟨b, 0, none⟩)] 23)).alloc (.cells #[.slice r.h.ao r.l.length r.h.cap] 22)) #[.int .i64 d] 3)).below (belA ZE))
  have B3 := hide (Box.new (((w.alloc (.cells #[.pointer (some ⟨b, 0, none⟩)] 23)).alloc (.cells #[.slice r.h.ao r.l.length r.h.cap] 22)).alloc (.cells #[.int .i64 d] 3)) #[.int .i64 0, .int .i64 0, .int .i64 0, .string ⟨#[]⟩, .int .i64 0, .slice none 0 0] 45)
  simp only [World.size_alloc] at B0 B1 B2 B3
  have HT0 := hide (ht.mono HBW.out)
  have HR0 := hide (hr.mono HBW.out)
  have hszW := HBW.out.size
  clear ht hr hk hE
  have hw1 : IntKind.i64.wrap (d - 1) = d - 1 := by
    have hc : d = 2 ∨ d = 3 := by omega
    rcases hc with rfl | rfl <;> rfl
  have hd1 : ¬ d ≤ 1 := by omega
  go_enter Tryd.func19, Tryd.ntmps19
  go_upto_region 1 with (fail)
  have HSW := hide (show ((((w.alloc (.cells #[.pointer (some ⟨b, 0, none⟩)] 23)).alloc (.cells #[.slice r.h.ao r.l.length r.h.cap] 22)).alloc (.cells #[.int .i64 d] 3)).alloc (.cells #[.int .i64 0, .int .i64 0, .int .i64 0, .string ⟨#[]⟩, .int .i64 0, .slice none 0 0] 45)).heap.size = w.heap.size + 4 from by simp)
  generalize (((w.alloc (.cells #[.pointer (some ⟨b, 0, none⟩)] 23)).alloc (.cells #[.slice r.h.ao r.l.length r.h.cap] 22)).alloc (.cells #[.int .i64 d] 3)).alloc (.cells #[.int .i64 0, .int .i64 0, .int .i64 0, .string ⟨#[]⟩, .int .i64 0, .slice none 0 0] 45) = W at *
  have hws : W.heap.size = w.heap.size + 4 := HSW.out
  have HG0 := hide (World.grownBy.refl W (some b))
  have HWG := hide (show w.grownBy W (some b) from only_below HBW.out _)
  have hmf : ∀ (fn : Fn) (first cap : Array Value) (w : World), (Instr.makeFunc fn first cap).run Tryd.prog w = .ok (.func fn first cap) w := fun _ _ _ _ => rfl
  have x0 := B0.out.cell (j := 0) rfl
  have x1 := B1.out.cell (j := 0) rfl
  have x2 := B2.out.cell (j := 0) rfl
  have hr1 := L.next_ok a (n := 4) (by decide)
  rw [hm1] at hr1
  have HN1 := hide hm1
  clear hm1
  have hr2 := L.next_ok (a + 1) (n := 4) (by decide)
  rw [hm2] at hr2
  have HN2 := hide hm2
  clear hm2
  subst hk0
  have hm1_0 : (m1 == 0) = false := beq_eq_false_iff_ne.2 (by omega)
  have hm2_0 : (m2 == 0) = false := beq_eq_false_iff_ne.2 (by omega)
  have hm2_1 : (m2 == 1) = false := beq_eq_false_iff_ne.2 (by omega)
  have HOP := hide (show int64 12 by constructor <;> omega)
  go_wp2_with (first
    | (go_at_call 10; refine (next_any _ b a L _ HT0.out (by omega) (by omega) ⟨by omega, by omega⟩).mono ?_; rintro e v1 ⟨rfl, htt, hgg⟩; rw [HN1.out]; have HT1 := hide htt; have HG1 := hide (HG0.out.trans hgg); clear htt hgg; have y0_1 := (B0.out.grown HG1.out (by simp; omega)).cell (j := 0) rfl; have y1_1 := (B1.out.grown HG1.out (by simp; omega)).cell (j := 0) rfl; have y2_1 := (B2.out.grown HG1.out (by simp; omega)).cell (j := 0) rfl)
    | (go_at_call 10; refine (next_any _ b (a + 1) L _ HT1.out (by omega) (by omega) ⟨by omega, by omega⟩).mono ?_; rintro e v2 ⟨rfl, htt, hgg⟩; rw [HN2.out]; have HT2 := hide htt; have HG2 := hide (HG1.out.trans hgg); clear htt hgg; have y0_2 := (B0.out.grown HG2.out (by simp; omega)).cell (j := 0) rfl; have y1_2 := (B1.out.grown HG2.out (by simp; omega)).cell (j := 0) rfl; have y2_2 := (B2.out.grown HG2.out (by simp; omega)).cell (j := 0) rfl)
    | (go_at_call 42; refine (two_any hd HEE.out _ b (a + 1 + 1) L r _ 3 rfl HT2.out (by omega) ⟨row_grown HR0.out.1 HG2.out hrb, HR0.out.2⟩ hrn hrb w.heap.size (w.heap.size + 1) (w.heap.size + 1 + 1) _ _ _ (B0.out.grown HG2.out (by simp; omega)) (B1.out.grown HG2.out (by simp; omega)) (B2.out.grown HG2.out (by simp; omega)) (by omega) (by omega) (by omega)).mono ?_; rintro e v3 ho; obtain ⟨⟨q, rfl, hi1, hf1, hs1⟩, ⟨a1, ha1, hb1, ht1⟩, hg1⟩ := ho.ex HOP.out; have HI1 := hide hi1; have HF1 := hide (hf1.mono HG2.out.size); have HT3 := hide ht1; have HG3 := hide (HG2.out.trans hg1); have HGL := hide hg1; clear ho hi1 hf1 ht1 hg1; have hkb := B3.out.grown HG3.out (by simp; omega); have e0 := hkb.cell (j := 0) rfl; have f0 := hkb.fr 0; have e1 := hkb.cell (j := 1) rfl; have f1 := hkb.fr 1; have e2 := hkb.cell (j := 2) rfl; have f2 := hkb.fr 2; have e3 := hkb.cell (j := 3) rfl; have f3 := hkb.fr 3; have e4 := hkb.cell (j := 4) rfl; have f4 := hkb.fr 4; have e5 := hkb.cell (j := 5) rfl; have f5 := hkb.fr 5; clear hkb))
  have hsv := HG3.out.size
  have HF := hide (ex_done (w := w) (b := b) (a := a) (n := 10 + 5 * n) (N := 1 + 4 * N) (L := L) (g := w.heap.size + 1 + 1 + 1) (B := W.heap.size) (e := q) HI1.out HF1.out (by omega) (by omega) (by omega) (by omega) (by omega) HT3.out (HWG.out.trans HG3.out) HLW.out)
  go_wp2_with fail
  exact bodyPost_ret (v := .agg #[.int .i64 (q).op, .int .i64 (q).typ, .int .i64 (q).num, .string (q).text, .int .i64 (q).col, .slice (q).kh.ao (q).kids.length (q).kh.cap]) (by simp [results, Tryd.results19, go_sem, e0, e1, e2, e3, e4, e5]) rfl HF.out


set_option maxRecDepth 100000 in
set_option maxHeartbeats 4000000 in
theorem expr_add {d : Int} (hd : 2 ≤ d ∧ d ≤ 3) {n N : Nat} (hE : ExprAt n N (d - 1)) (w : World) (b a : Nat) (L r : IL) (k : Int) (hk : isT k = true) (ht : TapeIn w b L a) (ha : a + (10 + 5 * n) ≤ 4611686018427370000) (hr : r.In w) (hrn : r.l.length ≤ 1000) (hrb : 0 < r.l.length → r.h.b ≠ b) (m1 : Int) (hm1 : L.next a 4 = m1) (m2 : Int) (hm2 : L.next (a + 1) 4 = m2) (m3 : Int) (hm3 : L.next (a + 1 + 1) 5 = m3) (h0 : m1 ≠ 0) (h1 : m2 = 2) (hk0 : k = 1) :
    Calls Tryd.prog 19 #[.pointer (some ⟨b, 0, none⟩), .slice r.h.ao r.l.length r.h.cap, .int .i64 k, .int .i64 d] w fun e w' => ExOut w w' b a (10 + 5 * n) (1 + 4 * N) L e := by
  have hbl := ht.lt
  have hn := hr.1.len
  have HLW := hide ht.low
  have HK64 := hide hk
  have HEE := hide hE
  have HBW := hide (((belAA (w := w) (.cells #[.pointer (some ⟨b, 0, none⟩)] 23) (.cells #[.slice r.h.ao r.l.length r.h.cap] 22)).alloc (by simp only [World.size_alloc]; omega) (.cells #[.int .i64 d] 3)).alloc (by simp only [World.size_alloc]; omega) ZE)
  have B0 := hide ((((Box.new w #[.pointer (some ⟨b, 0, none⟩)] 23).below (belA (.cells #[.slice r.h.ao r.l.length r.h.cap] 22))).below (belA (.cells #[.int .i64 d] 3))).below (belA ZE))
  have B1 := hide ((((Box.new (w.alloc (.cells #[.pointer (some ⟨b, 0, none⟩)] 23)) #[.slice r.h.ao r.l.length r.h.cap] 22)).below (belA (.cells #[.int .i64 d] 3))).below (belA ZE))
  have B2 := hide (((Box.new ((w.alloc (.cells #[.pointer (some ⟨b, 0, none⟩)] 23)).alloc (.cells #[.slice r.h.ao r.l.length r.h.cap] 22)) #[.int .i64 d] 3)).below (belA ZE))
  have B3 := hide (Box.new (((w.alloc (.cells #[.pointer (some ⟨b, 0, none⟩)] 23)).alloc (.cells #[.slice r.h.ao r.l.length r.h.cap] 22)).alloc (.cells #[.int .i64 d] 3)) #[.int .i64 0, .int .i64 0, .int .i64 0, .string ⟨#[]⟩, .int .i64 0, .slice none 0 0] 45)
  simp only [World.size_alloc] at B0 B1 B2 B3
  have HT0 := hide (ht.mono HBW.out)
  have HR0 := hide (hr.mono HBW.out)
  have hszW := HBW.out.size
  clear ht hr hk hE
  have hw1 : IntKind.i64.wrap (d - 1) = d - 1 := by
    have hc : d = 2 ∨ d = 3 := by omega
    rcases hc with rfl | rfl <;> rfl
  have hd1 : ¬ d ≤ 1 := by omega
  go_enter Tryd.func19, Tryd.ntmps19
  go_upto_region 1 with (fail)
  have HSW := hide (show ((((w.alloc (.cells #[.pointer (some ⟨b, 0, none⟩)] 23)).alloc (.cells #[.slice r.h.ao r.l.length r.h.cap] 22)).alloc (.cells #[.int .i64 d] 3)).alloc (.cells #[.int .i64 0, .int .i64 0, .int .i64 0, .string ⟨#[]⟩, .int .i64 0, .slice none 0 0] 45)).heap.size = w.heap.size + 4 from by simp)
  generalize (((w.alloc (.cells #[.pointer (some ⟨b, 0, none⟩)] 23)).alloc (.cells #[.slice r.h.ao r.l.length r.h.cap] 22)).alloc (.cells #[.int .i64 d] 3)).alloc (.cells #[.int .i64 0, .int .i64 0, .int .i64 0, .string ⟨#[]⟩, .int .i64 0, .slice none 0 0] 45) = W at *
  have hws : W.heap.size = w.heap.size + 4 := HSW.out
  have HG0 := hide (World.grownBy.refl W (some b))
  have HWG := hide (show w.grownBy W (some b) from only_below HBW.out _)
  have hmf : ∀ (fn : Fn) (first cap : Array Value) (w : World), (Instr.makeFunc fn first cap).run Tryd.prog w = .ok (.func fn first cap) w := fun _ _ _ _ => rfl
  have x0 := B0.out.cell (j := 0) rfl
  have x1 := B1.out.cell (j := 0) rfl
  have x2 := B2.out.cell (j := 0) rfl
  have hr1 := L.next_ok a (n := 4) (by decide)
  rw [hm1] at hr1
  have HN1 := hide hm1
  clear hm1
  have hr2 := L.next_ok (a + 1) (n := 4) (by decide)
  rw [hm2] at hr2
  have HN2 := hide hm2
  clear hm2
  have hr3 := L.next_ok (a + 1 + 1) (n := 5) (by decide)
  rw [hm3] at hr3
  have HN3 := hide hm3
  clear hm3
  subst hk0
  subst h1
  have hm1_0 : (m1 == 0) = false := beq_eq_false_iff_ne.2 (by omega)
  have hw6 : IntKind.i64.wrap (6 + m3) = 6 + m3 := (by rw [IntKind.wrap_i64]; omega)
  have HOP := hide (show int64 (6 + m3) by constructor <;> omega)
  go_wp2_with (first
    | (go_at_call 10; refine (next_any _ b a L _ HT0.out (by omega) (by omega) ⟨by omega, by omega⟩).mono ?_; rintro e v1 ⟨rfl, htt, hgg⟩; rw [HN1.out]; have HT1 := hide htt; have HG1 := hide (HG0.out.trans hgg); clear htt hgg; have y0_1 := (B0.out.grown HG1.out (by simp; omega)).cell (j := 0) rfl; have y1_1 := (B1.out.grown HG1.out (by simp; omega)).cell (j := 0) rfl; have y2_1 := (B2.out.grown HG1.out (by simp; omega)).cell (j := 0) rfl)
    | (go_at_call 10; refine (next_any _ b (a + 1) L _ HT1.out (by omega) (by omega) ⟨by omega, by omega⟩).mono ?_; rintro e v2 ⟨rfl, htt, hgg⟩; rw [HN2.out]; have HT2 := hide htt; have HG2 := hide (HG1.out.trans hgg); clear htt hgg; have y0_2 := (B0.out.grown HG2.out (by simp; omega)).cell (j := 0) rfl; have y1_2 := (B1.out.grown HG2.out (by simp; omega)).cell (j := 0) rfl; have y2_2 := (B2.out.grown HG2.out (by simp; omega)).cell (j := 0) rfl)
    | (go_at_call 10; refine (next_any _ b (a + 1 + 1) L _ HT2.out (by omega) (by omega) ⟨by omega, by omega⟩).mono ?_; rintro e v3 ⟨rfl, htt, hgg⟩; rw [HN3.out]; have HT3 := hide htt; have HG3 := hide (HG2.out.trans hgg); clear htt hgg; have y0_3 := (B0.out.grown HG3.out (by simp; omega)).cell (j := 0) rfl; have y1_3 := (B1.out.grown HG3.out (by simp; omega)).cell (j := 0) rfl; have y2_3 := (B2.out.grown HG3.out (by simp; omega)).cell (j := 0) rfl)
    | (go_at_call 42; refine (two_any hd HEE.out _ b (a + 1 + 1 + 1) L r _ 1 rfl HT3.out (by omega) ⟨row_grown HR0.out.1 HG3.out hrb, HR0.out.2⟩ hrn hrb w.heap.size (w.heap.size + 1) (w.heap.size + 1 + 1) _ _ _ (B0.out.grown HG3.out (by simp; omega)) (B1.out.grown HG3.out (by simp; omega)) (B2.out.grown HG3.out (by simp; omega)) (by omega) (by omega) (by omega)).mono ?_; rintro e v4 ho; obtain ⟨⟨q, rfl, hi1, hf1, hs1⟩, ⟨a1, ha1, hb1, ht1⟩, hg1⟩ := ho.ex HOP.out; have HI1 := hide hi1; have HF1 := hide (hf1.mono HG3.out.size); have HT4 := hide ht1; have HG4 := hide (HG3.out.trans hg1); have HGL := hide hg1; clear ho hi1 hf1 ht1 hg1; have hkb := B3.out.grown HG4.out (by simp; omega); have e0 := hkb.cell (j := 0) rfl; have f0 := hkb.fr 0; have e1 := hkb.cell (j := 1) rfl; have f1 := hkb.fr 1; have e2 := hkb.cell (j := 2) rfl; have f2 := hkb.fr 2; have e3 := hkb.cell (j := 3) rfl; have f3 := hkb.fr 3; have e4 := hkb.cell (j := 4) rfl; have f4 := hkb.fr 4; have e5 := hkb.cell (j := 5) rfl; have f5 := hkb.fr 5; clear hkb))
  have hsv := HG4.out.size
  have HF := hide (ex_done (w := w) (b := b) (a := a) (n := 10 + 5 * n) (N := 1 + 4 * N) (L := L) (g := w.heap.size + 1 + 1 + 1) (B := W.heap.size) (e := q) HI1.out HF1.out (by omega) (by omega) (by omega) (by omega) (by omega) HT4.out (HWG.out.trans HG4.out) HLW.out)
  go_wp2_with fail
  exact bodyPost_ret (v := .agg #[.int .i64 (q).op, .int .i64 (q).typ, .int .i64 (q).num, .string (q).text, .int .i64 (q).col, .slice (q).kh.ao (q).kids.length (q).kh.cap]) (by simp [results, Tryd.results19, go_sem, e0, e1, e2, e3, e4, e5]) rfl HF.out


set_option maxRecDepth 100000 in
set_option maxHeartbeats 4000000 in
theorem expr_neg {d : Int} (hd : 2 ≤ d ∧ d ≤ 3) {n N : Nat} (hE : ExprAt n N (d - 1)) (w : World) (b a : Nat) (L r : IL) (k : Int) (hk : isT k = true) (ht : TapeIn w b L a) (ha : a + (10 + 5 * n) ≤ 4611686018427370000) (hr : r.In w) (hrn : r.l.length ≤ 1000) (hrb : 0 < r.l.length → r.h.b ≠ b) (m1 : Int) (hm1 : L.next a 4 = m1) (m2 : Int) (hm2 : L.next (a + 1) 4 = m2) (m3 : Int) (hm3 : L.next (a + 1 + 1) 2 = m3) (h0 : m1 ≠ 0) (h1 : m2 = 3) (h2 : m3 = 0) (hk0 : k = 1) :
    Calls Tryd.prog 19 #[.pointer (some ⟨b, 0, none⟩), .slice r.h.ao r.l.length r.h.cap, .int .i64 k, .int .i64 d] w fun e w' => ExOut w w' b a (10 + 5 * n) (1 + 4 * N) L e := by
  have hbl := ht.lt
  have hn := hr.1.len
  have HLW := hide ht.low
  have HK64 := hide hk
  have HEE := hide hE
  have HBW := hide (((belAA (w := w) (.cells #[.pointer (some ⟨b, 0, none⟩)] 23) (.cells #[.slice r.h.ao r.l.length r.h.cap] 22)).alloc (by simp only [World.size_alloc]; omega) (.cells #[.int .i64 d] 3)).alloc (by simp only [World.size_alloc]; omega) ZE)
  have B0 := hide ((((Box.new w #[.pointer (some ⟨b, 0, none⟩)] 23).below (belA (.cells #[.slice r.h.ao r.l.length r.h.cap] 22))).below (belA (.cells #[.int .i64 d] 3))).below (belA ZE))
  have B1 := hide ((((Box.new (w.alloc (.cells #[.pointer (some ⟨b, 0, none⟩)] 23)) #[.slice r.h.ao r.l.length r.h.cap] 22)).below (belA (.cells #[.int .i64 d] 3))).below (belA ZE))
  have B2 := hide (((Box.new ((w.alloc (.cells #[.pointer (some ⟨b, 0, none⟩)] 23)).alloc (.cells #[.slice r.h.ao r.l.length r.h.cap] 22)) #[.int .i64 d] 3)).below (belA ZE))
  have B3 := hide (Box.new (((w.alloc (.cells #[.pointer (some ⟨b, 0, none⟩)] 23)).alloc (.cells #[.slice r.h.ao r.l.length r.h.cap] 22)).alloc (.cells #[.int .i64 d] 3)) #[.int .i64 0, .int .i64 0, .int .i64 0, .string ⟨#[]⟩, .int .i64 0, .slice none 0 0] 45)
  simp only [World.size_alloc] at B0 B1 B2 B3
  have HT0 := hide (ht.mono HBW.out)
  have HR0 := hide (hr.mono HBW.out)
  have hszW := HBW.out.size
  clear ht hr hk hE
  have hw1 : IntKind.i64.wrap (d - 1) = d - 1 := by
    have hc : d = 2 ∨ d = 3 := by omega
    rcases hc with rfl | rfl <;> rfl
  have hd1 : ¬ d ≤ 1 := by omega
  go_enter Tryd.func19, Tryd.ntmps19
  go_upto_region 1 with (fail)
  have HSW := hide (show ((((w.alloc (.cells #[.pointer (some ⟨b, 0, none⟩)] 23)).alloc (.cells #[.slice r.h.ao r.l.length r.h.cap] 22)).alloc (.cells #[.int .i64 d] 3)).alloc (.cells #[.int .i64 0, .int .i64 0, .int .i64 0, .string ⟨#[]⟩, .int .i64 0, .slice none 0 0] 45)).heap.size = w.heap.size + 4 from by simp)
  generalize (((w.alloc (.cells #[.pointer (some ⟨b, 0, none⟩)] 23)).alloc (.cells #[.slice r.h.ao r.l.length r.h.cap] 22)).alloc (.cells #[.int .i64 d] 3)).alloc (.cells #[.int .i64 0, .int .i64 0, .int .i64 0, .string ⟨#[]⟩, .int .i64 0, .slice none 0 0] 45) = W at *
  have hws : W.heap.size = w.heap.size + 4 := HSW.out
  have HG0 := hide (World.grownBy.refl W (some b))
  have HWG := hide (show w.grownBy W (some b) from only_below HBW.out _)
  have hmf : ∀ (fn : Fn) (first cap : Array Value) (w : World), (Instr.makeFunc fn first cap).run Tryd.prog w = .ok (.func fn first cap) w := fun _ _ _ _ => rfl
  have x0 := B0.out.cell (j := 0) rfl
  have x1 := B1.out.cell (j := 0) rfl
  have x2 := B2.out.cell (j := 0) rfl
  have hr1 := L.next_ok a (n := 4) (by decide)
  rw [hm1] at hr1
  have HN1 := hide hm1
  clear hm1
  have hr2 := L.next_ok (a + 1) (n := 4) (by decide)
  rw [hm2] at hr2
  have HN2 := hide hm2
  clear hm2
  have hr3 := L.next_ok (a + 1 + 1) (n := 2) (by decide)
  rw [hm3] at hr3
  have HN3 := hide hm3
  clear hm3
  subst hk0
  subst h1
  subst h2
  have hm1_0 : (m1 == 0) = false := beq_eq_false_iff_ne.2 (by omega)
  go_wp2_with (first
    | (go_at_call 10; refine (next_any _ b a L _ HT0.out (by omega) (by omega) ⟨by omega, by omega⟩).mono ?_; rintro e v1 ⟨rfl, htt, hgg⟩; rw [HN1.out]; have HT1 := hide htt; have HG1 := hide (HG0.out.trans hgg); clear htt hgg; have y0_1 := (B0.out.grown HG1.out (by simp; omega)).cell (j := 0) rfl; have y1_1 := (B1.out.grown HG1.out (by simp; omega)).cell (j := 0) rfl; have y2_1 := (B2.out.grown HG1.out (by simp; omega)).cell (j := 0) rfl)
    | (go_at_call 10; refine (next_any _ b (a + 1) L _ HT1.out (by omega) (by omega) ⟨by omega, by omega⟩).mono ?_; rintro e v2 ⟨rfl, htt, hgg⟩; rw [HN2.out]; have HT2 := hide htt; have HG2 := hide (HG1.out.trans hgg); clear htt hgg; have y0_2 := (B0.out.grown HG2.out (by simp; omega)).cell (j := 0) rfl; have y1_2 := (B1.out.grown HG2.out (by simp; omega)).cell (j := 0) rfl; have y2_2 := (B2.out.grown HG2.out (by simp; omega)).cell (j := 0) rfl)
    | (go_at_call 10; refine (next_any _ b (a + 1 + 1) L _ HT2.out (by omega) (by omega) ⟨by omega, by omega⟩).mono ?_; rintro e v3 ⟨rfl, htt, hgg⟩; rw [HN3.out]; have HT3 := hide htt; have HG3 := hide (HG2.out.trans hgg); clear htt hgg; have y0_3 := (B0.out.grown HG3.out (by simp; omega)).cell (j := 0) rfl; have y1_3 := (B1.out.grown HG3.out (by simp; omega)).cell (j := 0) rfl; have y2_3 := (B2.out.grown HG3.out (by simp; omega)).cell (j := 0) rfl)
    | (go_at_call 19; refine (HEE.out _ b (a + 1 + 1 + 1) L r 1 rfl HT3.out (by omega) ⟨row_grown HR0.out.1 HG3.out hrb, HR0.out.2⟩ hrn hrb).mono ?_; rintro e v4 ⟨⟨q, rfl, hi1, hf1, hs1⟩, ⟨a1, ha1, hb1, ht1⟩, hg1⟩; have HI1 := hide hi1; have HF1 := hide (hf1.mono HG3.out.size); have HT4 := hide ht1; have HG4 := hide (HG3.out.trans hg1); have HGL := hide hg1; clear hi1 hf1 ht1 hg1; have hkb := (B3.out.grown HG4.out (by simp; omega)).below (belA (.cells #[.int .i64 q.op, .int .i64 q.typ, .int .i64 q.num, .string q.text, .int .i64 q.col, .slice q.kh.ao q.kids.length q.kh.cap] 45)); have e0 := hkb.cell (j := 0) rfl; have f0 := hkb.fr 0; have e1 := hkb.cell (j := 1) rfl; have f1 := hkb.fr 1; have e2 := hkb.cell (j := 2) rfl; have f2 := hkb.fr 2; have e3 := hkb.cell (j := 3) rfl; have f3 := hkb.fr 3; have e4 := hkb.cell (j := 4) rfl; have f4 := hkb.fr 4; have e5 := hkb.cell (j := 5) rfl; have f5 := hkb.fr 5; clear hkb))
  have hin : (nodeEx 11 v4.heap.size 1 [q]).In (v4.alloc (.cells ([q].flatMap Ex.cells).toArray 45)) := node_in (by constructor <;> decide) (fun x hx => by rw [List.mem_singleton.1 hx]; exact HI1.out.mono (belA _)) (by simp) (Box.new v4 _ _)
  have hsq : (nodeEx 11 v4.heap.size 1 [q]).size ≤ 1 + 4 * N := by rw [Ex.size_eq]; simp only [Ex.sizes]; omega
  have hsv := HG4.out.size
  have HF := hide (ex_done (w := w) (b := b) (a := a) (n := 10 + 5 * n) (N := 1 + 4 * N) (L := L) (g := w.heap.size + 1 + 1 + 1) (B := W.heap.size) (e := nodeEx 11 v4.heap.size 1 [q]) hin (node_fresh HG4.out.size (fun x hx => by rw [List.mem_singleton.1 hx]; exact HF1.out)) (by omega) (by omega) hsq (by omega) (by omega) (HT4.out.mono (belA _)) ((HWG.out.trans HG4.out).trans (only_below (belA _) _)) HLW.out)
  go_wp2_with fail
  exact bodyPost_ret (v := .agg #[.int .i64 (nodeEx 11 v4.heap.size 1 [q]).op, .int .i64 (nodeEx 11 v4.heap.size 1 [q]).typ, .int .i64 (nodeEx 11 v4.heap.size 1 [q]).num, .string (nodeEx 11 v4.heap.size 1 [q]).text, .int .i64 (nodeEx 11 v4.heap.size 1 [q]).col, .slice (nodeEx 11 v4.heap.size 1 [q]).kh.ao (nodeEx 11 v4.heap.size 1 [q]).kids.length (nodeEx 11 v4.heap.size 1 [q]).kh.cap]) (by simp [results, Tryd.results19, go_sem, e0, e1, e2, e3, e4, e5]) rfl HF.out


set_option maxRecDepth 100000 in
set_option maxHeartbeats 4000000 in
theorem expr_len {d : Int} (hd : 2 ≤ d ∧ d ≤ 3) {n N : Nat} (hE : ExprAt n N (d - 1)) (w : World) (b a : Nat) (L r : IL) (k : Int) (hk : isT k = true) (ht : TapeIn w b L a) (ha : a + (10 + 5 * n) ≤ 4611686018427370000) (hr : r.In w) (hrn : r.l.length ≤ 1000) (hrb : 0 < r.l.length → r.h.b ≠ b) (m1 : Int) (hm1 : L.next a 4 = m1) (m2 : Int) (hm2 : L.next (a + 1) 4 = m2) (m3 : Int) (hm3 : L.next (a + 1 + 1) 2 = m3) (h0 : m1 ≠ 0) (h1 : m2 = 3) (h2 : m3 ≠ 0) (hk0 : k = 1) :
    Calls Tryd.prog 19 #[.pointer (some ⟨b, 0, none⟩), .slice r.h.ao r.l.length r.h.cap, .int .i64 k, .int .i64 d] w fun e w' => ExOut w w' b a (10 + 5 * n) (1 + 4 * N) L e := by
  have hbl := ht.lt
  have hn := hr.1.len
  have HLW := hide ht.low
  have HK64 := hide hk
  have HEE := hide hE
  have HBW := hide (((belAA (w := w) (.cells #[.pointer (some ⟨b, 0, none⟩)] 23) (.cells #[.slice r.h.ao r.l.length r.h.cap] 22)).alloc (by simp only [World.size_alloc]; omega) (.cells #[.int .i64 d] 3)).alloc (by simp only [World.size_alloc]; omega) ZE)
  have B0 := hide ((((Box.new w #[.pointer (some ⟨b, 0, none⟩)] 23).below (belA (.cells #[.slice r.h.ao r.l.length r.h.cap] 22))).below (belA (.cells #[.int .i64 d] 3))).below (belA ZE))
  have B1 := hide ((((Box.new (w.alloc (.cells #[.pointer (some ⟨b, 0, none⟩)] 23)) #[.slice r.h.ao r.l.length r.h.cap] 22)).below (belA (.cells #[.int .i64 d] 3))).below (belA ZE))
  have B2 := hide (((Box.new ((w.alloc (.cells #[.pointer (some ⟨b, 0, none⟩)] 23)).alloc (.cells #[.slice r.h.ao r.l.length r.h.cap] 22)) #[.int .i64 d] 3)).below (belA ZE))
  have B3 := hide (Box.new (((w.alloc (.cells #[.pointer (some ⟨b, 0, none⟩)] 23)).alloc (.cells #[.slice r.h.ao r.l.length r.h.cap] 22)).alloc (.cells #[.int .i64 d] 3)) #[.int .i64 0, .int .i64 0, .int .i64 0, .string ⟨#[]⟩, .int .i64 0, .slice none 0 0] 45)
  simp only [World.size_alloc] at B0 B1 B2 B3
  have HT0 := hide (ht.mono HBW.out)
  have HR0 := hide (hr.mono HBW.out)
  have hszW := HBW.out.size
  clear ht hr hk hE
  have hw1 : IntKind.i64.wrap (d - 1) = d - 1 := by
    have hc : d = 2 ∨ d = 3 := by omega
    rcases hc with rfl | rfl <;> rfl
  have hd1 : ¬ d ≤ 1 := by omega
  go_enter Tryd.func19, Tryd.ntmps19
  go_upto_region 1 with (fail)
  have HSW := hide (show ((((w.alloc (.cells #[.pointer (some ⟨b, 0, none⟩)] 23)).alloc (.cells #[.slice r.h.ao r.l.length r.h.cap] 22)).alloc (.cells #[.int .i64 d] 3)).alloc (.cells #[.int .i64 0, .int .i64 0, .int .i64 0, .string ⟨#[]⟩, .int .i64 0, .slice none 0 0] 45)).heap.size = w.heap.size + 4 from by simp)
  generalize (((w.alloc (.cells #[.pointer (some ⟨b, 0, none⟩)] 23)).alloc (.cells #[.slice r.h.ao r.l.length r.h.cap] 22)).alloc (.cells #[.int .i64 d] 3)).alloc (.cells #[.int .i64 0, .int .i64 0, .int .i64 0, .string ⟨#[]⟩, .int .i64 0, .slice none 0 0] 45) = W at *
  have hws : W.heap.size = w.heap.size + 4 := HSW.out
  have HG0 := hide (World.grownBy.refl W (some b))
  have HWG := hide (show w.grownBy W (some b) from only_below HBW.out _)
  have hmf : ∀ (fn : Fn) (first cap : Array Value) (w : World), (Instr.makeFunc fn first cap).run Tryd.prog w = .ok (.func fn first cap) w := fun _ _ _ _ => rfl
  have x0 := B0.out.cell (j := 0) rfl
  have x1 := B1.out.cell (j := 0) rfl
  have x2 := B2.out.cell (j := 0) rfl
  have hr1 := L.next_ok a (n := 4) (by decide)
  rw [hm1] at hr1
  have HN1 := hide hm1
  clear hm1
  have hr2 := L.next_ok (a + 1) (n := 4) (by decide)
  rw [hm2] at hr2
  have HN2 := hide hm2
  clear hm2
  have hr3 := L.next_ok (a + 1 + 1) (n := 2) (by decide)
  rw [hm3] at hr3
  have HN3 := hide hm3
  clear hm3
  subst hk0
  subst h1
  have hm1_0 : (m1 == 0) = false := beq_eq_false_iff_ne.2 (by omega)
  have hm3_0 : (m3 == 0) = false := beq_eq_false_iff_ne.2 (by omega)
  go_wp2_with (first
    | (go_at_call 10; refine (next_any _ b a L _ HT0.out (by omega) (by omega) ⟨by omega, by omega⟩).mono ?_; rintro e v1 ⟨rfl, htt, hgg⟩; rw [HN1.out]; have HT1 := hide htt; have HG1 := hide (HG0.out.trans hgg); clear htt hgg; have y0_1 := (B0.out.grown HG1.out (by simp; omega)).cell (j := 0) rfl; have y1_1 := (B1.out.grown HG1.out (by simp; omega)).cell (j := 0) rfl; have y2_1 := (B2.out.grown HG1.out (by simp; omega)).cell (j := 0) rfl)
    | (go_at_call 10; refine (next_any _ b (a + 1) L _ HT1.out (by omega) (by omega) ⟨by omega, by omega⟩).mono ?_; rintro e v2 ⟨rfl, htt, hgg⟩; rw [HN2.out]; have HT2 := hide htt; have HG2 := hide (HG1.out.trans hgg); clear htt hgg; have y0_2 := (B0.out.grown HG2.out (by simp; omega)).cell (j := 0) rfl; have y1_2 := (B1.out.grown HG2.out (by simp; omega)).cell (j := 0) rfl; have y2_2 := (B2.out.grown HG2.out (by simp; omega)).cell (j := 0) rfl)
    | (go_at_call 10; refine (next_any _ b (a + 1 + 1) L _ HT2.out (by omega) (by omega) ⟨by omega, by omega⟩).mono ?_; rintro e v3 ⟨rfl, htt, hgg⟩; rw [HN3.out]; have HT3 := hide htt; have HG3 := hide (HG2.out.trans hgg); clear htt hgg; have y0_3 := (B0.out.grown HG3.out (by simp; omega)).cell (j := 0) rfl; have y1_3 := (B1.out.grown HG3.out (by simp; omega)).cell (j := 0) rfl; have y2_3 := (B2.out.grown HG3.out (by simp; omega)).cell (j := 0) rfl)
    | (go_at_call 19; refine (HEE.out _ b (a + 1 + 1 + 1) L r 3 rfl HT3.out (by omega) ⟨row_grown HR0.out.1 HG3.out hrb, HR0.out.2⟩ hrn hrb).mono ?_; rintro e v4 ⟨⟨q, rfl, hi1, hf1, hs1⟩, ⟨a1, ha1, hb1, ht1⟩, hg1⟩; have HI1 := hide hi1; have HF1 := hide (hf1.mono HG3.out.size); have HT4 := hide ht1; have HG4 := hide (HG3.out.trans hg1); have HGL := hide hg1; clear hi1 hf1 ht1 hg1; have hkb := (B3.out.grown HG4.out (by simp; omega)).below (belA (.cells #[.int .i64 q.op, .int .i64 q.typ, .int .i64 q.num, .string q.text, .int .i64 q.col, .slice q.kh.ao q.kids.length q.kh.cap] 45)); have e0 := hkb.cell (j := 0) rfl; have f0 := hkb.fr 0; have e1 := hkb.cell (j := 1) rfl; have f1 := hkb.fr 1; have e2 := hkb.cell (j := 2) rfl; have f2 := hkb.fr 2; have e3 := hkb.cell (j := 3) rfl; have f3 := hkb.fr 3; have e4 := hkb.cell (j := 4) rfl; have f4 := hkb.fr 4; have e5 := hkb.cell (j := 5) rfl; have f5 := hkb.fr 5; clear hkb))
  have hin : (nodeEx 13 v4.heap.size 1 [q]).In (v4.alloc (.cells ([q].flatMap Ex.cells).toArray 45)) := node_in (by constructor <;> decide) (fun x hx => by rw [List.mem_singleton.1 hx]; exact HI1.out.mono (belA _)) (by simp) (Box.new v4 _ _)
  have hsq : (nodeEx 13 v4.heap.size 1 [q]).size ≤ 1 + 4 * N := by rw [Ex.size_eq]; simp only [Ex.sizes]; omega
  have hsv := HG4.out.size
  have HF := hide (ex_done (w := w) (b := b) (a := a) (n := 10 + 5 * n) (N := 1 + 4 * N) (L := L) (g := w.heap.size + 1 + 1 + 1) (B := W.heap.size) (e := nodeEx 13 v4.heap.size 1 [q]) hin (node_fresh HG4.out.size (fun x hx => by rw [List.mem_singleton.1 hx]; exact HF1.out)) (by omega) (by omega) hsq (by omega) (by omega) (HT4.out.mono (belA _)) ((HWG.out.trans HG4.out).trans (only_below (belA _) _)) HLW.out)
  go_wp2_with fail
  exact bodyPost_ret (v := .agg #[.int .i64 (nodeEx 13 v4.heap.size 1 [q]).op, .int .i64 (nodeEx 13 v4.heap.size 1 [q]).typ, .int .i64 (nodeEx 13 v4.heap.size 1 [q]).num, .string (nodeEx 13 v4.heap.size 1 [q]).text, .int .i64 (nodeEx 13 v4.heap.size 1 [q]).col, .slice (nodeEx 13 v4.heap.size 1 [q]).kh.ao (nodeEx 13 v4.heap.size 1 [q]).kids.length (nodeEx 13 v4.heap.size 1 [q]).kh.cap]) (by simp [results, Tryd.results19, go_sem, e0, e1, e2, e3, e4, e5]) rfl HF.out

end Go.Proofs.YtmnbhdhgjbgidaaDoor

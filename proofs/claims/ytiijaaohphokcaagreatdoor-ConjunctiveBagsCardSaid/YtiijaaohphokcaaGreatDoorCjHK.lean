/- conjunctive.match. -/
import Derived.Test.YtiijaaohphokcaaGreatDoorCjR2K
import Derived.Test.YtiijaaohphokcaaGreatDoorG09
import Derived.OwnWalk
namespace Go.Proofs.YtiijaaohphokcaaGreatDoor
open Go.RowKit
theorem owp_make {P : Program} {w : World} {o : Oper} {a : Act} {K : Act → World → Prop} {Q : Exit → Act → World → Prop} (l c : Operand) (t : TypeId) (hop : o.op = Op.makeSlice t l c)
    (base : Nat) (e : TypeId) (i : TypeInfo) (z : Value) (size : Nat) (h1 : P.underlying t = some (.slice e)) (h2 : P.info? e = some i) (h3 : i.zero = some z) (h4 : i.size = size)
    (n : Nat) (hl : a.eval l = .int .i64 (n : Nat)) (hc : a.eval c = .int .i64 (n : Nat)) (b2 : i.bytes * n ≤ 281474976710656) (b3 : n ≤ maxLen) (b4 : base ≤ w.heap.size)
    (hK : ∀ w', w'.ownsRow base e size (.slice (some ⟨w.heap.size, 0, none⟩) n n) n (madeCells z.cells (n * size)).toList → w.grownBy w' none → K (a.put o.dst (.slice (some ⟨w.heap.size, 0, none⟩) n n)) w') : o.wp P a w K Q := by
  obtain ⟨w', hrun, r1, r2⟩ := run_make_full (P := P) w base t e i z size h1 h2 h3 h4 .i64 .i64 n b2 b3 b4
  unfold Oper.wp
  simp [execOp, hop, hl, hc, hrun, Result.andThen]
  exact hK w' r1 r2
theorem grown_below {w x : World} (h : w.grownBy x none) : Below w.heap.size w x := ⟨h.os, h.tape, h.output, h.size, fun b hb => h.block b hb (by simp)⟩
theorem row_ne_box {w : World} {base n c g g' size : Nat} {e T : TypeId} {xs : List Value} {cs : Array Value} (h : w.ownsRow base e size (.slice (some ⟨g, 0, none⟩) n c) n xs) (hb : Box w g' cs T) (hne : e ≠ T) : g ≠ g' := by
  rintro rfl
  rcases h.2 with ⟨h2, _⟩ | ⟨g2, cap', cur, hv, _, hg, _⟩
  · cases h2
  · injection hv with e1
    injection e1 with e1
    injection e1 with e1 _
    subst e1
    unfold Box at hb
    rw [hg] at hb
    injection hb with hb
    injection hb with _ hb
    exact hne hb
theorem row_ne_row {w : World} {b1 b2 n n' c c' g g' s s' : Nat} {e e' : TypeId} {xs ys : List Value} (h : w.ownsRow b1 e s (.slice (some ⟨g, 0, none⟩) n c) n xs) (k : w.ownsRow b2 e' s' (.slice (some ⟨g', 0, none⟩) n' c') n' ys) (hne : e ≠ e') : g ≠ g' := by
  rcases k.2 with ⟨h2, _⟩ | ⟨g2, cap', cur, hv, _, hg, _⟩
  · cases h2
  · injection hv with e1
    injection e1 with e1
    injection e1 with e1 _
    subst e1
    rcases h.2 with ⟨h2, _⟩ | ⟨g3, cap3, cur3, hv3, _, hg3, _⟩
    · cases h2
    · injection hv3 with e3
      injection e3 with e3
      injection e3 with e3 _
      subst e3
      rintro rfl
      rw [hg] at hg3
      injection hg3 with hg3
      injection hg3 with _ hg3
      exact hne hg3.symm
theorem info_ptr : (Tryz.prog.info? 172).map (fun i => (i.zero, i.size, i.bytes)) = some (some (.pointer none), 1, 8) := by kernel_rfl
theorem info_bool : (Tryz.prog.info? 4).map (fun i => (i.zero, i.size, i.bytes)) = some (some (.bool false), 1, 1) := by kernel_rfl
noncomputable def mtBody : Code := Tryz.f47.body.getD .skip
theorem made_cells (z : Value) (hz : z.cells = #[z]) (n : Nat) : (madeCells z.cells (n * 1)).toList = List.replicate n z := by
  rw [hz, Nat.mul_one]
  apply List.ext_getElem
  · simp [madeCells]
  · intro i h1 h2
    simp [madeCells, Nat.mod_one]
set_option maxRecDepth 100000 in
set_option maxHeartbeats 4000000 in
theorem mt_reg {g3 g4 : Nat} {q r : Cq} {single : Bool} {W : World} (hqv : q.vars ≤ 1000) (hrl : r.lits.length ≤ 1000) (HQB : Hid (Box W g3 #[.int .i64 (q.vars : Nat), .slice q.lh.ao q.lits.length q.lh.cap, .slice q.head.h.ao q.head.l.length q.head.h.cap] 32)) (HRB : Hid (Box W g4 #[.int .i64 (r.vars : Nat), .slice r.lh.ao r.lits.length r.lh.cap, .slice r.head.h.ao r.head.l.length r.head.h.cap] 32)) {Q : Exit → Act → World → Prop} {c : Code} {u0 u1 u5 u6 u7 u8 u9 u10 u11 u12 u13 u14 u15 u16 u17 u18 u19 u20 u21 u22 u23 u24 u25 u26 u27 u28 u29 u30 u31 u32 u33 u34 u35 u36 u37 : Value} (hc : c = codeIn [1, 0] mtBody) (hend : ∀ b5 c9 b10 c10 b11 x, Below W.heap.size W x → Box x b11 #[.int .i64 0, .slice none 0 0, .slice none 0 0, .int .i64 0, .slice none 0 0, .slice none 0 0, .bool false, .slice none 0 0, .slice none 0 0, .slice none 0 0] 135 → x.ownsRow W.heap.size 172 1 (.slice (some ⟨b10, 0, none⟩) q.vars q.vars) q.vars (madeCells (Value.pointer none).cells (q.vars * 1)).toList → x.ownsRow W.heap.size 4 1 (.slice (some ⟨c10, 0, none⟩) r.lits.length r.lits.length) r.lits.length (madeCells (Value.bool false).cells (r.lits.length * 1)).toList → (b10 ≠ b11 ∧ c10 ≠ b11 ∧ b10 ≠ c10) → W.heap.size ≤ b11 → Q .normal { tmps := (u0 :: u1 :: (.bool single) :: (.pointer (some ⟨g3, 0, none⟩)) :: (.pointer (some ⟨g4, 0, none⟩)) :: u5 :: u6 :: u7 :: .pointer (some ⟨b11, 0, none⟩) :: u9 :: u10 :: .agg #[.int .i64 (q.vars : Nat), .slice q.lh.ao q.lits.length q.lh.cap, .slice q.head.h.ao q.head.l.length q.head.h.cap] :: .agg #[.int .i64 (r.vars : Nat), .slice r.lh.ao r.lits.length r.lh.cap, .slice r.head.h.ao r.head.l.length r.head.h.cap] :: .bool single :: .pointer (some ⟨g3, 0, none⟩) :: .int .i64 (q.vars : Nat) :: .slice (some ⟨b5, 0, none⟩) q.vars q.vars :: .pointer (some ⟨g4, 1, none⟩) :: .slice r.lh.ao r.lits.length r.lh.cap :: .int .i64 (r.lits.length : Nat) :: .slice (some ⟨c9, 0, none⟩) r.lits.length r.lits.length :: .agg #[.int .i64 (q.vars : Nat), .slice q.lh.ao q.lits.length q.lh.cap, .slice q.head.h.ao q.head.l.length q.head.h.cap, .int .i64 (r.vars : Nat), .slice r.lh.ao r.lits.length r.lh.cap, .slice r.head.h.ao r.head.l.length r.head.h.cap, .bool single, .slice (some ⟨b10, 0, none⟩) q.vars q.vars, .slice (some ⟨c10, 0, none⟩) r.lits.length r.lits.length, .slice none 0 0] :: u22 :: u23 :: u24 :: u25 :: u26 :: u27 :: u28 :: u29 :: u30 :: u31 :: u32 :: u33 :: u34 :: u35 :: u36 :: u37 :: []).toArray, defers := [] } ((((((((((x.setCell ⟨b11, 0, none⟩ (.int .i64 (q.vars : Nat))).setCell ⟨b11, 1, none⟩ (.slice q.lh.ao q.lits.length q.lh.cap)).setCell ⟨b11, 2, none⟩ (.slice q.head.h.ao q.head.l.length q.head.h.cap)).setCell ⟨b11, 3, none⟩ (.int .i64 (r.vars : Nat))).setCell ⟨b11, 4, none⟩ (.slice r.lh.ao r.lits.length r.lh.cap)).setCell ⟨b11, 5, none⟩ (.slice r.head.h.ao r.head.l.length r.head.h.cap)).setCell ⟨b11, 6, none⟩ (.bool single)).setCell ⟨b11, 7, none⟩ (.slice (some ⟨b10, 0, none⟩) q.vars q.vars)).setCell ⟨b11, 8, none⟩ (.slice (some ⟨c10, 0, none⟩) r.lits.length r.lits.length)).setCell ⟨b11, 9, none⟩ (.slice none 0 0))) : Code.wp Tryz.prog c Q { tmps := (u0 :: u1 :: (.bool single) :: (.pointer (some ⟨g3, 0, none⟩)) :: (.pointer (some ⟨g4, 0, none⟩)) :: u5 :: u6 :: u7 :: u8 :: u9 :: u10 :: u11 :: u12 :: u13 :: u14 :: u15 :: u16 :: u17 :: u18 :: u19 :: u20 :: u21 :: u22 :: u23 :: u24 :: u25 :: u26 :: u27 :: u28 :: u29 :: u30 :: u31 :: u32 :: u33 :: u34 :: u35 :: u36 :: u37 :: []).toArray, defers := [] } W := by
  subst hc
  conv => enter [2]; whnf
  refine wp_region_tail (by kernel_rfl) (by kernel_rfl) 12 (by show 12 < _; decide) (by kernel_rfl) (by kernel_rfl) (fun s : Nat → Value => ({ tmps := (u0 :: u1 :: (.bool single) :: (.pointer (some ⟨g3, 0, none⟩)) :: (.pointer (some ⟨g4, 0, none⟩)) :: u5 :: u6 :: u7 :: s 8 :: u9 :: u10 :: s 11 :: s 12 :: s 13 :: s 14 :: s 15 :: s 16 :: s 17 :: s 18 :: s 19 :: s 20 :: s 21 :: u22 :: u23 :: u24 :: u25 :: u26 :: u27 :: u28 :: u29 :: u30 :: u31 :: u32 :: u33 :: u34 :: u35 :: u36 :: u37 :: []).toArray, defers := [] } : Act)) (fun k => if k = 11 then u11 else if k = 12 then u12 else if k = 13 then u13 else if k = 14 then u14 else if k = 15 then u15 else if k = 16 then u16 else if k = 17 then u17 else if k = 18 then u18 else if k = 19 then u19 else if k = 20 then u20 else if k = 21 then u21 else if k = 8 then u8 else undef) rfl (fun i v x => (i = 5 → ∃ b5, v = .slice (some ⟨b5, 0, none⟩) q.vars q.vars ∧ x.ownsRow W.heap.size 172 1 (.slice (some ⟨b5, 0, none⟩) q.vars q.vars) q.vars (madeCells (Value.pointer none).cells (q.vars * 1)).toList) ∧ (i = 9 → ∃ c9, v = .slice (some ⟨c9, 0, none⟩) r.lits.length r.lits.length ∧ x.ownsRow W.heap.size 4 1 (.slice (some ⟨c9, 0, none⟩) r.lits.length r.lits.length) r.lits.length (madeCells (Value.bool false).cells (r.lits.length * 1)).toList) ∧ (i = 10 → ∃ b10 c10, v = .agg #[.int .i64 (q.vars : Nat), .slice q.lh.ao q.lits.length q.lh.cap, .slice q.head.h.ao q.head.l.length q.head.h.cap, .int .i64 (r.vars : Nat), .slice r.lh.ao r.lits.length r.lh.cap, .slice r.head.h.ao r.head.l.length r.head.h.cap, .bool single, .slice (some ⟨b10, 0, none⟩) q.vars q.vars, .slice (some ⟨c10, 0, none⟩) r.lits.length r.lits.length, .slice none 0 0] ∧ x.ownsRow W.heap.size 172 1 (.slice (some ⟨b10, 0, none⟩) q.vars q.vars) q.vars (madeCells (Value.pointer none).cells (q.vars * 1)).toList ∧ x.ownsRow W.heap.size 4 1 (.slice (some ⟨c10, 0, none⟩) r.lits.length r.lits.length) r.lits.length (madeCells (Value.bool false).cells (r.lits.length * 1)).toList) ∧ (i = 11 → ∃ b, v = .pointer (some ⟨b, 0, none⟩) ∧ Box x b #[.int .i64 0, .slice none 0 0, .slice none 0 0, .int .i64 0, .slice none 0 0, .slice none 0 0, .bool false, .slice none 0 0, .slice none 0 0, .slice none 0 0] 135 ∧ W.heap.size ≤ b) ∧ (i ≠ 5 → i ≠ 9 → i ≠ 10 → i ≠ 11 → ([.agg #[.int .i64 (q.vars : Nat), .slice q.lh.ao q.lits.length q.lh.cap, .slice q.head.h.ao q.head.l.length q.head.h.cap], .agg #[.int .i64 (r.vars : Nat), .slice r.lh.ao r.lits.length r.lh.cap, .slice r.head.h.ao r.head.l.length r.head.h.cap], .bool single, .pointer (some ⟨g3, 0, none⟩), .int .i64 (q.vars : Nat), undef, .pointer (some ⟨g4, 1, none⟩), .slice r.lh.ao r.lits.length r.lh.cap, .int .i64 (r.lits.length : Nat), undef, undef, undef] : List Value)[i]? = some v)) (fun i v x y h hb => ⟨fun hi => (by obtain ⟨b5, h0, q0⟩ := h.1 hi; exact ⟨b5, h0, q0.kept (only_below hb none) (Classical.em _)⟩), fun hi => (by obtain ⟨c9, h0, q0⟩ := h.2.1 hi; exact ⟨c9, h0, q0.kept (only_below hb none) (Classical.em _)⟩), fun hi => (by obtain ⟨b10, c10, h0, q0, q1⟩ := h.2.2.1 hi; exact ⟨b10, c10, h0, q0.kept (only_below hb none) (Classical.em _), q1.kept (only_below hb none) (Classical.em _)⟩), fun hi => (by obtain ⟨b, h1, h2, h3⟩ := h.2.2.2.1 hi; exact ⟨b, h1, h2.below hb, h3⟩), h.2.2.2.2⟩) (fun i => ([11, 12, 13, 14, 15, 16, 17, 18, 19, 20, 21, 8] : List Nat).getD i 0) ?inj ?step ?last
  case inj =>
    intro i j hi hj h
    have hI : i = 0 ∨ i = 1 ∨ i = 2 ∨ i = 3 ∨ i = 4 ∨ i = 5 ∨ i = 6 ∨ i = 7 ∨ i = 8 ∨ i = 9 ∨ i = 10 ∨ i = 11 := by omega
    have hJ : j = 0 ∨ j = 1 ∨ j = 2 ∨ j = 3 ∨ j = 4 ∨ j = 5 ∨ j = 6 ∨ j = 7 ∨ j = 8 ∨ j = 9 ∨ j = 10 ∨ j = 11 := by omega
    rcases hI with rfl | rfl | rfl | rfl | rfl | rfl | rfl | rfl | rfl | rfl | rfl | rfl <;> rcases hJ with rfl | rfl | rfl | rfl | rfl | rfl | rfl | rfl | rfl | rfl | rfl | rfl <;> first | rfl | (exact absurd h (by decide))
  case last =>
    intro s x hv hb
    have HB := hide hb
    clear hb
    have z0 : s 11 = .agg #[.int .i64 (q.vars : Nat), .slice q.lh.ao q.lits.length q.lh.cap, .slice q.head.h.ao q.head.l.length q.head.h.cap] := by have h := (hv 0 (by decide)).2.2.2.2 (by decide) (by decide) (by decide) (by decide); injection h with h; exact h.symm
    have z1 : s 12 = .agg #[.int .i64 (r.vars : Nat), .slice r.lh.ao r.lits.length r.lh.cap, .slice r.head.h.ao r.head.l.length r.head.h.cap] := by have h := (hv 1 (by decide)).2.2.2.2 (by decide) (by decide) (by decide) (by decide); injection h with h; exact h.symm
    have z2 : s 13 = .bool single := by have h := (hv 2 (by decide)).2.2.2.2 (by decide) (by decide) (by decide) (by decide); injection h with h; exact h.symm
    have z3 : s 14 = .pointer (some ⟨g3, 0, none⟩) := by have h := (hv 3 (by decide)).2.2.2.2 (by decide) (by decide) (by decide) (by decide); injection h with h; exact h.symm
    have z4 : s 15 = .int .i64 (q.vars : Nat) := by have h := (hv 4 (by decide)).2.2.2.2 (by decide) (by decide) (by decide) (by decide); injection h with h; exact h.symm
    obtain ⟨b5, hz5, hg5_0⟩ := (hv 5 (by decide)).1 rfl
    have z5 : s 16 = .slice (some ⟨b5, 0, none⟩) q.vars q.vars := hz5
    clear hz5
    have z6 : s 17 = .pointer (some ⟨g4, 1, none⟩) := by have h := (hv 6 (by decide)).2.2.2.2 (by decide) (by decide) (by decide) (by decide); injection h with h; exact h.symm
    have z7 : s 18 = .slice r.lh.ao r.lits.length r.lh.cap := by have h := (hv 7 (by decide)).2.2.2.2 (by decide) (by decide) (by decide) (by decide); injection h with h; exact h.symm
    have z8 : s 19 = .int .i64 (r.lits.length : Nat) := by have h := (hv 8 (by decide)).2.2.2.2 (by decide) (by decide) (by decide) (by decide); injection h with h; exact h.symm
    obtain ⟨c9, hz9, hg9_0⟩ := (hv 9 (by decide)).2.1 rfl
    have z9 : s 20 = .slice (some ⟨c9, 0, none⟩) r.lits.length r.lits.length := hz9
    clear hz9
    obtain ⟨b10, c10, hz10, hg10_0, hg10_1⟩ := (hv 10 (by decide)).2.2.1 rfl
    have z10 : s 21 = .agg #[.int .i64 (q.vars : Nat), .slice q.lh.ao q.lits.length q.lh.cap, .slice q.head.h.ao q.head.l.length q.head.h.cap, .int .i64 (r.vars : Nat), .slice r.lh.ao r.lits.length r.lh.cap, .slice r.head.h.ao r.head.l.length r.head.h.cap, .bool single, .slice (some ⟨b10, 0, none⟩) q.vars q.vars, .slice (some ⟨c10, 0, none⟩) r.lits.length r.lits.length, .slice none 0 0] := hz10
    clear hz10
    obtain ⟨b11, hz11, hx11, hg11⟩ := (hv 11 (by decide)).2.2.2.1 rfl
    have z11 : s 8 = .pointer (some ⟨b11, 0, none⟩) := hz11
    clear hz11
    clear hv
    have hne1 := row_ne_box hg10_0 hx11 (by decide)
    have hne2 := row_ne_box hg10_1 hx11 (by decide)
    have hne3 := row_ne_row hg10_0 hg10_1 (by decide)
    have o0 := hx11.cell (j := 0) rfl
    have o1 := hx11.cell (j := 1) rfl
    have o2 := hx11.cell (j := 2) rfl
    have o3 := hx11.cell (j := 3) rfl
    have o4 := hx11.cell (j := 4) rfl
    have o5 := hx11.cell (j := 5) rfl
    have o6 := hx11.cell (j := 6) rfl
    have o7 := hx11.cell (j := 7) rfl
    have o8 := hx11.cell (j := 8) rfl
    have o9 := hx11.cell (j := 9) rfl
    have f0 := hx11.fr 0
    have f1 := hx11.fr 1
    have f2 := hx11.fr 2
    have f3 := hx11.fr 3
    have f4 := hx11.fr 4
    have f5 := hx11.fr 5
    have f6 := hx11.fr 6
    have f7 := hx11.fr 7
    have f8 := hx11.fr 8
    have f9 := hx11.fr 9
    have HBX := hide hx11
    have HR1 := hide hg10_0
    have HR2 := hide hg10_1
    have HN := hide (And.intro hne1 (And.intro hne2 hne3))
    clear hx11 hg10_0 hg10_1 hne1 hne2 hne3
    show Oper.wp _ _ _ _ _ _
    refine opwp_K (fun K2 hK2 => ?_)
    go_simp
    refine hK2 _ _ ?_
    show Q _ _ _
    have h := hend b5 c9 b10 c10 b11 x HB.out HBX.out HR1.out HR2.out HN.out hg11
    first | exact h | (simp only [z0, z1, z2, z3, z4, z5, z6, z7, z8, z9, z10, z11]; exact h)
  case step =>
    intro i o s x hin ho he hb
    have HB := hide hb
    clear hb
    have hcase : i = 0 ∨ i = 1 ∨ i = 2 ∨ i = 3 ∨ i = 4 ∨ i = 5 ∨ i = 6 ∨ i = 7 ∨ i = 8 ∨ i = 9 ∨ i = 10 ∨ i = 11 := by omega
    rcases hcase with rfl | rfl | rfl | rfl | rfl | rfl | rfl | rfl | rfl | rfl | rfl | rfl
    · injection ho with ho
      subst ho
      clear he
      have hbe := HQB.out.below HB.out
      have k0 := hbe.cell (j := 0) rfl
      have k1 := hbe.cell (j := 1) rfl
      have k2 := hbe.cell (j := 2) rfl
      clear hbe
      refine opwp_K (fun K2 hK2 => ?_)
      go_simp
      exact hK2 _ _ ⟨(.agg #[.int .i64 (q.vars : Nat), .slice q.lh.ao q.lits.length q.lh.cap, .slice q.head.h.ao q.head.l.length q.head.h.cap]), (by first | rfl | (simp [List.getD]; done)), Below.refl _ _, ⟨fun h => absurd h (by decide), fun h => absurd h (by decide), fun h => absurd h (by decide), fun h => absurd h (by decide), fun _ _ _ _ => rfl⟩⟩
    · injection ho with ho
      subst ho
      clear he
      have hbe := HRB.out.below HB.out
      have k0 := hbe.cell (j := 0) rfl
      have k1 := hbe.cell (j := 1) rfl
      have k2 := hbe.cell (j := 2) rfl
      clear hbe
      refine opwp_K (fun K2 hK2 => ?_)
      go_simp
      exact hK2 _ _ ⟨(.agg #[.int .i64 (r.vars : Nat), .slice r.lh.ao r.lits.length r.lh.cap, .slice r.head.h.ao r.head.l.length r.head.h.cap]), (by first | rfl | (simp [List.getD]; done)), Below.refl _ _, ⟨fun h => absurd h (by decide), fun h => absurd h (by decide), fun h => absurd h (by decide), fun h => absurd h (by decide), fun _ _ _ _ => rfl⟩⟩
    · injection ho with ho
      subst ho
      clear he
      refine opwp_K (fun K2 hK2 => ?_)
      go_simp
      exact hK2 _ _ ⟨(.bool single), (by first | rfl | (simp [List.getD]; done)), Below.refl _ _, ⟨fun h => absurd h (by decide), fun h => absurd h (by decide), fun h => absurd h (by decide), fun h => absurd h (by decide), fun _ _ _ _ => rfl⟩⟩
    · injection ho with ho
      subst ho
      clear he
      refine opwp_K (fun K2 hK2 => ?_)
      go_simp
      exact hK2 _ _ ⟨(.pointer (some ⟨g3, 0, none⟩)), (by first | rfl | (simp [List.getD]; done)), Below.refl _ _, ⟨fun h => absurd h (by decide), fun h => absurd h (by decide), fun h => absurd h (by decide), fun h => absurd h (by decide), fun _ _ _ _ => rfl⟩⟩
    · injection ho with ho
      subst ho
      have z3 : s 14 = .pointer (some ⟨g3, 0, none⟩) := by have h := (he ⟨3, .data⟩ (by simp) rfl).2.2.2.2 (by decide) (by decide) (by decide) (by decide); injection h with h; exact h.symm
      clear he
      have hbe := HQB.out.below HB.out
      have k0 := hbe.cell (j := 0) rfl
      clear hbe
      refine opwp_K (fun K2 hK2 => ?_)
      go_simp
      exact hK2 _ _ ⟨(.int .i64 (q.vars : Nat)), (by first | rfl | (simp [z3]; done)), Below.refl _ _, ⟨fun h => absurd h (by decide), fun h => absurd h (by decide), fun h => absurd h (by decide), fun h => absurd h (by decide), fun _ _ _ _ => rfl⟩⟩
    · injection ho with ho
      subst ho
      have z4 : s 15 = .int .i64 (q.vars : Nat) := by have h := (he ⟨4, .data⟩ (by simp) rfl).2.2.2.2 (by decide) (by decide) (by decide) (by decide); injection h with h; exact h.symm
      clear he
      obtain ⟨i0, hi, hz0, hz1, hz2⟩ := info_parts info_ptr
      refine owp_make _ _ 133 rfl W.heap.size 172 i0 (.pointer none) 1 Tryz.underlying133 hi hz0 hz1 (q.vars) (by show s 15 = _; first | exact z4 | exact z8) (by show s 15 = _; first | exact z4 | exact z8) (by rw [hz2]; omega) (by unfold maxLen; omega) HB.out.size ?_
      intro y h1 h2
      exact ⟨_, rfl, grown_below h2, ⟨fun _ => ⟨_, rfl, h1⟩, fun h => absurd h (by decide), fun h => absurd h (by decide), fun h => absurd h (by decide), fun h _ _ _ => absurd rfl h⟩⟩
    · injection ho with ho
      subst ho
      clear he
      refine opwp_K (fun K2 hK2 => ?_)
      go_simp
      exact hK2 _ _ ⟨(.pointer (some ⟨g4, 1, none⟩)), (by first | rfl | (simp [List.getD]; done)), Below.refl _ _, ⟨fun h => absurd h (by decide), fun h => absurd h (by decide), fun h => absurd h (by decide), fun h => absurd h (by decide), fun _ _ _ _ => rfl⟩⟩
    · injection ho with ho
      subst ho
      have z6 : s 17 = .pointer (some ⟨g4, 1, none⟩) := by have h := (he ⟨6, .data⟩ (by simp) rfl).2.2.2.2 (by decide) (by decide) (by decide) (by decide); injection h with h; exact h.symm
      clear he
      have hbe := HRB.out.below HB.out
      have k1 := hbe.cell (j := 1) rfl
      clear hbe
      refine opwp_K (fun K2 hK2 => ?_)
      go_simp
      exact hK2 _ _ ⟨(.slice r.lh.ao r.lits.length r.lh.cap), (by first | rfl | (simp [z6]; done)), Below.refl _ _, ⟨fun h => absurd h (by decide), fun h => absurd h (by decide), fun h => absurd h (by decide), fun h => absurd h (by decide), fun _ _ _ _ => rfl⟩⟩
    · injection ho with ho
      subst ho
      have z7 : s 18 = .slice r.lh.ao r.lits.length r.lh.cap := by have h := (he ⟨7, .data⟩ (by simp) rfl).2.2.2.2 (by decide) (by decide) (by decide) (by decide); injection h with h; exact h.symm
      clear he
      refine opwp_K (fun K2 hK2 => ?_)
      go_simp
      exact hK2 _ _ ⟨(.int .i64 (r.lits.length : Nat)), (by first | rfl | (simp [z7]; done)), Below.refl _ _, ⟨fun h => absurd h (by decide), fun h => absurd h (by decide), fun h => absurd h (by decide), fun h => absurd h (by decide), fun _ _ _ _ => rfl⟩⟩
    · injection ho with ho
      subst ho
      have z8 : s 19 = .int .i64 (r.lits.length : Nat) := by have h := (he ⟨8, .data⟩ (by simp) rfl).2.2.2.2 (by decide) (by decide) (by decide) (by decide); injection h with h; exact h.symm
      clear he
      obtain ⟨i0, hi, hz0, hz1, hz2⟩ := info_parts info_bool
      refine owp_make _ _ 102 rfl W.heap.size 4 i0 (.bool false) 1 Tryz.underlying102 hi hz0 hz1 (r.lits.length) (by show s 19 = _; first | exact z4 | exact z8) (by show s 19 = _; first | exact z4 | exact z8) (by rw [hz2]; omega) (by unfold maxLen; omega) HB.out.size ?_
      intro y h1 h2
      exact ⟨_, rfl, grown_below h2, ⟨fun h => absurd h (by decide), fun _ => ⟨_, rfl, h1⟩, fun h => absurd h (by decide), fun h => absurd h (by decide), fun _ h _ _ => absurd rfl h⟩⟩
    · injection ho with ho
      subst ho
      have z0 : s 11 = .agg #[.int .i64 (q.vars : Nat), .slice q.lh.ao q.lits.length q.lh.cap, .slice q.head.h.ao q.head.l.length q.head.h.cap] := by have h := (he ⟨0, .data⟩ (by simp) rfl).2.2.2.2 (by decide) (by decide) (by decide) (by decide); injection h with h; exact h.symm
      have z1 : s 12 = .agg #[.int .i64 (r.vars : Nat), .slice r.lh.ao r.lits.length r.lh.cap, .slice r.head.h.ao r.head.l.length r.head.h.cap] := by have h := (he ⟨1, .data⟩ (by simp) rfl).2.2.2.2 (by decide) (by decide) (by decide) (by decide); injection h with h; exact h.symm
      have z2 : s 13 = .bool single := by have h := (he ⟨2, .data⟩ (by simp) rfl).2.2.2.2 (by decide) (by decide) (by decide) (by decide); injection h with h; exact h.symm
      obtain ⟨b5, hz5, hg5_0⟩ := (he ⟨5, .data⟩ (by simp) rfl).1 rfl
      have z5 : s 16 = .slice (some ⟨b5, 0, none⟩) q.vars q.vars := hz5
      clear hz5
      obtain ⟨c9, hz9, hg9_0⟩ := (he ⟨9, .data⟩ (by simp) rfl).2.1 rfl
      have z9 : s 20 = .slice (some ⟨c9, 0, none⟩) r.lits.length r.lits.length := hz9
      clear hz9
      clear he
      refine opwp_K (fun K2 hK2 => ?_)
      go_simp
      exact hK2 _ _ ⟨_, (by first | rfl | (simp [z0, z1, z2, z5, z9]; done)), Below.refl _ _, ⟨fun h => absurd h (by decide), fun h => absurd h (by decide), fun _ => ⟨_, _, rfl, hg5_0, hg9_0⟩, fun h => absurd h (by decide), fun _ _ h _ => absurd rfl h⟩⟩
    · injection ho with ho
      subst ho
      clear he
      refine opwp_K (fun K2 hK2 => ?_)
      go_simp
      exact hK2 _ _ ⟨_, (by first | rfl | simp), belA _, ⟨fun h => absurd h (by decide), fun h => absurd h (by decide), fun h => absurd h (by decide), fun _ => ⟨_, rfl, Box.new _ _ _, HB.out.size⟩, fun _ _ _ h => absurd rfl h⟩⟩
end Go.Proofs.YtiijaaohphokcaaGreatDoor

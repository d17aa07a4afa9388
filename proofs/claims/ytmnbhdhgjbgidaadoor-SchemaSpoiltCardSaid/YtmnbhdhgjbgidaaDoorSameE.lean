/- expression.Same and ref02.Same: two expressions are equal when they are without their slices' headers. -/
import Derived.Test.YtmnbhdhgjbgidaaDoorSize
import Derived.Test.YtmnbhdhgjbgidaaDoorKit
namespace Go.Proofs.YtmnbhdhgjbgidaaDoor
open Go.RowKit

open Classical in
noncomputable def eqb {α : Type} (x y : α) : Bool := decide (x = y)
theorem eqb_yes {α : Type} {x y : α} (h : x = y) : eqb x y = true := by unfold eqb; simp [h]
theorem eqb_no {α : Type} {x y : α} (h : x ≠ y) : eqb x y = false := by unfold eqb; simp [h]
theorem eqb_iff {α β : Type} {x y : α} {u v : β} (h : x = y ↔ u = v) : eqb x y = eqb u v := by
  by_cases e : x = y
  · rw [eqb_yes e, eqb_yes (h.1 e)]
  · rw [eqb_no e, eqb_no (fun f => e (h.2 f))]
theorem eqb_true {α : Type} {x y : α} (h : eqb x y = true) : x = y := by
  by_cases e : x = y
  · exact e
  · rw [eqb_no e] at h; cases h
theorem eqb_false {α : Type} {x y : α} (h : eqb x y = false) : x ≠ y := fun e => by rw [eqb_yes e] at h; cases h

/-- An expression without headers. -/
structure XE where
  op : Int
  typ : Int
  num : Int
  text : List UInt8
  col : Int
  kids : List XE
mutual
def Ex.er : Ex → XE
  | ⟨op, typ, num, text, col, _, kids⟩ => ⟨op, typ, num, text.toList, col, Ex.ers kids⟩
def Ex.ers : List Ex → List XE
  | [] => []
  | k :: r => Ex.er k :: Ex.ers r
end
theorem Ex.ers_map (l : List Ex) : Ex.ers l = l.map Ex.er := by
  induction l with
  | nil => rfl
  | cons a l ih => simp only [Ex.ers, ih, List.map_cons]
theorem Ex.er_eq (e : Ex) : e.er = ⟨e.op, e.typ, e.num, e.text.toList, e.col, e.kids.map Ex.er⟩ := by
  cases e; rw [Ex.er, Ex.ers_map]
theorem er_iff (a b : Ex) : a.er = b.er ↔ a.op = b.op ∧ a.typ = b.typ ∧ a.num = b.num ∧ a.text.toList = b.text.toList ∧ a.col = b.col ∧ a.kids.map Ex.er = b.kids.map Ex.er := by
  rw [Ex.er_eq a, Ex.er_eq b, XE.mk.injEq]

theorem map_ne_len {α β : Type} {f : α → β} {a b : List α} (h : a.length ≠ b.length) : a.map f ≠ b.map f := fun e => h (by have := congrArg List.length e; simpa using this)
theorem map_ne_at {α β : Type} {f : α → β} {a b : List α} {j : Nat} (ha : j < a.length) (hb : j < b.length) (h : f a[j] ≠ f b[j]) : a.map f ≠ b.map f := fun e => h (by
  have h1 : (a.map f)[j]? = (b.map f)[j]? := by rw [e]
  simpa [ha, hb] using h1)
theorem map_eq_all {α β : Type} {f : α → β} {a b : List α} (hl : a.length = b.length) (h : ∀ j (ha : j < a.length) (hb : j < b.length), f a[j] = f b[j]) : a.map f = b.map f := by
  refine List.ext_getElem (by simpa using hl) (fun j h1 h2 => ?_)
  simp only [List.getElem_map]
  exact h j (by simpa using h1) (by simpa using h2)


set_option maxRecDepth 100000 in
set_option maxHeartbeats 800000 in
theorem eqf_ex (ha hb : Hd) (a b : List Ex) (w : World) (hra : Row w 6 Ex.cells ha a) (hrb : Row w 6 Ex.cells hb b) (hia : ∀ x ∈ a, x.In w) (hib : ∀ x ∈ b, x.In w)
    (IH : Hid (∀ x ∈ a, ∀ (y : Ex) (W : World), (x.In W) → (y.In W) → Calls Tryd.prog 91 #[.agg #[.int .i64 x.op, .int .i64 x.typ, .int .i64 x.num, .string x.text, .int .i64 x.col, .slice x.kh.ao x.kids.length x.kh.cap], .agg #[.int .i64 y.op, .int .i64 y.typ, .int .i64 y.num, .string y.text, .int .i64 y.col, .slice y.kh.ao y.kids.length y.kh.cap]] W fun r w' => r = .returned (.bool (eqb x.er y.er)) ∧ Below W.heap.size W w')) :
    Calls Tryd.prog 109 #[.slice ha.ao a.length ha.cap, .slice hb.ao b.length hb.cap, .func (.func 91) #[] #[]] w fun r w' => r = .returned (.bool (eqb (a.map Ex.er) (b.map Ex.er))) ∧ Below w.heap.size w w' := by
  have hna := hra.len
  have hnb := hrb.len
  by_cases hl : a.length = b.length
  · have hl' : (((a.length : Nat) : Int) != ((b.length : Nat) : Int)) = false := by simp [hl]
    have HL := hide hl
    clear hl
    go_enter Tryd.func109, Tryd.ntmps109
    go_wp2
    clear hl'
    go_loopw [17] (fun i wr => ∃ k : Nat, k ≤ a.length ∧ i = .int .i64 k ∧ (∀ j (ha : j < a.length) (hb : j < b.length), j < k → a[j].er = b[j].er) ∧ Below w.heap.size w wr) (fun i _ => a.length - (intOf i).toNat)
    case atStart => exact ⟨0, Nat.zero_le _, rfl, fun j _ _ h => absurd h (by omega), Below.refl _ _⟩
    case round =>
      obtain ⟨k, hk, rfl, hno, hbw⟩ := hrel
      have HN := hide hno
      have HB := hide hbw
      have hra' := hra.mono hbw
      have hrb' := hrb.mono hbw
      clear hno hbw
      by_cases hlt : k < a.length
      · have hltb : k < b.length := by rw [← HL.out]; exact hlt
        have hix := hra'.ix hlt Tryd.underlying37 sz41
        have hjx := hrb'.ix hltb Tryd.underlying37 sz41
        skip
        have hbx := hra'.blk hlt
        have hby := hrb'.blk hltb
        obtain ⟨c0, c1, c2, c3, c4, c5⟩ := ex_at hra' hlt
        obtain ⟨d0, d1, d2, d3, d4, d5⟩ := ex_at hrb' hltb
        have HXA := hide (IH.out a[k] (List.getElem_mem hlt) b[k])
        have HIA := hide (hia _ (List.getElem_mem hlt))
        have HIB := hide (hib _ (List.getElem_mem hltb))
        obtain ⟨xa, hxa⟩ : ∃ x, x = a[k] := ⟨_, rfl⟩
        obtain ⟨xb, hxb⟩ : ∃ x, x = b[k] := ⟨_, rfl⟩
        rw [← hxa] at c0 c1 c2 c3 c4 c5
        rw [← hxb] at d0 d1 d2 d3 d4 d5
        rw [← hxa, ← hxb] at HXA
        rw [← hxa] at HIA
        rw [← hxb] at HIB
        have HXE := hide hxa
        have HYE := hide hxb
        clear hxa hxb
        go_wp2_with (go_at_call 91; refine (HXA.out _ (HIA.out.mono (HB.out.trans ((belAA _ _).mono HB.out.size))) (HIB.out.mono (HB.out.trans ((belAA _ _).mono HB.out.size)))).mono ?_; rintro r w1 ⟨rfl, hb1⟩; have HB1 := hide hb1; clear hb1; cases hq : eqb xa.er xb.er)
        · have HQ := hide hq
          clear hq
          go_ret
          refine ⟨retb (eqb_no (map_ne_at hlt hltb ?_)).symm, HB.out.trans ((bel2 HB1.out).mono HB.out.size)⟩
          rw [← HXE.out, ← HYE.out]
          exact eqb_false HQ.out
        · have HQ := hide hq
          clear hq
          go_roundw
          case rel =>
            refine ⟨k + 1, by omega, by go_num, fun j hj hj2 h => ?_, HB.out.trans ((bel2 HB1.out).mono HB.out.size)⟩
            by_cases e : j = k
            · subst e; rw [← HXE.out, ← HYE.out]; exact eqb_true HQ.out
            · exact HN.out j hj hj2 (by omega)
          case measure => simp [intOf]; omega
      · go_wp2
        go_ret
        exact ⟨retb (eqb_yes (map_eq_all HL.out (fun j h1 h2 => HN.out j h1 h2 (by omega)))).symm, HB.out⟩
  · have hl' : (((a.length : Nat) : Int) != ((b.length : Nat) : Int)) = true := by simp; omega
    have HL := hide hl
    clear hl
    go_enter Tryd.func109, Tryd.ntmps109
    go_wp2
    go_ret
    exact ⟨retb (eqb_no (map_ne_len HL.out)).symm, Below.refl _ _⟩


set_option maxRecDepth 100000 in
set_option maxHeartbeats 800000 in
theorem esame_any {w0 : World} {a : Ex} (h0 : a.In w0) : ∀ (b : Ex) (w : World), a.In w → b.In w →
    Calls Tryd.prog 91 #[.agg #[.int .i64 a.op, .int .i64 a.typ, .int .i64 a.num, .string a.text, .int .i64 a.col, .slice a.kh.ao a.kids.length a.kh.cap], .agg #[.int .i64 b.op, .int .i64 b.typ, .int .i64 b.num, .string b.text, .int .i64 b.col, .slice b.kh.ao b.kids.length b.kh.cap]] w fun r w' => r = .returned (.bool (eqb a.er b.er)) ∧ Below w.heap.size w w' := by
  induction h0 with
  | mk a _ _ _ ih =>
  intro b w hia hib
  have IH := hide ih
  clear ih

  by_cases h0 : a.op = b.op
  rotate_left
  · have g0 : (a.op == b.op) = false := by simpa using h0
    have HH := hide h0
    clear h0
    go_enter Tryd.func91, Tryd.ntmps91
    go_wp2
    go_ret
    exact ⟨retb (eqb_no (fun e => HH.out ((er_iff a b).1 e |>.1))).symm, belAA _ _⟩
  have g0 : (a.op == b.op) = true := by simpa using h0
  have H0 := hide h0
  clear h0
  by_cases h1 : a.typ = b.typ
  rotate_left
  · have g1 : (a.typ == b.typ) = false := by simpa using h1
    have HH := hide h1
    clear h1
    go_enter Tryd.func91, Tryd.ntmps91
    go_wp2
    go_ret
    exact ⟨retb (eqb_no (fun e => HH.out ((er_iff a b).1 e |>.2.1))).symm, belAA _ _⟩
  have g1 : (a.typ == b.typ) = true := by simpa using h1
  have H1 := hide h1
  clear h1
  by_cases h2 : a.num = b.num
  rotate_left
  · have g2 : (a.num == b.num) = false := by simpa using h2
    have HH := hide h2
    clear h2
    go_enter Tryd.func91, Tryd.ntmps91
    go_wp2
    go_ret
    exact ⟨retb (eqb_no (fun e => HH.out ((er_iff a b).1 e |>.2.2.1))).symm, belAA _ _⟩
  have g2 : (a.num == b.num) = true := by simpa using h2
  have H2 := hide h2
  clear h2
  by_cases h3 : a.text.toList = b.text.toList
  rotate_left
  · have g3 : (a.text.toList == b.text.toList) = false := by simpa using h3
    have HH := hide h3
    clear h3
    go_enter Tryd.func91, Tryd.ntmps91
    go_wp2
    go_ret
    exact ⟨retb (eqb_no (fun e => HH.out ((er_iff a b).1 e |>.2.2.2.1))).symm, belAA _ _⟩
  have g3 : (a.text.toList == b.text.toList) = true := by simpa using h3
  have H3 := hide h3
  clear h3
  by_cases h4 : a.col = b.col
  rotate_left
  · have g4 : (a.col == b.col) = false := by simpa using h4
    have HH := hide h4
    clear h4
    go_enter Tryd.func91, Tryd.ntmps91
    go_wp2
    go_ret
    exact ⟨retb (eqb_no (fun e => HH.out ((er_iff a b).1 e |>.2.2.2.2.1))).symm, belAA _ _⟩
  have g4 : (a.col == b.col) = true := by simpa using h4
  have H4 := hide h4
  clear h4
  have hra := hia.row.mono (belAA (.cells #[.int .i64 a.op, .int .i64 a.typ, .int .i64 a.num, .string a.text, .int .i64 a.col, .slice a.kh.ao a.kids.length a.kh.cap] 45) (.cells #[.int .i64 b.op, .int .i64 b.typ, .int .i64 b.num, .string b.text, .int .i64 b.col, .slice b.kh.ao b.kids.length b.kh.cap] 45))
  have hrb := hib.row.mono (belAA (.cells #[.int .i64 a.op, .int .i64 a.typ, .int .i64 a.num, .string a.text, .int .i64 a.col, .slice a.kh.ao a.kids.length a.kh.cap] 45) (.cells #[.int .i64 b.op, .int .i64 b.typ, .int .i64 b.num, .string b.text, .int .i64 b.col, .slice b.kh.ao b.kids.length b.kh.cap] 45))
  have HRA := hide hra
  have HRB := hide hrb
  have HKA := hide (fun x (hx : x ∈ a.kids) => (hia.kid x hx).mono (belAA (.cells #[.int .i64 a.op, .int .i64 a.typ, .int .i64 a.num, .string a.text, .int .i64 a.col, .slice a.kh.ao a.kids.length a.kh.cap] 45) (.cells #[.int .i64 b.op, .int .i64 b.typ, .int .i64 b.num, .string b.text, .int .i64 b.col, .slice b.kh.ao b.kids.length b.kh.cap] 45)))
  have HKB := hide (fun x (hx : x ∈ b.kids) => (hib.kid x hx).mono (belAA (.cells #[.int .i64 a.op, .int .i64 a.typ, .int .i64 a.num, .string a.text, .int .i64 a.col, .slice a.kh.ao a.kids.length a.kh.cap] 45) (.cells #[.int .i64 b.op, .int .i64 b.typ, .int .i64 b.num, .string b.text, .int .i64 b.col, .slice b.kh.ao b.kids.length b.kh.cap] 45)))
  clear hra hrb
  go_enter Tryd.func91, Tryd.ntmps91
  go_wp2_with (go_at_call 109; refine (eqf_ex a.kh b.kh a.kids b.kids _ HRA.out HRB.out HKA.out HKB.out IH).mono ?_; rintro r w1 ⟨rfl, hb1⟩; have HB1 := hide hb1; clear hb1)
  go_ret
  refine ⟨retb (eqb_iff ?_), bel2 HB1.out⟩
  rw [er_iff]
  exact ⟨fun h => ⟨H0.out, H1.out, H2.out, H3.out, H4.out, h⟩, fun h => h.2.2.2.2.2⟩


set_option maxRecDepth 100000 in
set_option maxHeartbeats 800000 in
theorem resame_any {w0 : World} {a : Ex} (h0 : a.In w0) : ∀ (b : Ex) (w : World), a.In w → b.In w →
    Calls Tryd.prog 112 #[.agg #[.int .i64 a.op, .int .i64 a.typ, .int .i64 a.num, .string a.text, .int .i64 a.col, .slice a.kh.ao a.kids.length a.kh.cap], .agg #[.int .i64 b.op, .int .i64 b.typ, .int .i64 b.num, .string b.text, .int .i64 b.col, .slice b.kh.ao b.kids.length b.kh.cap]] w fun r w' => r = .returned (.bool (eqb a.er b.er)) ∧ Below w.heap.size w w' := by
  induction h0 with
  | mk a _ _ _ ih =>
  intro b w hia hib
  have IH := hide ih
  clear ih
  have hna := hia.row.len
  have hnb := hib.row.len

  by_cases h0 : a.op = b.op
  rotate_left
  · have g0 : (a.op != b.op) = true := by simpa using h0
    have HH := hide h0
    clear h0
    go_enter Tryd.func112, Tryd.ntmps112
    go_wp2
    go_ret
    exact ⟨retb (eqb_no (fun e => HH.out ((er_iff a b).1 e |>.1))).symm, belAA _ _⟩
  have g0 : (a.op != b.op) = false := by simpa using h0
  have H0 := hide h0
  clear h0
  by_cases h1 : a.typ = b.typ
  rotate_left
  · have g1 : (a.typ != b.typ) = true := by simpa using h1
    have HH := hide h1
    clear h1
    go_enter Tryd.func112, Tryd.ntmps112
    go_wp2
    go_ret
    exact ⟨retb (eqb_no (fun e => HH.out ((er_iff a b).1 e |>.2.1))).symm, belAA _ _⟩
  have g1 : (a.typ != b.typ) = false := by simpa using h1
  have H1 := hide h1
  clear h1
  by_cases h2 : a.num = b.num
  rotate_left
  · have g2 : (a.num != b.num) = true := by simpa using h2
    have HH := hide h2
    clear h2
    go_enter Tryd.func112, Tryd.ntmps112
    go_wp2
    go_ret
    exact ⟨retb (eqb_no (fun e => HH.out ((er_iff a b).1 e |>.2.2.1))).symm, belAA _ _⟩
  have g2 : (a.num != b.num) = false := by simpa using h2
  have H2 := hide h2
  clear h2
  by_cases h3 : a.text.toList = b.text.toList
  rotate_left
  · have g3 : (!(a.text.toList == b.text.toList)) = true := by simpa using h3
    have HH := hide h3
    clear h3
    go_enter Tryd.func112, Tryd.ntmps112
    go_wp2
    go_ret
    exact ⟨retb (eqb_no (fun e => HH.out ((er_iff a b).1 e |>.2.2.2.1))).symm, belAA _ _⟩
  have g3 : (!(a.text.toList == b.text.toList)) = false := by simpa using h3
  have H3 := hide h3
  clear h3
  by_cases h4 : a.col = b.col
  rotate_left
  · have g4 : (a.col != b.col) = true := by simpa using h4
    have HH := hide h4
    clear h4
    go_enter Tryd.func112, Tryd.ntmps112
    go_wp2
    go_ret
    exact ⟨retb (eqb_no (fun e => HH.out ((er_iff a b).1 e |>.2.2.2.2.1))).symm, belAA _ _⟩
  have g4 : (a.col != b.col) = false := by simpa using h4
  have H4 := hide h4
  clear h4
  by_cases hl : a.kids.length = b.kids.length
  rotate_left
  · have hl' : (((a.kids.length : Nat) : Int) != ((b.kids.length : Nat) : Int)) = true := by simp; omega
    have HL := hide hl
    clear hl
    go_enter Tryd.func112, Tryd.ntmps112
    go_wp2
    go_ret
    exact ⟨retb (eqb_no (fun e => map_ne_len HL.out ((er_iff a b).1 e |>.2.2.2.2.2))).symm, belAA _ _⟩
  have hl' : (((a.kids.length : Nat) : Int) != ((b.kids.length : Nat) : Int)) = false := by simp [hl]
  have HL := hide hl
  clear hl
  go_enter Tryd.func112, Tryd.ntmps112
  go_wp2
  clear g0 g1 g2 g3 g4 hl'
  go_loopw [5] (fun i wr => ∃ k : Nat, k ≤ a.kids.length ∧ i = .int .i64 k ∧ (∀ j (ha : j < a.kids.length) (hb : j < b.kids.length), j < k → a.kids[j].er = b.kids[j].er) ∧ Below (w.heap.size + 2) ((w.alloc (.cells #[.int .i64 a.op, .int .i64 a.typ, .int .i64 a.num, .string a.text, .int .i64 a.col, .slice a.kh.ao a.kids.length a.kh.cap] 45)).alloc (.cells #[.int .i64 b.op, .int .i64 b.typ, .int .i64 b.num, .string b.text, .int .i64 b.col, .slice b.kh.ao b.kids.length b.kh.cap] 45)) wr) (fun i _ => a.kids.length - (intOf i).toNat)
  case atStart => exact ⟨0, Nat.zero_le _, rfl, fun j _ _ h => absurd h (by omega), Below.refl _ _⟩
  case round =>
    obtain ⟨k, hk, rfl, hno, hbw0⟩ := hrel
    have HN := hide hno
    have HB0 := hide hbw0
    have hbw : Below w.heap.size w wr := (belAA _ _).trans (hbw0.mono (by omega))
    have HB := hide hbw
    have hia' := hia.mono hbw
    have hib' := hib.mono hbw
    have hxa : wr.cell? ⟨w.heap.size, 5, none⟩ = some (.slice a.kh.ao a.kids.length a.kh.cap) := by rw [hbw0.cell (by simp)]; simp [go_sem]
    have hxb : wr.cell? ⟨w.heap.size + 1, 5, none⟩ = some (.slice b.kh.ao b.kids.length b.kh.cap) := by rw [hbw0.cell (by simp)]; simp [go_sem]
    have hszl : w.heap.size + 2 ≤ wr.heap.size := by have := hbw0.size; simpa using this
    clear hno hbw hbw0
    by_cases hlt : k < a.kids.length
    · have hltb : k < b.kids.length := by rw [← HL.out]; exact hlt
      have hix := hia'.row.ix hlt Tryd.underlying37 sz41
      have hjx := hib'.row.ix hltb Tryd.underlying37 sz41
      obtain ⟨c0, c1, c2, c3, c4, c5⟩ := ex_at hia'.row hlt
      obtain ⟨d0, d1, d2, d3, d4, d5⟩ := ex_at hib'.row hltb
      have HXA := hide (IH.out a.kids[k] (List.getElem_mem hlt) b.kids[k])
      have HIA := hide (hia'.kid _ (List.getElem_mem hlt))
      have HIB := hide (hib'.kid _ (List.getElem_mem hltb))
      obtain ⟨xa, hxa'⟩ : ∃ x, x = a.kids[k] := ⟨_, rfl⟩
      obtain ⟨xb, hxb'⟩ : ∃ x, x = b.kids[k] := ⟨_, rfl⟩
      rw [← hxa'] at c0 c1 c2 c3 c4 c5 HIA
      rw [← hxb'] at d0 d1 d2 d3 d4 d5 HIB
      rw [← hxa', ← hxb'] at HXA
      have HXE := hide hxa'
      have HYE := hide hxb'
      clear hxa' hxb'
      go_wp2
      refine region_tail 10 mixed (by kernel_rfl) ?_
      simp only [List.take_succ_cons, List.take_zero, List.drop_succ_cons, List.drop_zero]
      repeat still_step
      refine wpStill_nil ?_
      go_wp2_with (go_at_call 112; refine (HXA.out _ (HIA.out.mono ((Below.refl _ _).drew)) (HIB.out.mono ((Below.refl _ _).drew))).mono ?_; rintro r w1 ⟨rfl, hb1⟩; have HB1 := hide (bel_drew hb1); clear hb1; cases hq : eqb xa.er xb.er)
      · have HQ := hide hq
        clear hq
        go_ret
        refine ⟨retb (eqb_no (fun e => map_ne_at hlt hltb ?_ ((er_iff a b).1 e |>.2.2.2.2.2))).symm, HB.out.trans (HB1.out.mono HB.out.size)⟩
        rw [← HXE.out, ← HYE.out]
        exact eqb_false HQ.out
      · have HQ := hide hq
        clear hq
        go_roundw
        case rel =>
          refine ⟨k + 1, by omega, by go_num, fun j hj hj2 h => ?_, HB0.out.trans (HB1.out.mono hszl)⟩
          by_cases e : j = k
          · subst e; rw [← HXE.out, ← HYE.out]; exact eqb_true HQ.out
          · exact HN.out j hj hj2 (by omega)
        case measure => simp [intOf]; omega
    · go_wp2
      go_ret
      refine ⟨retb (eqb_yes ((er_iff a b).2 ⟨H0.out, H1.out, H2.out, H3.out, H4.out, map_eq_all HL.out (fun j h1 h2 => HN.out j h1 h2 (by omega))⟩)).symm, HB.out⟩

end Go.Proofs.YtmnbhdhgjbgidaaDoor


/- slices.Equal on numbers, and algebra.Same: two queries are equal when they are without their slices' headers. -/
import Derived.Test.YtmnbhdhgjbgidaaSameV
import Derived.Test.YtmnbhdhgjbgidaaSz
namespace Go.Proofs.Ytmnbhdhgjbgidaa
open Go.RowKit


structure XA where
  fn : Int
  arg : XE
def Agg.er (a : Agg) : XA := ⟨a.fn, a.arg.er⟩
theorem aer_iff (a b : Agg) : a.er = b.er ↔ a.fn = b.fn ∧ a.arg.er = b.arg.er := by unfold Agg.er; rw [XA.mk.injEq]
/-- A query without headers. -/
structure XQ where
  op : Int
  table : List UInt8
  kind : Int
  all : Bool
  cond : XE
  exprs : List XE
  aggs : List XA
  types : List Int
  rows : List (List XV)
  kids : List XQ
mutual
def Qu.er : Qu → XQ
  | ⟨op, table, kind, all, cond, _, exprs, _, aggs, types, _, rows, _, kids⟩ => ⟨op, table.toList, kind, all, cond.er, exprs.map Ex.er, aggs.map Agg.er, types.l, rows.map VL.er, Qu.ers kids⟩
def Qu.ers : List Qu → List XQ
  | [] => []
  | k :: r => Qu.er k :: Qu.ers r
end
theorem Qu.ers_map (l : List Qu) : Qu.ers l = l.map Qu.er := by
  induction l with
  | nil => rfl
  | cons a l ih => simp only [Qu.ers, ih, List.map_cons]
theorem Qu.er_eq (q : Qu) : q.er = ⟨q.op, q.table.toList, q.kind, q.all, q.cond.er, q.exprs.map Ex.er, q.aggs.map Agg.er, q.types.l, q.rows.map VL.er, q.kids.map Qu.er⟩ := by
  cases q; rw [Qu.er, Qu.ers_map]
theorem qer_iff (a b : Qu) : a.er = b.er ↔ a.op = b.op ∧ a.table.toList = b.table.toList ∧ a.kind = b.kind ∧ a.all = b.all ∧ a.cond.er = b.cond.er ∧ a.exprs.map Ex.er = b.exprs.map Ex.er ∧ a.aggs.map Agg.er = b.aggs.map Agg.er ∧
    a.types.l = b.types.l ∧ a.rows.map VL.er = b.rows.map VL.er ∧ a.kids.map Qu.er = b.kids.map Qu.er := by
  rw [Qu.er_eq a, Qu.er_eq b, XQ.mk.injEq]


set_option maxHeartbeats 400000 in
theorem inteq_any (a b : IL) (w : World) (ha : a.In w) (hb : b.In w) :
    Calls Try.prog 45 #[.slice a.h.ao a.l.length a.h.cap, .slice b.h.ao b.l.length b.h.cap] w fun e w' => e = .returned (.bool (eqb a.l b.l)) ∧ Below w.heap.size w w' := by
  have hna := ha.1.len
  have hnb := hb.1.len
  by_cases hl : a.l.length = b.l.length
  · have hl' : (((a.l.length : Nat) : Int) != ((b.l.length : Nat) : Int)) = false := by simp [hl]
    have HL := hide hl
    clear hl
    go_enter Try.func45, Try.ntmps45
    go_wp2
    clear hl'
    go_loopw [13] (fun i wr => ∃ k : Nat, k ≤ a.l.length ∧ i = .int .i64 k ∧ (∀ j (ha : j < a.l.length) (hb : j < b.l.length), j < k → a.l[j] = b.l[j]) ∧ Below w.heap.size w wr) (fun i _ => a.l.length - (intOf i).toNat)
    case atStart => exact ⟨0, Nat.zero_le _, rfl, fun j _ _ h => absurd h (by omega), Below.refl _ _⟩
    case round =>
      obtain ⟨k, hk, rfl, hno, hbw⟩ := hrel
      have HN := hide hno
      have HB := hide hbw
      have ha' := ha.mono hbw
      have hb' := hb.mono hbw
      clear hno hbw
      by_cases hlt : k < a.l.length
      · have hltb : k < b.l.length := by rw [← HL.out]; exact hlt
        have hix := IL.ix ha' hlt
        have hjx := IL.ix hb' hltb
        have c0 := int_at ha'.1 hlt
        have d0 := int_at hb'.1 hltb
        by_cases hp : a.l[k] = b.l[k]
        · have hp' : (a.l[k] != b.l[k]) = false := by simp [hp]
          have HP := hide hp
          clear hp
          go_wp2
          go_quiet (fail)
          go_wp2
          go_roundw
          case rel =>
            refine ⟨k + 1, by omega, by go_num, fun j hj hj2 h => ?_, below_drewN HB.out _⟩
            by_cases e : j = k
            · subst e; exact HP.out
            · exact HN.out j hj hj2 (by omega)
          case measure => simp [intOf]; omega
        · have hp' : (a.l[k] != b.l[k]) = true := by simpa using hp
          have HP := hide hp
          clear hp
          go_wp2
          go_quiet (fail)
          go_wp2
          go_ret
          exact ⟨retb (eqb_no (ne_of_at hlt hltb HP.out)).symm, below_drewN HB.out _⟩
      · go_wp2
        go_ret
        exact ⟨retb (eqb_yes (eq_of_all HL.out (fun j h1 h2 => HN.out j h1 h2 (by omega)))).symm, HB.out⟩
  · have hl' : (((a.l.length : Nat) : Int) != ((b.l.length : Nat) : Int)) = true := by simp; omega
    have HL := hide hl
    clear hl
    go_enter Try.func45, Try.ntmps45
    go_wp2
    go_ret
    exact ⟨retb (eqb_no (fun e => HL.out (by rw [e]))).symm, Below.refl _ _⟩


set_option maxHeartbeats 400000 in
theorem rints_any (a b : IL) (w : World) (ha : a.In w) (hb : b.In w) :
    Calls Try.prog 50 #[.slice a.h.ao a.l.length a.h.cap, .slice b.h.ao b.l.length b.h.cap] w fun e w' => e = .returned (.bool (eqb a.l b.l)) ∧ Below w.heap.size w w' := by
  have hna := ha.1.len
  have hnb := hb.1.len
  by_cases hl : a.l.length = b.l.length
  · have hl' : (((a.l.length : Nat) : Int) != ((b.l.length : Nat) : Int)) = false := by simp [hl]
    have HL := hide hl
    clear hl
    go_enter Try.func50, Try.ntmps50
    go_wp2
    clear hl'
    go_loopw [5] (fun i wr => ∃ k : Nat, k ≤ a.l.length ∧ i = .int .i64 k ∧ (∀ j (ha : j < a.l.length) (hb : j < b.l.length), j < k → a.l[j] = b.l[j]) ∧ Below w.heap.size w wr) (fun i _ => a.l.length - (intOf i).toNat)
    case atStart => exact ⟨0, Nat.zero_le _, rfl, fun j _ _ h => absurd h (by omega), Below.refl _ _⟩
    case round =>
      obtain ⟨k, hk, rfl, hno, hbw⟩ := hrel
      have HN := hide hno
      have HB := hide hbw
      have ha' := ha.mono hbw
      have hb' := hb.mono hbw
      clear hno hbw
      by_cases hlt : k < a.l.length
      · have hltb : k < b.l.length := by rw [← HL.out]; exact hlt
        have hix := IL.ix ha' hlt
        have hjx := IL.ix hb' hltb
        have c0 := int_at ha'.1 hlt
        have d0 := int_at hb'.1 hltb
        by_cases hp : a.l[k] = b.l[k]
        · have hp' : (a.l[k] != b.l[k]) = false := by simp [hp]
          have HP := hide hp
          clear hp
          go_wp2
          go_quiet (fail)
          go_wp2
          go_roundw
          case rel =>
            refine ⟨k + 1, by omega, by go_num, fun j hj hj2 h => ?_, below_drewN HB.out _⟩
            by_cases e : j = k
            · subst e; exact HP.out
            · exact HN.out j hj hj2 (by omega)
          case measure => simp [intOf]; omega
        · have hp' : (a.l[k] != b.l[k]) = true := by simpa using hp
          have HP := hide hp
          clear hp
          go_wp2
          go_quiet (fail)
          go_wp2
          go_ret
          exact ⟨retb (eqb_no (ne_of_at hlt hltb HP.out)).symm, below_drewN HB.out _⟩
      · go_wp2
        go_ret
        exact ⟨retb (eqb_yes (eq_of_all HL.out (fun j h1 h2 => HN.out j h1 h2 (by omega)))).symm, HB.out⟩
  · have hl' : (((a.l.length : Nat) : Int) != ((b.l.length : Nat) : Int)) = true := by simp; omega
    have HL := hide hl
    clear hl
    go_enter Try.func50, Try.ntmps50
    go_wp2
    go_ret
    exact ⟨retb (eqb_no (fun e => HL.out (by rw [e]))).symm, Below.refl _ _⟩


set_option maxHeartbeats 400000 in
theorem rclo_any (a b : VL) (w : World) (ha : a.In w) (hb : b.In w) :
    Calls Try.prog 39 #[.slice a.h.ao a.l.length a.h.cap, .slice b.h.ao b.l.length b.h.cap] w fun e w' => e = .returned (.bool (eqb a.er b.er)) ∧ Below w.heap.size w w' := by
  go_enter Try.func39, Try.ntmps39
  go_wp2_with (go_at_call 40; refine (veq_any a b _ ha hb).mono ?_; rintro r w1 ⟨rfl, hb1⟩; have HB1 := hide hb1; clear hb1)
  go_ret
  exact ⟨rfl, HB1.out⟩


set_option maxRecDepth 100000 in
set_option maxHeartbeats 800000 in
theorem eqf_rows (ha hb : Hd) (a b : List VL) (w : World) (hra : Row w 1 VL.cells ha a) (hrb : Row w 1 VL.cells hb b) (hia : ∀ x ∈ a, x.In w) (hib : ∀ x ∈ b, x.In w)
    (IH : Hid (∀ x ∈ a, ∀ (y : VL) (W : World), (x.In W) → (y.In W) → Calls Try.prog 39 #[.slice x.h.ao x.l.length x.h.cap, .slice y.h.ao y.l.length y.h.cap] W fun r w' => r = .returned (.bool (eqb x.er y.er)) ∧ Below W.heap.size W w')) :
    Calls Try.prog 46 #[.slice ha.ao a.length ha.cap, .slice hb.ao b.length hb.cap, .func (.func 39) #[] #[]] w fun r w' => r = .returned (.bool (eqb (a.map VL.er) (b.map VL.er))) ∧ Below w.heap.size w w' := by
  have hna := hra.len
  have hnb := hrb.len
  by_cases hl : a.length = b.length
  · have hl' : (((a.length : Nat) : Int) != ((b.length : Nat) : Int)) = false := by simp [hl]
    have HL := hide hl
    clear hl
    go_enter Try.func46, Try.ntmps46
    go_wp2
    clear hl'
    go_loopw [17] (fun i wr => ∃ k : Nat, k ≤ a.length ∧ i = .int .i64 k ∧ (∀ j (ha : j < a.length) (hb : j < b.length), j < k → a[j].er = b[j].er) ∧ Below w.heap.size w wr) (fun i _ => a.length - (intOf i).toNat)
    case atStart => exact ⟨0, Nat.zero_le _, rfl, fun j _ _ h => absurd h (by omega), Below.refl _ _⟩
    case round =>
      obtain ⟨k, hk, rfl, hno, hbw⟩ := hrel
      have HN := hide hno
      have HB := hide hbw
      have hra' := hra.mono hbw
      have hrb' := hrb.mono hbw
      clear hno hbw
      by_cases hlt : k < a.length
      · have hltb : k < b.length := by rw [← HL.out]; exact hlt
        have hix := hra'.ix hlt Try.underlying43 sz69
        have hjx := hrb'.ix hltb Try.underlying43 sz69
        simp only [Nat.mul_one] at hix hjx
        have hbx := hra'.blk hlt
        have hby := hrb'.blk hltb
        have c0 := vl_at hra' hlt
        have d0 := vl_at hrb' hltb
        have HXA := hide (IH.out a[k] (List.getElem_mem hlt) b[k])
        have HIA := hide (hia _ (List.getElem_mem hlt))
        have HIB := hide (hib _ (List.getElem_mem hltb))
        obtain ⟨xa, hxa⟩ : ∃ x, x = a[k] := ⟨_, rfl⟩
        obtain ⟨xb, hxb⟩ : ∃ x, x = b[k] := ⟨_, rfl⟩
        rw [← hxa] at c0
        rw [← hxb] at d0
        rw [← hxa, ← hxb] at HXA
        rw [← hxa] at HIA
        rw [← hxb] at HIB
        have HXE := hide hxa
        have HYE := hide hxb
        clear hxa hxb
        go_wp2_with (go_at_call 39; refine (HXA.out _ (HIA.out.mono HB.out) (HIB.out.mono HB.out)).mono ?_; rintro r w1 ⟨rfl, hb1⟩; have HB1 := hide hb1; clear hb1; cases hq : eqb xa.er xb.er)
        · have HQ := hide hq
          clear hq
          go_ret
          refine ⟨retb (eqb_no (map_ne_at hlt hltb ?_)).symm, HB.out.trans (HB1.out.mono HB.out.size)⟩
          rw [← HXE.out, ← HYE.out]
          exact eqb_false HQ.out
        · have HQ := hide hq
          clear hq
          go_roundw
          case rel =>
            refine ⟨k + 1, by omega, by go_num, fun j hj hj2 h => ?_, HB.out.trans (HB1.out.mono HB.out.size)⟩
            by_cases e : j = k
            · subst e; rw [← HXE.out, ← HYE.out]; exact eqb_true HQ.out
            · exact HN.out j hj hj2 (by omega)
          case measure => simp [intOf]; omega
      · go_wp2
        go_ret
        exact ⟨retb (eqb_yes (map_eq_all HL.out (fun j h1 h2 => HN.out j h1 h2 (by omega)))).symm, HB.out⟩
  · have hl' : (((a.length : Nat) : Int) != ((b.length : Nat) : Int)) = true := by simp; omega
    have HL := hide hl
    clear hl
    go_enter Try.func46, Try.ntmps46
    go_wp2
    go_ret
    exact ⟨retb (eqb_no (map_ne_len HL.out)).symm, Below.refl _ _⟩


set_option maxRecDepth 100000 in
set_option maxHeartbeats 400000 in
theorem aclo_any (a b : Agg) (w : World) (ha : a.In w) (hb : b.In w) :
    Calls Try.prog 41 #[.agg #[.int .i64 a.fn, .int .i64 a.arg.op, .int .i64 a.arg.typ, .int .i64 a.arg.num, .string a.arg.text, .int .i64 a.arg.col, .slice a.arg.kh.ao a.arg.kids.length a.arg.kh.cap], .agg #[.int .i64 b.fn, .int .i64 b.arg.op, .int .i64 b.arg.typ, .int .i64 b.arg.num, .string b.arg.text, .int .i64 b.arg.col, .slice b.arg.kh.ao b.arg.kids.length b.arg.kh.cap]] w fun e w' => e = .returned (.bool (eqb a.er b.er)) ∧ Below w.heap.size w w' := by
  by_cases h0 : a.fn = b.fn
  · have g0 : (a.fn == b.fn) = true := by simpa using h0
    have H0 := hide h0
    clear h0
    have HA := hide (ha.mono (belAA (.cells #[.int .i64 a.fn, .int .i64 a.arg.op, .int .i64 a.arg.typ, .int .i64 a.arg.num, .string a.arg.text, .int .i64 a.arg.col, .slice a.arg.kh.ao a.arg.kids.length a.arg.kh.cap] 74) (.cells #[.int .i64 b.fn, .int .i64 b.arg.op, .int .i64 b.arg.typ, .int .i64 b.arg.num, .string b.arg.text, .int .i64 b.arg.col, .slice b.arg.kh.ao b.arg.kids.length b.arg.kh.cap] 74)))
    have HB := hide (hb.mono (belAA (.cells #[.int .i64 a.fn, .int .i64 a.arg.op, .int .i64 a.arg.typ, .int .i64 a.arg.num, .string a.arg.text, .int .i64 a.arg.col, .slice a.arg.kh.ao a.arg.kids.length a.arg.kh.cap] 74) (.cells #[.int .i64 b.fn, .int .i64 b.arg.op, .int .i64 b.arg.typ, .int .i64 b.arg.num, .string b.arg.text, .int .i64 b.arg.col, .slice b.arg.kh.ao b.arg.kids.length b.arg.kh.cap] 74)))
    go_enter Try.func41, Try.ntmps41
    go_wp2_with (go_at_call 42; refine (esame_any HA.out.2 b.arg _ HA.out.2 HB.out.2).mono ?_; rintro r w1 ⟨rfl, hb1⟩; have HB1 := hide hb1; clear hb1)
    go_ret
    refine ⟨retb (eqb_iff ?_), bel2 HB1.out⟩
    rw [aer_iff]
    exact ⟨fun h => ⟨H0.out, h⟩, fun h => h.2⟩
  · have g0 : (a.fn == b.fn) = false := by simpa using h0
    have H0 := hide h0
    clear h0
    go_enter Try.func41, Try.ntmps41
    go_wp2
    go_ret
    exact ⟨retb (eqb_no (fun e => H0.out ((aer_iff a b).1 e).1)).symm, belAA _ _⟩


set_option maxRecDepth 100000 in
set_option maxHeartbeats 800000 in
theorem eqf_aggs (ha hb : Hd) (a b : List Agg) (w : World) (hra : Row w 7 Agg.cells ha a) (hrb : Row w 7 Agg.cells hb b) (hia : ∀ x ∈ a, x.In w) (hib : ∀ x ∈ b, x.In w)
    (IH : Hid (∀ x ∈ a, ∀ (y : Agg) (W : World), (x.In W) → (y.In W) → Calls Try.prog 41 #[.agg #[.int .i64 x.fn, .int .i64 x.arg.op, .int .i64 x.arg.typ, .int .i64 x.arg.num, .string x.arg.text, .int .i64 x.arg.col, .slice x.arg.kh.ao x.arg.kids.length x.arg.kh.cap], .agg #[.int .i64 y.fn, .int .i64 y.arg.op, .int .i64 y.arg.typ, .int .i64 y.arg.num, .string y.arg.text, .int .i64 y.arg.col, .slice y.arg.kh.ao y.arg.kids.length y.arg.kh.cap]] W fun r w' => r = .returned (.bool (eqb x.er y.er)) ∧ Below W.heap.size W w')) :
    Calls Try.prog 44 #[.slice ha.ao a.length ha.cap, .slice hb.ao b.length hb.cap, .func (.func 41) #[] #[]] w fun r w' => r = .returned (.bool (eqb (a.map Agg.er) (b.map Agg.er))) ∧ Below w.heap.size w w' := by
  have hna := hra.len
  have hnb := hrb.len
  by_cases hl : a.length = b.length
  · have hl' : (((a.length : Nat) : Int) != ((b.length : Nat) : Int)) = false := by simp [hl]
    have HL := hide hl
    clear hl
    go_enter Try.func44, Try.ntmps44
    go_wp2
    clear hl'
    go_loopw [17] (fun i wr => ∃ k : Nat, k ≤ a.length ∧ i = .int .i64 k ∧ (∀ j (ha : j < a.length) (hb : j < b.length), j < k → a[j].er = b[j].er) ∧ Below w.heap.size w wr) (fun i _ => a.length - (intOf i).toNat)
    case atStart => exact ⟨0, Nat.zero_le _, rfl, fun j _ _ h => absurd h (by omega), Below.refl _ _⟩
    case round =>
      obtain ⟨k, hk, rfl, hno, hbw⟩ := hrel
      have HN := hide hno
      have HB := hide hbw
      have hra' := hra.mono hbw
      have hrb' := hrb.mono hbw
      clear hno hbw
      by_cases hlt : k < a.length
      · have hltb : k < b.length := by rw [← HL.out]; exact hlt
        have hix := hra'.ix hlt Try.underlying42 sz74
        have hjx := hrb'.ix hltb Try.underlying42 sz74
        skip
        have hbx := hra'.blk hlt
        have hby := hrb'.blk hltb
        obtain ⟨c0, c1, c2, c3, c4, c5, c6⟩ := agg_at hra' hlt
        obtain ⟨d0, d1, d2, d3, d4, d5, d6⟩ := agg_at hrb' hltb
        have HXA := hide (IH.out a[k] (List.getElem_mem hlt) b[k])
        have HIA := hide (hia _ (List.getElem_mem hlt))
        have HIB := hide (hib _ (List.getElem_mem hltb))
        obtain ⟨xa, hxa⟩ : ∃ x, x = a[k] := ⟨_, rfl⟩
        obtain ⟨xb, hxb⟩ : ∃ x, x = b[k] := ⟨_, rfl⟩
        rw [← hxa] at c0 c1 c2 c3 c4 c5 c6
        rw [← hxb] at d0 d1 d2 d3 d4 d5 d6
        rw [← hxa, ← hxb] at HXA
        rw [← hxa] at HIA
        rw [← hxb] at HIB
        have HXE := hide hxa
        have HYE := hide hxb
        clear hxa hxb
        go_wp2_with (go_at_call 41; refine (HXA.out _ (HIA.out.mono (HB.out.trans ((belAA _ _).mono HB.out.size))) (HIB.out.mono (HB.out.trans ((belAA _ _).mono HB.out.size)))).mono ?_; rintro r w1 ⟨rfl, hb1⟩; have HB1 := hide hb1; clear hb1; cases hq : eqb xa.er xb.er)
        · have HQ := hide hq
          clear hq
          go_ret
          refine ⟨retb (eqb_no (map_ne_at hlt hltb ?_)).symm, HB.out.trans ((bel2 HB1.out).mono HB.out.size)⟩
          rw [← HXE.out, ← HYE.out]
          exact eqb_false HQ.out
        · have HQ := hide hq
          clear hq
          go_roundw
          case rel =>
            refine ⟨k + 1, by omega, by go_num, fun j hj hj2 h => ?_, HB.out.trans ((bel2 HB1.out).mono HB.out.size)⟩
            by_cases e : j = k
            · subst e; rw [← HXE.out, ← HYE.out]; exact eqb_true HQ.out
            · exact HN.out j hj hj2 (by omega)
          case measure => simp [intOf]; omega
      · go_wp2
        go_ret
        exact ⟨retb (eqb_yes (map_eq_all HL.out (fun j h1 h2 => HN.out j h1 h2 (by omega)))).symm, HB.out⟩
  · have hl' : (((a.length : Nat) : Int) != ((b.length : Nat) : Int)) = true := by simp; omega
    have HL := hide hl
    clear hl
    go_enter Try.func44, Try.ntmps44
    go_wp2
    go_ret
    exact ⟨retb (eqb_no (map_ne_len HL.out)).symm, Below.refl _ _⟩


set_option maxRecDepth 100000 in
set_option maxHeartbeats 800000 in
theorem eqf_qus (ha hb : Hd) (a b : List Qu) (w : World) (hra : Row w 15 Qu.cells ha a) (hrb : Row w 15 Qu.cells hb b) (hia : ∀ x ∈ a, x.In w) (hib : ∀ x ∈ b, x.In w)
    (IH : Hid (∀ x ∈ a, ∀ (y : Qu) (W : World), (x.In W) → (y.In W) → Calls Try.prog 19 #[.agg #[.int .i64 x.op, .string x.table, .int .i64 x.kind, .bool x.all, .int .i64 x.cond.op, .int .i64 x.cond.typ, .int .i64 x.cond.num, .string x.cond.text, .int .i64 x.cond.col, .slice x.cond.kh.ao x.cond.kids.length x.cond.kh.cap, .slice x.eh.ao x.exprs.length x.eh.cap, .slice x.ah.ao x.aggs.length x.ah.cap, .slice x.types.h.ao x.types.l.length x.types.h.cap, .slice x.rh.ao x.rows.length x.rh.cap, .slice x.qh.ao x.kids.length x.qh.cap], .agg #[.int .i64 y.op, .string y.table, .int .i64 y.kind, .bool y.all, .int .i64 y.cond.op, .int .i64 y.cond.typ, .int .i64 y.cond.num, .string y.cond.text, .int .i64 y.cond.col, .slice y.cond.kh.ao y.cond.kids.length y.cond.kh.cap, .slice y.eh.ao y.exprs.length y.eh.cap, .slice y.ah.ao y.aggs.length y.ah.cap, .slice y.types.h.ao y.types.l.length y.types.h.cap, .slice y.rh.ao y.rows.length y.rh.cap, .slice y.qh.ao y.kids.length y.qh.cap]] W fun r w' => r = .returned (.bool (eqb x.er y.er)) ∧ Below W.heap.size W w')) :
    Calls Try.prog 47 #[.slice ha.ao a.length ha.cap, .slice hb.ao b.length hb.cap, .func (.func 19) #[] #[]] w fun r w' => r = .returned (.bool (eqb (a.map Qu.er) (b.map Qu.er))) ∧ Below w.heap.size w w' := by
  have hna := hra.len
  have hnb := hrb.len
  by_cases hl : a.length = b.length
  · have hl' : (((a.length : Nat) : Int) != ((b.length : Nat) : Int)) = false := by simp [hl]
    have HL := hide hl
    clear hl
    go_enter Try.func47, Try.ntmps47
    go_wp2
    clear hl'
    go_loopw [17] (fun i wr => ∃ k : Nat, k ≤ a.length ∧ i = .int .i64 k ∧ (∀ j (ha : j < a.length) (hb : j < b.length), j < k → a[j].er = b[j].er) ∧ Below w.heap.size w wr) (fun i _ => a.length - (intOf i).toNat)
    case atStart => exact ⟨0, Nat.zero_le _, rfl, fun j _ _ h => absurd h (by omega), Below.refl _ _⟩
    case round =>
      obtain ⟨k, hk, rfl, hno, hbw⟩ := hrel
      have HN := hide hno
      have HB := hide hbw
      have hra' := hra.mono hbw
      have hrb' := hrb.mono hbw
      clear hno hbw
      by_cases hlt : k < a.length
      · have hltb : k < b.length := by rw [← HL.out]; exact hlt
        have hix := hra'.ix hlt Try.underlying44 sz46
        have hjx := hrb'.ix hltb Try.underlying44 sz46
        skip
        have hbx := hra'.blk hlt
        have hby := hrb'.blk hltb
        obtain ⟨⟨c0, c1, c2, c3⟩, ⟨c4, c5, c6, c7, c8, c9⟩, c10, c11, c12, c13, c14⟩ := qu_at hra' hlt
        obtain ⟨⟨d0, d1, d2, d3⟩, ⟨d4, d5, d6, d7, d8, d9⟩, d10, d11, d12, d13, d14⟩ := qu_at hrb' hltb
        have HXA := hide (IH.out a[k] (List.getElem_mem hlt) b[k])
        have HIA := hide (hia _ (List.getElem_mem hlt))
        have HIB := hide (hib _ (List.getElem_mem hltb))
        obtain ⟨xa, hxa⟩ : ∃ x, x = a[k] := ⟨_, rfl⟩
        obtain ⟨xb, hxb⟩ : ∃ x, x = b[k] := ⟨_, rfl⟩
        rw [← hxa] at c0 c1 c2 c3 c4 c5 c6 c7 c8 c9 c10 c11 c12 c13 c14
        rw [← hxb] at d0 d1 d2 d3 d4 d5 d6 d7 d8 d9 d10 d11 d12 d13 d14
        rw [← hxa, ← hxb] at HXA
        rw [← hxa] at HIA
        rw [← hxb] at HIB
        have HXE := hide hxa
        have HYE := hide hxb
        clear hxa hxb
        go_wp2_with (go_at_call 19; refine (HXA.out _ (HIA.out.mono (HB.out.trans ((belAA _ _).mono HB.out.size))) (HIB.out.mono (HB.out.trans ((belAA _ _).mono HB.out.size)))).mono ?_; rintro r w1 ⟨rfl, hb1⟩; have HB1 := hide hb1; clear hb1; cases hq : eqb xa.er xb.er)
        · have HQ := hide hq
          clear hq
          go_ret
          refine ⟨retb (eqb_no (map_ne_at hlt hltb ?_)).symm, HB.out.trans ((bel2 HB1.out).mono HB.out.size)⟩
          rw [← HXE.out, ← HYE.out]
          exact eqb_false HQ.out
        · have HQ := hide hq
          clear hq
          go_roundw
          case rel =>
            refine ⟨k + 1, by omega, by go_num, fun j hj hj2 h => ?_, HB.out.trans ((bel2 HB1.out).mono HB.out.size)⟩
            by_cases e : j = k
            · subst e; rw [← HXE.out, ← HYE.out]; exact eqb_true HQ.out
            · exact HN.out j hj hj2 (by omega)
          case measure => simp [intOf]; omega
      · go_wp2
        go_ret
        exact ⟨retb (eqb_yes (map_eq_all HL.out (fun j h1 h2 => HN.out j h1 h2 (by omega)))).symm, HB.out⟩
  · have hl' : (((a.length : Nat) : Int) != ((b.length : Nat) : Int)) = true := by simp; omega
    have HL := hide hl
    clear hl
    go_enter Try.func47, Try.ntmps47
    go_wp2
    go_ret
    exact ⟨retb (eqb_no (map_ne_len HL.out)).symm, Below.refl _ _⟩


set_option maxRecDepth 100000 in
set_option maxHeartbeats 2000000 in
theorem qsame_any {w0 : World} {a : Qu} (h0 : a.In w0) : ∀ (b : Qu) (w : World), a.In w → b.In w →
    Calls Try.prog 19 #[.agg #[.int .i64 a.op, .string a.table, .int .i64 a.kind, .bool a.all, .int .i64 a.cond.op, .int .i64 a.cond.typ, .int .i64 a.cond.num, .string a.cond.text, .int .i64 a.cond.col, .slice a.cond.kh.ao a.cond.kids.length a.cond.kh.cap, .slice a.eh.ao a.exprs.length a.eh.cap, .slice a.ah.ao a.aggs.length a.ah.cap, .slice a.types.h.ao a.types.l.length a.types.h.cap, .slice a.rh.ao a.rows.length a.rh.cap, .slice a.qh.ao a.kids.length a.qh.cap], .agg #[.int .i64 b.op, .string b.table, .int .i64 b.kind, .bool b.all, .int .i64 b.cond.op, .int .i64 b.cond.typ, .int .i64 b.cond.num, .string b.cond.text, .int .i64 b.cond.col, .slice b.cond.kh.ao b.cond.kids.length b.cond.kh.cap, .slice b.eh.ao b.exprs.length b.eh.cap, .slice b.ah.ao b.aggs.length b.ah.cap, .slice b.types.h.ao b.types.l.length b.types.h.cap, .slice b.rh.ao b.rows.length b.rh.cap, .slice b.qh.ao b.kids.length b.qh.cap]] w fun r w' => r = .returned (.bool (eqb a.er b.er)) ∧ Below w.heap.size w w' := by
  induction h0 with
  | mk a _ _ _ ih =>
  intro b w hia hib
  have IH := hide ih
  clear ih

  by_cases h0 : a.op = b.op
  rotate_left
  · have g0 : (a.op == b.op) = false := by simpa using h0
    have HH := hide h0
    clear h0
    go_enter Try.func19, Try.ntmps19
    go_wp2
    go_ret
    exact ⟨retb (eqb_no (fun e => HH.out (((qer_iff a b).1 e).1))).symm, belAA _ _⟩
  have g0 : (a.op == b.op) = true := by simpa using h0
  have H0 := hide h0
  clear h0
  by_cases h1 : a.table.toList = b.table.toList
  rotate_left
  · have g1 : (a.table.toList == b.table.toList) = false := by simpa using h1
    have HH := hide h1
    clear h1
    go_enter Try.func19, Try.ntmps19
    go_wp2
    go_ret
    exact ⟨retb (eqb_no (fun e => HH.out (((qer_iff a b).1 e).2.1))).symm, belAA _ _⟩
  have g1 : (a.table.toList == b.table.toList) = true := by simpa using h1
  have H1 := hide h1
  clear h1
  by_cases h2 : a.kind = b.kind
  rotate_left
  · have g2 : (a.kind == b.kind) = false := by simpa using h2
    have HH := hide h2
    clear h2
    go_enter Try.func19, Try.ntmps19
    go_wp2
    go_ret
    exact ⟨retb (eqb_no (fun e => HH.out (((qer_iff a b).1 e).2.2.1))).symm, belAA _ _⟩
  have g2 : (a.kind == b.kind) = true := by simpa using h2
  have H2 := hide h2
  clear h2
  by_cases h3 : a.all = b.all
  rotate_left
  · have g3 : (a.all == b.all) = false := by simpa using h3
    have HH := hide h3
    clear h3
    go_enter Try.func19, Try.ntmps19
    go_wp2
    go_ret
    exact ⟨retb (eqb_no (fun e => HH.out (((qer_iff a b).1 e).2.2.2.1))).symm, belAA _ _⟩
  have g3 : (a.all == b.all) = true := by simpa using h3
  have H3 := hide h3
  clear h3
  have HIA := hide (hia.mono (belAA (.cells #[.int .i64 a.op, .string a.table, .int .i64 a.kind, .bool a.all, .int .i64 a.cond.op, .int .i64 a.cond.typ, .int .i64 a.cond.num, .string a.cond.text, .int .i64 a.cond.col, .slice a.cond.kh.ao a.cond.kids.length a.cond.kh.cap, .slice a.eh.ao a.exprs.length a.eh.cap, .slice a.ah.ao a.aggs.length a.ah.cap, .slice a.types.h.ao a.types.l.length a.types.h.cap, .slice a.rh.ao a.rows.length a.rh.cap, .slice a.qh.ao a.kids.length a.qh.cap] 46) (.cells #[.int .i64 b.op, .string b.table, .int .i64 b.kind, .bool b.all, .int .i64 b.cond.op, .int .i64 b.cond.typ, .int .i64 b.cond.num, .string b.cond.text, .int .i64 b.cond.col, .slice b.cond.kh.ao b.cond.kids.length b.cond.kh.cap, .slice b.eh.ao b.exprs.length b.eh.cap, .slice b.ah.ao b.aggs.length b.ah.cap, .slice b.types.h.ao b.types.l.length b.types.h.cap, .slice b.rh.ao b.rows.length b.rh.cap, .slice b.qh.ao b.kids.length b.qh.cap] 46)))
  have HIB := hide (hib.mono (belAA (.cells #[.int .i64 a.op, .string a.table, .int .i64 a.kind, .bool a.all, .int .i64 a.cond.op, .int .i64 a.cond.typ, .int .i64 a.cond.num, .string a.cond.text, .int .i64 a.cond.col, .slice a.cond.kh.ao a.cond.kids.length a.cond.kh.cap, .slice a.eh.ao a.exprs.length a.eh.cap, .slice a.ah.ao a.aggs.length a.ah.cap, .slice a.types.h.ao a.types.l.length a.types.h.cap, .slice a.rh.ao a.rows.length a.rh.cap, .slice a.qh.ao a.kids.length a.qh.cap] 46) (.cells #[.int .i64 b.op, .string b.table, .int .i64 b.kind, .bool b.all, .int .i64 b.cond.op, .int .i64 b.cond.typ, .int .i64 b.cond.num, .string b.cond.text, .int .i64 b.cond.col, .slice b.cond.kh.ao b.cond.kids.length b.cond.kh.cap, .slice b.eh.ao b.exprs.length b.eh.cap, .slice b.ah.ao b.aggs.length b.ah.cap, .slice b.types.h.ao b.types.l.length b.types.h.cap, .slice b.rh.ao b.rows.length b.rh.cap, .slice b.qh.ao b.kids.length b.qh.cap] 46)))
  clear hia hib
  go_enter Try.func19, Try.ntmps19
  go_wp2_with (first
    | (go_at_call 42; refine (esame_any HIA.out.flat.cd b.cond _ HIA.out.flat.cd HIB.out.flat.cd).mono ?_; rintro r w1 ⟨rfl, hb1⟩; have HB1 := hide hb1; obtain ⟨g11, _⟩ := bcell hb1; clear hb1; cases hq1 : eqb a.cond.er b.cond.er <;> (have HQ1 := hide hq1; clear hq1))
    | (go_at_call 43; refine (eqf_ex a.eh b.eh a.exprs b.exprs _ (HIA.out.flat.re.mono HB1.out) (HIB.out.flat.re.mono HB1.out) (fun x hx => (HIA.out.flat.es x hx).mono HB1.out) (fun x hx => (HIB.out.flat.es x hx).mono HB1.out) (hide (fun x hx y W hx1 hy1 => esame_any hx1 y W hx1 hy1))).mono ?_; rintro r w2 ⟨rfl, hb2⟩; have HB2 := hide (bel_trans HB1.out hb2); obtain ⟨g12, _⟩ := bcell HB2.out; clear hb2 g11; cases hq2 : eqb (a.exprs.map Ex.er) (b.exprs.map Ex.er) <;> (have HQ2 := hide hq2; clear hq2))
    | (go_at_call 44; refine (eqf_aggs a.ah b.ah a.aggs b.aggs _ (HIA.out.flat.ra.mono HB2.out) (HIB.out.flat.ra.mono HB2.out) (fun x hx => Agg.In.mono (HIA.out.flat.as x hx) HB2.out) (fun x hx => Agg.In.mono (HIB.out.flat.as x hx) HB2.out) (hide (fun x hx y W hx1 hy1 => aclo_any x y W hx1 hy1))).mono ?_; rintro r w3 ⟨rfl, hb3⟩; have HB3 := hide (bel_trans HB2.out hb3); obtain ⟨g13, _⟩ := bcell HB3.out; clear hb3 g12; cases hq3 : eqb (a.aggs.map Agg.er) (b.aggs.map Agg.er) <;> (have HQ3 := hide hq3; clear hq3))
    | (go_at_call 45; refine (inteq_any a.types b.types _ (HIA.out.flat.ty.mono HB3.out) (HIB.out.flat.ty.mono HB3.out)).mono ?_; rintro r w4 ⟨rfl, hb4⟩; have HB4 := hide (bel_trans HB3.out hb4); obtain ⟨g14, _⟩ := bcell HB4.out; clear hb4 g13; cases hq4 : eqb a.types.l b.types.l <;> (have HQ4 := hide hq4; clear hq4))
    | (go_at_call 46; refine (eqf_rows a.rh b.rh a.rows b.rows _ (HIA.out.flat.rr.mono HB4.out) (HIB.out.flat.rr.mono HB4.out) (fun x hx => (HIA.out.flat.rs x hx).mono HB4.out) (fun x hx => (HIB.out.flat.rs x hx).mono HB4.out) (hide (fun x hx y W hx1 hy1 => rclo_any x y W hx1 hy1))).mono ?_; rintro r w5 ⟨rfl, hb5⟩; have HB5 := hide (bel_trans HB4.out hb5); obtain ⟨g15, _⟩ := bcell HB5.out; clear hb5 g14; cases hq5 : eqb (a.rows.map VL.er) (b.rows.map VL.er) <;> (have HQ5 := hide hq5; clear hq5))
    | (go_at_call 47; refine (eqf_qus a.qh b.qh a.kids b.kids _ (HIA.out.row.mono HB5.out) (HIB.out.row.mono HB5.out) (fun x hx => (HIA.out.kid x hx).mono HB5.out) (fun x hx => (HIB.out.kid x hx).mono HB5.out) IH).mono ?_; rintro r w6 ⟨rfl, hb6⟩; have HB6 := hide (bel_trans HB5.out hb6); clear hb6 g15))
  · go_ret
    exact ⟨retb (eqb_no (fun e => eqb_false HQ1.out ((qer_iff a b).1 e).2.2.2.2.1)).symm, bel2 HB1.out⟩
  · go_ret
    exact ⟨retb (eqb_no (fun e => eqb_false HQ2.out ((qer_iff a b).1 e).2.2.2.2.2.1)).symm, bel2 HB2.out⟩
  · go_ret
    exact ⟨retb (eqb_no (fun e => eqb_false HQ3.out ((qer_iff a b).1 e).2.2.2.2.2.2.1)).symm, bel2 HB3.out⟩
  · go_ret
    exact ⟨retb (eqb_no (fun e => eqb_false HQ4.out ((qer_iff a b).1 e).2.2.2.2.2.2.2.1)).symm, bel2 HB4.out⟩
  · go_ret
    exact ⟨retb (eqb_no (fun e => eqb_false HQ5.out ((qer_iff a b).1 e).2.2.2.2.2.2.2.2.1)).symm, bel2 HB5.out⟩
  · go_ret
    refine ⟨retb (eqb_iff ?_), bel2 HB6.out⟩
    rw [qer_iff]
    exact ⟨fun h => ⟨H0.out, H1.out, H2.out, H3.out, eqb_true HQ1.out, eqb_true HQ2.out, eqb_true HQ3.out, eqb_true HQ4.out, eqb_true HQ5.out, h⟩, fun h => h.2.2.2.2.2.2.2.2.2⟩

end Go.Proofs.Ytmnbhdhgjbgidaa

/- law04.Few, and the walk of law04.AlgebraSame. -/
import Derived.Test.YtmnbhdhgjbgidaaQSize
import Derived.Test.YtmnbhdhgjbgidaaQFew
import Derived.Test.YtmnbhdhgjbgidaaSameS
import Derived.Deep.RegionHeld3
namespace Go.Proofs.Ytmnbhdhgjbgidaa
open Go.RowKit

set_option maxRecDepth 100000 in
set_option maxHeartbeats 400000 in
theorem qFew_any (q : Qu) (w : World) (hin : q.In w) :
    Calls Try.prog 18 #[.agg #[.int .i64 q.op, .string q.table, .int .i64 q.kind, .bool q.all, .int .i64 q.cond.op, .int .i64 q.cond.typ, .int .i64 q.cond.num, .string q.cond.text, .int .i64 q.cond.col, .slice q.cond.kh.ao q.cond.kids.length q.cond.kh.cap, .slice q.eh.ao q.exprs.length q.eh.cap, .slice q.ah.ao q.aggs.length q.ah.cap, .slice q.types.h.ao q.types.l.length q.types.h.cap, .slice q.rh.ao q.rows.length q.rh.cap, .slice q.qh.ao q.kids.length q.qh.cap]] w fun r w' => BoolPost (wrap64 (q.size : Int) ≤ 1000) r ∧ Below w.heap.size w w' := by
  have H1 := hide (hin.mono (belA (.cells #[.int .i64 q.op, .string q.table, .int .i64 q.kind, .bool q.all, .int .i64 q.cond.op, .int .i64 q.cond.typ, .int .i64 q.cond.num, .string q.cond.text, .int .i64 q.cond.col, .slice q.cond.kh.ao q.cond.kids.length q.cond.kh.cap, .slice q.eh.ao q.exprs.length q.eh.cap, .slice q.ah.ao q.aggs.length q.ah.cap, .slice q.types.h.ao q.types.l.length q.types.h.cap, .slice q.rh.ao q.rows.length q.rh.cap, .slice q.qh.ao q.kids.length q.qh.cap] 46)))
  go_enter Try.func18, Try.ntmps18
  go_wp2_with (first | (go_at_call 38; refine (qfew_any hin _ _ H1.out (by omega) (by omega)).mono ?_; rintro r w1 ⟨⟨b, rfl, -⟩, hb1⟩; have HB1 := hide hb1; obtain ⟨g1, _⟩ := bcell hb1; clear hb1; cases b) | (go_at_call 27; refine (rqsize_any hin _ (H1.out.mono HB1.out)).mono ?_; rintro r w2 ⟨rfl, hb2⟩; have HB2 := hide hb2; clear hb2))
  · go_ret
    exact ⟨bp_false, bel1 HB1.out⟩
  · go_ret
    exact ⟨⟨_, rfl, fun h => of_decide_eq_true h⟩, bel1 (bel_trans HB1.out HB2.out)⟩

/-! ### A query differs from one with an operator on it -/
mutual
def XQ.dep : XQ → Nat
  | ⟨_, _, _, _, _, _, _, _, _, kids⟩ => 1 + XQ.deps kids
def XQ.deps : List XQ → Nat
  | [] => 0
  | k :: r => max (XQ.dep k) (XQ.deps r)
end
theorem XQ.dep_one (x : XQ) {a b c d e f g h i} : x ≠ ⟨a, b, c, d, e, f, g, h, i, [x]⟩ := by
  intro hx
  have h1 := congrArg XQ.dep hx
  rw [XQ.dep] at h1
  simp only [XQ.deps] at h1
  omega
def noEx : Ex := ⟨0, 0, 0, ⟨#[]⟩, 0, nilHd, []⟩
/-- The query 'distinct' over a, its list of Kids at an address. -/
abbrev more (a : Qu) (ao : Option Addr) : Qu := ⟨9, ⟨#[]⟩, 0, false, noEx, nilHd, [], nilHd, [], ⟨nilHd, []⟩, nilHd, [], ⟨ao, 1⟩, [a]⟩
theorem more_ne (a : Qu) (ao : Option Addr) : a.er ≠ (more a ao).er := by
  rw [Qu.er_eq (more a ao)]
  exact XQ.dep_one _
theorem i64_0 : int64 0 := ⟨by decide, by decide⟩
theorem i64_9 : int64 9 := ⟨by decide, by decide⟩
theorem noEx_in (w : World) : noEx.In w :=
  Ex.In.mk noEx ⟨i64_0, i64_0, i64_0, Nat.zero_le _, i64_0⟩ (Row.nil _ _ _) (fun k (hk : k ∈ ([] : List Ex)) => absurd hk List.not_mem_nil)
theorem more_in {a : Qu} {w : World} {g : Nat} (ha : a.In w) (hg : ∀ (j : Nat) (v : Value), a.cells[j]? = some v → w.cell? ⟨g, j, none⟩ = some v) (hgs : g < w.heap.size) : (more a (some ⟨g, 0, none⟩)).In w := by
  refine Qu.In.mk (more a (some ⟨g, 0, none⟩)) ⟨i64_9, Nat.zero_le _, i64_0, noEx_in w, Row.nil _ _ _, fun k (hk : k ∈ ([] : List Ex)) => absurd hk List.not_mem_nil, Row.nil _ _ _, fun k (hk : k ∈ ([] : List Agg)) => absurd hk List.not_mem_nil, ⟨Row.nil _ _ _, fun k (hk : k ∈ ([] : List Int)) => absurd hk List.not_mem_nil⟩, Row.nil _ _ _, fun k (hk : k ∈ ([] : List VL)) => absurd hk List.not_mem_nil⟩ ?_ ?_
  · refine ⟨Nat.le_refl _, (by show 1 ≤ maxLen; unfold maxLen; omega), fun _ => ⟨rfl, hgs⟩, fun i hi j v hv => ?_⟩
    obtain rfl : i = 0 := by
      have : i < 1 := hi
      omega
    have := hg j v hv
    show w.cell? ⟨g, 0 + 0 * 15 + j, none⟩ = some v
    simpa using this
  · intro k hk
    have : k = a := List.mem_singleton.1 hk
    rw [this]; exact ha

set_option maxRecDepth 100000 in
set_option maxHeartbeats 2000000 in
theorem same_walk (a b : Qu) (w : World) (hia : a.In w) (hib : b.In w) :
    Calls Try.prog 4 #[.agg #[.int .i64 a.op, .string a.table, .int .i64 a.kind, .bool a.all, .int .i64 a.cond.op, .int .i64 a.cond.typ, .int .i64 a.cond.num, .string a.cond.text, .int .i64 a.cond.col, .slice a.cond.kh.ao a.cond.kids.length a.cond.kh.cap, .slice a.eh.ao a.exprs.length a.eh.cap, .slice a.ah.ao a.aggs.length a.ah.cap, .slice a.types.h.ao a.types.l.length a.types.h.cap, .slice a.rh.ao a.rows.length a.rh.cap, .slice a.qh.ao a.kids.length a.qh.cap], .agg #[.int .i64 b.op, .string b.table, .int .i64 b.kind, .bool b.all, .int .i64 b.cond.op, .int .i64 b.cond.typ, .int .i64 b.cond.num, .string b.cond.text, .int .i64 b.cond.col, .slice b.cond.kh.ao b.cond.kids.length b.cond.kh.cap, .slice b.eh.ao b.exprs.length b.eh.cap, .slice b.ah.ao b.aggs.length b.ah.cap, .slice b.types.h.ao b.types.l.length b.types.h.cap, .slice b.rh.ao b.rows.length b.rh.cap, .slice b.qh.ao b.kids.length b.qh.cap]] w fun e w' => e = .returned (.bool true) ∧ Below w.heap.size w w' := by
  have HIA := hide (hia.mono (belAA (.cells #[.int .i64 a.op, .string a.table, .int .i64 a.kind, .bool a.all, .int .i64 a.cond.op, .int .i64 a.cond.typ, .int .i64 a.cond.num, .string a.cond.text, .int .i64 a.cond.col, .slice a.cond.kh.ao a.cond.kids.length a.cond.kh.cap, .slice a.eh.ao a.exprs.length a.eh.cap, .slice a.ah.ao a.aggs.length a.ah.cap, .slice a.types.h.ao a.types.l.length a.types.h.cap, .slice a.rh.ao a.rows.length a.rh.cap, .slice a.qh.ao a.kids.length a.qh.cap] 46) (.cells #[.int .i64 b.op, .string b.table, .int .i64 b.kind, .bool b.all, .int .i64 b.cond.op, .int .i64 b.cond.typ, .int .i64 b.cond.num, .string b.cond.text, .int .i64 b.cond.col, .slice b.cond.kh.ao b.cond.kids.length b.cond.kh.cap, .slice b.eh.ao b.exprs.length b.eh.cap, .slice b.ah.ao b.aggs.length b.ah.cap, .slice b.types.h.ao b.types.l.length b.types.h.cap, .slice b.rh.ao b.rows.length b.rh.cap, .slice b.qh.ao b.kids.length b.qh.cap] 46)))
  have HIB := hide (hib.mono (belAA (.cells #[.int .i64 a.op, .string a.table, .int .i64 a.kind, .bool a.all, .int .i64 a.cond.op, .int .i64 a.cond.typ, .int .i64 a.cond.num, .string a.cond.text, .int .i64 a.cond.col, .slice a.cond.kh.ao a.cond.kids.length a.cond.kh.cap, .slice a.eh.ao a.exprs.length a.eh.cap, .slice a.ah.ao a.aggs.length a.ah.cap, .slice a.types.h.ao a.types.l.length a.types.h.cap, .slice a.rh.ao a.rows.length a.rh.cap, .slice a.qh.ao a.kids.length a.qh.cap] 46) (.cells #[.int .i64 b.op, .string b.table, .int .i64 b.kind, .bool b.all, .int .i64 b.cond.op, .int .i64 b.cond.typ, .int .i64 b.cond.num, .string b.cond.text, .int .i64 b.cond.col, .slice b.cond.kh.ao b.cond.kids.length b.cond.kh.cap, .slice b.eh.ao b.exprs.length b.eh.cap, .slice b.ah.ao b.aggs.length b.ah.cap, .slice b.types.h.ao b.types.l.length b.types.h.cap, .slice b.rh.ao b.rows.length b.rh.cap, .slice b.qh.ao b.kids.length b.qh.cap] 46)))
  go_enter Try.func4, Try.ntmps4
  go_wp2_with (go_at_call 18; first
    | (refine (qFew_any b _ (HIB.out.mono HB1.out)).mono ?_; rintro r w2 ⟨⟨c, rfl, -⟩, hb2⟩; have HB2 := hide (bel_trans HB1.out hb2); obtain ⟨g2, _⟩ := bcell HB2.out; have hs2 := HB2.out.size; clear hb2 g1 hs1; cases c)
    | (refine (qFew_any a _ HIA.out).mono ?_; rintro r w1 ⟨⟨c, rfl, -⟩, hb1⟩; have HB1 := hide hb1; obtain ⟨g1, _⟩ := bcell hb1; have hs1 := hb1.size; clear hb1; cases c))
  · go_ret
    exact ⟨rfl, bel2 HB1.out⟩
  · go_ret
    exact ⟨rfl, bel2 HB2.out⟩
  generalize hW4 : (w2.alloc (.cells #[.int .i64 a.op, .string a.table, .int .i64 a.kind, .bool a.all, .int .i64 a.cond.op, .int .i64 a.cond.typ, .int .i64 a.cond.num, .string a.cond.text, .int .i64 a.cond.col, .slice a.cond.kh.ao a.cond.kids.length a.cond.kh.cap, .slice a.eh.ao a.exprs.length a.eh.cap, .slice a.ah.ao a.aggs.length a.ah.cap, .slice a.types.h.ao a.types.l.length a.types.h.cap, .slice a.rh.ao a.rows.length a.rh.cap, .slice a.qh.ao a.kids.length a.qh.cap] 46)).alloc (.cells #[.int .i64 9, .string ⟨#[]⟩, .int .i64 0, .bool false, .int .i64 0, .int .i64 0, .int .i64 0, .string ⟨#[]⟩, .int .i64 0, .slice none 0 0, .slice none 0 0, .slice none 0 0, .slice none 0 0, .slice none 0 0, .slice (some ⟨w2.heap.size, 0, none⟩) 1 1] 46) = W4
  have HOX := hide (show ∀ w' : World, Below W4.heap.size W4 w' → Below ((w.alloc (.cells #[.int .i64 a.op, .string a.table, .int .i64 a.kind, .bool a.all, .int .i64 a.cond.op, .int .i64 a.cond.typ, .int .i64 a.cond.num, .string a.cond.text, .int .i64 a.cond.col, .slice a.cond.kh.ao a.cond.kids.length a.cond.kh.cap, .slice a.eh.ao a.exprs.length a.eh.cap, .slice a.ah.ao a.aggs.length a.ah.cap, .slice a.types.h.ao a.types.l.length a.types.h.cap, .slice a.rh.ao a.rows.length a.rh.cap, .slice a.qh.ao a.kids.length a.qh.cap] 46)).alloc (.cells #[.int .i64 b.op, .string b.table, .int .i64 b.kind, .bool b.all, .int .i64 b.cond.op, .int .i64 b.cond.typ, .int .i64 b.cond.num, .string b.cond.text, .int .i64 b.cond.col, .slice b.cond.kh.ao b.cond.kids.length b.cond.kh.cap, .slice b.eh.ao b.exprs.length b.eh.cap, .slice b.ah.ao b.aggs.length b.ah.cap, .slice b.types.h.ao b.types.l.length b.types.h.cap, .slice b.rh.ao b.rows.length b.rh.cap, .slice b.qh.ao b.kids.length b.qh.cap] 46)).heap.size ((w.alloc (.cells #[.int .i64 a.op, .string a.table, .int .i64 a.kind, .bool a.all, .int .i64 a.cond.op, .int .i64 a.cond.typ, .int .i64 a.cond.num, .string a.cond.text, .int .i64 a.cond.col, .slice a.cond.kh.ao a.cond.kids.length a.cond.kh.cap, .slice a.eh.ao a.exprs.length a.eh.cap, .slice a.ah.ao a.aggs.length a.ah.cap, .slice a.types.h.ao a.types.l.length a.types.h.cap, .slice a.rh.ao a.rows.length a.rh.cap, .slice a.qh.ao a.kids.length a.qh.cap] 46)).alloc (.cells #[.int .i64 b.op, .string b.table, .int .i64 b.kind, .bool b.all, .int .i64 b.cond.op, .int .i64 b.cond.typ, .int .i64 b.cond.num, .string b.cond.text, .int .i64 b.cond.col, .slice b.cond.kh.ao b.cond.kids.length b.cond.kh.cap, .slice b.eh.ao b.exprs.length b.eh.cap, .slice b.ah.ao b.aggs.length b.ah.cap, .slice b.types.h.ao b.types.l.length b.types.h.cap, .slice b.rh.ao b.rows.length b.rh.cap, .slice b.qh.ao b.kids.length b.qh.cap] 46)) w' from fun w' h => bel_trans HB2.out (bel_trans (hW4 ▸ belAA _ _) h))
  have HOM := hide (show ∀ w' : World, Below W4.heap.size W4 w' → Below ((w2.alloc (.cells #[.int .i64 a.op, .string a.table, .int .i64 a.kind, .bool a.all, .int .i64 a.cond.op, .int .i64 a.cond.typ, .int .i64 a.cond.num, .string a.cond.text, .int .i64 a.cond.col, .slice a.cond.kh.ao a.cond.kids.length a.cond.kh.cap, .slice a.eh.ao a.exprs.length a.eh.cap, .slice a.ah.ao a.aggs.length a.ah.cap, .slice a.types.h.ao a.types.l.length a.types.h.cap, .slice a.rh.ao a.rows.length a.rh.cap, .slice a.qh.ao a.kids.length a.qh.cap] 46)).alloc (.cells #[.int .i64 9, .string ⟨#[]⟩, .int .i64 0, .bool false, .int .i64 0, .int .i64 0, .int .i64 0, .string ⟨#[]⟩, .int .i64 0, .slice none 0 0, .slice none 0 0, .slice none 0 0, .slice none 0 0, .slice none 0 0, .slice (some ⟨w2.heap.size, 0, none⟩) 1 1] 46)).heap.size ((w2.alloc (.cells #[.int .i64 a.op, .string a.table, .int .i64 a.kind, .bool a.all, .int .i64 a.cond.op, .int .i64 a.cond.typ, .int .i64 a.cond.num, .string a.cond.text, .int .i64 a.cond.col, .slice a.cond.kh.ao a.cond.kids.length a.cond.kh.cap, .slice a.eh.ao a.exprs.length a.eh.cap, .slice a.ah.ao a.aggs.length a.ah.cap, .slice a.types.h.ao a.types.l.length a.types.h.cap, .slice a.rh.ao a.rows.length a.rh.cap, .slice a.qh.ao a.kids.length a.qh.cap] 46)).alloc (.cells #[.int .i64 9, .string ⟨#[]⟩, .int .i64 0, .bool false, .int .i64 0, .int .i64 0, .int .i64 0, .string ⟨#[]⟩, .int .i64 0, .slice none 0 0, .slice none 0 0, .slice none 0 0, .slice none 0 0, .slice none 0 0, .slice (some ⟨w2.heap.size, 0, none⟩) 1 1] 46)) w' from fun w' h => hW4 ▸ h)
  have HI := hide (show ∀ w' : World, Below W4.heap.size W4 w' → a.In w' ∧ b.In w' ∧ (more a (some ⟨w2.heap.size, 0, none⟩)).In w' from fun w' h => ⟨HIA.out.mono (HOX.out w' h), HIB.out.mono (HOX.out w' h), more_in (HIA.out.mono (HOX.out w' h)) (fun j v hv => box2a (HOM.out w' h) (show (#[.int .i64 a.op, .string a.table, .int .i64 a.kind, .bool a.all, .int .i64 a.cond.op, .int .i64 a.cond.typ, .int .i64 a.cond.num, .string a.cond.text, .int .i64 a.cond.col, .slice a.cond.kh.ao a.cond.kids.length a.cond.kh.cap, .slice a.eh.ao a.exprs.length a.eh.cap, .slice a.ah.ao a.aggs.length a.ah.cap, .slice a.types.h.ao a.types.l.length a.types.h.cap, .slice a.rh.ao a.rows.length a.rh.cap, .slice a.qh.ao a.kids.length a.qh.cap] : Array Value)[j]? = some v by simpa using (show ([.int .i64 a.op, .string a.table, .int .i64 a.kind, .bool a.all, .int .i64 a.cond.op, .int .i64 a.cond.typ, .int .i64 a.cond.num, .string a.cond.text, .int .i64 a.cond.col, .slice a.cond.kh.ao a.cond.kids.length a.cond.kh.cap, .slice a.eh.ao a.exprs.length a.eh.cap, .slice a.ah.ao a.aggs.length a.ah.cap, .slice a.types.h.ao a.types.l.length a.types.h.cap, .slice a.rh.ao a.rows.length a.rh.cap, .slice a.qh.ao a.kids.length a.qh.cap] : List Value)[j]? = some v from hv))) (by have := (HOM.out w' h).size; simp at this; omega)⟩)
  have HEM := hide (eqb_no (more_ne a (some ⟨w2.heap.size, 0, none⟩)))
  have HEA := hide (eqb_yes (rfl : a.er = a.er))
  obtain ⟨c, hc⟩ : ∃ c, eqb a.er b.er = c := ⟨_, rfl⟩
  have HEC := hide hc
  clear hc g2 hs2
  have hcc : (c == c) = true := by simp
  obtain ⟨xa0, hxa0⟩ : ∃ v : Value, v = .int .i64 a.op := ⟨_, rfl⟩
  obtain ⟨xa1, hxa1⟩ : ∃ v : Value, v = .string a.table := ⟨_, rfl⟩
  obtain ⟨xa2, hxa2⟩ : ∃ v : Value, v = .int .i64 a.kind := ⟨_, rfl⟩
  obtain ⟨xa3, hxa3⟩ : ∃ v : Value, v = .bool a.all := ⟨_, rfl⟩
  obtain ⟨xa4, hxa4⟩ : ∃ v : Value, v = .int .i64 a.cond.op := ⟨_, rfl⟩
  obtain ⟨xa5, hxa5⟩ : ∃ v : Value, v = .int .i64 a.cond.typ := ⟨_, rfl⟩
  obtain ⟨xa6, hxa6⟩ : ∃ v : Value, v = .int .i64 a.cond.num := ⟨_, rfl⟩
  obtain ⟨xa7, hxa7⟩ : ∃ v : Value, v = .string a.cond.text := ⟨_, rfl⟩
  obtain ⟨xa8, hxa8⟩ : ∃ v : Value, v = .int .i64 a.cond.col := ⟨_, rfl⟩
  obtain ⟨xa9, hxa9⟩ : ∃ v : Value, v = .slice a.cond.kh.ao a.cond.kids.length a.cond.kh.cap := ⟨_, rfl⟩
  obtain ⟨xa10, hxa10⟩ : ∃ v : Value, v = .slice a.eh.ao a.exprs.length a.eh.cap := ⟨_, rfl⟩
  obtain ⟨xa11, hxa11⟩ : ∃ v : Value, v = .slice a.ah.ao a.aggs.length a.ah.cap := ⟨_, rfl⟩
  obtain ⟨xa12, hxa12⟩ : ∃ v : Value, v = .slice a.types.h.ao a.types.l.length a.types.h.cap := ⟨_, rfl⟩
  obtain ⟨xa13, hxa13⟩ : ∃ v : Value, v = .slice a.rh.ao a.rows.length a.rh.cap := ⟨_, rfl⟩
  obtain ⟨xa14, hxa14⟩ : ∃ v : Value, v = .slice a.qh.ao a.kids.length a.qh.cap := ⟨_, rfl⟩
  obtain ⟨xb0, hxb0⟩ : ∃ v : Value, v = .int .i64 b.op := ⟨_, rfl⟩
  obtain ⟨xb1, hxb1⟩ : ∃ v : Value, v = .string b.table := ⟨_, rfl⟩
  obtain ⟨xb2, hxb2⟩ : ∃ v : Value, v = .int .i64 b.kind := ⟨_, rfl⟩
  obtain ⟨xb3, hxb3⟩ : ∃ v : Value, v = .bool b.all := ⟨_, rfl⟩
  obtain ⟨xb4, hxb4⟩ : ∃ v : Value, v = .int .i64 b.cond.op := ⟨_, rfl⟩
  obtain ⟨xb5, hxb5⟩ : ∃ v : Value, v = .int .i64 b.cond.typ := ⟨_, rfl⟩
  obtain ⟨xb6, hxb6⟩ : ∃ v : Value, v = .int .i64 b.cond.num := ⟨_, rfl⟩
  obtain ⟨xb7, hxb7⟩ : ∃ v : Value, v = .string b.cond.text := ⟨_, rfl⟩
  obtain ⟨xb8, hxb8⟩ : ∃ v : Value, v = .int .i64 b.cond.col := ⟨_, rfl⟩
  obtain ⟨xb9, hxb9⟩ : ∃ v : Value, v = .slice b.cond.kh.ao b.cond.kids.length b.cond.kh.cap := ⟨_, rfl⟩
  obtain ⟨xb10, hxb10⟩ : ∃ v : Value, v = .slice b.eh.ao b.exprs.length b.eh.cap := ⟨_, rfl⟩
  obtain ⟨xb11, hxb11⟩ : ∃ v : Value, v = .slice b.ah.ao b.aggs.length b.ah.cap := ⟨_, rfl⟩
  obtain ⟨xb12, hxb12⟩ : ∃ v : Value, v = .slice b.types.h.ao b.types.l.length b.types.h.cap := ⟨_, rfl⟩
  obtain ⟨xb13, hxb13⟩ : ∃ v : Value, v = .slice b.rh.ao b.rows.length b.rh.cap := ⟨_, rfl⟩
  obtain ⟨xb14, hxb14⟩ : ∃ v : Value, v = .slice b.qh.ao b.kids.length b.qh.cap := ⟨_, rfl⟩
  obtain ⟨xm0, hxm0⟩ : ∃ v : Value, v = .int .i64 9 := ⟨_, rfl⟩
  obtain ⟨xm1, hxm1⟩ : ∃ v : Value, v = .string ⟨#[]⟩ := ⟨_, rfl⟩
  obtain ⟨xm2, hxm2⟩ : ∃ v : Value, v = .int .i64 0 := ⟨_, rfl⟩
  obtain ⟨xm3, hxm3⟩ : ∃ v : Value, v = .bool false := ⟨_, rfl⟩
  obtain ⟨xm4, hxm4⟩ : ∃ v : Value, v = .int .i64 0 := ⟨_, rfl⟩
  obtain ⟨xm5, hxm5⟩ : ∃ v : Value, v = .int .i64 0 := ⟨_, rfl⟩
  obtain ⟨xm6, hxm6⟩ : ∃ v : Value, v = .int .i64 0 := ⟨_, rfl⟩
  obtain ⟨xm7, hxm7⟩ : ∃ v : Value, v = .string ⟨#[]⟩ := ⟨_, rfl⟩
  obtain ⟨xm8, hxm8⟩ : ∃ v : Value, v = .int .i64 0 := ⟨_, rfl⟩
  obtain ⟨xm9, hxm9⟩ : ∃ v : Value, v = .slice none 0 0 := ⟨_, rfl⟩
  obtain ⟨xm10, hxm10⟩ : ∃ v : Value, v = .slice none 0 0 := ⟨_, rfl⟩
  obtain ⟨xm11, hxm11⟩ : ∃ v : Value, v = .slice none 0 0 := ⟨_, rfl⟩
  obtain ⟨xm12, hxm12⟩ : ∃ v : Value, v = .slice none 0 0 := ⟨_, rfl⟩
  obtain ⟨xm13, hxm13⟩ : ∃ v : Value, v = .slice none 0 0 := ⟨_, rfl⟩
  obtain ⟨xm14, hxm14⟩ : ∃ v : Value, v = .slice (some ⟨w2.heap.size, 0, none⟩) 1 1 := ⟨_, rfl⟩
  have hya0 : ∀ w' : World, Below W4.heap.size W4 w' → w'.cell? ⟨w.heap.size, 0, none⟩ = some (xa0) := fun w' h => hxa0 ▸ box2a (HOX.out w' h) (j := 0) rfl
  have hya1 : ∀ w' : World, Below W4.heap.size W4 w' → w'.cell? ⟨w.heap.size, 1, none⟩ = some (xa1) := fun w' h => hxa1 ▸ box2a (HOX.out w' h) (j := 1) rfl
  have hya2 : ∀ w' : World, Below W4.heap.size W4 w' → w'.cell? ⟨w.heap.size, 2, none⟩ = some (xa2) := fun w' h => hxa2 ▸ box2a (HOX.out w' h) (j := 2) rfl
  have hya3 : ∀ w' : World, Below W4.heap.size W4 w' → w'.cell? ⟨w.heap.size, 3, none⟩ = some (xa3) := fun w' h => hxa3 ▸ box2a (HOX.out w' h) (j := 3) rfl
  have hya4 : ∀ w' : World, Below W4.heap.size W4 w' → w'.cell? ⟨w.heap.size, 4, none⟩ = some (xa4) := fun w' h => hxa4 ▸ box2a (HOX.out w' h) (j := 4) rfl
  have hya5 : ∀ w' : World, Below W4.heap.size W4 w' → w'.cell? ⟨w.heap.size, 5, none⟩ = some (xa5) := fun w' h => hxa5 ▸ box2a (HOX.out w' h) (j := 5) rfl
  have hya6 : ∀ w' : World, Below W4.heap.size W4 w' → w'.cell? ⟨w.heap.size, 6, none⟩ = some (xa6) := fun w' h => hxa6 ▸ box2a (HOX.out w' h) (j := 6) rfl
  have hya7 : ∀ w' : World, Below W4.heap.size W4 w' → w'.cell? ⟨w.heap.size, 7, none⟩ = some (xa7) := fun w' h => hxa7 ▸ box2a (HOX.out w' h) (j := 7) rfl
  have hya8 : ∀ w' : World, Below W4.heap.size W4 w' → w'.cell? ⟨w.heap.size, 8, none⟩ = some (xa8) := fun w' h => hxa8 ▸ box2a (HOX.out w' h) (j := 8) rfl
  have hya9 : ∀ w' : World, Below W4.heap.size W4 w' → w'.cell? ⟨w.heap.size, 9, none⟩ = some (xa9) := fun w' h => hxa9 ▸ box2a (HOX.out w' h) (j := 9) rfl
  have hya10 : ∀ w' : World, Below W4.heap.size W4 w' → w'.cell? ⟨w.heap.size, 10, none⟩ = some (xa10) := fun w' h => hxa10 ▸ box2a (HOX.out w' h) (j := 10) rfl
  have hya11 : ∀ w' : World, Below W4.heap.size W4 w' → w'.cell? ⟨w.heap.size, 11, none⟩ = some (xa11) := fun w' h => hxa11 ▸ box2a (HOX.out w' h) (j := 11) rfl
  have hya12 : ∀ w' : World, Below W4.heap.size W4 w' → w'.cell? ⟨w.heap.size, 12, none⟩ = some (xa12) := fun w' h => hxa12 ▸ box2a (HOX.out w' h) (j := 12) rfl
  have hya13 : ∀ w' : World, Below W4.heap.size W4 w' → w'.cell? ⟨w.heap.size, 13, none⟩ = some (xa13) := fun w' h => hxa13 ▸ box2a (HOX.out w' h) (j := 13) rfl
  have hya14 : ∀ w' : World, Below W4.heap.size W4 w' → w'.cell? ⟨w.heap.size, 14, none⟩ = some (xa14) := fun w' h => hxa14 ▸ box2a (HOX.out w' h) (j := 14) rfl
  have hyb0 : ∀ w' : World, Below W4.heap.size W4 w' → w'.cell? ⟨w.heap.size + 1, 0, none⟩ = some (xb0) := fun w' h => hxb0 ▸ box2b (HOX.out w' h) (j := 0) rfl
  have hyb1 : ∀ w' : World, Below W4.heap.size W4 w' → w'.cell? ⟨w.heap.size + 1, 1, none⟩ = some (xb1) := fun w' h => hxb1 ▸ box2b (HOX.out w' h) (j := 1) rfl
  have hyb2 : ∀ w' : World, Below W4.heap.size W4 w' → w'.cell? ⟨w.heap.size + 1, 2, none⟩ = some (xb2) := fun w' h => hxb2 ▸ box2b (HOX.out w' h) (j := 2) rfl
  have hyb3 : ∀ w' : World, Below W4.heap.size W4 w' → w'.cell? ⟨w.heap.size + 1, 3, none⟩ = some (xb3) := fun w' h => hxb3 ▸ box2b (HOX.out w' h) (j := 3) rfl
  have hyb4 : ∀ w' : World, Below W4.heap.size W4 w' → w'.cell? ⟨w.heap.size + 1, 4, none⟩ = some (xb4) := fun w' h => hxb4 ▸ box2b (HOX.out w' h) (j := 4) rfl
  have hyb5 : ∀ w' : World, Below W4.heap.size W4 w' → w'.cell? ⟨w.heap.size + 1, 5, none⟩ = some (xb5) := fun w' h => hxb5 ▸ box2b (HOX.out w' h) (j := 5) rfl
  have hyb6 : ∀ w' : World, Below W4.heap.size W4 w' → w'.cell? ⟨w.heap.size + 1, 6, none⟩ = some (xb6) := fun w' h => hxb6 ▸ box2b (HOX.out w' h) (j := 6) rfl
  have hyb7 : ∀ w' : World, Below W4.heap.size W4 w' → w'.cell? ⟨w.heap.size + 1, 7, none⟩ = some (xb7) := fun w' h => hxb7 ▸ box2b (HOX.out w' h) (j := 7) rfl
  have hyb8 : ∀ w' : World, Below W4.heap.size W4 w' → w'.cell? ⟨w.heap.size + 1, 8, none⟩ = some (xb8) := fun w' h => hxb8 ▸ box2b (HOX.out w' h) (j := 8) rfl
  have hyb9 : ∀ w' : World, Below W4.heap.size W4 w' → w'.cell? ⟨w.heap.size + 1, 9, none⟩ = some (xb9) := fun w' h => hxb9 ▸ box2b (HOX.out w' h) (j := 9) rfl
  have hyb10 : ∀ w' : World, Below W4.heap.size W4 w' → w'.cell? ⟨w.heap.size + 1, 10, none⟩ = some (xb10) := fun w' h => hxb10 ▸ box2b (HOX.out w' h) (j := 10) rfl
  have hyb11 : ∀ w' : World, Below W4.heap.size W4 w' → w'.cell? ⟨w.heap.size + 1, 11, none⟩ = some (xb11) := fun w' h => hxb11 ▸ box2b (HOX.out w' h) (j := 11) rfl
  have hyb12 : ∀ w' : World, Below W4.heap.size W4 w' → w'.cell? ⟨w.heap.size + 1, 12, none⟩ = some (xb12) := fun w' h => hxb12 ▸ box2b (HOX.out w' h) (j := 12) rfl
  have hyb13 : ∀ w' : World, Below W4.heap.size W4 w' → w'.cell? ⟨w.heap.size + 1, 13, none⟩ = some (xb13) := fun w' h => hxb13 ▸ box2b (HOX.out w' h) (j := 13) rfl
  have hyb14 : ∀ w' : World, Below W4.heap.size W4 w' → w'.cell? ⟨w.heap.size + 1, 14, none⟩ = some (xb14) := fun w' h => hxb14 ▸ box2b (HOX.out w' h) (j := 14) rfl
  have hym0 : ∀ w' : World, Below W4.heap.size W4 w' → w'.cell? ⟨w2.heap.size + 1, 0, none⟩ = some (xm0) := fun w' h => hxm0 ▸ box2b (HOM.out w' h) (j := 0) rfl
  have hym1 : ∀ w' : World, Below W4.heap.size W4 w' → w'.cell? ⟨w2.heap.size + 1, 1, none⟩ = some (xm1) := fun w' h => hxm1 ▸ box2b (HOM.out w' h) (j := 1) rfl
  have hym2 : ∀ w' : World, Below W4.heap.size W4 w' → w'.cell? ⟨w2.heap.size + 1, 2, none⟩ = some (xm2) := fun w' h => hxm2 ▸ box2b (HOM.out w' h) (j := 2) rfl
  have hym3 : ∀ w' : World, Below W4.heap.size W4 w' → w'.cell? ⟨w2.heap.size + 1, 3, none⟩ = some (xm3) := fun w' h => hxm3 ▸ box2b (HOM.out w' h) (j := 3) rfl
  have hym4 : ∀ w' : World, Below W4.heap.size W4 w' → w'.cell? ⟨w2.heap.size + 1, 4, none⟩ = some (xm4) := fun w' h => hxm4 ▸ box2b (HOM.out w' h) (j := 4) rfl
  have hym5 : ∀ w' : World, Below W4.heap.size W4 w' → w'.cell? ⟨w2.heap.size + 1, 5, none⟩ = some (xm5) := fun w' h => hxm5 ▸ box2b (HOM.out w' h) (j := 5) rfl
  have hym6 : ∀ w' : World, Below W4.heap.size W4 w' → w'.cell? ⟨w2.heap.size + 1, 6, none⟩ = some (xm6) := fun w' h => hxm6 ▸ box2b (HOM.out w' h) (j := 6) rfl
  have hym7 : ∀ w' : World, Below W4.heap.size W4 w' → w'.cell? ⟨w2.heap.size + 1, 7, none⟩ = some (xm7) := fun w' h => hxm7 ▸ box2b (HOM.out w' h) (j := 7) rfl
  have hym8 : ∀ w' : World, Below W4.heap.size W4 w' → w'.cell? ⟨w2.heap.size + 1, 8, none⟩ = some (xm8) := fun w' h => hxm8 ▸ box2b (HOM.out w' h) (j := 8) rfl
  have hym9 : ∀ w' : World, Below W4.heap.size W4 w' → w'.cell? ⟨w2.heap.size + 1, 9, none⟩ = some (xm9) := fun w' h => hxm9 ▸ box2b (HOM.out w' h) (j := 9) rfl
  have hym10 : ∀ w' : World, Below W4.heap.size W4 w' → w'.cell? ⟨w2.heap.size + 1, 10, none⟩ = some (xm10) := fun w' h => hxm10 ▸ box2b (HOM.out w' h) (j := 10) rfl
  have hym11 : ∀ w' : World, Below W4.heap.size W4 w' → w'.cell? ⟨w2.heap.size + 1, 11, none⟩ = some (xm11) := fun w' h => hxm11 ▸ box2b (HOM.out w' h) (j := 11) rfl
  have hym12 : ∀ w' : World, Below W4.heap.size W4 w' → w'.cell? ⟨w2.heap.size + 1, 12, none⟩ = some (xm12) := fun w' h => hxm12 ▸ box2b (HOM.out w' h) (j := 12) rfl
  have hym13 : ∀ w' : World, Below W4.heap.size W4 w' → w'.cell? ⟨w2.heap.size + 1, 13, none⟩ = some (xm13) := fun w' h => hxm13 ▸ box2b (HOM.out w' h) (j := 13) rfl
  have hym14 : ∀ w' : World, Below W4.heap.size W4 w' → w'.cell? ⟨w2.heap.size + 1, 14, none⟩ = some (xm14) := fun w' h => hxm14 ▸ box2b (HOM.out w' h) (j := 14) rfl
  have HAB := hide (show ∀ w' : World, Below W4.heap.size W4 w' → Calls Try.prog 19 #[.agg #[xa0, xa1, xa2, xa3, xa4, xa5, xa6, xa7, xa8, xa9, xa10, xa11, xa12, xa13, xa14], .agg #[xb0, xb1, xb2, xb3, xb4, xb5, xb6, xb7, xb8, xb9, xb10, xb11, xb12, xb13, xb14]] w' fun e w'' => e = .returned (.bool c) ∧ Below w'.heap.size w' w'' from fun w' h => by
    rw [← HEC.out]; subst hxa0 hxa1 hxa2 hxa3 hxa4 hxa5 hxa6 hxa7 hxa8 hxa9 hxa10 hxa11 hxa12 hxa13 hxa14 hxb0 hxb1 hxb2 hxb3 hxb4 hxb5 hxb6 hxb7 hxb8 hxb9 hxb10 hxb11 hxb12 hxb13 hxb14 hxm0 hxm1 hxm2 hxm3 hxm4 hxm5 hxm6 hxm7 hxm8 hxm9 hxm10 hxm11 hxm12 hxm13 hxm14; exact qsame_any (HI.out w' h).1 b w' (HI.out w' h).1 (HI.out w' h).2.1)
  have HRB := hide (show ∀ w' : World, Below W4.heap.size W4 w' → Calls Try.prog 20 #[.agg #[xa0, xa1, xa2, xa3, xa4, xa5, xa6, xa7, xa8, xa9, xa10, xa11, xa12, xa13, xa14], .agg #[xb0, xb1, xb2, xb3, xb4, xb5, xb6, xb7, xb8, xb9, xb10, xb11, xb12, xb13, xb14]] w' fun e w'' => e = .returned (.bool c) ∧ Below w'.heap.size w' w'' from fun w' h => by
    rw [← HEC.out]; subst hxa0 hxa1 hxa2 hxa3 hxa4 hxa5 hxa6 hxa7 hxa8 hxa9 hxa10 hxa11 hxa12 hxa13 hxa14 hxb0 hxb1 hxb2 hxb3 hxb4 hxb5 hxb6 hxb7 hxb8 hxb9 hxb10 hxb11 hxb12 hxb13 hxb14 hxm0 hxm1 hxm2 hxm3 hxm4 hxm5 hxm6 hxm7 hxm8 hxm9 hxm10 hxm11 hxm12 hxm13 hxm14; exact rqsame_any (HI.out w' h).1 b w' (HI.out w' h).1 (HI.out w' h).2.1)
  have HAA := hide (show ∀ w' : World, Below W4.heap.size W4 w' → Calls Try.prog 19 #[.agg #[xa0, xa1, xa2, xa3, xa4, xa5, xa6, xa7, xa8, xa9, xa10, xa11, xa12, xa13, xa14], .agg #[xa0, xa1, xa2, xa3, xa4, xa5, xa6, xa7, xa8, xa9, xa10, xa11, xa12, xa13, xa14]] w' fun e w'' => e = .returned (.bool true) ∧ Below w'.heap.size w' w'' from fun w' h => by
    rw [← HEA.out]; subst hxa0 hxa1 hxa2 hxa3 hxa4 hxa5 hxa6 hxa7 hxa8 hxa9 hxa10 hxa11 hxa12 hxa13 hxa14 hxb0 hxb1 hxb2 hxb3 hxb4 hxb5 hxb6 hxb7 hxb8 hxb9 hxb10 hxb11 hxb12 hxb13 hxb14 hxm0 hxm1 hxm2 hxm3 hxm4 hxm5 hxm6 hxm7 hxm8 hxm9 hxm10 hxm11 hxm12 hxm13 hxm14; exact qsame_any (HI.out w' h).1 a w' (HI.out w' h).1 (HI.out w' h).1)
  have HAM := hide (show ∀ w' : World, Below W4.heap.size W4 w' → Calls Try.prog 19 #[.agg #[xa0, xa1, xa2, xa3, xa4, xa5, xa6, xa7, xa8, xa9, xa10, xa11, xa12, xa13, xa14], .agg #[xm0, xm1, xm2, xm3, xm4, xm5, xm6, xm7, xm8, xm9, xm10, xm11, xm12, xm13, xm14]] w' fun e w'' => e = .returned (.bool false) ∧ Below w'.heap.size w' w'' from fun w' h => by
    rw [← HEM.out]; subst hxa0 hxa1 hxa2 hxa3 hxa4 hxa5 hxa6 hxa7 hxa8 hxa9 hxa10 hxa11 hxa12 hxa13 hxa14 hxb0 hxb1 hxb2 hxb3 hxb4 hxb5 hxb6 hxb7 hxb8 hxb9 hxb10 hxb11 hxb12 hxb13 hxb14 hxm0 hxm1 hxm2 hxm3 hxm4 hxm5 hxm6 hxm7 hxm8 hxm9 hxm10 hxm11 hxm12 hxm13 hxm14; exact qsame_any (HI.out w' h).1 (more a (some ⟨w2.heap.size, 0, none⟩)) w' (HI.out w' h).1 (HI.out w' h).2.2)
  have HFIN := hide (show ∀ w' : World, Below W4.heap.size W4 w' → Below w.heap.size w w' from fun w' h => bel2 (HOX.out w' h))
  generalize (Value.agg #[.int .i64 a.op, .string a.table, .int .i64 a.kind, .bool a.all, .int .i64 a.cond.op, .int .i64 a.cond.typ, .int .i64 a.cond.num, .string a.cond.text, .int .i64 a.cond.col, .slice a.cond.kh.ao a.cond.kids.length a.cond.kh.cap, .slice a.eh.ao a.exprs.length a.eh.cap, .slice a.ah.ao a.aggs.length a.ah.cap, .slice a.types.h.ao a.types.l.length a.types.h.cap, .slice a.rh.ao a.rows.length a.rh.cap, .slice a.qh.ao a.kids.length a.qh.cap]) = va
  generalize (Value.agg #[.int .i64 b.op, .string b.table, .int .i64 b.kind, .bool b.all, .int .i64 b.cond.op, .int .i64 b.cond.typ, .int .i64 b.cond.num, .string b.cond.text, .int .i64 b.cond.col, .slice b.cond.kh.ao b.cond.kids.length b.cond.kh.cap, .slice b.eh.ao b.exprs.length b.eh.cap, .slice b.ah.ao b.aggs.length b.ah.cap, .slice b.types.h.ao b.types.l.length b.types.h.cap, .slice b.rh.ao b.rows.length b.rh.cap, .slice b.qh.ao b.kids.length b.qh.cap]) = vb
  generalize (Value.agg #[.int .i64 9, .string ⟨#[]⟩, .int .i64 0, .bool false, .int .i64 0, .int .i64 0, .int .i64 0, .string ⟨#[]⟩, .int .i64 0, .slice none 0 0, .slice none 0 0, .slice none 0 0, .slice none 0 0, .slice none 0 0, .slice (some ⟨w2.heap.size, 0, none⟩) 1 1]) = vm
  clear HOX HOM HB1 HB2 HIA HIB hW4 HI HEM HEA HEC hxa0 hxa1 hxa2 hxa3 hxa4 hxa5 hxa6 hxa7 hxa8 hxa9 hxa10 hxa11 hxa12 hxa13 hxa14 hxb0 hxb1 hxb2 hxb3 hxb4 hxb5 hxb6 hxb7 hxb8 hxb9 hxb10 hxb11 hxb12 hxb13 hxb14 hxm0 hxm1 hxm2 hxm3 hxm4 hxm5 hxm6 hxm7 hxm8 hxm9 hxm10 hxm11 hxm12 hxm13 hxm14
  as_aux_lemma =>
    go_region_held3 (fun w' => Below W4.heap.size W4 w') ((first | exact (Below.refl _ _).drew | exact bel_trans (by assumption) (by assumption))) (first
      | (go_at_call 20; refine (HRB.out _ (by assumption)).mono ?_; rintro r y2 ⟨rfl, hk2⟩)
      | (go_at_call 19; first
          | (with_reducible refine (HAB.out _ (by assumption)).mono ?_; rintro r y1 ⟨rfl, hk1⟩)
          | (with_reducible refine (HAA.out _ (by assumption)).mono ?_; rintro r y3 ⟨rfl, hk3⟩)
          | (with_reducible refine (HAM.out _ (by assumption)).mono ?_; rintro r y4 ⟨rfl, hk4⟩)))
    go_wp2
    go_ret
    exact ⟨rfl, HFIN.out _ (by assumption)⟩

end Go.Proofs.Ytmnbhdhgjbgidaa

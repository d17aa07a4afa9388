/- law04.Few, and the walk of law04.AlgebraSame. -/
import Derived.Test.YtmnbhdhgjbgidaaQSize
import Derived.Test.YtmnbhdhgjbgidaaQFew
import Derived.Test.YtmnbhdhgjbgidaaSameS
import Derived.Deep.RegionHeld3
import Derived.Deep.MidRow
namespace Go.Proofs.Ytmnbhdhgjbgidaa
open Go.RowKit

set_option maxRecDepth 100000 in
set_option maxHeartbeats 400000 in
theorem qFew_any (q : Qu) (w : World) (hin : q.In w) :
    Calls Try.prog 18 #[.agg #[.int .i64 q.op, .string q.table, .int .i64 q.kind, .bool q.all, .int .i64 q.cond.op, .int .i64 q.cond.typ, .int .i64 q.cond.num, .string q.cond.text, .int .i64 q.cond.col, .slice q.cond.kh.ao q.cond.kids.length q.cond.kh.cap, .slice q.eh.ao q.exprs.length q.eh.cap, .slice q.ah.ao q.aggs.length q.ah.cap, .slice q.types.h.ao q.types.l.length q.types.h.cap, .slice q.rh.ao q.rows.length q.rh.cap, .slice q.qh.ao q.kids.length q.qh.cap]] w fun r w' => BoolPost (wrap64 (q.size : Int) ≤ 1000) r ∧ Below w.heap.size w w' := by
  have H1 := hide (hin.mono (belA (.cells #[.int .i64 q.op, .string q.table, .int .i64 q.kind, .bool q.all, .int .i64 q.cond.op, .int .i64 q.cond.typ, .int .i64 q.cond.num, .string q.cond.text, .int .i64 q.cond.col, .slice q.cond.kh.ao q.cond.kids.length q.cond.kh.cap, .slice q.eh.ao q.exprs.length q.eh.cap, .slice q.ah.ao q.aggs.length q.ah.cap, .slice q.types.h.ao q.types.l.length q.types.h.cap, .slice q.rh.ao q.rows.length q.rh.cap, .slice q.qh.ao q.kids.length q.qh.cap] 46)))
  go_enter Try.func18, Try.ntmps18
  go_wp2_with (first | (go_at_call 38; refine (qfew_any hin _ _ H1.out (by omega) (by omega)).mono ?_; rintro r w1 ⟨⟨b, rfl, -⟩, hb1⟩; have HB1 := hide hb1; obtain ⟨g1, _⟩ := bcell hb1; clear hb1; cases b) | (go_at_call 27; refine (rqsize_any hin _ (H1.out.mono HB1.out)).mono ?_; rintro r w2 ⟨rfl, hb2⟩; have HB2 := hide hb2; clear hb2))
  · go_ret
    exact ⟨bp_false, bel1 HB1.out⟩
  · go_ret
    exact ⟨⟨_, rfl, fun h => of_decide_eq_true h⟩, bel1 (bel_trans HB1.out HB2.out)⟩

theorem szQu : (Try.prog.info? 46).map (·.size) = some 15 := by kernel_rfl
/-! ### A query differs from one with an operator on it -/
mutual
def XQ.dep : XQ → Nat
  | ⟨_, _, _, _, _, _, _, _, _, kids⟩ => 1 + XQ.deps kids
def XQ.deps : List XQ → Nat
  | [] => 0
  | k :: r => max (XQ.dep k) (XQ.deps r)
end
theorem XQ.dep_one (x : XQ) {a b c d e f g h i} : x ≠ ⟨a, b, c, d, e, f, g, h, i, [x]⟩ := by
  intro hx
  have h1 := congrArg XQ.dep hx
  rw [XQ.dep] at h1
  simp only [XQ.deps] at h1
  omega
def noEx : Ex := ⟨0, 0, 0, ⟨#[]⟩, 0, nilHd, []⟩
/-- The query 'distinct' over a, its list of Kids at an address. -/
abbrev more (a : Qu) (ao : Option Addr) : Qu := ⟨9, ⟨#[]⟩, 0, false, noEx, nilHd, [], nilHd, [], ⟨nilHd, []⟩, nilHd, [], ⟨ao, 1⟩, [a]⟩
theorem more_ne (a : Qu) (ao : Option Addr) : a.er ≠ (more a ao).er := by
  rw [Qu.er_eq (more a ao)]
  exact XQ.dep_one _
theorem i64_0 : int64 0 := ⟨by decide, by decide⟩
theorem i64_9 : int64 9 := ⟨by decide, by decide⟩
theorem noEx_in (w : World) : noEx.In w :=
  Ex.In.mk noEx ⟨i64_0, i64_0, i64_0, Nat.zero_le _, i64_0⟩ (Row.nil _ _ _) (fun k (hk : k ∈ ([] : List Ex)) => absurd hk List.not_mem_nil)
theorem more_in {a : Qu} {w : World} {g : Nat} (ha : a.In w) (hg : ∀ (j : Nat) (v : Value), a.cells[j]? = some v → w.cell? ⟨g, j, none⟩ = some v) (hgs : g < w.heap.size) : (more a (some ⟨g, 0, none⟩)).In w := by
  refine Qu.In.mk (more a (some ⟨g, 0, none⟩)) ⟨i64_9, Nat.zero_le _, i64_0, noEx_in w, Row.nil _ _ _, fun k (hk : k ∈ ([] : List Ex)) => absurd hk List.not_mem_nil, Row.nil _ _ _, fun k (hk : k ∈ ([] : List Agg)) => absurd hk List.not_mem_nil, ⟨Row.nil _ _ _, fun k (hk : k ∈ ([] : List Int)) => absurd hk List.not_mem_nil⟩, Row.nil _ _ _, fun k (hk : k ∈ ([] : List VL)) => absurd hk List.not_mem_nil⟩ ?_ ?_
  · refine ⟨Nat.le_refl _, (by show 1 ≤ maxLen; unfold maxLen; omega), fun _ => ⟨rfl, hgs⟩, fun i hi j v hv => ?_⟩
    obtain rfl : i = 0 := by
      have : i < 1 := hi
      omega
    have := hg j v hv
    show w.cell? ⟨g, 0 + 0 * 15 + j, none⟩ = some v
    simpa using this
  · intro k hk
    have : k = a := List.mem_singleton.1 hk
    rw [this]; exact ha

set_option maxRecDepth 100000 in
set_option maxHeartbeats 2000000 in
theorem same_walk (a b : Qu) (w : World) (hia : a.In w) (hib : b.In w) :
    Calls Try.prog 4 #[.agg #[.int .i64 a.op, .string a.table, .int .i64 a.kind, .bool a.all, .int .i64 a.cond.op, .int .i64 a.cond.typ, .int .i64 a.cond.num, .string a.cond.text, .int .i64 a.cond.col, .slice a.cond.kh.ao a.cond.kids.length a.cond.kh.cap, .slice a.eh.ao a.exprs.length a.eh.cap, .slice a.ah.ao a.aggs.length a.ah.cap, .slice a.types.h.ao a.types.l.length a.types.h.cap, .slice a.rh.ao a.rows.length a.rh.cap, .slice a.qh.ao a.kids.length a.qh.cap], .agg #[.int .i64 b.op, .string b.table, .int .i64 b.kind, .bool b.all, .int .i64 b.cond.op, .int .i64 b.cond.typ, .int .i64 b.cond.num, .string b.cond.text, .int .i64 b.cond.col, .slice b.cond.kh.ao b.cond.kids.length b.cond.kh.cap, .slice b.eh.ao b.exprs.length b.eh.cap, .slice b.ah.ao b.aggs.length b.ah.cap, .slice b.types.h.ao b.types.l.length b.types.h.cap, .slice b.rh.ao b.rows.length b.rh.cap, .slice b.qh.ao b.kids.length b.qh.cap]] w fun e w' => e = .returned (.bool true) ∧ Below w.heap.size w w' := by
  have HIA := hide (hia.mono (belAA (.cells #[.int .i64 a.op, .string a.table, .int .i64 a.kind, .bool a.all, .int .i64 a.cond.op, .int .i64 a.cond.typ, .int .i64 a.cond.num, .string a.cond.text, .int .i64 a.cond.col, .slice a.cond.kh.ao a.cond.kids.length a.cond.kh.cap, .slice a.eh.ao a.exprs.length a.eh.cap, .slice a.ah.ao a.aggs.length a.ah.cap, .slice a.types.h.ao a.types.l.length a.types.h.cap, .slice a.rh.ao a.rows.length a.rh.cap, .slice a.qh.ao a.kids.length a.qh.cap] 46) (.cells #[.int .i64 b.op, .string b.table, .int .i64 b.kind, .bool b.all, .int .i64 b.cond.op, .int .i64 b.cond.typ, .int .i64 b.cond.num, .string b.cond.text, .int .i64 b.cond.col, .slice b.cond.kh.ao b.cond.kids.length b.cond.kh.cap, .slice b.eh.ao b.exprs.length b.eh.cap, .slice b.ah.ao b.aggs.length b.ah.cap, .slice b.types.h.ao b.types.l.length b.types.h.cap, .slice b.rh.ao b.rows.length b.rh.cap, .slice b.qh.ao b.kids.length b.qh.cap] 46)))
  have HIB := hide (hib.mono (belAA (.cells #[.int .i64 a.op, .string a.table, .int .i64 a.kind, .bool a.all, .int .i64 a.cond.op, .int .i64 a.cond.typ, .int .i64 a.cond.num, .string a.cond.text, .int .i64 a.cond.col, .slice a.cond.kh.ao a.cond.kids.length a.cond.kh.cap, .slice a.eh.ao a.exprs.length a.eh.cap, .slice a.ah.ao a.aggs.length a.ah.cap, .slice a.types.h.ao a.types.l.length a.types.h.cap, .slice a.rh.ao a.rows.length a.rh.cap, .slice a.qh.ao a.kids.length a.qh.cap] 46) (.cells #[.int .i64 b.op, .string b.table, .int .i64 b.kind, .bool b.all, .int .i64 b.cond.op, .int .i64 b.cond.typ, .int .i64 b.cond.num, .string b.cond.text, .int .i64 b.cond.col, .slice b.cond.kh.ao b.cond.kids.length b.cond.kh.cap, .slice b.eh.ao b.exprs.length b.eh.cap, .slice b.ah.ao b.aggs.length b.ah.cap, .slice b.types.h.ao b.types.l.length b.types.h.cap, .slice b.rh.ao b.rows.length b.rh.cap, .slice b.qh.ao b.kids.length b.qh.cap] 46)))
  go_enter Try.func4, Try.ntmps4
  go_wp2_with (go_at_call 18; first
    | (refine (qFew_any b _ (HIB.out.mono HB1.out)).mono ?_; rintro r w2 ⟨⟨c, rfl, -⟩, hb2⟩; have HB2 := hide (bel_trans HB1.out hb2); obtain ⟨g2, _⟩ := bcell HB2.out; have hs2 := HB2.out.size; clear hb2 g1 hs1; cases c)
    | (refine (qFew_any a _ HIA.out).mono ?_; rintro r w1 ⟨⟨c, rfl, -⟩, hb1⟩; have HB1 := hide hb1; obtain ⟨g1, _⟩ := bcell hb1; have hs1 := hb1.size; clear hb1; cases c))
  · go_ret
    exact ⟨rfl, bel2 HB1.out⟩
  · go_ret
    exact ⟨rfl, bel2 HB2.out⟩
  generalize hW4 : (w2.alloc (.cells #[.int .i64 a.op, .string a.table, .int .i64 a.kind, .bool a.all, .int .i64 a.cond.op, .int .i64 a.cond.typ, .int .i64 a.cond.num, .string a.cond.text, .int .i64 a.cond.col, .slice a.cond.kh.ao a.cond.kids.length a.cond.kh.cap, .slice a.eh.ao a.exprs.length a.eh.cap, .slice a.ah.ao a.aggs.length a.ah.cap, .slice a.types.h.ao a.types.l.length a.types.h.cap, .slice a.rh.ao a.rows.length a.rh.cap, .slice a.qh.ao a.kids.length a.qh.cap] 46)).alloc (.cells #[.int .i64 9, .string ⟨#[]⟩, .int .i64 0, .bool false, .int .i64 0, .int .i64 0, .int .i64 0, .string ⟨#[]⟩, .int .i64 0, .slice none 0 0, .slice none 0 0, .slice none 0 0, .slice none 0 0, .slice none 0 0, .slice (some ⟨w2.heap.size, 0, none⟩) 1 1] 46) = W4
  have HOX := hide (show ∀ w' : World, Below W4.heap.size W4 w' → Below ((w.alloc (.cells #[.int .i64 a.op, .string a.table, .int .i64 a.kind, .bool a.all, .int .i64 a.cond.op, .int .i64 a.cond.typ, .int .i64 a.cond.num, .string a.cond.text, .int .i64 a.cond.col, .slice a.cond.kh.ao a.cond.kids.length a.cond.kh.cap, .slice a.eh.ao a.exprs.length a.eh.cap, .slice a.ah.ao a.aggs.length a.ah.cap, .slice a.types.h.ao a.types.l.length a.types.h.cap, .slice a.rh.ao a.rows.length a.rh.cap, .slice a.qh.ao a.kids.length a.qh.cap] 46)).alloc (.cells #[.int .i64 b.op, .string b.table, .int .i64 b.kind, .bool b.all, .int .i64 b.cond.op, .int .i64 b.cond.typ, .int .i64 b.cond.num, .string b.cond.text, .int .i64 b.cond.col, .slice b.cond.kh.ao b.cond.kids.length b.cond.kh.cap, .slice b.eh.ao b.exprs.length b.eh.cap, .slice b.ah.ao b.aggs.length b.ah.cap, .slice b.types.h.ao b.types.l.length b.types.h.cap, .slice b.rh.ao b.rows.length b.rh.cap, .slice b.qh.ao b.kids.length b.qh.cap] 46)).heap.size ((w.alloc (.cells #[.int .i64 a.op, .string a.table, .int .i64 a.kind, .bool a.all, .int .i64 a.cond.op, .int .i64 a.cond.typ, .int .i64 a.cond.num, .string a.cond.text, .int .i64 a.cond.col, .slice a.cond.kh.ao a.cond.kids.length a.cond.kh.cap, .slice a.eh.ao a.exprs.length a.eh.cap, .slice a.ah.ao a.aggs.length a.ah.cap, .slice a.types.h.ao a.types.l.length a.types.h.cap, .slice a.rh.ao a.rows.length a.rh.cap, .slice a.qh.ao a.kids.length a.qh.cap] 46)).alloc (.cells #[.int .i64 b.op, .string b.table, .int .i64 b.kind, .bool b.all, .int .i64 b.cond.op, .int .i64 b.cond.typ, .int .i64 b.cond.num, .string b.cond.text, .int .i64 b.cond.col, .slice b.cond.kh.ao b.cond.kids.length b.cond.kh.cap, .slice b.eh.ao b.exprs.length b.eh.cap, .slice b.ah.ao b.aggs.length b.ah.cap, .slice b.types.h.ao b.types.l.length b.types.h.cap, .slice b.rh.ao b.rows.length b.rh.cap, .slice b.qh.ao b.kids.length b.qh.cap] 46)) w' from fun w' h => bel_trans HB2.out (bel_trans (hW4 ▸ belAA _ _) h))
  have HOM := hide (show ∀ w' : World, Below W4.heap.size W4 w' → Below ((w2.alloc (.cells #[.int .i64 a.op, .string a.table, .int .i64 a.kind, .bool a.all, .int .i64 a.cond.op, .int .i64 a.cond.typ, .int .i64 a.cond.num, .string a.cond.text, .int .i64 a.cond.col, .slice a.cond.kh.ao a.cond.kids.length a.cond.kh.cap, .slice a.eh.ao a.exprs.length a.eh.cap, .slice a.ah.ao a.aggs.length a.ah.cap, .slice a.types.h.ao a.types.l.length a.types.h.cap, .slice a.rh.ao a.rows.length a.rh.cap, .slice a.qh.ao a.kids.length a.qh.cap] 46)).alloc (.cells #[.int .i64 9, .string ⟨#[]⟩, .int .i64 0, .bool false, .int .i64 0, .int .i64 0, .int .i64 0, .string ⟨#[]⟩, .int .i64 0, .slice none 0 0, .slice none 0 0, .slice none 0 0, .slice none 0 0, .slice none 0 0, .slice (some ⟨w2.heap.size, 0, none⟩) 1 1] 46)).heap.size ((w2.alloc (.cells #[.int .i64 a.op, .string a.table, .int .i64 a.kind, .bool a.all, .int .i64 a.cond.op, .int .i64 a.cond.typ, .int .i64 a.cond.num, .string a.cond.text, .int .i64 a.cond.col, .slice a.cond.kh.ao a.cond.kids.length a.cond.kh.cap, .slice a.eh.ao a.exprs.length a.eh.cap, .slice a.ah.ao a.aggs.length a.ah.cap, .slice a.types.h.ao a.types.l.length a.types.h.cap, .slice a.rh.ao a.rows.length a.rh.cap, .slice a.qh.ao a.kids.length a.qh.cap] 46)).alloc (.cells #[.int .i64 9, .string ⟨#[]⟩, .int .i64 0, .bool false, .int .i64 0, .int .i64 0, .int .i64 0, .string ⟨#[]⟩, .int .i64 0, .slice none 0 0, .slice none 0 0, .slice none 0 0, .slice none 0 0, .slice none 0 0, .slice (some ⟨w2.heap.size, 0, none⟩) 1 1] 46)) w' from fun w' h => hW4 ▸ h)
  have HI := hide (show ∀ w' : World, Below W4.heap.size W4 w' → a.In w' ∧ b.In w' ∧ (more a (some ⟨w2.heap.size, 0, none⟩)).In w' from fun w' h => ⟨HIA.out.mono (HOX.out w' h), HIB.out.mono (HOX.out w' h), more_in (HIA.out.mono (HOX.out w' h)) (fun j v hv => box2a (HOM.out w' h) (show (#[.int .i64 a.op, .string a.table, .int .i64 a.kind, .bool a.all, .int .i64 a.cond.op, .int .i64 a.cond.typ, .int .i64 a.cond.num, .string a.cond.text, .int .i64 a.cond.col, .slice a.cond.kh.ao a.cond.kids.length a.cond.kh.cap, .slice a.eh.ao a.exprs.length a.eh.cap, .slice a.ah.ao a.aggs.length a.ah.cap, .slice a.types.h.ao a.types.l.length a.types.h.cap, .slice a.rh.ao a.rows.length a.rh.cap, .slice a.qh.ao a.kids.length a.qh.cap] : Array Value)[j]? = some v by simpa using (show ([.int .i64 a.op, .string a.table, .int .i64 a.kind, .bool a.all, .int .i64 a.cond.op, .int .i64 a.cond.typ, .int .i64 a.cond.num, .string a.cond.text, .int .i64 a.cond.col, .slice a.cond.kh.ao a.cond.kids.length a.cond.kh.cap, .slice a.eh.ao a.exprs.length a.eh.cap, .slice a.ah.ao a.aggs.length a.ah.cap, .slice a.types.h.ao a.types.l.length a.types.h.cap, .slice a.rh.ao a.rows.length a.rh.cap, .slice a.qh.ao a.kids.length a.qh.cap] : List Value)[j]? = some v from hv))) (by have := (HOM.out w' h).size; simp at this; omega)⟩)
  have HEM := hide (eqb_no (more_ne a (some ⟨w2.heap.size, 0, none⟩)))
  have HEA := hide (eqb_yes (rfl : a.er = a.er))
  obtain ⟨c, hc⟩ : ∃ c, eqb a.er b.er = c := ⟨_, rfl⟩
  have HEC := hide hc
  clear hc g2 hs2
  have hcc : (c == c) = true := by simp
  obtain ⟨va, hva⟩ : ∃ v : Value, v = .agg #[.int .i64 a.op, .string a.table, .int .i64 a.kind, .bool a.all, .int .i64 a.cond.op, .int .i64 a.cond.typ, .int .i64 a.cond.num, .string a.cond.text, .int .i64 a.cond.col, .slice a.cond.kh.ao a.cond.kids.length a.cond.kh.cap, .slice a.eh.ao a.exprs.length a.eh.cap, .slice a.ah.ao a.aggs.length a.ah.cap, .slice a.types.h.ao a.types.l.length a.types.h.cap, .slice a.rh.ao a.rows.length a.rh.cap, .slice a.qh.ao a.kids.length a.qh.cap] := ⟨_, rfl⟩
  obtain ⟨vb, hvb⟩ : ∃ v : Value, v = .agg #[.int .i64 b.op, .string b.table, .int .i64 b.kind, .bool b.all, .int .i64 b.cond.op, .int .i64 b.cond.typ, .int .i64 b.cond.num, .string b.cond.text, .int .i64 b.cond.col, .slice b.cond.kh.ao b.cond.kids.length b.cond.kh.cap, .slice b.eh.ao b.exprs.length b.eh.cap, .slice b.ah.ao b.aggs.length b.ah.cap, .slice b.types.h.ao b.types.l.length b.types.h.cap, .slice b.rh.ao b.rows.length b.rh.cap, .slice b.qh.ao b.kids.length b.qh.cap] := ⟨_, rfl⟩
  obtain ⟨vm, hvm⟩ : ∃ v : Value, v = .agg #[.int .i64 9, .string ⟨#[]⟩, .int .i64 0, .bool false, .int .i64 0, .int .i64 0, .int .i64 0, .string ⟨#[]⟩, .int .i64 0, .slice none 0 0, .slice none 0 0, .slice none 0 0, .slice none 0 0, .slice none 0 0, .slice (some ⟨w2.heap.size, 0, none⟩) 1 1] := ⟨_, rfl⟩
  have hla : ∀ w' : World, Below W4.heap.size W4 w' → (Instr.loadAt 46 (.pointer (some ⟨w.heap.size, 0, none⟩))).run Try.prog w' = .ok va w' := fun w' h => by
    subst hva
    exact run_loadAt_mid w' _ 0 _ [.int .i64 a.op, .string a.table, .int .i64 a.kind, .bool a.all, .int .i64 a.cond.op, .int .i64 a.cond.typ, .int .i64 a.cond.num, .string a.cond.text, .int .i64 a.cond.col, .slice a.cond.kh.ao a.cond.kids.length a.cond.kh.cap, .slice a.eh.ao a.exprs.length a.eh.cap, .slice a.ah.ao a.aggs.length a.ah.cap, .slice a.types.h.ao a.types.l.length a.types.h.cap, .slice a.rh.ao a.rows.length a.rh.cap, .slice a.qh.ao a.kids.length a.qh.cap] _ (fun j v hv => by rw [Nat.zero_add]; exact box2a (HOX.out w' h) (show (#[.int .i64 a.op, .string a.table, .int .i64 a.kind, .bool a.all, .int .i64 a.cond.op, .int .i64 a.cond.typ, .int .i64 a.cond.num, .string a.cond.text, .int .i64 a.cond.col, .slice a.cond.kh.ao a.cond.kids.length a.cond.kh.cap, .slice a.eh.ao a.exprs.length a.eh.cap, .slice a.ah.ao a.aggs.length a.ah.cap, .slice a.types.h.ao a.types.l.length a.types.h.cap, .slice a.rh.ao a.rows.length a.rh.cap, .slice a.qh.ao a.kids.length a.qh.cap] : Array Value)[j]? = some v by simpa using hv)) Try.underlying46 rfl szQu
  simp [go_sem] at hla
  have hlb : ∀ w' : World, Below W4.heap.size W4 w' → (Instr.loadAt 46 (.pointer (some ⟨w.heap.size + 1, 0, none⟩))).run Try.prog w' = .ok vb w' := fun w' h => by
    subst hvb
    exact run_loadAt_mid w' _ 0 _ [.int .i64 b.op, .string b.table, .int .i64 b.kind, .bool b.all, .int .i64 b.cond.op, .int .i64 b.cond.typ, .int .i64 b.cond.num, .string b.cond.text, .int .i64 b.cond.col, .slice b.cond.kh.ao b.cond.kids.length b.cond.kh.cap, .slice b.eh.ao b.exprs.length b.eh.cap, .slice b.ah.ao b.aggs.length b.ah.cap, .slice b.types.h.ao b.types.l.length b.types.h.cap, .slice b.rh.ao b.rows.length b.rh.cap, .slice b.qh.ao b.kids.length b.qh.cap] _ (fun j v hv => by rw [Nat.zero_add]; exact box2b (HOX.out w' h) (show (#[.int .i64 b.op, .string b.table, .int .i64 b.kind, .bool b.all, .int .i64 b.cond.op, .int .i64 b.cond.typ, .int .i64 b.cond.num, .string b.cond.text, .int .i64 b.cond.col, .slice b.cond.kh.ao b.cond.kids.length b.cond.kh.cap, .slice b.eh.ao b.exprs.length b.eh.cap, .slice b.ah.ao b.aggs.length b.ah.cap, .slice b.types.h.ao b.types.l.length b.types.h.cap, .slice b.rh.ao b.rows.length b.rh.cap, .slice b.qh.ao b.kids.length b.qh.cap] : Array Value)[j]? = some v by simpa using hv)) Try.underlying46 rfl szQu
  simp [go_sem] at hlb
  have hlm : ∀ w' : World, Below W4.heap.size W4 w' → (Instr.loadAt 46 (.pointer (some ⟨w2.heap.size + 1, 0, none⟩))).run Try.prog w' = .ok vm w' := fun w' h => by
    subst hvm
    exact run_loadAt_mid w' _ 0 _ [.int .i64 9, .string ⟨#[]⟩, .int .i64 0, .bool false, .int .i64 0, .int .i64 0, .int .i64 0, .string ⟨#[]⟩, .int .i64 0, .slice none 0 0, .slice none 0 0, .slice none 0 0, .slice none 0 0, .slice none 0 0, .slice (some ⟨w2.heap.size, 0, none⟩) 1 1] _ (fun j v hv => by rw [Nat.zero_add]; exact box2b (HOM.out w' h) (show (#[.int .i64 9, .string ⟨#[]⟩, .int .i64 0, .bool false, .int .i64 0, .int .i64 0, .int .i64 0, .string ⟨#[]⟩, .int .i64 0, .slice none 0 0, .slice none 0 0, .slice none 0 0, .slice none 0 0, .slice none 0 0, .slice (some ⟨w2.heap.size, 0, none⟩) 1 1] : Array Value)[j]? = some v by simpa using hv)) Try.underlying46 rfl szQu
  simp [go_sem] at hlm
  have HAB := hide (show ∀ w' : World, Below W4.heap.size W4 w' → Calls Try.prog 19 #[va, vb] w' fun e w'' => e = .returned (.bool c) ∧ Below w'.heap.size w' w'' from fun w' h => by
    rw [← HEC.out]; subst hva hvb hvm; exact qsame_any (HI.out w' h).1 b w' (HI.out w' h).1 (HI.out w' h).2.1)
  have HRB := hide (show ∀ w' : World, Below W4.heap.size W4 w' → Calls Try.prog 20 #[va, vb] w' fun e w'' => e = .returned (.bool c) ∧ Below w'.heap.size w' w'' from fun w' h => by
    rw [← HEC.out]; subst hva hvb hvm; exact rqsame_any (HI.out w' h).1 b w' (HI.out w' h).1 (HI.out w' h).2.1)
  have HAA := hide (show ∀ w' : World, Below W4.heap.size W4 w' → Calls Try.prog 19 #[va, va] w' fun e w'' => e = .returned (.bool true) ∧ Below w'.heap.size w' w'' from fun w' h => by
    rw [← HEA.out]; subst hva hvb hvm; exact qsame_any (HI.out w' h).1 a w' (HI.out w' h).1 (HI.out w' h).1)
  have HAM := hide (show ∀ w' : World, Below W4.heap.size W4 w' → Calls Try.prog 19 #[va, vm] w' fun e w'' => e = .returned (.bool false) ∧ Below w'.heap.size w' w'' from fun w' h => by
    rw [← HEM.out]; subst hva hvb hvm; exact qsame_any (HI.out w' h).1 (more a (some ⟨w2.heap.size, 0, none⟩)) w' (HI.out w' h).1 (HI.out w' h).2.2)
  have HFIN := hide (show ∀ w' : World, Below W4.heap.size W4 w' → Below w.heap.size w w' from fun w' h => bel2 (HOX.out w' h))
  clear HOX HOM HB1 HB2 HIA HIB hW4 HI HEM HEA HEC hva hvb hvm
  as_aux_lemma =>
    go_region_held3 (fun w' => Below W4.heap.size W4 w') ((first | exact (Below.refl _ _).drew | exact bel_trans (by assumption) (by assumption))) (first
      | (go_at_call 20; refine (HRB.out _ (by assumption)).mono ?_; rintro r y2 ⟨rfl, hk2⟩)
      | (go_at_call 19; first
          | (with_reducible refine (HAB.out _ (by assumption)).mono ?_; rintro r y1 ⟨rfl, hk1⟩)
          | (with_reducible refine (HAA.out _ (by assumption)).mono ?_; rintro r y3 ⟨rfl, hk3⟩)
          | (with_reducible refine (HAM.out _ (by assumption)).mono ?_; rintro r y4 ⟨rfl, hk4⟩)))
    go_wp2
    go_ret
    exact ⟨rfl, HFIN.out _ (by assumption)⟩

end Go.Proofs.Ytmnbhdhgjbgidaa

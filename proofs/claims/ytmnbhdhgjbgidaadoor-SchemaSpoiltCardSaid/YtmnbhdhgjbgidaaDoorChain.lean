/- algebra.typ at a scan of t0, and at operators 'distinct' one on another. -/
import Derived.Test.YtmnbhdhgjbgidaaDoorClean
import Derived.Test.YtmnbhdhgjbgidaaDoorForm
import Derived.Test.YtmnbhdhgjbgidaaDoorDep
import Derived.Test.YtmnbhdhgjbgidaaDoorTypes
namespace Go.Proofs.YtmnbhdhgjbgidaaDoor
open Go.RowKit

abbrev scanQ : Qu := ⟨1, ⟨#[116, 48]⟩, 0, false, noEx, nilHd, [], nilHd, [], ⟨nilHd, []⟩, nilHd, [], nilHd, []⟩
/-- The query 'distinct' over x, its list of Kids in block g. -/
abbrev more (x : Qu) (g : Nat) : Qu := ⟨9, ⟨#[]⟩, 0, false, noEx, nilHd, [], nilHd, [], ⟨nilHd, []⟩, nilHd, [], ⟨some ⟨g, 0, none⟩, 1⟩, [x]⟩
inductive Chain : Nat → Qu → Prop where
  | zero : Chain 0 scanQ
  | succ {j : Nat} {x : Qu} {g : Nat} : Chain j x → Chain (j + 1) (more x g)
theorem chain_wt {j : Nat} {q : Qu} (h : Chain j q) : q.wt = j + 1 := by
  induction h with
  | zero => simp [Qu.wt_eq, Qu.wts]
  | succ h ih => rw [Qu.wt_eq]; simp [Qu.wts, ih]; omega
theorem chain_dep {j : Nat} {q : Qu} (h : Chain j q) : q.dep = j + 1 := by
  induction h with
  | zero => simp [Qu.dep_eq, Qu.deps]
  | succ h ih => rw [Qu.dep_eq]; simp [Qu.deps, ih]
theorem chain_size {j : Nat} {q : Qu} (h : Chain j q) : q.size = j + 1 := by
  induction h with
  | zero => simp [Qu.size_eq, Qu.csz, Qu.esz, Qu.asz, Qu.sizes]
  | succ h ih => rw [Qu.size_eq]; simp [Qu.csz, Qu.esz, Qu.asz, Qu.sizes, ih]; omega

theorem clean_scan : cleanB scanQ ⟨#[116, 97, 98, 108, 101]⟩ = true := by
  have h1 : inUses ⟨#[116, 97, 98, 108, 101]⟩ [116, 97, 98, 108, 101] = true := by unfold inUses; decide
  simp [cleanB, flds, fnames, used, uT, h1, eqb_yes]
theorem clean_more (x : Qu) (g : Nat) (fu : ByteArray) : cleanB (more x g) fu = true := by
  simp [cleanB, flds, fnames, used, uT, eqb_yes]

theorem formOf_scan (w : World) (hf : FormsAt w) : Calls Tryd.prog 60 #[.int .i64 1] w fun e w' => e = .returned (.tuple #[.agg #[.string ⟨#[115, 99, 97, 110]⟩, .int .i64 0, .string ⟨#[116, 97, 98, 108, 101]⟩], .bool true]) ∧ Below w.heap.size w w' := formOf_hit 1 (by decide) (by decide) w hf
theorem formOf_dist (w : World) (hf : FormsAt w) : Calls Tryd.prog 60 #[.int .i64 9] w fun e w' => e = .returned (.tuple #[.agg #[.string ⟨#[100, 105, 115, 116, 105, 110, 99, 116]⟩, .int .i64 1, .string ⟨#[]⟩], .bool true]) ∧ Below w.heap.size w w' := formOf_hit 9 (by decide) (by decide) w hf
/-- The first table of the name t0: its columns' types. -/
def t0cols (s : Sch) (cs : List Int) : Prop := ∃ (k : Nat) (hk : k < s.tabs.length), fok (named ⟨#[116, 48]⟩) s.tabs = true ∧ fi (named ⟨#[116, 48]⟩) s.tabs = k ∧ cs = s.tabs[k].cols.map Col.typ ∧ s.tabs[k].cols.length ≤ 100

set_option maxRecDepth 100000 in
set_option maxHeartbeats 4000000 in
theorem typ_scan (s : Sch) (cs : List Int) (ht : t0cols s cs) (w : World) (hs : s.In w) (hq : scanQ.In w) (hf : FormsAt w) (hsh : w.ShapedOpen Tryd.prog) :
    Calls Tryd.prog 37 #[.agg #[.slice s.th.ao s.tabs.length s.th.cap], .agg #[.int .i64 1, .string ⟨#[116, 48]⟩, .int .i64 0, .bool false, .int .i64 0, .int .i64 0, .int .i64 0, .string ⟨#[]⟩, .int .i64 0, .slice none 0 0, .slice none 0 0, .slice none 0 0, .slice none 0 0, .slice none 0 0, .slice none 0 0]] w fun e w' => (∃ r : IL, e = .returned (.tuple #[.slice r.h.ao r.l.length r.h.cap, .int .i64 0]) ∧ r.l = cs ∧ r.In w') ∧ Below w.heap.size w w' := by
  obtain ⟨k, hk, hfo, hfi, hcs, hcl⟩ := ht
  have HB0 := hide (belAA (w := w) (.cells #[.slice s.th.ao s.tabs.length s.th.cap] 28) (.cells #[.int .i64 1, .string ⟨#[116, 48]⟩, .int .i64 0, .bool false, .int .i64 0, .int .i64 0, .int .i64 0, .string ⟨#[]⟩, .int .i64 0, .slice none 0 0, .slice none 0 0, .slice none 0 0, .slice none 0 0, .slice none 0 0, .slice none 0 0] 57))
  have HX := hide (show ∀ w' : World, Below ((w.alloc (.cells #[.slice s.th.ao s.tabs.length s.th.cap] 28)).alloc (.cells #[.int .i64 1, .string ⟨#[116, 48]⟩, .int .i64 0, .bool false, .int .i64 0, .int .i64 0, .int .i64 0, .string ⟨#[]⟩, .int .i64 0, .slice none 0 0, .slice none 0 0, .slice none 0 0, .slice none 0 0, .slice none 0 0, .slice none 0 0] 57)).heap.size ((w.alloc (.cells #[.slice s.th.ao s.tabs.length s.th.cap] 28)).alloc (.cells #[.int .i64 1, .string ⟨#[116, 48]⟩, .int .i64 0, .bool false, .int .i64 0, .int .i64 0, .int .i64 0, .string ⟨#[]⟩, .int .i64 0, .slice none 0 0, .slice none 0 0, .slice none 0 0, .slice none 0 0, .slice none 0 0, .slice none 0 0] 57)) w' → ∀ (j : Nat) (v : Value), (#[.slice s.th.ao s.tabs.length s.th.cap] : Array Value)[j]? = some v → w'.cell? ⟨w.heap.size, j, none⟩ = some v from fun w' h j v hv => boxA h hv)
  have HY := hide (show ∀ w' : World, Below ((w.alloc (.cells #[.slice s.th.ao s.tabs.length s.th.cap] 28)).alloc (.cells #[.int .i64 1, .string ⟨#[116, 48]⟩, .int .i64 0, .bool false, .int .i64 0, .int .i64 0, .int .i64 0, .string ⟨#[]⟩, .int .i64 0, .slice none 0 0, .slice none 0 0, .slice none 0 0, .slice none 0 0, .slice none 0 0, .slice none 0 0] 57)).heap.size ((w.alloc (.cells #[.slice s.th.ao s.tabs.length s.th.cap] 28)).alloc (.cells #[.int .i64 1, .string ⟨#[116, 48]⟩, .int .i64 0, .bool false, .int .i64 0, .int .i64 0, .int .i64 0, .string ⟨#[]⟩, .int .i64 0, .slice none 0 0, .slice none 0 0, .slice none 0 0, .slice none 0 0, .slice none 0 0, .slice none 0 0] 57)) w' → ∀ (j : Nat) (v : Value), (#[.int .i64 1, .string ⟨#[116, 48]⟩, .int .i64 0, .bool false, .int .i64 0, .int .i64 0, .int .i64 0, .string ⟨#[]⟩, .int .i64 0, .slice none 0 0, .slice none 0 0, .slice none 0 0, .slice none 0 0, .slice none 0 0, .slice none 0 0] : Array Value)[j]? = some v → w'.cell? ⟨w.heap.size + 1, j, none⟩ = some v from fun w' h j v hv => boxB h hv)
  have hn := hs.rt.len
  have HS := hide (hs.mono HB0.out)
  have HQ := hide (hq.mono HB0.out)
  have HF := hide (hf.mono HB0.out)
  have HSH := hide (hsh.keptBut (HB0.out.frame (fun _ => False)) (by simp))
  have HFO := hide hfo
  have HFI := hide hfi
  have HCS := hide hcs
  clear hs hq hf hsh hfo hfi hcs
  go_enter Tryd.func37, Tryd.ntmps37
  go_wp2
  go_loopw [6, 20] (fun v i wr => v = .slice none 0 0 ∧ i = .int .i64 0 ∧ wr = (w.alloc (.cells #[.slice s.th.ao s.tabs.length s.th.cap] 28)).alloc (.cells #[.int .i64 1, .string ⟨#[116, 48]⟩, .int .i64 0, .bool false, .int .i64 0, .int .i64 0, .int .i64 0, .string ⟨#[]⟩, .int .i64 0, .slice none 0 0, .slice none 0 0, .slice none 0 0, .slice none 0 0, .slice none 0 0, .slice none 0 0] 57)) (fun _ _ _ => 0)
  case atStart => exact ⟨rfl, rfl, rfl⟩
  case round =>
    obtain ⟨rfl, rfl, hw⟩ := hrel
    subst hw
    generalize (w.alloc (.cells #[.slice s.th.ao s.tabs.length s.th.cap] 28)).alloc (.cells #[.int .i64 1, .string ⟨#[116, 48]⟩, .int .i64 0, .bool false, .int .i64 0, .int .i64 0, .int .i64 0, .string ⟨#[]⟩, .int .i64 0, .slice none 0 0, .slice none 0 0, .slice none 0 0, .slice none 0 0, .slice none 0 0, .slice none 0 0] 57) = W at *
    have y0 := HY.out W (Below.refl _ _) 0 _ rfl
    go_wp2_with (first
      | (go_at_call 60; refine (formOf_scan _ HF.out).mono ?_; rintro e w1 ⟨rfl, hb1⟩; have HB1 := hide (bel_trans hb1 (belA (.cells #[.string ⟨#[115, 99, 97, 110]⟩, .int .i64 0, .string ⟨#[116, 97, 98, 108, 101]⟩] 103))); clear y0; have z0 := HY.out (w1.alloc (.cells #[.string ⟨#[115, 99, 97, 110]⟩, .int .i64 0, .string ⟨#[116, 97, 98, 108, 101]⟩] 103)) HB1.out 0 _ rfl; have z1 := HY.out (w1.alloc (.cells #[.string ⟨#[115, 99, 97, 110]⟩, .int .i64 0, .string ⟨#[116, 97, 98, 108, 101]⟩] 103)) HB1.out 1 _ rfl; have z2 := HY.out (w1.alloc (.cells #[.string ⟨#[115, 99, 97, 110]⟩, .int .i64 0, .string ⟨#[116, 97, 98, 108, 101]⟩] 103)) HB1.out 2 _ rfl; have z3 := HY.out (w1.alloc (.cells #[.string ⟨#[115, 99, 97, 110]⟩, .int .i64 0, .string ⟨#[116, 97, 98, 108, 101]⟩] 103)) HB1.out 3 _ rfl; have z4 := HY.out (w1.alloc (.cells #[.string ⟨#[115, 99, 97, 110]⟩, .int .i64 0, .string ⟨#[116, 97, 98, 108, 101]⟩] 103)) HB1.out 4 _ rfl; have z5 := HY.out (w1.alloc (.cells #[.string ⟨#[115, 99, 97, 110]⟩, .int .i64 0, .string ⟨#[116, 97, 98, 108, 101]⟩] 103)) HB1.out 5 _ rfl; have z6 := HY.out (w1.alloc (.cells #[.string ⟨#[115, 99, 97, 110]⟩, .int .i64 0, .string ⟨#[116, 97, 98, 108, 101]⟩] 103)) HB1.out 6 _ rfl; have z7 := HY.out (w1.alloc (.cells #[.string ⟨#[115, 99, 97, 110]⟩, .int .i64 0, .string ⟨#[116, 97, 98, 108, 101]⟩] 103)) HB1.out 7 _ rfl; have z8 := HY.out (w1.alloc (.cells #[.string ⟨#[115, 99, 97, 110]⟩, .int .i64 0, .string ⟨#[116, 97, 98, 108, 101]⟩] 103)) HB1.out 8 _ rfl; have z9 := HY.out (w1.alloc (.cells #[.string ⟨#[115, 99, 97, 110]⟩, .int .i64 0, .string ⟨#[116, 97, 98, 108, 101]⟩] 103)) HB1.out 9 _ rfl; have z10 := HY.out (w1.alloc (.cells #[.string ⟨#[115, 99, 97, 110]⟩, .int .i64 0, .string ⟨#[116, 97, 98, 108, 101]⟩] 103)) HB1.out 10 _ rfl; have z11 := HY.out (w1.alloc (.cells #[.string ⟨#[115, 99, 97, 110]⟩, .int .i64 0, .string ⟨#[116, 97, 98, 108, 101]⟩] 103)) HB1.out 11 _ rfl; have z12 := HY.out (w1.alloc (.cells #[.string ⟨#[115, 99, 97, 110]⟩, .int .i64 0, .string ⟨#[116, 97, 98, 108, 101]⟩] 103)) HB1.out 12 _ rfl; have z13 := HY.out (w1.alloc (.cells #[.string ⟨#[115, 99, 97, 110]⟩, .int .i64 0, .string ⟨#[116, 97, 98, 108, 101]⟩] 103)) HB1.out 13 _ rfl; have z14 := HY.out (w1.alloc (.cells #[.string ⟨#[115, 99, 97, 110]⟩, .int .i64 0, .string ⟨#[116, 97, 98, 108, 101]⟩] 103)) HB1.out 14 _ rfl; clear hb1)
      | (go_at_call 61; refine (clean_any scanQ ⟨#[115, 99, 97, 110]⟩ ⟨#[116, 97, 98, 108, 101]⟩ 0 _ (HQ.out.mono HB1.out) (by decide) (HSH.out.keptBut (HB1.out.frame (fun _ => False)) (by simp))).mono ?_; rintro e w2 ⟨rfl, hb2⟩; rw [clean_scan]; have HB2 := hide (bel_trans HB1.out hb2); have q1 := box_cell hb2 (j := 1) rfl; clear z0 z1 z2 z3 z4 z5 z6 z7 z8 z9 z10 z11 z12 z13 z14; have v0 := HY.out w2 HB2.out 0 _ rfl; have v1 := HY.out w2 HB2.out 1 _ rfl; have x2 := HX.out w2 HB2.out 0 _ rfl; clear hb2)
      | (go_at_call 22; refine (find_any s _ _ (HS.out.mono HB2.out)).mono ?_; rintro e w3 ⟨rfl, hb3⟩; rw [HFO.out, HFI.out]; have HB3 := hide (bel_trans HB2.out hb3); clear hb3 q1 x2 v0 v1; have x3 := HX.out w3 HB3.out 0 _ rfl; have HS3 := hide (HS.out.mono HB3.out); have hix := HS3.out.rt.ix hk Tryd.underlying26 sz22; obtain ⟨c0, c1, c2, c3, c4, c5⟩ := tab_at HS3.out.rt hk; have hbk := HS3.out.rt.blk hk)
      | (go_at_call 50; refine (types_any s.tabs[k] _ (HS3.out.ts _ (List.getElem_mem hk)) hcl).mono ?_; rintro e w4 ⟨⟨r, rfl, hr, hri⟩, hb4⟩; have HR := hide hr; have HRI := hide hri; have HB4 := hide (bel_trans HB3.out hb4); clear hr hri hb4))
    go_ret2
    refine ⟨⟨r, rfl, ?_, HRI.out⟩, ?_⟩
    · rw [HR.out, HCS.out]
    · exact HB0.out.trans (HB4.out.mono HB0.out.size)

theorem info_il : (Tryd.prog.info? 22).map (fun i => (i.zero, i.size, i.bytes)) = some (some (.slice none 0 0), 1, 24) := by kernel_rfl
theorem szil : (Tryd.prog.info? 22).map (·.size) = some 1 := by kernel_rfl

set_option maxRecDepth 100000 in
set_option maxHeartbeats 4000000 in
theorem typ_more (s : Sch) (cs : List Int) (x : Qu) (g : Nat) (hIH : ∀ w : World, s.In w → x.In w → FormsAt w → w.ShapedOpen Tryd.prog → Calls Tryd.prog 37 #[.agg #[.slice s.th.ao s.tabs.length s.th.cap], .agg #[.int .i64 x.op, .string x.table, .int .i64 x.kind, .bool x.all, .int .i64 x.cond.op, .int .i64 x.cond.typ, .int .i64 x.cond.num, .string x.cond.text, .int .i64 x.cond.col, .slice x.cond.kh.ao x.cond.kids.length x.cond.kh.cap, .slice x.eh.ao x.exprs.length x.eh.cap, .slice x.ah.ao x.aggs.length x.ah.cap, .slice x.types.h.ao x.types.l.length x.types.h.cap, .slice x.rh.ao x.rows.length x.rh.cap, .slice x.qh.ao x.kids.length x.qh.cap]] w fun e w' => (∃ r : IL, e = .returned (.tuple #[.slice r.h.ao r.l.length r.h.cap, .int .i64 0]) ∧ r.l = cs ∧ r.In w') ∧ Below w.heap.size w w')
    (w : World) (hs : s.In w) (hq : (more x g).In w) (hf : FormsAt w) (hsh : w.ShapedOpen Tryd.prog) :
    Calls Tryd.prog 37 #[.agg #[.slice s.th.ao s.tabs.length s.th.cap], .agg #[.int .i64 9, .string ⟨#[]⟩, .int .i64 0, .bool false, .int .i64 0, .int .i64 0, .int .i64 0, .string ⟨#[]⟩, .int .i64 0, .slice none 0 0, .slice none 0 0, .slice none 0 0, .slice none 0 0, .slice none 0 0, .slice (some ⟨g, 0, none⟩) 1 1]] w fun e w' => (∃ r : IL, e = .returned (.tuple #[.slice r.h.ao r.l.length r.h.cap, .int .i64 0]) ∧ r.l = cs ∧ r.In w') ∧ Below w.heap.size w w' := by
  have IH := hide hIH
  clear hIH
  obtain ⟨i0, hi, hz0, hz1, hz2⟩ := info_parts info_il
  have HI := hide (And.intro hi (And.intro hz0 (And.intro hz1 hz2)))
  clear hi hz0 hz1 hz2
  have HB0 := hide (belAA (w := w) (.cells #[.slice s.th.ao s.tabs.length s.th.cap] 28) (.cells #[.int .i64 9, .string ⟨#[]⟩, .int .i64 0, .bool false, .int .i64 0, .int .i64 0, .int .i64 0, .string ⟨#[]⟩, .int .i64 0, .slice none 0 0, .slice none 0 0, .slice none 0 0, .slice none 0 0, .slice none 0 0, .slice (some ⟨g, 0, none⟩) 1 1] 57))
  have HX := hide (show ∀ w' : World, Below ((w.alloc (.cells #[.slice s.th.ao s.tabs.length s.th.cap] 28)).alloc (.cells #[.int .i64 9, .string ⟨#[]⟩, .int .i64 0, .bool false, .int .i64 0, .int .i64 0, .int .i64 0, .string ⟨#[]⟩, .int .i64 0, .slice none 0 0, .slice none 0 0, .slice none 0 0, .slice none 0 0, .slice none 0 0, .slice (some ⟨g, 0, none⟩) 1 1] 57)).heap.size ((w.alloc (.cells #[.slice s.th.ao s.tabs.length s.th.cap] 28)).alloc (.cells #[.int .i64 9, .string ⟨#[]⟩, .int .i64 0, .bool false, .int .i64 0, .int .i64 0, .int .i64 0, .string ⟨#[]⟩, .int .i64 0, .slice none 0 0, .slice none 0 0, .slice none 0 0, .slice none 0 0, .slice none 0 0, .slice (some ⟨g, 0, none⟩) 1 1] 57)) w' → ∀ (j : Nat) (v : Value), (#[.slice s.th.ao s.tabs.length s.th.cap] : Array Value)[j]? = some v → w'.cell? ⟨w.heap.size, j, none⟩ = some v from fun w' h j v hv => boxA h hv)
  have HY := hide (show ∀ w' : World, Below ((w.alloc (.cells #[.slice s.th.ao s.tabs.length s.th.cap] 28)).alloc (.cells #[.int .i64 9, .string ⟨#[]⟩, .int .i64 0, .bool false, .int .i64 0, .int .i64 0, .int .i64 0, .string ⟨#[]⟩, .int .i64 0, .slice none 0 0, .slice none 0 0, .slice none 0 0, .slice none 0 0, .slice none 0 0, .slice (some ⟨g, 0, none⟩) 1 1] 57)).heap.size ((w.alloc (.cells #[.slice s.th.ao s.tabs.length s.th.cap] 28)).alloc (.cells #[.int .i64 9, .string ⟨#[]⟩, .int .i64 0, .bool false, .int .i64 0, .int .i64 0, .int .i64 0, .string ⟨#[]⟩, .int .i64 0, .slice none 0 0, .slice none 0 0, .slice none 0 0, .slice none 0 0, .slice none 0 0, .slice (some ⟨g, 0, none⟩) 1 1] 57)) w' → ∀ (j : Nat) (v : Value), (#[.int .i64 9, .string ⟨#[]⟩, .int .i64 0, .bool false, .int .i64 0, .int .i64 0, .int .i64 0, .string ⟨#[]⟩, .int .i64 0, .slice none 0 0, .slice none 0 0, .slice none 0 0, .slice none 0 0, .slice none 0 0, .slice (some ⟨g, 0, none⟩) 1 1] : Array Value)[j]? = some v → w'.cell? ⟨w.heap.size + 1, j, none⟩ = some v from fun w' h j v hv => boxB h hv)
  have HS := hide (hs.mono HB0.out)
  have HQ := hide (hq.mono HB0.out)
  have HF := hide (hf.mono HB0.out)
  have HSH := hide (hsh.keptBut (HB0.out.frame (fun _ => False)) (by simp))
  have hxin : x.In w := hq.kid x (by simp)
  have HXI := hide (hxin.mono HB0.out)
  have HROW := hide (hq.row.mono HB0.out)
  clear hs hq hf hsh hxin
  go_enter Tryd.func37, Tryd.ntmps37
  go_wp2
  generalize hWW : (w.alloc (.cells #[.slice s.th.ao s.tabs.length s.th.cap] 28)).alloc (.cells #[.int .i64 9, .string ⟨#[]⟩, .int .i64 0, .bool false, .int .i64 0, .int .i64 0, .int .i64 0, .string ⟨#[]⟩, .int .i64 0, .slice none 0 0, .slice none 0 0, .slice none 0 0, .slice none 0 0, .slice none 0 0, .slice (some ⟨g, 0, none⟩) 1 1] 57) = W at *
  go_loopw [6, 20] (fun v i wr => (v = .slice none 0 0 ∧ i = .int .i64 0 ∧ Hid (wr = W)) ∨ (i = .int .i64 1 ∧ ∃ r : IL, wr.ownsRow W.heap.size 22 1 v 1 ([r].flatMap IL.cells) ∧ r.l = cs ∧ r.In wr ∧ Below W.heap.size W wr)) (fun _ i _ => 1 - (intOf i).toNat)
  case atStart => exact .inl ⟨rfl, rfl, rfl⟩
  case round =>
    rcases hrel with ⟨rfl, rfl, hw⟩ | ⟨rfl, r, hown, hrl, hri, hbw⟩
    · have hw' := hw.out
      clear hw
      subst hw'
      have hix := HROW.out.ix (i := 0) (by simp) Tryd.underlying55 sz46
      have hcell : ∀ (j : Nat) (v : Value), x.cells[j]? = some v → wr.cell? ⟨g, j, none⟩ = some v := fun j v hv => by
        have := HROW.out.2.2.2 0 (by simp) j v hv
        simpa [Hd.b, Hd.o] using this
      have hgl : g < wr.heap.size := by have := HROW.out.blk (i := 0) (by simp); simpa [Hd.b] using this
      have k0 := hcell 0 (.int .i64 x.op) rfl
      have k1 := hcell 1 (.string x.table) rfl
      have k2 := hcell 2 (.int .i64 x.kind) rfl
      have k3 := hcell 3 (.bool x.all) rfl
      have k4 := hcell 4 (.int .i64 x.cond.op) rfl
      have k5 := hcell 5 (.int .i64 x.cond.typ) rfl
      have k6 := hcell 6 (.int .i64 x.cond.num) rfl
      have k7 := hcell 7 (.string x.cond.text) rfl
      have k8 := hcell 8 (.int .i64 x.cond.col) rfl
      have k9 := hcell 9 (.slice x.cond.kh.ao x.cond.kids.length x.cond.kh.cap) rfl
      have k10 := hcell 10 (.slice x.eh.ao x.exprs.length x.eh.cap) rfl
      have k11 := hcell 11 (.slice x.ah.ao x.aggs.length x.ah.cap) rfl
      have k12 := hcell 12 (.slice x.types.h.ao x.types.l.length x.types.h.cap) rfl
      have k13 := hcell 13 (.slice x.rh.ao x.rows.length x.rh.cap) rfl
      have k14 := hcell 14 (.slice x.qh.ao x.kids.length x.qh.cap) rfl
      clear hcell
      have hix2 : ∀ U, (Instr.indexAt 55 (.slice (some ⟨g, 0, none⟩) 1 1) (.int .i64 0)).run Tryd.prog U = .ok (.pointer (some ⟨g, 0, none⟩)) U := fun U => by simpa [Hd.b, Hd.o] using hix U
      clear hix
      have hxs : ∀ y, (wr.alloc y).cell? ⟨w.heap.size, 0, none⟩ = some (.slice s.th.ao s.tabs.length s.th.cap) := fun y => HX.out _ (belA y) 0 _ rfl
      go_wp2_with (first
        | (go_at_call 37; refine (IH.out _ (HS.out.mono (belA _)) (HXI.out.mono (belA _)) (HF.out.mono (belA _)) (HSH.out.keptBut ((belA _).frame (fun _ => False)) (by simp))).mono ?_; rintro e w2 ⟨⟨r, rfl, hrl, hri⟩, hb2⟩; have HRL := hide hrl; have HRI := hide hri; have HB2 := hide (bel_trans (belA _) hb2); have hs2 := HB2.out.size; clear hrl hri hb2)
        | (at_builtin; refine wpList_append_own _ rfl _ _ 35 rfl wr.heap.size 22 i0 (.slice none 0 0) 1 24 Tryd.underlying35 HI.out.1 HI.out.2.1 HI.out.2.2.1 HI.out.2.2.2 rfl (by decide) _ _ _ rfl (World.ownsRow_nil _ _ _ _) ⟨w2.heap.size, 0, none⟩ 1 1 [.slice r.h.ao r.l.length r.h.cap] rfl rfl (new_cells (l := [_])) (by intro u hu; rw [List.mem_singleton.1 hu]; rfl) (by unfold maxLen; omega) (by omega) (by simp; omega) ?_; intro v3 w3 hown3 hgrow3 _))
      have HB3 := hide (grown1 HB2.out hs2 hgrow3 (fun b hb => by cases hb))
      have HRI3 := hide (HRI.out.mono (grown1 (Below.refl _ _) (Nat.le_refl _) hgrow3 (fun b hb => by cases hb)))
      have HO3 := hide hown3
      clear hown3 hgrow3
      go_roundw
      case rel => exact .inr ⟨by simp, r, by simpa using HO3.out, HRL.out, HRI3.out, HB3.out⟩
      case measure => simp [intOf]
    · obtain ⟨hd, rfl, hro⟩ := own_row (size := 1) (cells := IL.cells) (fun _ => rfl) (by decide) hown
      have HRO := hide hro
      have HRL := hide hrl
      have HRI := hide hri
      have HBW := hide hbw
      clear hown hro hrl hri hbw
      have y0 := HY.out wr HBW.out 0 _ rfl
      go_wp2_with (first
        | (go_at_call 60; refine (formOf_dist _ (HF.out.mono HBW.out)).mono ?_; rintro e w1 ⟨rfl, hb1⟩; have HB1 := hide (bel_trans HBW.out (bel_trans hb1 (belA (.cells #[.string ⟨#[100, 105, 115, 116, 105, 110, 99, 116]⟩, .int .i64 1, .string ⟨#[]⟩] 103)))); have HC1 := hide (bel_trans hb1 (belA (.cells #[.string ⟨#[100, 105, 115, 116, 105, 110, 99, 116]⟩, .int .i64 1, .string ⟨#[]⟩] 103))); clear y0; have z0 := HY.out (w1.alloc (.cells #[.string ⟨#[100, 105, 115, 116, 105, 110, 99, 116]⟩, .int .i64 1, .string ⟨#[]⟩] 103)) HB1.out 0 _ rfl; have z1 := HY.out (w1.alloc (.cells #[.string ⟨#[100, 105, 115, 116, 105, 110, 99, 116]⟩, .int .i64 1, .string ⟨#[]⟩] 103)) HB1.out 1 _ rfl; have z2 := HY.out (w1.alloc (.cells #[.string ⟨#[100, 105, 115, 116, 105, 110, 99, 116]⟩, .int .i64 1, .string ⟨#[]⟩] 103)) HB1.out 2 _ rfl; have z3 := HY.out (w1.alloc (.cells #[.string ⟨#[100, 105, 115, 116, 105, 110, 99, 116]⟩, .int .i64 1, .string ⟨#[]⟩] 103)) HB1.out 3 _ rfl; have z4 := HY.out (w1.alloc (.cells #[.string ⟨#[100, 105, 115, 116, 105, 110, 99, 116]⟩, .int .i64 1, .string ⟨#[]⟩] 103)) HB1.out 4 _ rfl; have z5 := HY.out (w1.alloc (.cells #[.string ⟨#[100, 105, 115, 116, 105, 110, 99, 116]⟩, .int .i64 1, .string ⟨#[]⟩] 103)) HB1.out 5 _ rfl; have z6 := HY.out (w1.alloc (.cells #[.string ⟨#[100, 105, 115, 116, 105, 110, 99, 116]⟩, .int .i64 1, .string ⟨#[]⟩] 103)) HB1.out 6 _ rfl; have z7 := HY.out (w1.alloc (.cells #[.string ⟨#[100, 105, 115, 116, 105, 110, 99, 116]⟩, .int .i64 1, .string ⟨#[]⟩] 103)) HB1.out 7 _ rfl; have z8 := HY.out (w1.alloc (.cells #[.string ⟨#[100, 105, 115, 116, 105, 110, 99, 116]⟩, .int .i64 1, .string ⟨#[]⟩] 103)) HB1.out 8 _ rfl; have z9 := HY.out (w1.alloc (.cells #[.string ⟨#[100, 105, 115, 116, 105, 110, 99, 116]⟩, .int .i64 1, .string ⟨#[]⟩] 103)) HB1.out 9 _ rfl; have z10 := HY.out (w1.alloc (.cells #[.string ⟨#[100, 105, 115, 116, 105, 110, 99, 116]⟩, .int .i64 1, .string ⟨#[]⟩] 103)) HB1.out 10 _ rfl; have z11 := HY.out (w1.alloc (.cells #[.string ⟨#[100, 105, 115, 116, 105, 110, 99, 116]⟩, .int .i64 1, .string ⟨#[]⟩] 103)) HB1.out 11 _ rfl; have z12 := HY.out (w1.alloc (.cells #[.string ⟨#[100, 105, 115, 116, 105, 110, 99, 116]⟩, .int .i64 1, .string ⟨#[]⟩] 103)) HB1.out 12 _ rfl; have z13 := HY.out (w1.alloc (.cells #[.string ⟨#[100, 105, 115, 116, 105, 110, 99, 116]⟩, .int .i64 1, .string ⟨#[]⟩] 103)) HB1.out 13 _ rfl; have z14 := HY.out (w1.alloc (.cells #[.string ⟨#[100, 105, 115, 116, 105, 110, 99, 116]⟩, .int .i64 1, .string ⟨#[]⟩] 103)) HB1.out 14 _ rfl; clear hb1)
        | (go_at_call 61; refine (clean_any (more x g) ⟨#[100, 105, 115, 116, 105, 110, 99, 116]⟩ ⟨#[]⟩ 1 _ (HQ.out.mono HB1.out) (by decide) (HSH.out.keptBut (HB1.out.frame (fun _ => False)) (by simp))).mono ?_; rintro e w2 ⟨rfl, hb2⟩; rw [clean_more]; have HB2 := hide (bel_trans HB1.out hb2); have HC2 := hide (bel_trans HC1.out hb2); have q1 := box_cell hb2 (j := 1) rfl; clear z0 z1 z2 z3 z4 z5 z6 z7 z8 z9 z10 z11 z12 z13 z14; have v0 := HY.out w2 HB2.out 0 _ rfl; have hro2 := HRO.out.mono HC2.out; have hrx : ∀ U, (Instr.indexAt 35 (.slice hd.ao 1 hd.cap) (.int .i64 0)).run Tryd.prog U = .ok (.pointer (some ⟨hd.b, hd.o, none⟩)) U := fun U => (by simpa using hro2.ix (i := 0) (by simp) Tryd.underlying35 szil U); have hrc : w2.cell? ⟨hd.b, hd.o, none⟩ = some (.slice r.h.ao r.l.length r.h.cap) := (by simpa using hro2.2.2.2 0 (by simp) 0 _ rfl); clear hb2 hro2))
      go_ret2
      exact ⟨⟨r, rfl, HRL.out, HRI.out.mono HC2.out⟩, HB0.out.trans (HB2.out.mono HB0.out.size)⟩

theorem typ_chain (s : Sch) (cs : List Int) (ht : t0cols s cs) {j : Nat} {q : Qu} (hc : Chain j q) : ∀ w : World, s.In w → q.In w → FormsAt w → w.ShapedOpen Tryd.prog → Calls Tryd.prog 37 #[.agg #[.slice s.th.ao s.tabs.length s.th.cap], .agg #[.int .i64 q.op, .string q.table, .int .i64 q.kind, .bool q.all, .int .i64 q.cond.op, .int .i64 q.cond.typ, .int .i64 q.cond.num, .string q.cond.text, .int .i64 q.cond.col, .slice q.cond.kh.ao q.cond.kids.length q.cond.kh.cap, .slice q.eh.ao q.exprs.length q.eh.cap, .slice q.ah.ao q.aggs.length q.ah.cap, .slice q.types.h.ao q.types.l.length q.types.h.cap, .slice q.rh.ao q.rows.length q.rh.cap, .slice q.qh.ao q.kids.length q.qh.cap]] w fun e w' => (∃ r : IL, e = .returned (.tuple #[.slice r.h.ao r.l.length r.h.cap, .int .i64 0]) ∧ r.l = cs ∧ r.In w') ∧ Below w.heap.size w w' := by
  induction hc with
  | zero => intro w h1 h2 h3 h4; exact typ_scan s cs ht w h1 h2 h3 h4
  | succ h ih => intro w h1 h2 h3 h4; exact typ_more s cs _ _ ih w h1 h2 h3 h4
end Go.Proofs.YtmnbhdhgjbgidaaDoor

/- schema.Types, ref03.Types: the types of a table's columns, in a list of the call's own. -/
import Derived.Test.YtmnbhdhgjbgidaaDoorFind2
import Derived.Test.YtmnbhdhgjbgidaaDoorSame
namespace Go.Proofs.YtmnbhdhgjbgidaaDoor
open Go.RowKit

theorem info3 : (Tryd.prog.info? 3).map (fun i => (i.zero, i.size, i.bytes)) = some (some (.int .i64 0), 1, 8) := by kernel_rfl
theorem il_mk {w : World} {base : Nat} {v : Value} {n : Nat} {xs : List Int} {e : TypeId} (h : w.ownsRow base e 1 v n (xs.flatMap icells)) (hw : ∀ n ∈ xs, int64 n) : ∃ r : IL, v = .slice r.h.ao r.l.length r.h.cap ∧ r.l = xs ∧ r.In w := by
  obtain ⟨hd, rfl, hr⟩ := own_row (size := 1) (cells := icells) (fun _ => rfl) (by decide) h
  exact ⟨⟨hd, xs⟩, rfl, rfl, hr, hw⟩
abbrev ctyp (c : Col) : List Value := [.int .i64 c.typ]
theorem ctyp_icells (l : List Col) : l.flatMap ctyp = (l.map Col.typ).flatMap icells := by
  induction l with
  | nil => rfl
  | cons x l ih => simp [List.flatMap_cons, ih]
theorem typs_wf {w : World} {x : Tab} (h : x.In w) : ∀ n ∈ x.cols.map Col.typ, int64 n := by
  intro n hn
  obtain ⟨c, hc, rfl⟩ := List.mem_map.1 hn
  exact (h.cs c hc).2

set_option maxRecDepth 100000 in
set_option maxHeartbeats 400000 in
theorem types_any (x : Tab) (w : World) (hin : x.In w) (hsm : x.cols.length ≤ 100) :
    Calls Tryd.prog 50 #[.agg #[.string x.name, .slice x.ch.ao x.cols.length x.ch.cap, .slice x.prim.h.ao x.prim.l.length x.prim.h.cap, .slice x.uh.ao x.uniqs.length x.uh.cap, .slice x.fh.ao x.fors.length x.fh.cap, .slice x.kh.ao x.checks.length x.kh.cap]] w
      fun e w' => (∃ r : IL, e = .returned (.slice r.h.ao r.l.length r.h.cap) ∧ r.l = x.cols.map Col.typ ∧ r.In w') ∧ Below w.heap.size w w' := by
  have hn := hin.rc.len
  obtain ⟨i0, hi, hz0, hz1, hz2⟩ := info_parts info3
  have HI := hide (And.intro hi (And.intro hz0 (And.intro hz1 hz2)))
  clear hi hz0 hz1 hz2
  go_enter Tryd.func50, Tryd.ntmps50
  go_wp2
  go_loopw [3, 9] (fun v i wr => ∃ k : Nat, k ≤ x.cols.length ∧ i = .int .i64 k ∧ wr.ownsRow w.heap.size 3 1 v k ((x.cols.take k).flatMap ctyp) ∧ Below w.heap.size w wr) (fun _ i _ => x.cols.length - (intOf i).toNat)
  case atStart => exact ⟨0, Nat.zero_le _, rfl, World.ownsRow_nil _ _ _ _, belA _⟩
  case round =>
    obtain ⟨k, hk, rfl, hown, hbw⟩ := hrel
    have HB := hide hbw
    have HO := hide hown
    have hin' := hin.mono hbw
    clear hbw hown
    by_cases hlt : k < x.cols.length
    · have hix := hin'.rc.ix hlt Tryd.underlying34 sz30
      obtain ⟨c0, c1, c2⟩ := col_at hin'.rc hlt
      have hbb := hin'.rc.blk hlt
      go_wp2_with (at_builtin; refine wpList_append_own _ rfl _ _ 22 rfl w.heap.size 3 i0 (.int .i64 0) 1 8 Tryd.underlying22 HI.out.1 HI.out.2.1 HI.out.2.2.1 HI.out.2.2.2 rfl (by decide) _ _ _ rfl ((HO.out.alloc _).alloc _) ⟨wr.heap.size + 1, 0, none⟩ 1 1 [.int .i64 x.cols[k].typ] rfl rfl ?c1 ?c2 ?c3 ?c4 ?c5 ?_)
      case c1 => exact new_cells1 (l := [_])
      case c2 => exact one_int
      case c3 => unfold maxLen; omega
      case c4 => omega
      case c5 => have := HB.out.size; simp; omega
      intro v' w1 hown' hgrow _
      have HO' := hide (own_snoc hlt hown')
      have HG := hide hgrow
      clear hown' hgrow
      go_wp2
      go_roundw
      case rel =>
        refine ⟨k + 1, by omega, by go_num, HO'.out, ?_⟩
        exact grown2 HB.out HB.out.size HG.out (fun b hb => (HO.out.lt b hb).1)
      case measure => simp [intOf]; omega
    · go_wp2
      go_ret
      have hk' : k = x.cols.length := by omega
      refine ⟨?_, HB.out⟩
      have ho := HO.out
      rw [hk', List.take_length, ctyp_icells] at ho
      obtain ⟨r, hv, hr, hin2⟩ := il_mk ho (typs_wf hin)
      exact ⟨r, congrArg Ending.returned hv, hr, hin2⟩

set_option maxRecDepth 100000 in
set_option maxHeartbeats 400000 in
theorem rtypes_any (x : Tab) (w : World) (hin : x.In w) (hsm : x.cols.length ≤ 100) :
    Calls Tryd.prog 20 #[.agg #[.string x.name, .slice x.ch.ao x.cols.length x.ch.cap, .slice x.prim.h.ao x.prim.l.length x.prim.h.cap, .slice x.uh.ao x.uniqs.length x.uh.cap, .slice x.fh.ao x.fors.length x.fh.cap, .slice x.kh.ao x.checks.length x.kh.cap]] w
      fun e w' => (∃ r : IL, e = .returned (.slice r.h.ao r.l.length r.h.cap) ∧ r.l = x.cols.map Col.typ ∧ r.In w') ∧ Below w.heap.size w w' := by
  have hn := hin.rc.len
  obtain ⟨i0, hi, hz0, hz1, hz2⟩ := info_parts info3
  have HI := hide (And.intro hi (And.intro hz0 (And.intro hz1 hz2)))
  clear hi hz0 hz1 hz2
  go_enter Tryd.func20, Tryd.ntmps20
  go_wp2
  go_loopw [3, 4] (fun v i wr => ∃ k : Nat, k ≤ x.cols.length ∧ i = .int .i64 k ∧ wr.ownsRow (w.heap.size + 1) 3 1 v k ((x.cols.take k).flatMap ctyp) ∧ Below (w.heap.size + 1) (w.alloc (.cells #[.string x.name, .slice x.ch.ao x.cols.length x.ch.cap, .slice x.prim.h.ao x.prim.l.length x.prim.h.cap, .slice x.uh.ao x.uniqs.length x.uh.cap, .slice x.fh.ao x.fors.length x.fh.cap, .slice x.kh.ao x.checks.length x.kh.cap] 39)) wr) (fun _ i _ => x.cols.length - (intOf i).toNat)
  case atStart => exact ⟨0, Nat.zero_le _, rfl, World.ownsRow_nil _ _ _ _, Below.refl _ _⟩
  case round =>
    obtain ⟨k, hk, rfl, hown, hbw0⟩ := hrel
    have hbw : Below w.heap.size w wr := (belA _).trans (hbw0.mono (by omega))
    have HB0 := hide hbw0
    have hbox : wr.cell? ⟨w.heap.size, 1, none⟩ = some (.slice x.ch.ao x.cols.length x.ch.cap) := by rw [hbw0.cell (by simp)]; simp [go_sem]
    have hszl : w.heap.size + 1 ≤ wr.heap.size := by have := hbw0.size; simpa using this
    clear hbw0
    have HB := hide hbw
    have HO := hide hown
    have hin' := hin.mono hbw
    clear hbw hown
    by_cases hlt : k < x.cols.length
    · have hix := hin'.rc.ix hlt Tryd.underlying34 sz30
      obtain ⟨c0, c1, c2⟩ := col_at hin'.rc hlt
      have hbb := hin'.rc.blk hlt
      go_wp2_with (at_builtin; refine wpList_append_own _ rfl _ _ 22 rfl (w.heap.size + 1) 3 i0 (.int .i64 0) 1 8 Tryd.underlying22 HI.out.1 HI.out.2.1 HI.out.2.2.1 HI.out.2.2.2 rfl (by decide) _ _ _ rfl (HO.out.alloc _) ⟨wr.heap.size, 0, none⟩ 1 1 [.int .i64 x.cols[k].typ] rfl rfl ?c1 ?c2 ?c3 ?c4 ?c5 ?_)
      case c1 => exact new_cells (l := [_])
      case c2 => exact one_int
      case c3 => unfold maxLen; omega
      case c4 => omega
      case c5 => simp; omega
      intro v' w1 hown' hgrow _
      have HO' := hide (own_snoc hlt hown')
      have HG := hide hgrow
      clear hown' hgrow
      go_wp2
      go_roundw
      case rel =>
        refine ⟨k + 1, by omega, by go_num, HO'.out, ?_⟩
        exact grown1 HB0.out hszl HG.out (fun b hb => (HO.out.lt b hb).1)
      case measure => simp [intOf]; omega
    · go_wp2
      go_ret
      have hk' : k = x.cols.length := by omega
      refine ⟨?_, HB.out⟩
      have ho := HO.out
      rw [hk', List.take_length, ctyp_icells] at ho
      obtain ⟨r, hv, hr, hin2⟩ := il_mk ho (typs_wf hin)
      exact ⟨r, congrArg Ending.returned hv, hr, hin2⟩

end Go.Proofs.YtmnbhdhgjbgidaaDoor

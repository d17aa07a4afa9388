/- fault.applied: an operation on values. -/
import Derived.Test.YtlkhiihehaiinaaDoorFInv
namespace Go.Proofs.YtlkhiihehaiinaaDoor
open Go.RowKit

theorem info_ex : (Tryd.prog.info? 31).map (fun i => (i.zero, i.size, i.bytes)) = some (some (.agg #[.int .i64 0, .int .i64 0, .int .i64 0, .string ByteArray.empty, .int .i64 0, .slice none 0 0]), 6, 72) := by kernel_rfl
def colE (i : Nat) : Ex := ⟨5, 0, 0, ⟨#[]⟩, i, nilHd, []⟩
noncomputable def appV (op : Int) (row : List V) : V := topV op 0 ⟨#[]⟩ 0 row row
theorem col_in {w : World} {i : Nat} (hi : i ≤ 1000000) : (colE i).In w := by
  refine ⟨colE i, ⟨i64_lit rfl, i64_lit rfl, i64_lit rfl, Nat.zero_le _, ?_⟩, Row.nil _ _ _, fun k hk => by cases hk⟩
  show int64 (i : Int)
  constructor <;> omega
theorem col_va (row : List V) {i : Nat} (hi : i < row.length) : (colE i).va row = row[i] := by
  rw [Ex.va_eq]
  show topV 5 0 _ (i : Int) row [] = _
  unfold topV
  rw [if_neg (by simp [knownB, kidsOk]), if_neg (by decide), if_neg (by decide), if_neg (by decide), if_pos rfl, if_pos ⟨by omega, by omega⟩, Int.toNat_natCast]
  exact getD_of hi rfl
theorem cols_va (row : List V) : ((List.range row.length).map colE).map (Ex.va row) = row := by
  apply List.ext_getElem?
  intro i
  rw [List.map_map, List.getElem?_map]
  by_cases hi : i < row.length
  · rw [List.getElem?_range hi, List.getElem?_eq_getElem hi]
    exact congrArg some (col_va row hi)
  · rw [List.getElem?_eq_none (by simp; omega), List.getElem?_eq_none (by omega)]; rfl
theorem cols_snoc (k : Nat) : ((List.range (k + 1)).map colE).flatMap Ex.cells = ((List.range k).map colE).flatMap Ex.cells ++ [.int .i64 5, .int .i64 0, .int .i64 0, .string ⟨#[]⟩, .int .i64 k, .slice none 0 0] := by
  rw [List.range_succ, List.map_append, List.flatMap_append]
  rfl
/-- While the expression is made: its box, the result's, its Kids. -/
structure AP (w : World) (op : Int) (k : Nat) (u : Value) (x : World) : Prop where
  bel : Below w.heap.size w x
  br : Box x w.heap.size #[.int .i64 0, .int .i64 0, .string ⟨#[]⟩] 24
  be : Box x (w.heap.size + 1) #[.int .i64 op, .int .i64 0, .int .i64 0, .string ⟨#[]⟩, .int .i64 0, u] 31
  own : x.ownsRow (w.heap.size + 2) 31 6 u k (((List.range k).map colE).flatMap Ex.cells)
theorem ex_one (i : Nat) : ∀ u ∈ ([.int .i64 5, .int .i64 0, .int .i64 0, .string ⟨#[]⟩, .int .i64 i, .slice none 0 0] : List Value), u.oneCell' = true := by
  intro u hu; simp only [List.mem_cons, List.not_mem_nil, or_false] at hu; rcases hu with rfl | rfl | rfl | rfl | rfl | rfl <;> rfl
theorem ap_set {w x : World} {op : Int} {k k' : Nat} {u v : Value} (hb : Below w.heap.size w x) (hr : Box x w.heap.size #[.int .i64 0, .int .i64 0, .string ⟨#[]⟩] 24) (he : Box x (w.heap.size + 1) #[.int .i64 op, .int .i64 0, .int .i64 0, .string ⟨#[]⟩, .int .i64 0, u] 31)
    (ho : x.ownsRow (w.heap.size + 2) 31 6 v k' (((List.range k').map colE).flatMap Ex.cells)) : AP w op k' v (x.setCell ⟨w.heap.size + 1, 5, none⟩ v) := by
  refine ⟨hb.grown (gb_set _ _ _ _) hb.size (fun j hj => by injection hj with hj; omega), hr.grown (gb_set _ _ _ _) (by simp), ?_, ho.kept (gb_set _ _ _ _) (.inr (fun e => ?_))⟩
  · have := he.set 5 v
    simpa only [List.setIfInBounds_toArray, List.set_cons_zero, List.set_cons_succ] using this
  · have := (ho.lt _ e).1; omega

set_option maxRecDepth 100000 in
set_option maxHeartbeats 4000000 in
theorem applied_any (op : Int) (hop : int64 op) (r : VL) (w : World) (hr : r.In w) (hsm : r.l.length ≤ 1000000) (hn : NulAt w) (hf : OpsAt w) : Calls Tryd.prog 54 #[.int .i64 op, .slice r.h.ao r.l.length r.h.cap] w
    fun e w' => e = .returned (.agg #[.int .i64 (appV op r.l).kind, .int .i64 (appV op r.l).num, .string (appV op r.l).text]) ∧ Below w.heap.size w w' := by
  obtain ⟨i0, hi, hz0, hz1, hz2⟩ := info_parts info_ex
  have HI := hide (And.intro hi (And.intro hz0 (And.intro hz1 hz2)))
  have HR := hide hr
  have HN := hide hn
  have HF := hide hf
  have HOP := hide hop
  have hlen := hr.1.len
  clear hi hz0 hz1 hz2 hr hn hf hop
  have HA0 := hide (show AP w op 0 (.slice none 0 0) ((w.alloc (.cells #[.int .i64 0, .int .i64 0, .string ⟨#[]⟩] 24)).alloc (.cells #[.int .i64 op, .int .i64 0, .int .i64 0, .string ⟨#[]⟩, .int .i64 0, .slice none 0 0] 31)) from
    ⟨belAA _ _, (Box.new _ _ _).below (belA _), by have h := Box.new (w.alloc (.cells #[.int .i64 0, .int .i64 0, .string ⟨#[]⟩] 24)) #[.int .i64 op, .int .i64 0, .int .i64 0, .string ⟨#[]⟩, .int .i64 0, .slice none 0 0] 31; simpa only [World.size_alloc] using h, World.ownsRow_nil _ _ _ _⟩)
  go_enter Tryd.func54, Tryd.ntmps54
  go_wp2
  go_loopw [11] (fun i wr => ∃ (k : Nat) (u : Value), k ≤ r.l.length ∧ i = .int .i64 k ∧ Hid (AP w op k u wr)) (fun i _ => r.l.length - (intOf i).toNat)
  case atStart => exact ⟨0, _, Nat.zero_le _, rfl, HA0⟩
  case round =>
    obtain ⟨k, u, hk, rfl, HA⟩ := hrel
    have k0 := HA.out.be.cell (j := 0) rfl
    have k1 := HA.out.be.cell (j := 1) rfl
    have k2 := HA.out.be.cell (j := 2) rfl
    have k3 := HA.out.be.cell (j := 3) rfl
    have k4 := HA.out.be.cell (j := 4) rfl
    have k5 := HA.out.be.cell (j := 5) rfl
    have hlt1 := HA.out.be.lt
    by_cases hlt : k < r.l.length
    · have hlti : (k : Int) < r.l.length := by omega
      have HLO := hide HA.out.own.lt
      go_wp2_with (at_builtin; refine wpList_append_own _ rfl _ _ 29 rfl (w.heap.size + 2) 31 i0 (.agg #[.int .i64 0, .int .i64 0, .int .i64 0, .string ByteArray.empty, .int .i64 0, .slice none 0 0]) 6 72 Tryd.underlying29 HI.out.1 HI.out.2.1 HI.out.2.2.1 HI.out.2.2.2 rfl (by decide) _ _ _ rfl (HA.out.own.alloc _) ⟨wr.heap.size, 0, none⟩ 1 1 [.int .i64 5, .int .i64 0, .int .i64 0, .string ⟨#[]⟩, .int .i64 k, .slice none 0 0] rfl rfl (new_cells (l := [.int .i64 5, .int .i64 0, .int .i64 0, .string ⟨#[]⟩, .int .i64 k, .slice none 0 0])) (ex_one k) (by unfold maxLen; omega) (by omega) (by have := HA.out.be.lt; simp; omega) ?_; intro v' x4 hown' hgrow _; obtain ⟨g4, cap4, rfl⟩ := ownsRow_succ hown'; have HO4 := hide (show x4.ownsRow (w.heap.size + 2) 31 6 (.slice (some ⟨g4, 0, none⟩) (k + 1) cap4) (k + 1) (((List.range (k + 1)).map colE).flatMap Ex.cells) from by rw [cols_snoc]; exact hown'); have HG4 := hide hgrow; clear hown' hgrow; have hbe := (HA.out.be.below (belA (.cells #[.int .i64 5, .int .i64 0, .int .i64 0, .string ⟨#[]⟩, .int .i64 k, .slice none 0 0] 31))).grown HG4.out (fun e => by have := (HLO.out _ e.symm).1; omega); have HBE := hide hbe; have g5 := hbe.cell (j := 5) rfl; have h5 := hbe.fr 5; clear hbe)
      have HA2 := hide (ap_set (k := k) ((HA.out.bel.trans ((belA (.cells #[.int .i64 5, .int .i64 0, .int .i64 0, .string ⟨#[]⟩, .int .i64 k, .slice none 0 0] 31)).mono HA.out.bel.size)).grown HG4.out (by have := HA.out.bel.size; simp; omega) (fun j hj => by have := (HLO.out j hj).1; omega)) ((HA.out.br.below (belA _)).grown HG4.out (fun e => by have := (HLO.out _ e.symm).1; omega)) HBE.out HO4.out)
      clear k0 k1 k2 k3 k4 k5 g5 h5
      go_roundw
      case rel => exact ⟨k + 1, _, by omega, by go_num, HA2⟩
      case measure => simp [intOf]; omega
    · have hke : k = r.l.length := by omega
      have hlti : ¬ (k : Int) < r.l.length := by omega
      obtain ⟨hd, hu, hrow⟩ := own_row (size := 6) (cells := Ex.cells) (fun _ => rfl) (by decide) HA.out.own
      have hel : ((List.range k).map colE).length = k := by simp
      have HEX := hide (show Ex.In wr ⟨op, 0, 0, ⟨#[]⟩, 0, hd, (List.range k).map colE⟩ from ⟨_, ⟨HOP.out, i64_lit rfl, i64_lit rfl, Nat.zero_le _, i64_lit rfl⟩, hrow, fun q hq => by obtain ⟨i, hi, rfl⟩ := List.mem_map.1 hq; exact col_in (by have := List.mem_range.1 hi; omega)⟩)
      have HLW := hide (show Ex.Low ⟨op, 0, 0, ⟨#[]⟩, 0, hd, (List.range k).map colE⟩ from ⟨_, by show ((List.range k).map colE).length ≤ _; rw [hel]; omega, fun q hq => by obtain ⟨i, hi, rfl⟩ := List.mem_map.1 hq; exact ⟨_, Nat.zero_le _, fun q hq => by cases hq⟩⟩)
      have HVA := hide (show Ex.va r.l ⟨op, 0, 0, ⟨#[]⟩, 0, hd, (List.range k).map colE⟩ = appV op r.l from by rw [Ex.va_eq]; show topV op 0 _ 0 r.l (((List.range k).map colE).map (Ex.va r.l)) = _; rw [hke, cols_va]; rfl)
      have HEV := hide (eeval_any _ HLW.out r wr HEX.out (HR.out.mono HA.out.bel) (HN.out.mono HA.out.bel) (HF.out.mono HA.out.bel))
      dsimp only at HEV
      rw [hel] at hu HEV
      rw [HVA.out] at HEV
      subst hu
      clear hrow hel HVA hke
      go_wp2_with (go_at_call 50; with_reducible refine HEV.out.mono ?_; rintro e x5 ⟨rfl, hb⟩; have HB5 := hide hb; have hq := HA.out.br.below hb; clear hb; have e0 := hq.cell (j := 0) rfl; have e1 := hq.cell (j := 1) rfl; have e2 := hq.cell (j := 2) rfl; have f0 := hq.fr 0; have f1 := hq.fr 1; have f2 := hq.fr 2; clear hq)
      exact bodyPost_ret (v := .agg #[.int .i64 (appV op r.l).kind, .int .i64 (appV op r.l).num, .string (appV op r.l).text]) (by simp [results, Tryd.results54, go_sem, e0, e1, e2]) rfl ⟨rfl, belset3 (bel_trans HA.out.bel (HB5.out.mono (Nat.le_refl _))) (Nat.le_refl _) (Nat.le_refl _) _ _ _⟩
end Go.Proofs.YtlkhiihehaiinaaDoor

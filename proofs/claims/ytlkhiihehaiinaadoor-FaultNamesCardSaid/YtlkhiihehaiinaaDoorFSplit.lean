/- strings.SplitSeq at a separator of one byte: the pieces come in turn. -/
import Derived.Test.YtlkhiihehaiinaaDoorRangeAll
import Derived.Test.YtlkhiihehaiinaaDoorFShelf
import Derived.Test.YtlkhiihehaiinaaDoorKit
import Derived.Lib.Split
import Derived.Lib.IndexBytes
import Derived.RangeFuncBound
import Derived.RangeFuncCalls
import Derived.RangeFuncLeaves
import Derived.Shelf.Abstract
import Derived.WalkKit
import Derived.OwnWalkIn
import Derived.TacticsInMore
import Derived.LoopNIn
import Derived.LoopIn
namespace Go.Proofs.YtlkhiihehaiinaaDoor
open Go.RowKit Go.Shelf
attribute [local go_sem] Oper.semAt_some

/-- The pieces. -/
def pieces (c : UInt8) (s : ByteArray) : List ByteArray := Lib.splitB ⟨#[c]⟩ 0 (s.size + 1) s
theorem idx_one (s : ByteArray) (c : UInt8) : Lib.indexB s ⟨#[c]⟩ = Lib.indexByte s.data.toList c := Lib.index_one _ _

theorem same_boxed {S : List Nat} {X Y : World} {b : Nat} {t : TypeId} {v : Value} (h : SameAt S X Y) (hb : b ∈ S) (hx : Boxed X b t v) : Boxed Y b t v := (h b hb).trans hx
noncomputable def leftS (b : Nat) (W : World) : Nat := match W.cell? ⟨b, 0, none⟩ with | some (.string s) => s.size | _ => 0
theorem leftS_eq {b : Nat} {W : World} {s : ByteArray} (h : W.cell? ⟨b, 0, none⟩ = some (.string s)) : leftS b W = s.size := by unfold leftS; rw [h]

set_option maxRecDepth 100000 in
set_option maxHeartbeats 4000000 in
theorem splitSeq_all (n : Nat) (hn : 1 ≤ n) (s : ByteArray) (c : UInt8) (hs : s.size ≤ 1000000) (bp bs bv : Nat) (hd : bp ≠ bs ∧ bv ≠ bs) (W : World) (BP : Boxed W bp 9 (.string ⟨#[c]⟩)) (BS : Boxed W bs 9 (.string s)) (BV : Boxed W bv 3 (.int .i64 0)) :
    SeqAll Fence.wide n Tryd.prog 91 #[.pointer (some ⟨bp, 0, none⟩), .pointer (some ⟨bs, 0, none⟩), .pointer (some ⟨bv, 0, none⟩)] (fun x : ByteArray => #[.string x]) (fun X Y => ∃ v, Y = X.setCell ⟨bs, 0, none⟩ v) [bp, bs, bv] (pieces c s) W := by
  intro l J hJ hY h0
  refine callsIn_of_wp Tryd.func91 rfl trivial ?_ rfl
  simp only [Tryd.ntmps91, List.size_toArray, List.length_cons, List.length_nil, Nat.reduceAdd, Nat.reduceSub, Array.replicate_succ, Array.replicate_zero, List.push_toArray, List.append_toArray, List.nil_append, List.cons_append]
  have cP := BP.cell
  gi_wp2
  gi_loopw [7, 8] (fun _ _ wr => ∃ (pre : List ByteArray) (rest : ByteArray) (k : Nat), rest.size ≤ 1000000 ∧ rest.size < k ∧ pieces c s = pre ++ Lib.splitB ⟨#[c]⟩ 0 k rest ∧ Boxed wr bp 9 (.string ⟨#[c]⟩) ∧ Boxed wr bs 9 (.string rest) ∧ Boxed wr bv 3 (.int .i64 0) ∧ J pre wr) (fun _ _ wr => leftS bs wr)
  case atStart => exact ⟨[], s, s.size + 1, hs, Nat.lt_succ_self _, rfl, BP, BS, BV, h0⟩
  case round =>
    obtain ⟨pre, rest, k, hr, hk, hx, bP, bS, bV, hj⟩ := hrel
    have cP := bP.cell
    have cS := bS.cell
    have fS := bS.frozen
    have cV := bV.cell
    rcases Lib.indexB_cases rest ⟨#[c]⟩ with hm | ⟨i, hi, hle⟩
    · have hp : Lib.splitB ⟨#[c]⟩ 0 k rest = [rest] := Lib.splitB_miss _ _ _ _ hm
      rw [idx_one] at hm
      have HM := hide hm
      have HP := hide hp
      have HX := hide hx
      clear hm hp hx
      obtain ⟨fn, tmps, assign, body, hy, hR⟩ := hY pre rest wr hj (by rw [HX.out, HP.out]; exact List.prefix_refl _)
      gi_wp2_with (refine ⟨trivial, ?_⟩; gi_at_call 79; refine (callsIn_wide.2 (Tryd.strings_Index_one rest c _)).mono ?_; rintro e w' ⟨rfl, rfl⟩; rw [HM.out])
      refine hR.mono ?_
      rintro e W3 ⟨rfl, hJ3, hk3⟩
      gi_wp2
      go_end0
      exact ⟨⟨_, rfl⟩, by rw [HX.out, HP.out]; exact hJ3⟩
    · obtain ⟨k, rfl⟩ : ∃ k', k = k' + 1 := ⟨k - 1, by omega⟩
      have hp := Lib.splitB_hit ⟨#[c]⟩ 0 k rest i hi
      have hz : ByteArray.size ⟨#[c]⟩ = 1 := rfl
      rw [hz] at hle hp
      rw [Nat.add_zero] at hp
      rw [idx_one] at hi
      have HM := hide hi
      have HP := hide hp
      have HX := hide hx
      clear hi hp hx
      obtain ⟨fn, tmps, assign, body, hy, hR⟩ := hY pre (rest.extract 0 i) wr hj ⟨Lib.splitB ⟨#[c]⟩ 0 k (rest.extract (i + 1) rest.size), by rw [HX.out, HP.out]; simp⟩
      gi_wp2_with (refine ⟨trivial, ?_⟩; gi_at_call 79; refine (callsIn_wide.2 (Tryd.strings_Index_one rest c _)).mono ?_; rintro e w' ⟨rfl, rfl⟩; rw [HM.out])
      refine hR.mono ?_
      rintro e W3 ⟨rfl, hJ3, hk3⟩
      have bP3 := same_boxed hk3 (by simp) bP
      have bS3 := same_boxed hk3 (by simp) bS
      have bV3 := same_boxed hk3 (by simp) bV
      have cP := bP3.cell
      have cS := bS3.cell
      have fS := bS3.frozen
      have cV := bV3.cell
      have hsz : (rest.extract (i + 1) rest.size).size = rest.size - (i + 1) := by rw [ByteArray.size_extract, Nat.min_self]
      gi_wp2
      go_roundw
      case rel => exact ⟨pre ++ [rest.extract 0 i], rest.extract (i + 1) rest.size, k, by omega, by omega, by rw [HX.out, HP.out]; simp, bP3.other hd.1 _, bS3.set _, bV3.other hd.2 _, hJ _ _ _ hJ3 ⟨_, rfl⟩⟩
      case measure => rw [leftS_eq (bS3.set _).cell, leftS_eq bS.cell]; omega

set_option maxRecDepth 100000 in
set_option maxHeartbeats 4000000 in
theorem splitSeq_made (s sep : ByteArray) (w : World) : Calls Tryd.prog 64 #[.string s, .string sep] w fun e w' =>
    e = .returned (.func (.func 91) #[] #[.pointer (some ⟨w.heap.size + 1, 0, none⟩), .pointer (some ⟨w.heap.size, 0, none⟩), .pointer (some ⟨w.heap.size + 2, 0, none⟩)]) ∧ w' = ((w.alloc (.cells #[.string s] 9)).alloc (.cells #[.string sep] 9)).alloc (.cells #[.int .i64 0] 3) := by
  go_enter Tryd.func64, Tryd.ntmps64
  have h77 : Calls Tryd.prog 77 #[.string s, .string sep, .int .i64 0] w fun e w' =>
    e = .returned (.func (.func 91) #[] #[.pointer (some ⟨w.heap.size + 1, 0, none⟩), .pointer (some ⟨w.heap.size, 0, none⟩), .pointer (some ⟨w.heap.size + 2, 0, none⟩)]) ∧ w' = ((w.alloc (.cells #[.string s] 9)).alloc (.cells #[.string sep] 9)).alloc (.cells #[.int .i64 0] 3) := by
    go_enter Tryd.func77, Tryd.ntmps77
    go_wp2
    go_ret
    exact ⟨rfl, rfl⟩
  go_wp2_with (go_at_call 77; refine h77.mono ?_; rintro e w' ⟨rfl, rfl⟩)
  go_ret
  exact ⟨rfl, rfl⟩
end Go.Proofs.YtlkhiihehaiinaaDoor

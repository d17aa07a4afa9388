/- strings.SplitSeq at a separator of one byte: the pieces come in turn. -/
import Derived.Test.YtlkhiihehaiinaaDoorRangeAll
import Derived.Test.YtlkhiihehaiinaaDoorFShelf
import Derived.Test.YtlkhiihehaiinaaDoorKit
import Derived.Lib.Split
import Derived.Lib.IndexBytes
import Derived.RangeFuncBound
import Derived.RangeFuncCalls
import Derived.RangeFuncLeaves
import Derived.Shelf.Abstract
import Derived.WalkKit
import Derived.OwnWalkIn
import Derived.TacticsInMore
import Derived.LoopNIn
import Derived.LoopIn
import Derived.Maps.AppendAt
import Derived.Maps.OwnIn
import Derived.OwnWalk
import Derived.Lib.CutLaws
import Derived.Lib.FieldsLaws
namespace Go.Proofs.YtlkhiihehaiinaaDoor
open Go.RowKit Go.Shelf
attribute [local go_sem] Oper.semAt_some

/-- The pieces. -/
def pieces (c : UInt8) (s : ByteArray) : List ByteArray := Lib.splitB ⟨#[c]⟩ 0 (s.size + 1) s
theorem idx_one (s : ByteArray) (c : UInt8) : Lib.indexB s ⟨#[c]⟩ = Lib.indexByte s.data.toList c := Lib.index_one _ _

theorem same_boxed {S : List Nat} {X Y : World} {b : Nat} {t : TypeId} {v : Value} (h : SameAt S X Y) (hb : b ∈ S) (hx : Boxed X b t v) : Boxed Y b t v := (h b hb).trans hx
noncomputable def leftS (b : Nat) (W : World) : Nat := match W.cell? ⟨b, 0, none⟩ with | some (.string s) => s.size | _ => 0
theorem leftS_eq {b : Nat} {W : World} {s : ByteArray} (h : W.cell? ⟨b, 0, none⟩ = some (.string s)) : leftS b W = s.size := by unfold leftS; rw [h]

set_option maxRecDepth 100000 in
set_option maxHeartbeats 4000000 in
theorem splitSeq_all (n : Nat) (hn : 1 ≤ n) (s : ByteArray) (c : UInt8) (hs : s.size ≤ 1000000) (bp bs bv : Nat) (hd : bp ≠ bs ∧ bv ≠ bs) (W : World) (BP : Boxed W bp 9 (.string ⟨#[c]⟩)) (BS : Boxed W bs 9 (.string s)) (BV : Boxed W bv 3 (.int .i64 0)) :
    SeqAll Fence.wide n Tryd.prog 91 #[.pointer (some ⟨bp, 0, none⟩), .pointer (some ⟨bs, 0, none⟩), .pointer (some ⟨bv, 0, none⟩)] (fun x : ByteArray => #[.string x]) (fun X Y => ∃ v, Y = X.setCell ⟨bs, 0, none⟩ v) [bp, bs, bv] (pieces c s) W := by
  intro l J hJ hY h0
  refine callsIn_of_wp Tryd.func91 rfl trivial ?_ rfl
  simp only [Tryd.ntmps91, List.size_toArray, List.length_cons, List.length_nil, Nat.reduceAdd, Nat.reduceSub, Array.replicate_succ, Array.replicate_zero, List.push_toArray, List.append_toArray, List.nil_append, List.cons_append]
  have cP := BP.cell
  gi_wp2
  gi_loopw [7, 8] (fun _ _ wr => ∃ (pre : List ByteArray) (rest : ByteArray) (k : Nat), rest.size ≤ 1000000 ∧ rest.size < k ∧ pieces c s = pre ++ Lib.splitB ⟨#[c]⟩ 0 k rest ∧ Boxed wr bp 9 (.string ⟨#[c]⟩) ∧ Boxed wr bs 9 (.string rest) ∧ Boxed wr bv 3 (.int .i64 0) ∧ J pre wr) (fun _ _ wr => leftS bs wr)
  case atStart => exact ⟨[], s, s.size + 1, hs, Nat.lt_succ_self _, rfl, BP, BS, BV, h0⟩
  case round =>
    obtain ⟨pre, rest, k, hr, hk, hx, bP, bS, bV, hj⟩ := hrel
    have cP := bP.cell
    have cS := bS.cell
    have fS := bS.frozen
    have cV := bV.cell
    rcases Lib.indexB_cases rest ⟨#[c]⟩ with hm | ⟨i, hi, hle⟩
    · have hp : Lib.splitB ⟨#[c]⟩ 0 k rest = [rest] := Lib.splitB_miss _ _ _ _ hm
      rw [idx_one] at hm
      have HM := hide hm
      have HP := hide hp
      have HX := hide hx
      clear hm hp hx
      obtain ⟨fn, tmps, assign, body, hy, hR⟩ := hY pre rest wr hj (by rw [HX.out, HP.out]; exact List.prefix_refl _)
      gi_wp2_with (refine ⟨trivial, ?_⟩; gi_at_call 79; refine (callsIn_wide.2 (Tryd.strings_Index_one rest c _)).mono ?_; rintro e w' ⟨rfl, rfl⟩; rw [HM.out])
      refine hR.mono ?_
      rintro e W3 ⟨rfl, hJ3, hk3⟩
      gi_wp2
      go_end0
      exact ⟨⟨_, rfl⟩, by rw [HX.out, HP.out]; exact hJ3⟩
    · obtain ⟨k, rfl⟩ : ∃ k', k = k' + 1 := ⟨k - 1, by omega⟩
      have hp := Lib.splitB_hit ⟨#[c]⟩ 0 k rest i hi
      have hz : ByteArray.size ⟨#[c]⟩ = 1 := rfl
      rw [hz] at hle hp
      rw [Nat.add_zero] at hp
      rw [idx_one] at hi
      have HM := hide hi
      have HP := hide hp
      have HX := hide hx
      clear hi hp hx
      obtain ⟨fn, tmps, assign, body, hy, hR⟩ := hY pre (rest.extract 0 i) wr hj ⟨Lib.splitB ⟨#[c]⟩ 0 k (rest.extract (i + 1) rest.size), by rw [HX.out, HP.out]; simp⟩
      gi_wp2_with (refine ⟨trivial, ?_⟩; gi_at_call 79; refine (callsIn_wide.2 (Tryd.strings_Index_one rest c _)).mono ?_; rintro e w' ⟨rfl, rfl⟩; rw [HM.out])
      refine hR.mono ?_
      rintro e W3 ⟨rfl, hJ3, hk3⟩
      have bP3 := same_boxed hk3 (by simp) bP
      have bS3 := same_boxed hk3 (by simp) bS
      have bV3 := same_boxed hk3 (by simp) bV
      have cP := bP3.cell
      have cS := bS3.cell
      have fS := bS3.frozen
      have cV := bV3.cell
      have hsz : (rest.extract (i + 1) rest.size).size = rest.size - (i + 1) := by rw [ByteArray.size_extract, Nat.min_self]
      gi_wp2
      go_roundw
      case rel => exact ⟨pre ++ [rest.extract 0 i], rest.extract (i + 1) rest.size, k, by omega, by omega, by rw [HX.out, HP.out]; simp, bP3.other hd.1 _, bS3.set _, bV3.other hd.2 _, hJ _ _ _ hJ3 ⟨_, rfl⟩⟩
      case measure => rw [leftS_eq (bS3.set _).cell, leftS_eq bS.cell]; omega

set_option maxRecDepth 100000 in
set_option maxHeartbeats 4000000 in
theorem splitSeq_made (s sep : ByteArray) (w : World) : Calls Tryd.prog 64 #[.string s, .string sep] w fun e w' =>
    e = .returned (.func (.func 91) #[] #[.pointer (some ⟨w.heap.size + 1, 0, none⟩), .pointer (some ⟨w.heap.size, 0, none⟩), .pointer (some ⟨w.heap.size + 2, 0, none⟩)]) ∧ w' = ((w.alloc (.cells #[.string s] 9)).alloc (.cells #[.string sep] 9)).alloc (.cells #[.int .i64 0] 3) := by
  go_enter Tryd.func64, Tryd.ntmps64
  have h77 : Calls Tryd.prog 77 #[.string s, .string sep, .int .i64 0] w fun e w' =>
    e = .returned (.func (.func 91) #[] #[.pointer (some ⟨w.heap.size + 1, 0, none⟩), .pointer (some ⟨w.heap.size, 0, none⟩), .pointer (some ⟨w.heap.size + 2, 0, none⟩)]) ∧ w' = ((w.alloc (.cells #[.string s] 9)).alloc (.cells #[.string sep] 9)).alloc (.cells #[.int .i64 0] 3) := by
    go_enter Tryd.func77, Tryd.ntmps77
    go_wp2
    go_ret
    exact ⟨rfl, rfl⟩
  go_wp2_with (go_at_call 77; refine h77.mono ?_; rintro e w' ⟨rfl, rfl⟩)
  go_ret
  exact ⟨rfl, rfl⟩
end Go.Proofs.YtlkhiihehaiinaaDoor

/- A list of strings that is collected in a box while other memory is written. -/
namespace Go.Proofs.YtlkhiihehaiinaaDoor
open Go.RowKit Go.Shelf

/-- The box B holds a slice of its own that holds xs; no block of D is its own. -/
def Coll (n₀ B : Nat) (D : List Nat) (xs : List ByteArray) (W : World) : Prop :=
  ∃ v, Boxed W B 42 v ∧ W.ownsRow n₀ 9 1 v xs.length (xs.map Value.string) ∧ (v = .slice none 0 0 ↔ xs = []) ∧ ∀ g, v.ownBlock = some g → g ∉ D
theorem own_block_cells {W : World} {base : Nat} {e : TypeId} {size k : Nat} {v : Value} {xs : List Value} (h : W.ownsRow base e size v k xs) {g : Nat} (hg : v.ownBlock = some g) : base ≤ g ∧ g < W.heap.size ∧ ∃ o, W.heap[g]? = some o ∧ o.isCells = true := by
  rcases h.2 with ⟨rfl, _⟩ | ⟨g', cap, cur, rfl, hb, hgb, _⟩
  · simp [Value.ownBlock] at hg
  · obtain rfl : g' = g := by simpa [Value.ownBlock] using hg
    exact ⟨hb, (Array.getElem?_eq_some_iff.1 hgb).1, _, hgb, rfl⟩
theorem Coll.nil {n₀ B : Nat} {D : List Nat} {W : World} (h : Boxed W B 42 (.slice none 0 0)) : Coll n₀ B D [] W :=
  ⟨_, h, World.ownsRow_nil _ _ _ _, by simp, fun g hg => by simp [Value.ownBlock] at hg⟩
theorem Coll.lt {n₀ B : Nat} {D : List Nat} {xs : List ByteArray} {W : World} (h : Coll n₀ B D xs W) : B < W.heap.size := by obtain ⟨v, h1, _⟩ := h; exact h1.lt
theorem Coll.grown {n₀ B : Nat} {D : List Nat} {xs : List ByteArray} {X Y : World} {row : Option Nat} (h : Coll n₀ B D xs X) (hg : X.grownBy Y row) (hr : ∀ r, row = some r → r ≠ B ∧ (r ∈ D ∨ ∀ o, X.heap[r]? = some o → o.isCells = false)) : Coll n₀ B D xs Y := by
  obtain ⟨v, h1, h2, h3, h4⟩ := h
  refine ⟨v, h1.kept hg (fun e => (hr B e.symm).1 rfl), h2.kept hg ?_, h3, h4⟩
  cases ho : v.ownBlock with
  | none => exact .inl rfl
  | some g =>
    refine .inr fun e => ?_
    have hg2 := h4 g ho
    obtain ⟨_, _, o, ho2, hc⟩ := own_block_cells h2 ho
    rcases (hr g e.symm).2 with h5 | h5
    · exact hg2 h5
    · rw [h5 o ho2] at hc; cases hc
theorem Coll.alloc {n₀ B : Nat} {D : List Nat} {xs : List ByteArray} {X : World} (h : Coll n₀ B D xs X) (o : Obj) : Coll n₀ B D xs (X.alloc o) := h.grown (World.grownBy_alloc X o none) (fun r e => by cases e)
theorem Coll.set {n₀ B b : Nat} {D : List Nat} {xs : List ByteArray} {X : World} (h : Coll n₀ B D xs X) (hb : b ∈ D) (hne : b ≠ B) (v : Value) : Coll n₀ B D xs (X.setCell ⟨b, 0, none⟩ v) :=
  h.grown (grownBy_setCell' X b v) (fun r e => by cases e; exact ⟨hne, .inl hb⟩)
theorem Coll.mono {n₀ B : Nat} {D D' : List Nat} {xs : List ByteArray} {X : World} (h : Coll n₀ B D xs X) (hd : ∀ b ∈ D', b ∈ D ∨ X.heap.size ≤ b) : Coll n₀ B D' xs X := by
  obtain ⟨v, h1, h2, h3, h4⟩ := h
  refine ⟨v, h1, h2, h3, fun g hg hm => ?_⟩
  rcases hd g hm with h5 | h5
  · exact h4 g hg h5
  · have := (own_block_cells h2 hg).2.1; omega
theorem coll_own {β : Type} (n₀ B : Nat) (D : List Nat) (f : β → List ByteArray) : Own (fun s W => Coll n₀ B D (f s) W) := fun s X Y row h hg hr =>
  h.grown hg (fun r e => by
    obtain ⟨o, ho, hc⟩ := hr r e
    refine ⟨fun e2 => ?_, .inr fun o2 ho2 => by rw [ho] at ho2; cases ho2; exact hc⟩
    obtain ⟨v, h1, _⟩ := h
    subst e2
    rw [show X.heap[r]? = _ from h1] at ho; cases ho; cases hc)
theorem info_str : (Tryd.prog.info? 9).map (fun i => (i.zero, i.size, i.bytes)) = some (some (.string ByteArray.empty), 1, 16) := by kernel_rfl

/-- Behind an append of one string and the store into the box. -/
theorem coll_app {n₀ B : Nat} {D : List Nat} {xs : List ByteArray} {W w1 : World} {v v' : Value} {x : ByteArray} {tmp : Obj} (hv : Boxed W B 42 v) (hrow : W.ownsRow n₀ 9 1 v xs.length (xs.map Value.string)) (hD : ∀ g, v.ownBlock = some g → g ∉ D) (hn₀ : n₀ ≤ W.heap.size) (hB : n₀ ≤ B) (hlt : ∀ b ∈ D, b < W.heap.size) (hDB : ∀ b ∈ D, b ≠ B)
    (hown' : w1.ownsRow n₀ 9 1 v' (xs.length + 1) (xs.map Value.string ++ [.string x])) (hgrow : (W.alloc tmp).grownBy w1 v.ownBlock) (hat : v'.ownBlock = v.ownBlock ∨ v'.ownBlock = some (W.alloc tmp).heap.size) :
    Coll n₀ B D (xs ++ [x]) (w1.setCell ⟨B, 0, none⟩ v') ∧ KeepsOthers W (w1.setCell ⟨B, 0, none⟩ v') ∧ Below n₀ W (w1.setCell ⟨B, 0, none⟩ v') ∧ SameAt D W (w1.setCell ⟨B, 0, none⟩ v') := by
  obtain ⟨g', cap', rfl⟩ := ownsRow_succ hown'
  obtain ⟨hv1, hv2, hr2, hk2, hb2⟩ := hv.appended (by decide) hrow hn₀ hB hown' hgrow
  refine ⟨⟨_, hv2, by simpa using hr2, by simp, fun g hg hm => ?_⟩, hk2, hb2, fun k hk => ?_⟩
  · rcases hat with h | h
    · exact hD g (h ▸ hg) hm
    · rw [h] at hg
      injection hg with hg
      have := hlt g hm
      simp at hg
      omega
  · have hkB := hDB k hk
    have hkl := hlt k hk
    refine (Below.heap_setCell _ _ _ k hkB).trans ((hgrow.block k (by simp; omega) (fun e => ?_)).trans (Below.heap_alloc _ _ _ hkl))
    exact hD k e.symm hk
end Go.Proofs.YtlkhiihehaiinaaDoor

/- The texts of all faults, as plain lists. -/
namespace Go.Proofs.YtlkhiihehaiinaaDoor
open Go.RowKit

/-- A string of bytes. -/
abbrev mk (l : List UInt8) : ByteArray := ⟨l.toArray⟩
theorem mk_data (l : List UInt8) : (mk l).data.toList = l := rfl
theorem mk_size (l : List UInt8) : (mk l).size = l.length := by simp [ByteArray.size]
theorem mk_app (a b : List UInt8) : mk a ++ mk b = mk (a ++ b) := by apply ByteArray.ext; simp [ByteArray.data_append]
theorem of_data {x : ByteArray} {l : List UInt8} (h : x.data.toList = l) : x = mk l := by subst h; apply ByteArray.ext; simp
theorem map_data : ∀ {xs : List ByteArray} {ls : List (List UInt8)}, xs.map (·.data.toList) = ls → xs = ls.map mk
  | [], _, h => by subst h; rfl
  | x :: xs, _, h => by subst h; simp only [List.map_cons]; rw [← map_data (xs := xs) rfl, ← of_data (x := x) rfl]

def famL : List UInt8 := [105, 110, 118, 101, 114, 116, 101, 100, 58, 32, 97, 100, 100, 32, 115, 117, 98, 32, 109, 117, 108, 32, 100, 105, 118, 32, 109, 111, 100, 32, 110, 101, 103, 32, 99, 111, 110, 99, 97, 116, 32, 108, 101, 110, 103, 116, 104, 32, 101, 113, 32, 110, 101, 32, 108, 116, 32, 108, 101, 32, 103, 116, 32, 103, 101, 32, 115, 97, 109, 101, 32, 105, 115, 110, 117, 108, 108, 32, 97, 110, 100, 32, 111, 114, 32, 110, 111, 116, 32, 105, 115, 116, 114, 117, 101, 32, 99, 97, 115, 101, 32, 99, 111, 97, 108, 101, 115, 99, 101, 32, 105, 110, 10, 115, 116, 114, 105, 99, 116, 58, 32, 115, 97, 109, 101, 32, 105, 115, 110, 117, 108, 108, 32, 97, 110, 100, 32, 111, 114, 32, 105, 115, 116, 114, 117, 101, 32, 99, 97, 115, 101, 32, 99, 111, 97, 108, 101, 115, 99, 101, 32, 105, 110, 10, 122, 101, 114, 111, 58, 32, 97, 100, 100, 32, 115, 117, 98, 32, 109, 117, 108, 32, 100, 105, 118, 32, 109, 111, 100, 32, 110, 101, 103, 32, 99, 111, 110, 99, 97, 116, 32, 108, 101, 110, 103, 116, 104, 32, 101, 113, 32, 110, 101, 32, 108, 116, 32, 108, 101, 32, 103, 116, 32, 103, 101, 32, 97, 110, 100, 32, 111, 114, 32, 110, 111, 116, 32, 105, 110, 10, 115, 119, 97, 112, 112, 101, 100, 58, 32, 115, 117, 98, 32, 100, 105, 118, 32, 109, 111, 100, 32, 99, 111, 110, 99, 97, 116, 32, 108, 116, 32, 108, 101, 32, 103, 116, 32, 103, 101, 32, 99, 111, 97, 108, 101, 115, 99, 101, 32, 105, 110, 10, 114, 101, 112, 108, 97, 99, 101, 100, 58, 32, 97, 100, 100, 32, 115, 117, 98, 32, 109, 117, 108, 32, 100, 105, 118, 32, 109, 111, 100, 32, 101, 113, 32, 110, 101, 32, 108, 116, 32, 108, 101, 32, 103, 116, 32, 103, 101, 32, 115, 97, 109, 101, 32, 97, 110, 100, 32, 111, 114, 10, 108, 111, 115, 116, 58, 32, 115, 99, 97, 110, 32, 118, 97, 108, 117, 101, 115, 32, 102, 105, 108, 116, 101, 114, 32, 112, 114, 111, 106, 101, 99, 116, 32, 108, 111, 111, 112, 32, 104, 97, 115, 104, 32, 109, 101, 114, 103, 101, 32, 115, 111, 114, 116, 32, 104, 97, 115, 104, 103, 114, 111, 117, 112, 32, 115, 111, 114, 116, 103, 114, 111, 117, 112, 32, 97, 112, 112, 101, 110, 100, 32, 100, 105, 115, 116, 105, 110, 99, 116, 32, 117, 110, 105, 113, 117, 101, 32, 101, 120, 99, 101, 112, 116, 32, 105, 110, 116, 101, 114, 115, 101, 99, 116, 10, 100, 111, 117, 98, 108, 101, 100, 58, 32, 115, 99, 97, 110, 32, 118, 97, 108, 117, 101, 115, 32, 102, 105, 108, 116, 101, 114, 32, 112, 114, 111, 106, 101, 99, 116, 32, 108, 111, 111, 112, 32, 104, 97, 115, 104, 32, 109, 101, 114, 103, 101, 32, 115, 111, 114, 116, 32, 104, 97, 115, 104, 103, 114, 111, 117, 112, 32, 115, 111, 114, 116, 103, 114, 111, 117, 112, 32, 97, 112, 112, 101, 110, 100, 32, 100, 105, 115, 116, 105, 110, 99, 116, 32, 117, 110, 105, 113, 117, 101, 32, 101, 120, 99, 101, 112, 116, 32, 105, 110, 116, 101, 114, 115, 101, 99, 116, 10, 110, 117, 108, 108, 108, 101, 115, 115, 58, 32, 115, 99, 97, 110, 32, 118, 97, 108, 117, 101, 115, 32, 102, 105, 108, 116, 101, 114, 32, 112, 114, 111, 106, 101, 99, 116, 32, 108, 111, 111, 112, 32, 104, 97, 115, 104, 32, 109, 101, 114, 103, 101, 32, 115, 111, 114, 116, 32, 104, 97, 115, 104, 103, 114, 111, 117, 112, 32, 115, 111, 114, 116, 103, 114, 111, 117, 112, 32, 97, 112, 112, 101, 110, 100, 32, 100, 105, 115, 116, 105, 110, 99, 116, 32, 117, 110, 105, 113, 117, 101, 32, 101, 120, 99, 101, 112, 116, 32, 105, 110, 116, 101, 114, 115, 101, 99, 116, 10, 115, 105, 110, 103, 108, 101, 58, 32, 115, 99, 97, 110, 32, 118, 97, 108, 117, 101, 115, 32, 102, 105, 108, 116, 101, 114, 32, 112, 114, 111, 106, 101, 99, 116, 32, 108, 111, 111, 112, 32, 104, 97, 115, 104, 32, 109, 101, 114, 103, 101, 32, 115, 111, 114, 116, 32, 104, 97, 115, 104, 103, 114, 111, 117, 112, 32, 115, 111, 114, 116, 103, 114, 111, 117, 112, 32, 97, 112, 112, 101, 110, 100, 32, 100, 105, 115, 116, 105, 110, 99, 116, 32, 117, 110, 105, 113, 117, 101, 32, 101, 120, 99, 101, 112, 116, 32, 105, 110, 116, 101, 114, 115, 101, 99, 116, 10, 107, 105, 110, 100, 58, 32, 108, 111, 111, 112, 44, 104, 97, 115, 104, 44, 109, 101, 114, 103, 101, 32, 105, 110, 110, 101, 114, 44, 108, 101, 102, 116, 44, 114, 105, 103, 104, 116, 44, 102, 117, 108, 108, 44, 115, 101, 109, 105, 44, 97, 110, 116, 105, 10, 110, 117, 108, 108, 107, 101, 121, 115, 58, 32, 104, 97, 115, 104, 32, 109, 101, 114, 103, 101, 10, 117, 110, 107, 110, 111, 119, 110, 58, 32, 102, 105, 108, 116, 101, 114, 32, 108, 111, 111, 112, 32, 104, 97, 115, 104, 32, 109, 101, 114, 103, 101, 10, 97, 103, 103, 114, 101, 103, 97, 116, 101, 58, 32, 104, 97, 115, 104, 103, 114, 111, 117, 112, 44, 115, 111, 114, 116, 103, 114, 111, 117, 112, 32, 114, 111, 119, 115, 44, 99, 111, 117, 110, 116, 44, 100, 105, 115, 116, 105, 110, 99, 116, 44, 115, 117, 109, 44, 109, 105, 110, 44, 109, 97, 120, 10, 101, 109, 112, 116, 121, 103, 114, 111, 117, 112, 58, 32, 104, 97, 115, 104, 103, 114, 111, 117, 112, 32, 115, 111, 114, 116, 103, 114, 111, 117, 112, 10, 110, 117, 108, 108, 103, 114, 111, 117, 112, 58, 32, 104, 97, 115, 104, 103, 114, 111, 117, 112, 32, 115, 111, 114, 116, 103, 114, 111, 117, 112, 10, 100, 101, 115, 99, 101, 110, 100, 105, 110, 103, 58, 32, 115, 111, 114, 116, 10, 97, 108, 108, 58, 32, 101, 120, 99, 101, 112, 116, 32, 105, 110, 116, 101, 114, 115, 101, 99, 116, 10, 99, 111, 108, 117, 109, 110, 58, 32, 100, 105, 115, 116, 105, 110, 99, 116, 32, 117, 110, 105, 113, 117, 101, 10, 97, 112, 112, 101, 110, 100, 58, 32, 97, 112, 112, 101, 110, 100, 32, 49, 44, 50]
def piecesL (c : UInt8) (s : List UInt8) : List (List UInt8) := Lib.splitK [c] 0 (s.length + 1) s
theorem pieces_mk (c : UInt8) (s : List UInt8) : pieces c (mk s) = (piecesL c s).map mk := by
  apply map_data
  unfold pieces
  rw [Lib.splitB_data, mk_size, mk_data]
  rfl
def linesL : List (List UInt8) := piecesL 10 famL
def cutF (l : List UInt8) : List UInt8 := (Lib.cut l [58, 32]).1
def cutP (l : List UInt8) : List UInt8 := (Lib.cut l [58, 32]).2.1
def wordsL (l : List UInt8) : List (List UInt8) := Lib.fields (cutP l)
def twoL (l : List UInt8) : Bool := (wordsL l).length == 2 && decide (0 ≤ Lib.indexByte ((wordsL l).getD 1 []) 44)
def firstsL (l : List UInt8) : List (List UInt8) := piecesL 44 ((wordsL l).getD 0 [])
def secondsL (l : List UInt8) : List (List UInt8) := piecesL 44 ((wordsL l).getD 1 [])
def joinL (l a b : List UInt8) : List UInt8 := cutF l ++ [32] ++ a ++ [32] ++ b
def lineT (l : List UInt8) : List (List UInt8) :=
  if twoL l then (firstsL l).flatMap fun a => (secondsL l).map fun b => joinL l a b else (wordsL l).map fun x => cutF l ++ [32] ++ x
def textsL : List (List UInt8) := linesL.flatMap lineT
/-- What the walk wants of a line. -/
def lineOk (l : List UInt8) : Bool := l.length ≤ 200 && l.all (fun b => b.toNat < 128) && (cutF l).length ≤ 200 && (cutP l).length ≤ 200 && (cutP l).all (fun b => b.toNat < 128) && (wordsL l).length ≤ 30 && (wordsL l).all (fun x => x.length ≤ 200) &&
  (firstsL l).all (fun x => x.length ≤ 200) && (secondsL l).all (fun x => x.length ≤ 200) && (firstsL l).length ≤ 30 && (secondsL l).length ≤ 30
theorem lines_ok : linesL.all lineOk = true := by kernel_rfl
theorem texts_len : textsL.length = 180 := by kernel_rfl
theorem lines_len : linesL.length = 19 := by kernel_rfl
end Go.Proofs.YtlkhiihehaiinaaDoor

/- What a round of a range over a function keeps, while loops run in it. -/
namespace Go.Proofs.YtlkhiihehaiinaaDoor
open Go.RowKit Go.Shelf

/-- From the round's start W on: what lay below n₀, what is no cells at or beyond B0; from W2 on the blocks K. -/
structure RD (n₀ B0 : Nat) (K : List Nat) (W W2 X : World) : Prop where
  bel : Below n₀ W X
  kf : KeepsFrom B0 W X
  sm : SameAt K W2 X
section
variable {n₀ B0 : Nat} {K : List Nat} {W W2 X Y : World}
theorem RD.start (hb : Below n₀ W W2) (hk : KeepsFrom B0 W W2) : RD n₀ B0 K W W2 W2 := ⟨hb, hk, SameAt.refl _ _⟩
theorem RD.step (h : RD n₀ B0 K W W2 X) (hb : Below n₀ X Y) (hk : KeepsFrom B0 X Y) (hs : SameAt K X Y) : RD n₀ B0 K W W2 Y := ⟨h.bel.trans hb, h.kf.trans hk, h.sm.trans hs⟩
theorem RD.set (h : RD n₀ B0 K W W2 X) {b : Nat} (hb : n₀ ≤ b) (hK : b ∉ K) (v : Value) : RD n₀ B0 K W W2 (X.setCell ⟨b, 0, none⟩ v) :=
  h.step ((Below.refl n₀ X).setCell (p := ⟨b, 0, none⟩) hb v) ((KeepsOthers.setCell _ _ _).from _) (fun k hk => Below.heap_setCell _ _ _ k (fun e => hK (by have e2 : k = b := e; rw [← e2]; exact hk)))
theorem RD.alloc (h : RD n₀ B0 K W W2 X) (hn : n₀ ≤ X.heap.size) (hK : ∀ k ∈ K, k < X.heap.size) (o : Obj) : RD n₀ B0 K W W2 (X.alloc o) :=
  h.step ((Below.refl n₀ X).alloc hn o) ((KeepsOthers.alloc _ _).from _) (fun k hk => Below.heap_alloc _ _ _ (hK k hk))
end
theorem rd_own {β : Type} {n₀ B0 B' : Nat} {K : List Nat} {W W2 : World} (h0 : n₀ ≤ W.heap.size) (h1 : n₀ ≤ B') (h2 : W.heap.size ≤ B') (h3 : ∀ k ∈ K, k < B') : OwnFrom B' (fun (_ : β) X => RD n₀ B0 K W W2 X ∧ W2.heap.size ≤ X.heap.size ∧ ∀ k ∈ K, k < X.heap.size) :=
  fun _ X Y row ⟨hs, hz, hl⟩ hg hr => ⟨⟨hs.bel.grown hg (Nat.le_trans h0 hs.kf.size) (fun k e => by have := (hr k e).1; omega), (ownFrom_keepsFrom (β := Unit) h2) () X Y row hs.kf hg hr, hs.sm.trans (fun k hk => hg.block k (hl k hk) (fun e => by have := (hr k e.symm).1; have := h3 k hk; omega))⟩, Nat.le_trans hz hg.size, fun k hk => Nat.lt_of_lt_of_le (hl k hk) hg.size⟩
/-- Two words on one collection. -/
theorem coll_join {n₀ B : Nat} {D D' : List Nat} {xs ys : List ByteArray} {W : World} (h : Coll n₀ B D xs W) (h' : Coll n₀ B D' ys W) : Coll n₀ B (D ++ D') xs W := by
  obtain ⟨v, h1, h2, h3, h4⟩ := h
  obtain ⟨v', h1', _, _, h4'⟩ := h'
  have e : v = v' := by
    have a := h1.cell
    have b := h1'.cell
    rw [a] at b
    injection b
  subst e
  exact ⟨v, h1, h2, h3, fun g hg hm => (List.mem_append.1 hm).elim (h4 g hg) (h4' g hg)⟩
theorem kf_wider {B B' : Nat} {X Y : World} (h : KeepsFrom B X Y) (hB : B ≤ B') : KeepsFrom B' X Y := ⟨h.size, fun k o hk => h.same k o (Nat.le_trans hB hk)⟩
theorem setCell_size (X : World) (b : Nat) (v : Value) : (X.setCell ⟨b, 0, none⟩ v).heap.size = X.heap.size := by
  show (X.heap.modify _ _).size = _
  rw [Array.size_modify]
end Go.Proofs.YtlkhiihehaiinaaDoor

/- FaultNames: for every two lists, a number and a text the law returns true, and they read as they did. The package variables expression.operations, value.null, strings.asciiSpace, unicode.White_Space and the two of unicode/utf8 start as the program's text lays them (the card ties that to the text). No other condition. -/
import Derived.Test.YtlkhiihehaiinaaDoorCards
import Derived.Test.YtlkhiihehaiinaaDoorTie
import Derived.Test.YtlkhiihehaiinaaDoorLawFN
import Derived.Test.YtlkhiihehaiinaaDoorFLaid
import Derived.WalkKit
import Derived.ProofKit
import Derived.OpenShut
import Derived.ShutString
import Derived.ChangeOld
import Derived.Deep.DeepHandedRow
import Derived.Deep.DeepWitnessRowRef
import Derived.LaidOnce
namespace Go.Proofs.YtlkhiihehaiinaaDoor.faultNames
open Go.ChangeShapes Go.WideShapes Go.ChangeAt Go.RowKit
open Go.ChangeMaps (open_string)

theorem own : ownKnob Tryd.prog.godebug = none := by kernel_rfl
theorem laidOut : laidOutB Tryd.prog = true := by kernel_rfl

/-- The cells that a datum of structs, strings and integers takes. -/
def flatD : Nat → DataW Unit → List Value
  | n + 1, .agg l => l.flatMap (flatD n)
  | _ + 1, .lit (.string s) => [.string ⟨s.toArray⟩]
  | _ + 1, .lit (.int k n) => [.int k n]
  | _, _ => []
/-- A world for the witness: the settled one, the table holding what its initialiser lays. -/
noncomputable def laidWorld (os : Os) : World :=
  let N := (World.settled Tryd.prog os).heap.size
  let w0 := World.holding Tryd.prog os ⟨#[.cells ([9, 13, 1, 32, 133, 101, 160, 5760, 5600, 8192, 8202, 1, 8232, 8233, 1, 8239, 8287, 48, 12288, 12288, 1].map fun (z : Int) => Value.int .u16 z).toArray 120, .cells #[.slice (some ⟨N, 0, none⟩) 7 7, .slice none 0 0, .int .i64 2] 117], #[], []⟩
  let put (h : Array Obj) (g : Nat) (cs : Array Value) : Array Obj := h.modify g fun
    | .cells _ t frozen => .cells cs t frozen
    | o => o
  let h1 := put w0.heap 0 (flatD 8 Rows.laid_strings_asciiSpace).toArray
  let h2 := put h1 5 (flatD 8 Rows.laid_unicode_utf8_first).toArray
  let h3 := put h2 6 (flatD 8 Rows.laid_unicode_utf8_acceptRanges).toArray
  let h4 := put h3 1 #[.pointer (some ⟨N + 1, 0, none⟩)]
  let h5 := put h4 2 (flatD 8 Rows.laid_querylab_value_null).toArray
  { w0 with heap := put h5 3 (flatD 8 Rows.laid_querylab_expression_operations).toArray }
theorem laidMet_of_bits {P : Program} {w : World} {l : List (String × DataW Unit)} (fuel M : Nat)
    (h : ((DataW.laidRun P w fuel (l.map (·.1))).bind fun x => if nodupBits M x.2 0 && laidRowsB P w x.2 then some x.1 else none) = some l) : laidMet P l w := by
  obtain ⟨x, hx, d⟩ := Option.bind_eq_some_iff.1 h
  split at d
  · rename_i hb
    simp only [Bool.and_eq_true] at hb
    obtain ⟨x1, x2⟩ := x
    injection d with d
    subst d
    exact laidMet_of_run fuel hx (decide_eq_true (nodupBits_sound hb.1).1) hb.2
  · cases d
theorem laid_met (os : Os) : laidMet Tryd.prog Rows.faultNamesRow.laid ((laidWorld os).forCall (fun _ _ => 0) ⟨#[], #[.slice none 0 0, .slice none 0 0, .int .i64 0, .string ⟨#[]⟩], []⟩).memory :=
  laidMet_of_bits 8 257 (by kernel_rfl)
theorem reads (os : Os) {H : Type} (enc : TypeId × Value → H) : ∃ places, DataW.whole enc Tryd.prog ((laidWorld os).forCall (fun _ _ => 0) ⟨#[], #[.slice none 0 0, .slice none 0 0, .int .i64 0, .string ⟨#[]⟩], []⟩).memory Tryd.f4.params.toList Rows.faultNamesSpec.vars false (#[Value.slice none 0 0, Value.slice none 0 0, Value.int .i64 0, Value.string ⟨#[]⟩] : Array Value).toList 8 = some ([.nil, .nil, .lit (.int .i64 0), .lit (.string [])], [], places) :=
  ⟨[], by kernel_rfl⟩

set_option maxRecDepth 100000 in
theorem contract (H : Type) (enc : TypeId × Value → H) (W : World) (base : Nat) (args : Array Value) (ds gs : List (DataW H)) (before : List MemPlace)
    (hval : ∀ (j : Nat) t v, Tryd.f4.params[j]? = some t → args[j]? = some v → Value.okWide Tryd.prog W .any base t v)
    (hW : DataW.Whole enc Tryd.prog Tryd.f4.params.toList Rows.faultNamesSpec.vars false W args.toList ds gs before) (hL : laidMetH Tryd.prog Rows.faultNamesRow.laid W) (hsh : W.ShapedOpen Tryd.prog) :
    Calls Tryd.prog 4 args W fun e W' => ∃ v, e = .returned v ∧ Rows.faultNamesSpec.post enc Tryd.prog Tryd.f4 false true false false W args v W' := by
  have hW' := hW
  obtain ⟨p, q, hA0, hV, rfl, hfz, hnd⟩ := hW
  have hA : DataW.TrodAll enc Tryd.prog W 0 (fun _ => true) true Tryd.f4.params.toList args.toList ds p := hA0
  rw [Tryd.params4] at hA hval
  obtain ⟨v0, vs0, d0, ds0, p0, q0, hargs, rfl, rfl, h0, r0⟩ := trodAll_cons hA
  obtain ⟨v1, vs1, d1, ds1, p1, q1, rfl, rfl, rfl, h1, r1⟩ := trodAll_cons r0
  obtain ⟨v2, vs2, d2, ds2, p2, q2, rfl, rfl, rfl, h2, r2⟩ := trodAll_cons r1
  obtain ⟨v3, vs3, d3, ds3, p3, q3, rfl, rfl, rfl, h3, r3⟩ := trodAll_cons r2
  obtain ⟨rfl, rfl, rfl⟩ := trodAll_nil r3
  obtain rfl : args = #[v0, v1, v2, v3] := by cases args; simp_all
  obtain ⟨rfl, rfl⟩ := trodVars_none hV
  have k0 := h0
  have lt0 : ∀ x ∈ p0, x.block < W.heap.size := by obtain ⟨m, hm⟩ := k0; exact DataW.trod_lt m _ _ _ hm
  obtain ⟨ao0, n0, cp0, rfl⟩ := okWide_slice Tryd.underlying34 (hval 0 34 v0 rfl rfl)
  obtain ⟨a0, e0, w0⟩ : ∃ a : IL, [Value.slice ao0 n0 cp0] = a.cells ∧ a.In W := by obtain ⟨m, hm⟩ := k0; exact open_il hm
  injection e0 with e0 _
  injection e0 with x0 y0 z0
  subst x0 y0 z0
  have k1 := h1
  have lt1 : ∀ x ∈ p1, x.block < W.heap.size := by obtain ⟨m, hm⟩ := k1; exact DataW.trod_lt m _ _ _ hm
  obtain ⟨ao1, n1, cp1, rfl⟩ := okWide_slice Tryd.underlying34 (hval 1 34 v1 rfl rfl)
  obtain ⟨a1, e1, w1⟩ : ∃ a : IL, [Value.slice ao1 n1 cp1] = a.cells ∧ a.In W := by obtain ⟨m, hm⟩ := k1; exact open_il hm
  injection e1 with e1 _
  injection e1 with x1 y1 z1
  subst x1 y1 z1
  have k2 := h2
  have lt2 : ∀ x ∈ p2, x.block < W.heap.size := by obtain ⟨m, hm⟩ := k2; exact DataW.trod_lt m _ _ _ hm
  obtain ⟨a2, rfl, _, _, w2⟩ := open_int Tryd.underlying3 (hval 2 3 v2 rfl rfl) h2
  have k3 := h3
  have lt3 : ∀ x ∈ p3, x.block < W.heap.size := by obtain ⟨m, hm⟩ := k3; exact DataW.trod_lt m _ _ _ hm
  obtain ⟨a3, rfl, _, _, w3⟩ := open_string Tryd.underlying9 (hval 3 9 v3 rfl rfl) h3
  have b2 : int64 a2 := by
    simp [Lit.wf, IntKind.min, IntKind.max, IntKind.signed, IntKind.bits] at w2
    exact ⟨by omega, by omega⟩
  clear hA0
  have hr : Lib.VarReads Tryd.prog W "querylab/expression.operations" Rows.laid_querylab_expression_operations := Lib.laidMet.reads (l := Rows.faultNamesRow.laid) hL (by simp [Rows.faultNamesRow])
  have hr2 : Lib.VarReads Tryd.prog W "querylab/value.null" Rows.laid_querylab_value_null := Lib.laidMet.reads (l := Rows.faultNamesRow.laid) hL (by simp [Rows.faultNamesRow])
  have hr3 : Lib.VarReads Tryd.prog W "strings.asciiSpace" Rows.laid_strings_asciiSpace := Lib.laidMet.reads (l := Rows.faultNamesRow.laid) hL (by simp [Rows.faultNamesRow])
  refine (names_walk a0 a1 a2 a3 W w0 w1 b2 ⟨⟨hsh, tab_of_reads hr3⟩, nul_of_reads hr2, ops_of_reads hr⟩).mono fun e W' ⟨he, bel⟩ => ?_
  subst he
  exact ⟨_, rfl, _, _, _, [], _, [], hW', trodAll_mk1 (shut_bool Tryd.underlying4 _), (trodAll_cons_mk (Below.trod laidOut (by kernel_rfl) (of_decide_eq_true (by kernel_rfl)) k0 bel lt0) (trodAll_cons_mk (Below.trod laidOut (by kernel_rfl) (of_decide_eq_true (by kernel_rfl)) k1 bel lt1) (trodAll_cons_mk (Below.trod laidOut (by kernel_rfl) (of_decide_eq_true (by kernel_rfl)) k2 bel lt2) (trodAll_cons_mk (Below.trod laidOut (by kernel_rfl) (of_decide_eq_true (by kernel_rfl)) k3 bel lt3) trodAll_mk0)))), rfl, bel.frame _, fun h => by cases h⟩

set_option maxRecDepth 100000 in
theorem lifted (os : Os) (started : os.Started) (H : Type) (enc : TypeId × Value → H) (F : Stop.Interp) :
    ReturnsInHanded {} Tryd.checked os 4 .any ((OpenSpec.ofChange Rows.faultNamesSpec).preRow enc Tryd.prog Tryd.f4 Rows.faultNamesRow.domain false Rows.faultNamesRow.laid) (((OpenSpec.ofChange Rows.faultNamesSpec).at F).post enc Tryd.prog Tryd.f4 false true false false) := by
  obtain ⟨places, hx⟩ := reads os enc
  refine returnsInHanded_of_row (C := Tryd.checked) (s := OpenSpec.ofChange Rows.faultNamesSpec) own started (by kernel_rfl) Tryd.func4
    (witness_row_atRef (enc := enc) (C := Tryd.checked) false (laidWorld os) #[.slice none 0 0, .slice none 0 0, .int .i64 0, .string ⟨#[]⟩] rfl (by kernel_rfl) (by kernel_rfl) (by kernel_rfl)
      (OpenSpec.preRow_of_cond 8 hx (by kernel_rfl) (fun k hk => by cases hk) (by kernel_rfl) (laid_met os))) ?_
  intro W base args ds gs before hval hW _ _ _ hL hsh _
  exact contract H enc W base args ds gs before hval hW hL hsh

theorem said : Rows.FaultNamesSaid :=
  OpenClaim.holds_of_cond 4 Tryd.f4 rfl rfl rfl rfl rfl rfl rfl ⟨rfl, rfl, rfl, rfl, rfl⟩ rfl rfl rfl rfl rfl (by kernel_rfl) Tryd.func4 (by kernel_rfl)
    (of_decide_eq_true (by kernel_rfl)) (by unfold Func.isWrapper; first | (rw [if_pos (by decide +kernel)]; kernel_rfl) | (rw [if_neg (by decide +kernel)]; exact ⟨rfl, rfl⟩))
    (fun os started H enc _ F => by rw [OpenClaim.pre_eq_preRow]; exact lifted os started H enc F)

theorem plain (f : FuncId) (fn : Func) (hf : Tryd.pinned.checked.prog.funcNamed "querylab/querylablaw36.FaultNames" = some f) (hfn : Tryd.pinned.checked.prog.funcs[f]? = some fn) :
    false = Tryd.pinned.checked.prog.looks [] ∧ ∀ (j : Nat) t, fn.params[j]? = some t → Tryd.pinned.checked.prog.wantsStandIn t = false := by
  obtain rfl : f = 4 := Option.some.inj ((show Tryd.prog.funcNamed "querylab/querylablaw36.FaultNames" = some 4 by kernel_rfl).symm.trans hf) |>.symm
  obtain rfl : fn = Tryd.f4 := (Option.some.inj (Tryd.func4.symm.trans hfn)).symm
  refine ⟨by kernel_rfl, fun j t ht => ?_⟩
  rw [Tryd.params4] at ht
  have hm : t = 34 ∨ t = 3 ∨ t = 9 := by have := Array.mem_of_getElem? ht; simp at this; omega
  rcases hm with rfl | rfl | rfl
  · exact (show Tryd.prog.wantsStandIn 34 = false by kernel_rfl)
  · exact (show Tryd.prog.wantsStandIn 3 = false by kernel_rfl)
  · exact (show Tryd.prog.wantsStandIn 9 = false by kernel_rfl)

/-- The card. -/
theorem holds : Rows.FaultNamesCardSaid :=
  Claim7.holds_tied_plain_at .later [] _ _ _ _ said (fun _ h => by cases h) (by kernel_rfl) (fun _ h => by cases h) faultNames_row_tie rfl ⟨rfl, rfl⟩ (by kernel_rfl) rfl plain (by kernel_rfl)
end Go.Proofs.YtlkhiihehaiinaaDoor.faultNames

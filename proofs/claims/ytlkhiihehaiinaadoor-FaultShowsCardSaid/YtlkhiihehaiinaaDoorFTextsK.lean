/- fault.texts: the texts of all faults. -/
import Derived.Test.YtlkhiihehaiinaaDoorGB
import Derived.RangeFuncNested
import Derived.Lib.AppendIntMem
import Derived.Lib.SmallJoins
namespace Go.Proofs.YtlkhiihehaiinaaDoor
open Go.RowKit Go.Shelf
attribute [local go_sem] Oper.semAt_some

def textsB (pre : List ByteArray) : List ByteArray := pre.flatMap fun x => (lineT x.data.toList).map mk
theorem textsB_snoc (pre : List ByteArray) (l : List UInt8) : textsB (pre ++ [mk l]) = textsB pre ++ (lineT l).map mk := by simp [textsB, List.flatMap_append]

theorem tab_below {w X : World} {name : String} {k : IntKind} {zs : List Int} (h : Lib.TabIs Tryd.prog w name k zs) (hb : Below w.heap.size w X) : Lib.TabIs Tryd.prog X name k zs := Lib.tabBelow_of_tabIs h X hb

theorem textsB_all : textsB (pieces 10 (mk famL)) = textsL.map mk := by
  rw [pieces_mk]
  show textsB (linesL.map mk) = _
  unfold textsB textsL
  rw [List.flatMap_map, List.map_flatMap]
theorem textsB_le {pre : List ByteArray} {x : ByteArray} (h : pre ++ [x] <+: pieces 10 (mk famL)) : (textsB pre).length ≤ 180 := by
  obtain ⟨r, hr⟩ := h
  have h1 := congrArg (fun l => (textsB l).length) hr
  simp only [textsB_all, List.length_map, texts_len] at h1
  unfold textsB at h1 ⊢
  rw [List.flatMap_append, List.flatMap_append, List.length_append, List.length_append] at h1
  omega
def accA (y : List UInt8) (pre : List ByteArray) : List ByteArray := pre.flatMap fun x => (secondsL y).map fun b => mk (joinL y x.data.toList b)
theorem accA_snoc (y x : List UInt8) (pre : List ByteArray) : accA y (pre ++ [mk x]) = accA y pre ++ (secondsL y).map (fun b => mk (joinL y x b)) := by simp [accA, List.flatMap_append]
theorem accA_len {y : List UInt8} (h : (secondsL y).length ≤ 30) : ∀ pre : List ByteArray, (accA y pre).length ≤ 30 * pre.length
  | [] => Nat.zero_le _
  | x :: pre => by
    have ih := accA_len h pre
    unfold accA at ih ⊢
    rw [List.flatMap_cons, List.length_append, List.length_map, List.length_cons]
    omega
theorem accA_all {y : List UInt8} (h : twoL y = true) : accA y ((firstsL y).map mk) = (lineT y).map mk := by
  unfold accA lineT
  rw [if_pos h, List.flatMap_map, List.map_flatMap]
  simp [List.map_map, Function.comp_def]
theorem piece_of {c : UInt8} {s : List UInt8} {pre : List ByteArray} {x : ByteArray} (h : pre ++ [x] <+: pieces c (mk s)) : ∃ y ∈ piecesL c s, x = mk y := by
  obtain ⟨r, hr⟩ := h
  have hx : x ∈ pieces c (mk s) := by rw [← hr]; simp
  rw [pieces_mk] at hx
  obtain ⟨y, hy, he⟩ := List.mem_map.1 hx
  exact ⟨y, hy, he.symm⟩
theorem add_zero' (g j : Nat) : (⟨g, 0, none⟩ : Addr).add j = ⟨g, j, none⟩ := by
  unfold Addr.add
  by_cases h : j = 0
  · subst h; simp
  · simp [h]
theorem line_of {pre : List ByteArray} {x : ByteArray} (h : pre ++ [x] <+: pieces 10 (mk famL)) : ∃ y ∈ linesL, x = mk y := by
  obtain ⟨r, hr⟩ := h
  have hx : x ∈ pieces 10 (mk famL) := by rw [← hr]; simp
  rw [pieces_mk] at hx
  obtain ⟨y, hy, he⟩ := List.mem_map.1 hx
  exact ⟨y, hy, he.symm⟩
theorem cut_mk (y : List UInt8) (w : World) (h : w.ShapedOpen Tryd.prog) (hy : y.length ≤ 200) : Calls Tryd.prog 65 #[.string (mk y), .string ⟨#[58, 32]⟩] w fun e w' => e = .returned (.tuple #[.string (mk (cutF y)), .string (mk (cutP y)), .bool (Lib.cut y [58, 32]).2.2]) ∧ Below w.heap.size w w' :=
  (Tryd.strings_Cut_shaped (mk y) ⟨#[58, 32]⟩ w h (by rw [mk_size]; omega)).mono fun _ _ ⟨h1, _, h2⟩ => ⟨h1, h2 ▸ ⟨rfl, rfl, rfl, Nat.le_refl _, fun _ _ => rfl⟩⟩
theorem gb_of_below {w X : World} (h : Below w.heap.size w X) (row : Option Nat) : w.grownBy X row := ⟨h.os, h.tape, h.output, h.size, fun k hk _ => h.block k hk⟩

theorem fields_mk (p : List UInt8) (w : World) (h : Lib.TabIs Tryd.prog w "strings.asciiSpace" .u8 Lib.asciiSpaceTab) (hp : p.length ≤ 200) (ha : p.all (fun b => b.toNat < 128) = true) : Calls Tryd.prog 48 #[.string (mk p)] w fun e w' =>
    e = .returned (.slice (some ⟨w.heap.size, 0, none⟩) (Lib.fields p).length (Lib.fields p).length) ∧ w' = w.alloc (.cells ((Lib.fields p).map fun l => Value.string (mk l)).toArray 9) :=
  Tryd.strings_Fields_laid (mk p) w (by rw [mk_size]; omega) (fun j b hj => by have := List.all_eq_true.1 ha b (List.mem_of_getElem? hj); simpa using this) h

set_option maxRecDepth 100000 in
set_option maxHeartbeats 16000000 in
theorem texts_any (w : World) (hsh : w.ShapedOpen Tryd.prog) (htab : Lib.TabIs Tryd.prog w "strings.asciiSpace" .u8 Lib.asciiSpaceTab) :
    Calls Tryd.prog 42 #[] w fun e w' => ∃ g cap, e = .returned (.slice (some ⟨g, 0, none⟩) 180 cap) ∧ w.heap.size ≤ g ∧ (∀ j x, (textsL.map mk)[j]? = some x → w'.cell? ⟨g, j, none⟩ = some (.string x)) ∧ Below w.heap.size w w' := by
  refine (callsIn_wide (n := 20)).1 ?_
  refine callsIn_of_wp_marks Tryd.func42 rfl trivial ?_ rfl
  simp only [Tryd.ntmps42, List.size_toArray, List.length_nil, Nat.reduceSub, Array.replicate_succ, Array.replicate_zero, List.push_toArray, List.append_toArray, List.nil_append, List.cons_append]
  have HSH := hide (show ∀ X, Below w.heap.size w X → X.ShapedOpen Tryd.prog from fun X h => hsh.keptBut (h.frame (fun _ => False)) (by simp))
  have HTB := hide (show ∀ X, Below w.heap.size w X → Lib.TabIs Tryd.prog X "strings.asciiSpace" .u8 Lib.asciiSpaceTab from fun X h => tab_below htab h)
  clear hsh htab
  gi_wp2_with (refine ⟨trivial, ?_⟩; gi_at_call 64; refine (callsIn_wide.2 (splitSeq_made (mk famL) _ _)).mono ?_; rintro e w' ⟨rfl, rfl⟩)
  have bO := (((Boxed.new w 42 (.slice none 0 0)).alloc (.cells #[.string (mk famL)] 9)).alloc (.cells #[.string ⟨#[10]⟩] 9)).alloc (.cells #[.int .i64 0] 3)
  have bS := ((Boxed.new (w.alloc (.cells #[.slice none 0 0] 42)) 9 (.string (mk famL))).alloc (.cells #[.string ⟨#[10]⟩] 9)).alloc (.cells #[.int .i64 0] 3)
  have bP := (Boxed.new ((w.alloc (.cells #[.slice none 0 0] 42)).alloc (.cells #[.string (mk famL)] 9)) 9 (.string ⟨#[10]⟩)).alloc (.cells #[.int .i64 0] 3)
  have bV := Boxed.new (((w.alloc (.cells #[.slice none 0 0] 42)).alloc (.cells #[.string (mk famL)] 9)).alloc (.cells #[.string ⟨#[10]⟩] 9)) 3 (.int .i64 0)
  simp only [World.size_alloc] at bS bP bV
  have hB0 : Below w.heap.size w ((((w.alloc (.cells #[.slice none 0 0] 42)).alloc (.cells #[.string (mk famL)] 9)).alloc (.cells #[.string ⟨#[10]⟩] 9)).alloc (.cells #[.int .i64 0] 3)) := ((((Below.refl _ w).alloc (Nat.le_refl _) _).alloc (by simp) _).alloc (by simp; omega) _).alloc (by simp; omega) _
  have hsz : ((((w.alloc (.cells #[.slice none 0 0] 42)).alloc (.cells #[.string (mk famL)] 9)).alloc (.cells #[.string ⟨#[10]⟩] 9)).alloc (.cells #[.int .i64 0] 3)).heap.size = w.heap.size + 4 := by simp
  obtain ⟨W0, hW0⟩ : ∃ W0, (((w.alloc (.cells #[.slice none 0 0] 42)).alloc (.cells #[.string (mk famL)] 9)).alloc (.cells #[.string ⟨#[10]⟩] 9)).alloc (.cells #[.int .i64 0] 3) = W0 := ⟨_, rfl⟩
  rw [hW0] at bO bS bP bV hB0 hsz ⊢
  clear hW0
  have hDm : ∀ b ∈ [w.heap.size + 1 + 1, w.heap.size + 1, w.heap.size + 1 + 2], b < W0.heap.size := by intro b hb; simp at hb; omega
  refine wpIn_rangeAll rfl (by omega) (gf := 91) (lb := #[.pointer (some ⟨w.heap.size + 1 + 1, 0, none⟩), .pointer (some ⟨w.heap.size + 1, 0, none⟩), .pointer (some ⟨w.heap.size + 1 + 2, 0, none⟩)]) rfl trivial (enters_of Tryd.func91 (by kernel_rfl) rfl)
    (encs := fun x : ByteArray => #[.string x]) (A := fun X Y => ∃ v, Y = X.setCell ⟨w.heap.size + 1, 0, none⟩ v) (S := [w.heap.size + 1 + 1, w.heap.size + 1, w.heap.size + 1 + 2]) (xs := pieces 10 (mk famL))
    (fun W1 hb1 => splitSeq_all _ (by omega) (mk famL) 10 (by rw [mk_size]; decide) _ _ _ ⟨by omega, by omega⟩ W1 ((hb1.block _ (by omega)).trans bP) ((hb1.block _ (by omega)).trans bS) ((hb1.block _ (by omega)).trans bV))
    (fun X Y l o hxy hl hc => by obtain ⟨v, rfl⟩ := hxy; exact (KeepsOthers.setCell _ _ _).same l o hl hc) hDm (fun _ => rfl)
    (fun pre W => Coll w.heap.size w.heap.size [w.heap.size + 1 + 1, w.heap.size + 1, w.heap.size + 1 + 2] (textsB pre) W ∧ Below w.heap.size w W)
    (OwnFrom.and (Own.from (coll_own _ _ _ _) _) (ownFrom_below (Nat.le_refl _) (by omega)))
    (fun s X Y hs hxy => by obtain ⟨v, rfl⟩ := hxy; exact ⟨hs.1.set (by simp) (by omega) _, hs.2.setCell (p := ⟨w.heap.size + 1, 0, none⟩) (by simp) _⟩)
    ⟨Coll.nil bO, hB0⟩
    (fun x a' _ => a' = { tmps := #[.slice none 0 0, .pointer (some ⟨w.heap.size, 0, none⟩), .string x, undef, undef, undef, undef, undef, undef, undef, undef, .func (.func 91) #[] #[.pointer (some ⟨w.heap.size + 1 + 1, 0, none⟩), .pointer (some ⟨w.heap.size + 1, 0, none⟩), .pointer (some ⟨w.heap.size + 1 + 2, 0, none⟩)], .string x, undef, undef, undef, undef, undef, undef, undef, undef, undef, undef, undef, undef, undef, undef, undef, undef, undef, undef, undef, undef, undef, undef, undef, undef, undef, undef, undef, undef, undef, undef, undef, undef, undef, undef, undef, undef, undef, undef, undef, undef, undef, undef, undef, undef, undef, undef, undef, undef, undef, undef, undef, undef], defers := [] })
    (fun _ _ _ _ _ _ hs _ _ => hs) ?assign ?body ?done
  case assign =>
    rintro l pre x W K hi hK
    gi_wp2
    exact hK _ _ (KeepsFrom.refl _ _) (SameAt.refl _ _) hi rfl
  case body =>
    rintro l pre x a' W hl ⟨r, hr⟩ ⟨hC, hB⟩ rfl hpx
    have hs4 : w.heap.size + 4 ≤ W0.heap.size ∧ W0.heap.size ≤ w.heap.size + 4 := by omega
    have HSZ := hide hsz
    clear hsz
    have hpl := textsB_le hpx
    obtain ⟨y, hy, rfl⟩ := line_of hpx
    have hok := List.all_eq_true.1 lines_ok y hy
    simp only [lineOk, Bool.and_eq_true, decide_eq_true_eq] at hok
    obtain ⟨⟨⟨⟨⟨⟨⟨⟨⟨⟨k1, k2⟩, k3⟩, k4⟩, k5⟩, k6⟩, k7⟩, k8⟩, k9⟩, k10⟩, k11⟩ := hok
    gi_wp2_with (refine ⟨trivial, ?_⟩; gi_at_call 65; refine (CallsIn.inRound l (callsIn_wide.2 (cut_mk y _ (HSH.out _ hB) k1))).mono ?_; rintro e X ⟨rfl, hX⟩; have hBX := hB.trans (hX.mono hB.size); have hCX := hC.grown (gb_of_below hX none) (fun r e => by cases e); have hszX := hX.size)
    have hszB := hB.size
    have hDW : ∀ b ∈ [w.heap.size + 1 + 1, w.heap.size + 1, w.heap.size + 1 + 2], b < W.heap.size := fun b hb => Nat.lt_of_lt_of_le (hDm b hb) (by have := (Array.getElem?_eq_some_iff.1 hr).1; omega)
    have bF := Boxed.new X 9 (.string (mk (cutF y)))
    have hBX1 := hBX.alloc (by omega) (.cells #[.string (mk (cutF y))] 9)
    have hKF1 : KeepsFrom W0.heap.size W (X.alloc (.cells #[.string (mk (cutF y))] 9)) := ((KeepsFrom.of_grownBy (gb_of_below hX none) (fun j e => by cases e))).trans ((KeepsOthers.alloc _ _).from _)
    have hSM1 : Below W.heap.size W (X.alloc (.cells #[.string (mk (cutF y))] 9)) := hX.alloc hszX _
    have hCX1 := (hCX.mono (D' := [w.heap.size + 1 + 1, w.heap.size + 1, w.heap.size + 1 + 2] ++ [X.heap.size, X.heap.size + 1]) (fun b hb => (List.mem_append.1 hb).elim (fun h => .inl h) (fun h => .inr (by simp at h; omega)))).alloc (.cells #[.string (mk (cutF y))] 9)
    have hsz1 : (X.alloc (.cells #[.string (mk (cutF y))] 9)).heap.size = X.heap.size + 1 := by simp
    obtain ⟨X1, hX1⟩ : ∃ X1, X.alloc (.cells #[.string (mk (cutF y))] 9) = X1 := ⟨_, rfl⟩
    rw [hX1] at bF hBX1 hKF1 hSM1 hCX1 hsz1 ⊢
    rw [← hsz1] at hCX1
    clear hX1 hCX hBX hX
    refine ⟨trivial, ?_⟩
    refine (CallsIn.inRound l (callsIn_wide.2 (fields_mk (cutP y) X1 (HTB.out _ hBX1) k4 k5))).mono ?_
    rintro e X2 ⟨rfl, hX2⟩
    obtain ⟨ws, hws⟩ : ∃ ws, Lib.fields (cutP y) = ws := ⟨_, rfl⟩
    rw [hws] at hX2 ⊢
    have hwl : ws.length ≤ 30 := by rw [← hws]; exact k6
    have hws2 : ∀ x ∈ ws, x.length ≤ 200 := fun x hx => by have h := List.all_eq_true.1 k7 x (by unfold wordsL; rw [hws]; exact hx); simpa using h
    have bF2 := bF.alloc (.cells (ws.map fun l => Value.string (mk l)).toArray 9)
    have hCX2 := hCX1.alloc (.cells (ws.map fun l => Value.string (mk l)).toArray 9)
    have hrow2 : ∀ j x, ws[j]? = some x → (X1.alloc (.cells (ws.map fun l => Value.string (mk l)).toArray 9)).cell? ⟨X1.heap.size, j, none⟩ = some (.string (mk x)) := fun j x hx => by
      rw [World.cell?_alloc_at _ _ _ _ rfl, List.getElem?_toArray, List.getElem?_map, hx]; rfl
    have hSM2 := hSM1.alloc (by omega) (.cells (ws.map fun l => Value.string (mk l)).toArray 9)
    have hKF2 := hKF1.trans ((KeepsOthers.alloc X1 (.cells (ws.map fun l => Value.string (mk l)).toArray 9)).from W0.heap.size)
    have hsz2 : (X1.alloc (.cells (ws.map fun l => Value.string (mk l)).toArray 9)).heap.size = X1.heap.size + 1 := by simp
    rw [← hX2] at bF2 hCX2 hrow2 hSM2 hKF2 hsz2
    have HWS := hide hws
    have HZ := hide (And.intro hsz1 hsz2)
    clear hX2 hws bF hCX1 hSM1 hKF1 hBX1 hC hsz1 hsz2
    by_cases h2 : ws.length = 2
    · have hb2 : ((ws.length : Int) == 2) = true := by rw [h2]; rfl
      obtain ⟨a, b, hab⟩ : ∃ a b, ws = [a, b] := by
        match ws, h2 with
        | [a, b], _ => exact ⟨a, b, rfl⟩
      have hl1 : (1 : Int) < ws.length := by omega
      have hl0 : (0 : Int) < ws.length := by omega
      have hx1 : X1.heap.size ≠ X2.heap.size := by have := HZ.out; omega
      have ca : ∀ o, (X2.alloc o).cell? ⟨X1.heap.size, 0, none⟩ = some (.string (mk a)) := fun o => by rw [World.cell?_alloc_old _ _ _ hx1]; exact hrow2 0 a (by rw [hab]; rfl)
      have cb : ∀ o, (X2.alloc o).cell? ⟨X1.heap.size, 1, none⟩ = some (.string (mk b)) := fun o => by rw [World.cell?_alloc_old _ _ _ hx1]; exact hrow2 1 b (by rw [hab]; rfl)
      have HAB := hide hab
      clear hab
      gi_wp2
      refine ⟨trivial, ?_⟩
      refine (CallsIn.inRound l (callsIn_wide.2 (Tryd.strings_Contains_one (mk b) 44 _))).mono ?_
      rintro e w' ⟨rfl, rfl⟩
      by_cases ht : 0 ≤ Lib.indexByte b 44
      · rw [show decide (0 ≤ Lib.indexByte (mk b).data.toList 44) = true from decide_eq_true ht]
        gi_wp2
        have hwz := HZ.out
        have hfi : W0.heap.size ≤ W.heap.size ∧ w.heap.size + 4 ≤ W.heap.size := by have := (Array.getElem?_eq_some_iff.1 hr).1; omega
        have hCX2w := (hCX2.mono (D' := ([w.heap.size + 1 + 1, w.heap.size + 1, w.heap.size + 1 + 2] ++ [X.heap.size, X1.heap.size]) ++ [X2.heap.size]) (fun b hb => (List.mem_append.1 hb).elim .inl (fun h => .inr (by simp at h; omega)))).alloc (.cells #[.slice (some ⟨X1.heap.size, 0, none⟩) 2 2] 42)
        have bF3 := bF2.alloc (.cells #[.slice (some ⟨X1.heap.size, 0, none⟩) 2 2] 42)
        have bW3 := Boxed.new X2 42 (.slice (some ⟨X1.heap.size, 0, none⟩) 2 2)
        have cb3 := cb (.cells #[.slice (some ⟨X1.heap.size, 0, none⟩) 2 2] 42)
        have hSM3 := hSM2.alloc (by omega) (.cells #[.slice (some ⟨X1.heap.size, 0, none⟩) 2 2] 42)
        have hKF3 := hKF2.trans ((KeepsOthers.alloc X2 (.cells #[.slice (some ⟨X1.heap.size, 0, none⟩) 2 2] 42)).from W0.heap.size)
        have hsz3 : (X2.alloc (.cells #[.slice (some ⟨X1.heap.size, 0, none⟩) 2 2] 42)).heap.size = X2.heap.size + 1 := by simp
        obtain ⟨X3, hX3⟩ : ∃ X3, X2.alloc (.cells #[.slice (some ⟨X1.heap.size, 0, none⟩) 2 2] 42) = X3 := ⟨_, rfl⟩
        rw [hX3] at hCX2w bF3 bW3 cb3 hSM3 hKF3 hsz3 ⊢
        clear hX3 hCX2 bF2 hrow2 hSM2 hKF2 ca cb
        refine ⟨trivial, ?_⟩
        refine (CallsIn.inRound l (callsIn_wide.2 (splitSeq_made (mk a) _ _))).mono ?_
        rintro e X4 ⟨rfl, hX4⟩
        have bS4 := ((Boxed.new X3 9 (.string (mk a))).alloc (.cells #[.string ⟨#[44]⟩] 9)).alloc (.cells #[.int .i64 0] 3)
        have bP4 := (Boxed.new (X3.alloc (.cells #[.string (mk a)] 9)) 9 (.string ⟨#[44]⟩)).alloc (.cells #[.int .i64 0] 3)
        have bV4 := Boxed.new ((X3.alloc (.cells #[.string (mk a)] 9)).alloc (.cells #[.string ⟨#[44]⟩] 9)) 3 (.int .i64 0)
        simp only [World.size_alloc] at bP4 bV4
        have hC4 := (((hCX2w.mono (D' := (([w.heap.size + 1 + 1, w.heap.size + 1, w.heap.size + 1 + 2] ++ [X.heap.size, X1.heap.size]) ++ [X2.heap.size]) ++ [X3.heap.size + 1, X3.heap.size, X3.heap.size + 2]) (fun b hb => (List.mem_append.1 hb).elim .inl (fun h => .inr (by simp at h; omega)))).alloc (.cells #[.string (mk a)] 9)).alloc (.cells #[.string ⟨#[44]⟩] 9)).alloc (.cells #[.int .i64 0] 3)
        have hB34 : Below X3.heap.size X3 (((X3.alloc (.cells #[.string (mk a)] 9)).alloc (.cells #[.string ⟨#[44]⟩] 9)).alloc (.cells #[.int .i64 0] 3)) := (((Below.refl _ X3).alloc (Nat.le_refl _) _).alloc (by simp) _).alloc (by simp; omega) _
        have hK34 : KeepsFrom W0.heap.size X3 (((X3.alloc (.cells #[.string (mk a)] 9)).alloc (.cells #[.string ⟨#[44]⟩] 9)).alloc (.cells #[.int .i64 0] 3)) := (((KeepsOthers.alloc _ _).trans (KeepsOthers.alloc _ _)).trans (KeepsOthers.alloc _ _)).from _
        have hsz4 : (((X3.alloc (.cells #[.string (mk a)] 9)).alloc (.cells #[.string ⟨#[44]⟩] 9)).alloc (.cells #[.int .i64 0] 3)).heap.size = X3.heap.size + 3 := by simp
        rw [← hX4] at bS4 bP4 bV4 hC4 hB34 hK34 hsz4
        have HZ4 := hide (And.intro hsz3 hsz4)
        clear hX4 hCX2w hsz3 hsz4 hwz
        gi_wp2
        have hr4 : X4.heap[l]? = some (.loop r) := (hB34.block l (by have := (Array.getElem?_eq_some_iff.1 hr).1; have := hSM3.size; omega)).trans ((hSM3.block l (Array.getElem?_eq_some_iff.1 hr).1).trans hr)
        have bF4 := (hB34.block X.heap.size bF3.lt).trans bF3
        have bW4 := (hB34.block X2.heap.size bW3.lt).trans bW3
        have hx13 : X1.heap.size < X3.heap.size := by have := HZ4.out; have := HZ.out; omega
        have cb4 : X4.cell? ⟨X1.heap.size, 1, none⟩ = some (.string (mk b)) := (hB34.cell (p := ⟨X1.heap.size, 1, none⟩) hx13).trans cb3
        have hK3l : ∀ k ∈ (([w.heap.size + 1 + 1, w.heap.size + 1, w.heap.size + 1 + 2] ++ [X.heap.size, X1.heap.size]) ++ [X2.heap.size]), k < X3.heap.size := fun k hk => by
          have h1 := HZ.out
          have h2 := HZ4.out
          have h3 := hDW
          simp only [List.mem_append, List.mem_cons, List.not_mem_nil, or_false] at hk
          omega
        have hS2l : ∀ k ∈ [X3.heap.size + 1, X3.heap.size, X3.heap.size + 2], k < X4.heap.size := fun k hk => by
          have h2 := HZ4.out
          simp only [List.mem_cons, List.not_mem_nil, or_false] at hk
          omega
        have hRD4 : RD w.heap.size W0.heap.size (([w.heap.size + 1 + 1, w.heap.size + 1, w.heap.size + 1 + 2] ++ [X.heap.size, X1.heap.size]) ++ [X2.heap.size]) W X4 X4 := RD.start ((hSM3.mono hszB).trans (hB34.mono (by have := hSM3.size; omega))) (hKF3.trans hK34)
        have hn3 : w.heap.size ≤ X3.heap.size ∧ X3.heap.size + 3 ≤ X4.heap.size ∧ W.heap.size ≤ X3.heap.size ∧ W0.heap.size ≤ X3.heap.size := by have := hSM3.size; have := HZ4.out; omega
        have hds : ((([w.heap.size + 1 + 1, w.heap.size + 1, w.heap.size + 1 + 2] ++ [X.heap.size, X1.heap.size]) ++ [X2.heap.size]) ++ [X3.heap.size + 1, X3.heap.size, X3.heap.size + 2]) = ((([w.heap.size + 1 + 1, w.heap.size + 1, w.heap.size + 1 + 2] ++ [X.heap.size, X1.heap.size]) ++ [X2.heap.size]) ++ [X3.heap.size + 1, X3.heap.size, X3.heap.size + 2]) := rfl
        refine wpIn_rangeAllN (l₀ := l) (r₀ := r) rfl hr4 (by omega) (gf := 91) (lb := #[.pointer (some ⟨X3.heap.size + 1, 0, none⟩), .pointer (some ⟨X3.heap.size, 0, none⟩), .pointer (some ⟨X3.heap.size + 2, 0, none⟩)]) rfl trivial (enters_of Tryd.func91 (by kernel_rfl) rfl)
          (encs := fun x : ByteArray => #[.string x]) (A := fun X Y => ∃ v, Y = X.setCell ⟨X3.heap.size, 0, none⟩ v) (S := [X3.heap.size + 1, X3.heap.size, X3.heap.size + 2]) (xs := pieces 44 (mk a))
          (fun W1 hb1 => (splitSeq_all _ (by omega) (mk a) 44 (by rw [mk_size]; have := hws2 a (by rw [HAB.out]; simp); omega) _ _ _ ⟨by omega, by omega⟩ W1 ((hb1.block _ (by omega)).trans bP4) ((hb1.block _ (by omega)).trans bS4) ((hb1.block _ (by omega)).trans bV4)).inRound l)
          (fun X Y l o hxy hl hc => by obtain ⟨v, rfl⟩ := hxy; exact (KeepsOthers.setCell _ _ _).same l o hl hc) hS2l (fun _ => rfl)
          (fun pre2 Y => Coll w.heap.size w.heap.size ((([w.heap.size + 1 + 1, w.heap.size + 1, w.heap.size + 1 + 2] ++ [X.heap.size, X1.heap.size]) ++ [X2.heap.size]) ++ [X3.heap.size + 1, X3.heap.size, X3.heap.size + 2]) (textsB pre ++ accA y pre2) Y ∧ RD w.heap.size W0.heap.size (([w.heap.size + 1 + 1, w.heap.size + 1, w.heap.size + 1 + 2] ++ [X.heap.size, X1.heap.size]) ++ [X2.heap.size]) W X4 Y ∧ X4.heap.size ≤ Y.heap.size ∧ ∀ k ∈ (([w.heap.size + 1 + 1, w.heap.size + 1, w.heap.size + 1 + 2] ++ [X.heap.size, X1.heap.size]) ++ [X2.heap.size]), k < Y.heap.size)
          (OwnFrom.and (Own.from (coll_own _ _ _ _) _) (rd_own hszB (by omega) (by omega) (fun k hk => by have := hK3l k hk; omega)))
          (fun s X Y hs hxy => by
            obtain ⟨v, rfl⟩ := hxy
            refine ⟨hs.1.set (by simp) (by omega) _, hs.2.1.set (by omega) (fun hk => by have := hK3l _ hk; omega) _, ?_, ?_⟩
            · rw [setCell_size]; exact hs.2.2.1
            · rw [setCell_size]; exact hs.2.2.2)
          ⟨by simpa [accA] using hC4, hRD4, Nat.le_refl _, fun k hk => by have := hK3l k hk; omega⟩
          (fun x a' Y => ∃ Bx L0, X4.heap.size ≤ Bx ∧ Boxed Y Bx 9 (.string x) ∧ Coll w.heap.size w.heap.size [Bx] L0 Y ∧ a' = { tmps := #[.slice none 0 0, .pointer (some ⟨w.heap.size, 0, none⟩), .string (mk y), .pointer (some ⟨X.heap.size, 0, none⟩), .string (mk (cutP y)), .bool (Lib.cut y [58, 32]).2.2, .pointer (some ⟨X2.heap.size, 0, none⟩), .pointer (some ⟨Bx, 0, none⟩), undef, undef, undef, .func (.func 91) #[] #[.pointer (some ⟨w.heap.size + 1 + 1, 0, none⟩), .pointer (some ⟨w.heap.size + 1, 0, none⟩), .pointer (some ⟨w.heap.size + 1 + 2, 0, none⟩)], .string (mk y), .tuple #[.string (mk (cutF y)), .string (mk (cutP y)), .bool (Lib.cut y [58, 32]).2.2], .string (mk y), .tuple #[.string (mk (cutF y)), .string (mk (cutP y)), .bool (Lib.cut y [58, 32]).2.2], .string (mk (cutF y)), .string (mk (cutP y)), .bool (Lib.cut y [58, 32]).2.2, .string (mk (cutP y)), .slice (some ⟨X1.heap.size, 0, none⟩) 2 2, .slice (some ⟨X1.heap.size, 0, none⟩) 2 2, .int .i64 2, .bool true, .bool true, .slice (some ⟨X1.heap.size, 0, none⟩) 2 2, .pointer (some ⟨X1.heap.size, 1, none⟩), .string (mk b), .bool true, .bool true, .slice (some ⟨X1.heap.size, 0, none⟩) 2 2, .pointer (some ⟨X1.heap.size, 0, none⟩), .string (mk a), .func (.func 91) #[] #[.pointer (some ⟨X3.heap.size + 1, 0, none⟩), .pointer (some ⟨X3.heap.size, 0, none⟩), .pointer (some ⟨X3.heap.size + 2, 0, none⟩)], .string x, undef, undef, undef, undef, undef, undef, undef, undef, undef, undef, undef, undef, undef, undef, undef, undef, undef, undef, undef, undef, undef, undef, undef, undef, undef, undef, undef, undef, undef, undef], defers := [] })
          (fun x a' _ P Q row hs hg hr => by
            obtain ⟨Bx, L0, h1, h2, h3, h4⟩ := hs
            exact ⟨Bx, L0, h1, boxed_own Bx 9 (fun (_ : Unit) => Value.string x) () P Q row h2 hg (fun r e => (hr r e).2), coll_own w.heap.size w.heap.size [Bx] (fun (_ : Unit) => L0) () P Q row h3 hg (fun r e => (hr r e).2), h4⟩)
          ?assign2 ?body2 ?done2
        case assign2 =>
          rintro l2 pre2 x Y K ⟨hC2, hRD2, hz2, hlt2⟩ hK
          gi_wp2
          exact hK _ _ ((KeepsOthers.alloc _ _).from _) (fun k hk => Below.heap_alloc _ _ _ (by have := hS2l k hk; omega)) ⟨hC2.alloc _, hRD2.alloc (by omega) hlt2 _, by simp; omega, fun k hk => by have := hlt2 k hk; simp; omega⟩
            ⟨Y.heap.size, _, hz2, Boxed.new Y 9 _, (hC2.mono (D' := [Y.heap.size]) (fun b hb => .inr (by simp at hb; omega))).alloc _, rfl⟩
        case body2 =>
          rintro l2 pre2 x a' Y hl2 ⟨r2, hr2⟩ ⟨hC2, hRD2, hz2, hlt2⟩ ⟨Bx, L0, hBx, bX, hCx, rfl⟩ hpx2
          have hp2 : pre2.length ≤ 30 := by
            obtain ⟨q, hq⟩ := hpx2
            have h1 := congrArg List.length hq
            rw [pieces_mk, List.length_map] at h1
            have h2 : (piecesL 44 a).length ≤ 30 := by
              have h3 := k10
              unfold firstsL wordsL at h3
              rw [HWS.out, HAB.out] at h3
              exact h3
            simp only [List.length_append, List.length_cons, List.length_nil] at h1
            omega
          obtain ⟨x, hx, rfl⟩ := piece_of hpx2
          have hC2x := coll_join hC2 hCx
          have bF5 := same_boxed hRD2.sm (by simp) bF4
          have bW5 := same_boxed hRD2.sm (by simp) bW4
          have cW5 := bW5.cell
          have cb5 : Y.cell? ⟨X1.heap.size, 1, none⟩ = some (.string (mk b)) := by
            rw [← cb4]
            unfold World.cell?
            rw [hRD2.sm X1.heap.size (by simp)]
          have hBl := bX.lt
          clear hCx bF3 bW3
          gi_wp2
          refine ⟨trivial, ?_⟩
          refine (CallsIn.inRound l2 (callsIn_wide.2 (splitSeq_made (mk b) _ _))).mono ?_
          rintro e Y5 ⟨rfl, hY5⟩
          have bS6 := ((Boxed.new Y 9 (.string (mk b))).alloc (.cells #[.string ⟨#[44]⟩] 9)).alloc (.cells #[.int .i64 0] 3)
          have bP6 := (Boxed.new (Y.alloc (.cells #[.string (mk b)] 9)) 9 (.string ⟨#[44]⟩)).alloc (.cells #[.int .i64 0] 3)
          have bV6 := Boxed.new ((Y.alloc (.cells #[.string (mk b)] 9)).alloc (.cells #[.string ⟨#[44]⟩] 9)) 3 (.int .i64 0)
          simp only [World.size_alloc] at bP6 bV6
          have hC6 := (((hC2x.mono (D' := ((((([w.heap.size + 1 + 1, w.heap.size + 1, w.heap.size + 1 + 2] ++ [X.heap.size, X1.heap.size]) ++ [X2.heap.size]) ++ [X3.heap.size + 1, X3.heap.size, X3.heap.size + 2]) ++ [Bx]) ++ [Y.heap.size + 1, Y.heap.size, Y.heap.size + 2])) (fun b hb => (List.mem_append.1 hb).elim .inl (fun h => .inr (by simp at h; omega)))).alloc (.cells #[.string (mk b)] 9)).alloc (.cells #[.string ⟨#[44]⟩] 9)).alloc (.cells #[.int .i64 0] 3)
          have hB56 : Below Y.heap.size Y (((Y.alloc (.cells #[.string (mk b)] 9)).alloc (.cells #[.string ⟨#[44]⟩] 9)).alloc (.cells #[.int .i64 0] 3)) := (((Below.refl _ Y).alloc (Nat.le_refl _) _).alloc (by simp) _).alloc (by simp; omega) _
          have hK56 : KeepsFrom W0.heap.size Y (((Y.alloc (.cells #[.string (mk b)] 9)).alloc (.cells #[.string ⟨#[44]⟩] 9)).alloc (.cells #[.int .i64 0] 3)) := (((KeepsOthers.alloc _ _).trans (KeepsOthers.alloc _ _)).trans (KeepsOthers.alloc _ _)).from _
          have hsz6 : (((Y.alloc (.cells #[.string (mk b)] 9)).alloc (.cells #[.string ⟨#[44]⟩] 9)).alloc (.cells #[.int .i64 0] 3)).heap.size = Y.heap.size + 3 := by simp
          rw [← hY5] at bS6 bP6 bV6 hC6 hB56 hK56 hsz6
          have HZ6 := hide hsz6
          clear hY5 hsz6
          gi_wp2
          have hr5 : Y5.heap[l2]? = some (.loop r2) := (hB56.block l2 (Array.getElem?_eq_some_iff.1 hr2).1).trans hr2
          have bF6 := (hB56.block X.heap.size bF5.lt).trans bF5
          have bX6 := (hB56.block Bx bX.lt).trans bX
          have hszY : w.heap.size ≤ Y.heap.size := by omega
          have hK5l : ∀ k ∈ (((([w.heap.size + 1 + 1, w.heap.size + 1, w.heap.size + 1 + 2] ++ [X.heap.size, X1.heap.size]) ++ [X2.heap.size]) ++ [X3.heap.size + 1, X3.heap.size, X3.heap.size + 2]) ++ [Bx]), k < Y.heap.size := fun k hk => by
            rcases List.mem_append.1 hk with h | h
            · rcases List.mem_append.1 h with h | h
              · exact hlt2 k h
              · have := hS2l k h; omega
            · simp only [List.mem_cons, List.not_mem_nil, or_false] at h
              omega
          have hS3l : ∀ k ∈ [Y.heap.size + 1, Y.heap.size, Y.heap.size + 2], k < Y5.heap.size := fun k hk => by
            have h2 := HZ6.out
            simp only [List.mem_cons, List.not_mem_nil, or_false] at hk
            omega
          have hn6 : Y.heap.size + 3 ≤ Y5.heap.size := by have := HZ6.out; omega
          have hRD6 : RD w.heap.size W0.heap.size (((([w.heap.size + 1 + 1, w.heap.size + 1, w.heap.size + 1 + 2] ++ [X.heap.size, X1.heap.size]) ++ [X2.heap.size]) ++ [X3.heap.size + 1, X3.heap.size, X3.heap.size + 2]) ++ [Bx]) Y Y5 Y5 := RD.start (hB56.mono hszY) hK56
          refine wpIn_rangeAllN (l₀ := l2) (r₀ := r2) rfl hr5 (by omega) (gf := 91) (lb := #[.pointer (some ⟨Y.heap.size + 1, 0, none⟩), .pointer (some ⟨Y.heap.size, 0, none⟩), .pointer (some ⟨Y.heap.size + 2, 0, none⟩)]) rfl trivial (enters_of Tryd.func91 (by kernel_rfl) rfl)
            (encs := fun x : ByteArray => #[.string x]) (A := fun P Q => ∃ v, Q = P.setCell ⟨Y.heap.size, 0, none⟩ v) (S := [Y.heap.size + 1, Y.heap.size, Y.heap.size + 2]) (xs := pieces 44 (mk b))
            (fun W1 hb1 => ((splitSeq_all _ (by omega) (mk b) 44 (by rw [mk_size]; have := hws2 b (by rw [HAB.out]; simp); omega) _ _ _ ⟨by omega, by omega⟩ W1 ((hb1.block _ (by omega)).trans bP6) ((hb1.block _ (by omega)).trans bS6) ((hb1.block _ (by omega)).trans bV6)).inRound l).inRound l2)
            (fun P Q l o hxy hl hc => by obtain ⟨v, rfl⟩ := hxy; exact (KeepsOthers.setCell _ _ _).same l o hl hc) hS3l (fun _ => rfl)
            (fun pre3 Z => Coll w.heap.size w.heap.size ((((([w.heap.size + 1 + 1, w.heap.size + 1, w.heap.size + 1 + 2] ++ [X.heap.size, X1.heap.size]) ++ [X2.heap.size]) ++ [X3.heap.size + 1, X3.heap.size, X3.heap.size + 2]) ++ [Bx]) ++ [Y.heap.size + 1, Y.heap.size, Y.heap.size + 2]) (textsB pre ++ accA y pre2 ++ pre3.map (fun z => mk (joinL y x z.data.toList))) Z ∧ RD w.heap.size W0.heap.size (((([w.heap.size + 1 + 1, w.heap.size + 1, w.heap.size + 1 + 2] ++ [X.heap.size, X1.heap.size]) ++ [X2.heap.size]) ++ [X3.heap.size + 1, X3.heap.size, X3.heap.size + 2]) ++ [Bx]) Y Y5 Z ∧ Y5.heap.size ≤ Z.heap.size ∧ ∀ k ∈ (((([w.heap.size + 1 + 1, w.heap.size + 1, w.heap.size + 1 + 2] ++ [X.heap.size, X1.heap.size]) ++ [X2.heap.size]) ++ [X3.heap.size + 1, X3.heap.size, X3.heap.size + 2]) ++ [Bx]), k < Z.heap.size)
            (OwnFrom.and (Own.from (coll_own _ _ _ _) _) (rd_own hszY (by omega) (by omega) (fun k hk => by have := hK5l k hk; omega)))
            (fun s P Q hs hxy => by
              obtain ⟨v, rfl⟩ := hxy
              refine ⟨hs.1.set (by simp) (by omega) _, hs.2.1.set (by omega) (fun hk => by have := hK5l _ hk; omega) _, ?_, ?_⟩
              · rw [setCell_size]; exact hs.2.2.1
              · rw [setCell_size]; exact hs.2.2.2)
            ⟨by simpa using hC6, hRD6, Nat.le_refl _, fun k hk => by have := hK5l k hk; omega⟩
            (fun z a' _ => a' = { tmps := #[.slice none 0 0, .pointer (some ⟨w.heap.size, 0, none⟩), .string (mk y), .pointer (some ⟨X.heap.size, 0, none⟩), .string (mk (cutP y)), .bool (Lib.cut y [58, 32]).2.2, .pointer (some ⟨X2.heap.size, 0, none⟩), .pointer (some ⟨Bx, 0, none⟩), .string z, undef, undef, .func (.func 91) #[] #[.pointer (some ⟨w.heap.size + 1 + 1, 0, none⟩), .pointer (some ⟨w.heap.size + 1, 0, none⟩), .pointer (some ⟨w.heap.size + 1 + 2, 0, none⟩)], .string (mk y), .tuple #[.string (mk (cutF y)), .string (mk (cutP y)), .bool (Lib.cut y [58, 32]).2.2], .string (mk y), .tuple #[.string (mk (cutF y)), .string (mk (cutP y)), .bool (Lib.cut y [58, 32]).2.2], .string (mk (cutF y)), .string (mk (cutP y)), .bool (Lib.cut y [58, 32]).2.2, .string (mk (cutP y)), .slice (some ⟨X1.heap.size, 0, none⟩) 2 2, .slice (some ⟨X1.heap.size, 0, none⟩) 2 2, .int .i64 2, .bool true, .bool true, .slice (some ⟨X1.heap.size, 0, none⟩) 2 2, .pointer (some ⟨X1.heap.size, 1, none⟩), .string (mk b), .bool true, .bool true, .slice (some ⟨X1.heap.size, 0, none⟩) 2 2, .pointer (some ⟨X1.heap.size, 0, none⟩), .string (mk a), .func (.func 91) #[] #[.pointer (some ⟨X3.heap.size + 1, 0, none⟩), .pointer (some ⟨X3.heap.size, 0, none⟩), .pointer (some ⟨X3.heap.size + 2, 0, none⟩)], .string (mk x), .slice (some ⟨X1.heap.size, 0, none⟩) 2 2, .pointer (some ⟨X1.heap.size, 1, none⟩), .string (mk b), .func (.func 91) #[] #[.pointer (some ⟨Y.heap.size + 1, 0, none⟩), .pointer (some ⟨Y.heap.size, 0, none⟩), .pointer (some ⟨Y.heap.size + 2, 0, none⟩)], .string z, undef, undef, undef, undef, undef, undef, undef, undef, undef, undef, undef, undef, undef, undef, undef, undef, undef, undef, undef, undef, undef, undef, undef, undef, undef], defers := [] }) (fun _ _ _ _ _ _ hs _ _ => hs) ?assign3 ?body3 ?done3
          case assign3 =>
            rintro l3 pre3 z Z K hI hK
            gi_wp2
            exact hK _ _ (KeepsFrom.refl _ _) (SameAt.refl _ _) hI rfl
          case body3 =>
            rintro l3 pre3 z a'' Z hl3 ⟨r3, hr3⟩ ⟨hC3, hRD3, hz3, hlt3⟩ rfl hpx3
            have hp3 : pre3.length ≤ 30 := by
              obtain ⟨q, hq⟩ := hpx3
              have h1 := congrArg List.length hq
              rw [pieces_mk, List.length_map] at h1
              have h2 : (piecesL 44 b).length ≤ 30 := by
                have h3 := k11
                unfold secondsL wordsL at h3
                rw [HWS.out, HAB.out] at h3
                exact h3
              simp only [List.length_append, List.length_cons, List.length_nil] at h1
              omega
            obtain ⟨z', hz, hze⟩ := piece_of hpx3
            obtain ⟨v, hv, hrow, -, hD⟩ := hC3
            have hvc := hv.cell
            obtain ⟨fb, hfb⟩ : ∃ b, mk (cutF y) = b := ⟨_, rfl⟩
            obtain ⟨xb, hxb⟩ : ∃ b, mk x = b := ⟨_, rfl⟩
            have cF : Z.cell? ⟨X.heap.size, 0, none⟩ = some (.string fb) := hfb ▸ (same_boxed hRD3.sm (by simp) bF6).cell
            have cX : Z.cell? ⟨Bx, 0, none⟩ = some (.string xb) := hxb ▸ (same_boxed hRD3.sm (by simp) bX6).cell
            have hfs : fb.size ≤ 200 := by rw [← hfb, mk_size]; exact k3
            have hxs : xb.size ≤ 200 := by
              rw [← hxb, mk_size]
              have h := List.all_eq_true.1 k8 x (by unfold firstsL wordsL; rw [HWS.out, HAB.out]; exact hx)
              simpa using h
            have hzs : z.size ≤ 200 := by
              rw [hze, mk_size]
              have h := List.all_eq_true.1 k9 z' (by unfold secondsL wordsL; rw [HWS.out, HAB.out]; exact hz)
              simpa using h
            have hlen : (textsB pre ++ accA y pre2 ++ pre3.map (fun z => mk (joinL y x z.data.toList))).length ≤ 1200 := by
              rw [List.length_append, List.length_append, List.length_map]
              have h := accA_len k11 pre2
              have h2 : pre2.length ≤ 30 := hp2
              have h3 : 30 * pre2.length ≤ 900 := by omega
              omega
            obtain ⟨L, hL⟩ : ∃ L, textsB pre ++ accA y pre2 ++ pre3.map (fun z => mk (joinL y x z.data.toList)) = L := ⟨_, rfl⟩
            rw [hL] at hrow hlen
            have HLL := hide (show L ++ [fb ++ ⟨#[32]⟩ ++ xb ++ ⟨#[32]⟩ ++ z] = textsB pre ++ accA y pre2 ++ (pre3 ++ [z]).map (fun z => mk (joinL y x z.data.toList)) from by
              rw [← hL, List.map_append, ← List.append_assoc, ← hfb, ← hxb, hze]
              simp only [List.map_cons, List.map_nil]
              rw [show (⟨#[32]⟩ : ByteArray) = mk [32] from rfl, mk_app, mk_app, mk_app, mk_app]
              rfl)
            obtain ⟨i0, hi, hz0, hz1, hz2⟩ := info_parts info_str
            have HI := hide (And.intro hi (And.intro hz0 (And.intro hz1 hz2)))
            have HV := hide (And.intro hv (And.intro hrow hD))
            have HRD := hide hRD3
            have hszZ : w.heap.size ≤ Z.heap.size := by omega
            have hDl : ∀ b ∈ ((((([w.heap.size + 1 + 1, w.heap.size + 1, w.heap.size + 1 + 2] ++ [X.heap.size, X1.heap.size]) ++ [X2.heap.size]) ++ [X3.heap.size + 1, X3.heap.size, X3.heap.size + 2]) ++ [Bx]) ++ [Y.heap.size + 1, Y.heap.size, Y.heap.size + 2]), b < Z.heap.size := fun b hb => (List.mem_append.1 hb).elim (fun h => hlt3 b h) (fun h => by have := hS3l b h; omega)
            have hDB : ∀ b ∈ ((((([w.heap.size + 1 + 1, w.heap.size + 1, w.heap.size + 1 + 2] ++ [X.heap.size, X1.heap.size]) ++ [X2.heap.size]) ++ [X3.heap.size + 1, X3.heap.size, X3.heap.size + 2]) ++ [Bx]) ++ [Y.heap.size + 1, Y.heap.size, Y.heap.size + 2]), b ≠ w.heap.size := fun b hb => by
              have h1 := HZ.out
              have h3 := hn3
              simp only [List.mem_append, List.mem_cons, List.not_mem_nil, or_false] at hb
              omega
            clear hi hz0 hz1 hz2 hv hrow hD hRD3 hfb hxb hze hz hL bF6 bX6
            gi_wp2_with (gi_at_builtin; refine wpListIn_append_own_at _ rfl _ _ 42 rfl w.heap.size 9 i0 (.string ByteArray.empty) 1 16 Tryd.underlying42 HI.out.1 HI.out.2.1 HI.out.2.2.1 HI.out.2.2.2 rfl (by decide) _ _ _ rfl (HV.out.2.1.alloc _) ⟨Z.heap.size, 0, none⟩ 1 1 [.string _] rfl rfl (cell_one_new _ _ _) (by simp [Value.oneCell']) (by have : maxLen = maxLen := rfl; unfold maxLen; omega) (by omega) (by simp; omega) ?_; intro v' w1 hown' hgrow _ hat; obtain ⟨g', cap', rfl⟩ := ownsRow_succ hown'; have HA := hide (coll_app HV.out.1 HV.out.2.1 HV.out.2.2 hszZ (Nat.le_refl _) hDl hDB hown' hgrow hat); have hv1 := (HV.out.1.appended (by decide) HV.out.2.1 hszZ (Nat.le_refl _) hown' hgrow).1; have hc1 := hv1.cell; have hf1 := hv1.frozen; clear hown' hgrow hat hv1)
            exact ⟨HA.out.2.1.from _, fun k hk => HA.out.2.2.2 k (List.mem_append_right _ hk), by rw [← HLL.out]; exact HA.out.1, HRD.out.step HA.out.2.2.1 (HA.out.2.1.from _) (fun k hk => HA.out.2.2.2 k (List.mem_append_left _ hk)), Nat.le_trans hz3 HA.out.2.1.size, fun k hk => Nat.lt_of_lt_of_le (hlt3 k hk) HA.out.2.1.size⟩
          case done3 =>
            rintro Z ⟨hC3, hRD3, hz3, hlt3⟩
            have HCF := hide (show Coll w.heap.size w.heap.size ((([w.heap.size + 1 + 1, w.heap.size + 1, w.heap.size + 1 + 2] ++ [X.heap.size, X1.heap.size]) ++ [X2.heap.size]) ++ [X3.heap.size + 1, X3.heap.size, X3.heap.size + 2]) (textsB pre ++ accA y (pre2 ++ [mk x])) Z from by
              rw [accA_snoc, show secondsL y = piecesL 44 b from by unfold secondsL wordsL; rw [HWS.out, HAB.out]; rfl, ← List.append_assoc]
              rw [pieces_mk, List.map_map] at hC3
              exact hC3.mono (fun b hb => .inl (List.mem_append_left _ (List.mem_append_left _ hb))))
            have HRR := hide hRD3
            have HSA := hide (show SameAt ((([w.heap.size + 1 + 1, w.heap.size + 1, w.heap.size + 1 + 2] ++ [X.heap.size, X1.heap.size]) ++ [X2.heap.size]) ++ [X3.heap.size + 1, X3.heap.size, X3.heap.size + 2]) Y Z from fun k hk => (HRR.out.sm k (List.mem_append_left _ hk)).trans (hB56.block k (hK5l k (List.mem_append_left _ hk))))
            clear hC3 hRD3
            gi_wp2
            exact ⟨kf_wider HRR.out.kf (by omega), fun k hk => HSA.out k (List.mem_append_right _ hk), HCF.out, hRD2.step HRR.out.bel HRR.out.kf (fun k hk => HSA.out k (List.mem_append_left _ hk)), by omega, fun k hk => by have := hlt2 k hk; omega⟩
        case done2 =>
          rintro Y ⟨hC2, hRD2, hz2, hlt2⟩
          have HCF := hide (show Coll w.heap.size w.heap.size [w.heap.size + 1 + 1, w.heap.size + 1, w.heap.size + 1 + 2] (textsB (pre ++ [mk y])) Y from by
            rw [textsB_snoc, ← accA_all (show twoL y = true from by unfold twoL wordsL; rw [HWS.out, HAB.out]; simp [ht]), show firstsL y = piecesL 44 a from by unfold firstsL wordsL; rw [HWS.out, HAB.out]; rfl, ← pieces_mk]
            exact hC2.mono (fun b hb => .inl (List.mem_append_left _ (List.mem_append_left _ (List.mem_append_left _ hb)))))
          have HRR := hide hRD2
          clear hC2 hRD2
          gi_wp2
          exact ⟨HRR.out.kf, (SameAt.below (hSM3.trans (hB34.mono (by omega))) hDW).trans (fun j hj => HRR.out.sm j (List.mem_append_left _ (List.mem_append_left _ hj))), HCF.out, hB.trans HRR.out.bel⟩
      · rw [show decide (0 ≤ Lib.indexByte (mk b).data.toList 44) = false from decide_eq_false ht]
        have HLT := hide (show lineT y = ws.map (fun x => cutF y ++ [32] ++ x) from by
          unfold lineT twoL wordsL
          rw [HWS.out, HAB.out, if_neg (by simp [ht])])
        gi_wp2
        obtain ⟨hsz1, hsz2⟩ := HZ.out
        have bF3 := bF2.alloc (.cells #[.slice (some ⟨X1.heap.size, 0, none⟩) 2 2] 42)
        have hCX3 := hCX2.alloc (.cells #[.slice (some ⟨X1.heap.size, 0, none⟩) 2 2] 42)
        have hrow3 : ∀ j x, ws[j]? = some x → (X2.alloc (.cells #[.slice (some ⟨X1.heap.size, 0, none⟩) 2 2] 42)).cell? ⟨X1.heap.size, j, none⟩ = some (.string (mk x)) := fun j x hx => by
          rw [World.cell?_alloc_old _ _ _ (by show X1.heap.size ≠ X2.heap.size; omega)]; exact hrow2 j x hx
        have hRD3 : RD w.heap.size W0.heap.size ([w.heap.size + 1 + 1, w.heap.size + 1, w.heap.size + 1 + 2] ++ [X.heap.size, X1.heap.size]) W (X2.alloc (.cells #[.slice (some ⟨X1.heap.size, 0, none⟩) 2 2] 42)) (X2.alloc (.cells #[.slice (some ⟨X1.heap.size, 0, none⟩) 2 2] 42)) :=
          RD.start ((hSM2.mono hszB).alloc (by omega) _) (hKF2.trans ((KeepsOthers.alloc _ _).from _))
        have hsm3 : SameAt [w.heap.size + 1 + 1, w.heap.size + 1, w.heap.size + 1 + 2] W (X2.alloc (.cells #[.slice (some ⟨X1.heap.size, 0, none⟩) 2 2] 42)) :=
          SameAt.below (hSM2.alloc (by omega) _) hDW
        have hsz3 : (X2.alloc (.cells #[.slice (some ⟨X1.heap.size, 0, none⟩) 2 2] 42)).heap.size = X2.heap.size + 1 := by simp
        obtain ⟨X3, hX3⟩ : ∃ X3, X2.alloc (.cells #[.slice (some ⟨X1.heap.size, 0, none⟩) 2 2] 42) = X3 := ⟨_, rfl⟩
        rw [hX3] at bF3 hCX3 hrow3 hRD3 hsm3 hsz3 ⊢
        have HZ3 := hide hsz3
        have hfi : X.heap.size < X3.heap.size ∧ X1.heap.size < X3.heap.size ∧ W0.heap.size ≤ W.heap.size := by have := (Array.getElem?_eq_some_iff.1 hr).1; have := hDW; omega
        clear hX3 hCX2 bF2 hrow2 hSM2 hKF2 hsz1 hsz2 hsz3
        gi_loopw [52, 10] (fun i _ wr => ∃ k : Nat, k ≤ 2 ∧ i = .int .i64 k ∧ Hid (Coll w.heap.size w.heap.size ([w.heap.size + 1 + 1, w.heap.size + 1, w.heap.size + 1 + 2] ++ [X.heap.size, X1.heap.size]) (textsB pre ++ (ws.take k).map (fun x => mk (cutF y ++ [32] ++ x))) wr) ∧ Hid (RD w.heap.size W0.heap.size ([w.heap.size + 1 + 1, w.heap.size + 1, w.heap.size + 1 + 2] ++ [X.heap.size, X1.heap.size]) W X3 wr ∧ X3.heap.size ≤ wr.heap.size)) (fun i _ _ => 2 - (intOf i).toNat)
        case atStart => exact ⟨0, Nat.zero_le _, rfl, by show Hid _; simpa using hide hCX3, hide ⟨hRD3, Nat.le_refl _⟩⟩
        case round =>
          obtain ⟨k, hk, rfl, HC, HR⟩ := hrel
          by_cases hlt2 : k < 2
          · have hlt : k < ws.length := by omega
            have hlti : (k : Int) < 2 := by omega
            obtain ⟨v, hv, hrow, hnil, hD⟩ := HC.out
            obtain ⟨hRD, hszr⟩ := HR.out
            have hvc := hv.cell
            obtain ⟨fb, hfb⟩ : ∃ b, mk (cutF y) = b := ⟨_, rfl⟩
            obtain ⟨xb, hxb⟩ : ∃ b, mk ws[k] = b := ⟨_, rfl⟩
            have cF : wr.cell? ⟨X.heap.size, 0, none⟩ = some (.string fb) := hfb ▸ (same_boxed hRD.sm (by simp) bF3).cell
            have cW : wr.cell? ⟨X1.heap.size, k, none⟩ = some (.string xb) := by
              have h := hrow3 k ws[k] (List.getElem?_eq_getElem hlt)
              rw [← hxb, ← h]
              unfold World.cell?
              rw [hRD.sm X1.heap.size (by simp)]
            have hfs : fb.size ≤ 200 := by rw [← hfb, mk_size]; exact k3
            have hxs : xb.size ≤ 200 := by rw [← hxb, mk_size]; exact hws2 _ (List.getElem_mem hlt)
            have hlen : (textsB pre ++ (ws.take k).map (fun x => mk (cutF y ++ [32] ++ x))).length ≤ 1000 := by rw [List.length_append, List.length_map, List.length_take]; omega
            obtain ⟨L, hL⟩ : ∃ L, textsB pre ++ (ws.take k).map (fun x => mk (cutF y ++ [32] ++ x)) = L := ⟨_, rfl⟩
            rw [hL] at hrow hnil hlen
            obtain ⟨i0, hi, hz0, hz1, hz2⟩ := info_parts info_str
            have HLL := hide (show L ++ [fb ++ ⟨#[32]⟩ ++ xb] = textsB pre ++ (ws.take (k + 1)).map (fun x => mk (cutF y ++ [32] ++ x)) from by
              rw [← hL, List.take_succ_eq_append_getElem hlt, List.map_append, ← List.append_assoc, ← hfb, ← hxb]
              simp only [List.map_cons, List.map_nil]
              rw [show (⟨#[32]⟩ : ByteArray) = mk [32] from rfl, mk_app, mk_app])
            have HI := hide (And.intro hi (And.intro hz0 (And.intro hz1 hz2)))
            have HV := hide (And.intro hv (And.intro hrow hD))
            have HRD := hide hRD
            clear hi hz0 hz1 hz2 hv hrow hD hRD hfb hxb hL hnil HC HR bF3 hrow3
            have hszw : w.heap.size ≤ wr.heap.size := Nat.le_trans hszB HRD.out.bel.size
            have hDl : ∀ b ∈ [w.heap.size + 1 + 1, w.heap.size + 1, w.heap.size + 1 + 2] ++ [X.heap.size, X1.heap.size], b < wr.heap.size := fun b hb => (List.mem_append.1 hb).elim (fun h => by have := hDW b h; have := HRD.out.kf.size; omega) (fun h => by have h1 := hfi; have h2 := hszr; simp only [List.mem_cons, List.not_mem_nil, or_false] at h; omega)
            have hDB : ∀ b ∈ [w.heap.size + 1 + 1, w.heap.size + 1, w.heap.size + 1 + 2] ++ [X.heap.size, X1.heap.size], b ≠ w.heap.size := fun b hb => by have h1 := HZ.out.1; simp only [List.mem_append, List.mem_cons, List.not_mem_nil, or_false] at hb; omega
            gi_wp2_with (gi_at_builtin; refine wpListIn_append_own_at _ rfl _ _ 42 rfl w.heap.size 9 i0 (.string ByteArray.empty) 1 16 Tryd.underlying42 HI.out.1 HI.out.2.1 HI.out.2.2.1 HI.out.2.2.2 rfl (by decide) _ _ _ rfl (HV.out.2.1.alloc _) ⟨wr.heap.size, 0, none⟩ 1 1 [.string (fb ++ ⟨#[32]⟩ ++ xb)] rfl rfl (cell_one_new _ _ _) (by simp [Value.oneCell']) (by have : maxLen = maxLen := rfl; unfold maxLen; omega) (by omega) (by simp; omega) ?_; intro v' w1 hown' hgrow _ hat; obtain ⟨g', cap', rfl⟩ := ownsRow_succ hown'; have HA := hide (coll_app HV.out.1 HV.out.2.1 HV.out.2.2 hszw (Nat.le_refl _) hDl hDB hown' hgrow hat); have hv1 := (HV.out.1.appended (by decide) HV.out.2.1 hszw (Nat.le_refl _) hown' hgrow).1; have hc1 := hv1.cell; have hf1 := hv1.frozen; clear hown' hgrow hat hv1)
            have hwk : IntKind.i64.wrap ((k : Int) + 1) = ((k + 1 : Nat) : Int) := by rw [IntKind.wrap_i64]; omega
            go_roundw
            case rel =>
              refine ⟨k + 1, by omega, by go_num, ?_, ?_⟩
              · rw [← HLL.out]; exact hide HA.out.1
              · exact hide ⟨HRD.out.step HA.out.2.2.1 (HA.out.2.1.from _) HA.out.2.2.2, Nat.le_trans hszr HA.out.2.1.size⟩
            case measure => simp [intOf]; omega
          · have hlti : ¬ (k : Int) < 2 := by omega
            obtain ⟨hRD, hszr⟩ := HR.out
            have HCF := hide (show Coll w.heap.size w.heap.size [w.heap.size + 1 + 1, w.heap.size + 1, w.heap.size + 1 + 2] (textsB (pre ++ [mk y])) wr from by
              have hke : k = ws.length := by omega
              have h := HC.out
              rw [hke, List.take_length] at h
              rw [textsB_snoc, HLT.out, List.map_map]
              exact h.mono (fun b hb => .inl (List.mem_append_left _ hb)))
            have HRR := hide hRD
            clear HC HR hRD
            gi_wp2
            exact ⟨HRR.out.kf, hsm3.trans (fun j hj => HRR.out.sm j (List.mem_append_left _ hj)), HCF.out, hB.trans HRR.out.bel⟩
    · have hb2 : ((ws.length : Int) == 2) = false := beq_eq_false_iff_ne.2 (by omega)
      have HLT := hide (show lineT y = ws.map (fun x => cutF y ++ [32] ++ x) from by
        unfold lineT twoL wordsL
        rw [HWS.out, if_neg (by simp [h2])])
      gi_wp2
      refine ⟨trivial, ?_⟩
      gi_wp2
      obtain ⟨hsz1, hsz2⟩ := HZ.out
      have bF3 := bF2.alloc (.cells #[.slice (some ⟨X1.heap.size, 0, none⟩) ws.length ws.length] 42)
      have hCX3 := hCX2.alloc (.cells #[.slice (some ⟨X1.heap.size, 0, none⟩) ws.length ws.length] 42)
      have hrow3 : ∀ j x, ws[j]? = some x → (X2.alloc (.cells #[.slice (some ⟨X1.heap.size, 0, none⟩) ws.length ws.length] 42)).cell? ⟨X1.heap.size, j, none⟩ = some (.string (mk x)) := fun j x hx => by
        rw [World.cell?_alloc_old _ _ _ (by show X1.heap.size ≠ X2.heap.size; omega)]; exact hrow2 j x hx
      have hRD3 : RD w.heap.size W0.heap.size ([w.heap.size + 1 + 1, w.heap.size + 1, w.heap.size + 1 + 2] ++ [X.heap.size, X1.heap.size]) W (X2.alloc (.cells #[.slice (some ⟨X1.heap.size, 0, none⟩) ws.length ws.length] 42)) (X2.alloc (.cells #[.slice (some ⟨X1.heap.size, 0, none⟩) ws.length ws.length] 42)) :=
        RD.start ((hSM2.mono hszB).alloc (by omega) _) (hKF2.trans ((KeepsOthers.alloc _ _).from _))
      have hsm3 : SameAt [w.heap.size + 1 + 1, w.heap.size + 1, w.heap.size + 1 + 2] W (X2.alloc (.cells #[.slice (some ⟨X1.heap.size, 0, none⟩) ws.length ws.length] 42)) :=
        SameAt.below (hSM2.alloc (by omega) _) hDW
      have hsz3 : (X2.alloc (.cells #[.slice (some ⟨X1.heap.size, 0, none⟩) ws.length ws.length] 42)).heap.size = X2.heap.size + 1 := by simp
      obtain ⟨X3, hX3⟩ : ∃ X3, X2.alloc (.cells #[.slice (some ⟨X1.heap.size, 0, none⟩) ws.length ws.length] 42) = X3 := ⟨_, rfl⟩
      rw [hX3] at bF3 hCX3 hrow3 hRD3 hsm3 hsz3 ⊢
      have HZ3 := hide hsz3
      have hfi : X.heap.size < X3.heap.size ∧ X1.heap.size < X3.heap.size ∧ W0.heap.size ≤ W.heap.size := by have := (Array.getElem?_eq_some_iff.1 hr).1; have := hDW; omega
      clear hX3 hCX2 bF2 hrow2 hSM2 hKF2 hsz1 hsz2 hsz3
      gi_loopw [52, 10] (fun i _ wr => ∃ k : Nat, k ≤ ws.length ∧ i = .int .i64 k ∧ Hid (Coll w.heap.size w.heap.size ([w.heap.size + 1 + 1, w.heap.size + 1, w.heap.size + 1 + 2] ++ [X.heap.size, X1.heap.size]) (textsB pre ++ (ws.take k).map (fun x => mk (cutF y ++ [32] ++ x))) wr) ∧ Hid (RD w.heap.size W0.heap.size ([w.heap.size + 1 + 1, w.heap.size + 1, w.heap.size + 1 + 2] ++ [X.heap.size, X1.heap.size]) W X3 wr ∧ X3.heap.size ≤ wr.heap.size)) (fun i _ _ => ws.length - (intOf i).toNat)
      case atStart => exact ⟨0, Nat.zero_le _, rfl, by show Hid _; simpa using hide hCX3, hide ⟨hRD3, Nat.le_refl _⟩⟩
      case round =>
        obtain ⟨k, hk, rfl, HC, HR⟩ := hrel
        by_cases hlt : k < ws.length
        · have hlti : (k : Int) < ws.length := by omega
          obtain ⟨v, hv, hrow, hnil, hD⟩ := HC.out
          obtain ⟨hRD, hszr⟩ := HR.out
          have hvc := hv.cell
          obtain ⟨fb, hfb⟩ : ∃ b, mk (cutF y) = b := ⟨_, rfl⟩
          obtain ⟨xb, hxb⟩ : ∃ b, mk ws[k] = b := ⟨_, rfl⟩
          have cF : wr.cell? ⟨X.heap.size, 0, none⟩ = some (.string fb) := hfb ▸ (same_boxed hRD.sm (by simp) bF3).cell
          have cW : wr.cell? ⟨X1.heap.size, k, none⟩ = some (.string xb) := by
            have h := hrow3 k ws[k] (List.getElem?_eq_getElem hlt)
            rw [← hxb, ← h]
            unfold World.cell?
            rw [hRD.sm X1.heap.size (by simp)]
          have hfs : fb.size ≤ 200 := by rw [← hfb, mk_size]; exact k3
          have hxs : xb.size ≤ 200 := by rw [← hxb, mk_size]; exact hws2 _ (List.getElem_mem hlt)
          have hlen : (textsB pre ++ (ws.take k).map (fun x => mk (cutF y ++ [32] ++ x))).length ≤ 1000 := by rw [List.length_append, List.length_map, List.length_take]; omega
          obtain ⟨L, hL⟩ : ∃ L, textsB pre ++ (ws.take k).map (fun x => mk (cutF y ++ [32] ++ x)) = L := ⟨_, rfl⟩
          rw [hL] at hrow hnil hlen
          obtain ⟨i0, hi, hz0, hz1, hz2⟩ := info_parts info_str
          have HLL := hide (show L ++ [fb ++ ⟨#[32]⟩ ++ xb] = textsB pre ++ (ws.take (k + 1)).map (fun x => mk (cutF y ++ [32] ++ x)) from by
            rw [← hL, List.take_succ_eq_append_getElem hlt, List.map_append, ← List.append_assoc, ← hfb, ← hxb]
            simp only [List.map_cons, List.map_nil]
            rw [show (⟨#[32]⟩ : ByteArray) = mk [32] from rfl, mk_app, mk_app])
          have HI := hide (And.intro hi (And.intro hz0 (And.intro hz1 hz2)))
          have HV := hide (And.intro hv (And.intro hrow hD))
          have HRD := hide hRD
          clear hi hz0 hz1 hz2 hv hrow hD hRD hfb hxb hL hnil HC HR bF3 hrow3
          have hszw : w.heap.size ≤ wr.heap.size := Nat.le_trans hszB HRD.out.bel.size
          have hDl : ∀ b ∈ [w.heap.size + 1 + 1, w.heap.size + 1, w.heap.size + 1 + 2] ++ [X.heap.size, X1.heap.size], b < wr.heap.size := fun b hb => (List.mem_append.1 hb).elim (fun h => by have := hDW b h; have := HRD.out.kf.size; omega) (fun h => by have h1 := hfi; have h2 := hszr; simp only [List.mem_cons, List.not_mem_nil, or_false] at h; omega)
          have hDB : ∀ b ∈ [w.heap.size + 1 + 1, w.heap.size + 1, w.heap.size + 1 + 2] ++ [X.heap.size, X1.heap.size], b ≠ w.heap.size := fun b hb => by have h1 := HZ.out.1; simp only [List.mem_append, List.mem_cons, List.not_mem_nil, or_false] at hb; omega
          gi_wp2_with (gi_at_builtin; refine wpListIn_append_own_at _ rfl _ _ 42 rfl w.heap.size 9 i0 (.string ByteArray.empty) 1 16 Tryd.underlying42 HI.out.1 HI.out.2.1 HI.out.2.2.1 HI.out.2.2.2 rfl (by decide) _ _ _ rfl (HV.out.2.1.alloc _) ⟨wr.heap.size, 0, none⟩ 1 1 [.string (fb ++ ⟨#[32]⟩ ++ xb)] rfl rfl (cell_one_new _ _ _) (by simp [Value.oneCell']) (by have : maxLen = maxLen := rfl; unfold maxLen; omega) (by omega) (by simp; omega) ?_; intro v' w1 hown' hgrow _ hat; obtain ⟨g', cap', rfl⟩ := ownsRow_succ hown'; have HA := hide (coll_app HV.out.1 HV.out.2.1 HV.out.2.2 hszw (Nat.le_refl _) hDl hDB hown' hgrow hat); have hv1 := (HV.out.1.appended (by decide) HV.out.2.1 hszw (Nat.le_refl _) hown' hgrow).1; have hc1 := hv1.cell; have hf1 := hv1.frozen; clear hown' hgrow hat hv1)
          have hwk : IntKind.i64.wrap ((k : Int) + 1) = ((k + 1 : Nat) : Int) := by rw [IntKind.wrap_i64]; omega
          go_roundw
          case rel =>
            refine ⟨k + 1, by omega, by go_num, ?_, ?_⟩
            · rw [← HLL.out]; exact hide HA.out.1
            · exact hide ⟨HRD.out.step HA.out.2.2.1 (HA.out.2.1.from _) HA.out.2.2.2, Nat.le_trans hszr HA.out.2.1.size⟩
          case measure => simp [intOf]; omega
        · have hlti : ¬ (k : Int) < ws.length := by omega
          obtain ⟨hRD, hszr⟩ := HR.out
          have HCF := hide (show Coll w.heap.size w.heap.size [w.heap.size + 1 + 1, w.heap.size + 1, w.heap.size + 1 + 2] (textsB (pre ++ [mk y])) wr from by
            have hke : k = ws.length := by omega
            have h := HC.out
            rw [hke, List.take_length] at h
            rw [textsB_snoc, HLT.out, List.map_map]
            exact h.mono (fun b hb => .inl (List.mem_append_left _ hb)))
          have HRR := hide hRD
          clear HC HR hRD
          gi_wp2
          exact ⟨HRR.out.kf, hsm3.trans (fun j hj => HRR.out.sm j (List.mem_append_left _ hj)), HCF.out, hB.trans HRR.out.bel⟩
  case done =>
    rintro D W hD ⟨hC, hB⟩ hK
    obtain ⟨v, hv, hrow, -, -⟩ := hC
    have hln : (textsB (pieces 10 (mk famL))).length = 180 := by rw [textsB_all, List.length_map, texts_len]
    have hv0 := hv.cell
    rw [hln] at hrow
    obtain ⟨g, cap, rfl⟩ := ownsRow_succ hrow
    have hv0 := hv.cell
    gi_wp2
    refine ⟨by simp, .inl ⟨_, _, rfl, run_takeDeferred hK, ?_⟩⟩
    have hBf : Below w.heap.size w (W.putObj D (.deferred none)) := hB.trans (belowK_b (w := w) (Nat.le_refl _) W D _ _ (by omega) hK rfl rfl)
    have hrf := ownsRow_putObj hrow (.deferred none) hK rfl
    refine ⟨_, results_tmp rfl _ _ _, g, cap, rfl, (own_block_cells hrow rfl).1, fun j x hj => ?_, hBf⟩
    have h1 := hrf.cells (g := g) rfl j (.string x) (by rw [textsB_all, List.getElem?_map, hj]; rfl)
    rw [add_zero' g j] at h1
    exact h1
end Go.Proofs.YtlkhiihehaiinaaDoor

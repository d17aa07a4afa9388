/- fault.on: the faults that are on. -/
import Derived.Test.YtlkhiihehaiinaaDoorFMap
import Derived.Test.YtlkhiihehaiinaaDoorFLst
import Derived.Test.YtlkhiihehaiinaaDoorFSec
import Derived.Test.YtlkhiihehaiinaaDoorRegionLast
import Derived.LoopTactic
import Derived.Deep.DeepCutAuto
namespace Go.Proofs.YtlkhiihehaiinaaDoor
open Go.RowKit

noncomputable def hitS (l : List Int) (s : ByteArray) : Bool := l.any fun n => decide (1 ≤ n ∧ n ≤ 180) && decide (s = textAt n)
def anyS (l : List Int) : Bool := l.any fun n => decide (1 ≤ n ∧ n ≤ 180)
theorem hitS_snoc (l : List Int) (n : Int) : hitS (l ++ [n]) = fun s => hitS l s || (decide (1 ≤ n ∧ n ≤ 180) && decide (s = textAt n)) := by funext s; simp [hitS]
theorem anyS_snoc (l : List Int) (n : Int) : anyS (l ++ [n]) = (anyS l || decide (1 ≤ n ∧ n ≤ 180)) := by simp [anyS]
/-- Block g holds the switches: the map m and a bit for each family and operation. -/
def Sw (x : World) (g m : Nat) (F : Nat → Bool) : Prop := ∃ cs, Box x g cs 75 ∧ cs[0]? = some (.map (some m)) ∧ ∀ j, j < 145 → cs[1 + j]? = some (.bool (F j))
theorem Sw.grown {x y : World} {g m : Nat} {F : Nat → Bool} {row : Option Nat} (h : Sw x g m F) (hg : x.grownBy y row) (hne : some g ≠ row) : Sw y g m F := by obtain ⟨cs, h1, h2⟩ := h; exact ⟨cs, h1.grown hg hne, h2⟩
theorem Sw.below {x y : World} {g m : Nat} {F : Nat → Bool} (h : Sw x g m F) (hb : Below x.heap.size x y) : Sw y g m F := h.grown (only_below hb none) (by simp)
theorem Sw.ptr {x : World} {g m : Nat} {F : Nat → Bool} (h : Sw x g m F) : x.cell? ⟨g, 0, none⟩ = some (.map (some m)) := by obtain ⟨cs, h1, h2, _⟩ := h; exact h1.cell h2
theorem Sw.bit {x : World} {g m : Nat} {F : Nat → Bool} (h : Sw x g m F) {j : Nat} (hj : j < 145) : x.cell? ⟨g, 1 + j, none⟩ = some (.bool (F j)) := by obtain ⟨cs, h1, _, h2⟩ := h; exact h1.cell (h2 j hj)
theorem Sw.fr {x : World} {g m : Nat} {F : Nat → Bool} (h : Sw x g m F) (j : Nat) : x.frozen? ⟨g, j, none⟩ = false := by obtain ⟨cs, h1, _⟩ := h; exact h1.fr j
theorem Sw.lt {x : World} {g m : Nat} {F : Nat → Bool} (h : Sw x g m F) : g < x.heap.size := by obtain ⟨cs, h1, _⟩ := h; exact h1.lt
theorem Sw.set {x : World} {g m : Nat} {F : Nat → Bool} (h : Sw x g m F) {j : Nat} (hj : j < 145) (b : Bool) : Sw (x.setCell ⟨g, 1 + j, none⟩ (.bool b)) g m (fun k => if k = j then b else F k) := by
  obtain ⟨cs, h1, h2, h3⟩ := h
  refine ⟨_, h1.set (1 + j) (.bool b), ?_, fun k hk => ?_⟩
  · rw [Array.getElem?_setIfInBounds_ne (by omega)]; exact h2
  · by_cases e : k = j
    · subst e
      have hsz : 1 + k < cs.size := (Array.getElem?_eq_some_iff.1 (h3 k hk)).1
      rw [Array.getElem?_setIfInBounds_self, if_pos hsz]; simp
    · rw [Array.getElem?_setIfInBounds_ne (by omega)]; simp only [e, if_false]; exact h3 k hk
theorem zc_bits : (List.range 145).all (fun j => match Tryd.zeroCells75[1 + j]? with | some (.bool false) => true | _ => false) = true := by kernel_rfl
theorem zc_size : 0 < Tryd.zeroCells75.size := of_decide_eq_true (show decide (0 < Tryd.zeroCells75.size) = true by kernel_rfl)
theorem zc_bit {j : Nat} (hj : j < 145) : Tryd.zeroCells75[1 + j]? = some (.bool false) := by
  have h := List.all_eq_true.1 zc_bits j (List.mem_range.2 hj)
  revert h
  generalize Tryd.zeroCells75[1 + j]? = v
  intro h
  split at h
  · rfl
  · cases h
theorem Sw.new (w : World) (m : Nat) : Sw (w.alloc (.cells (Tryd.zeroCells75.setIfInBounds 0 (.map (some m))) 75)) w.heap.size m (fun _ => false) :=
  ⟨_, Box.new _ _ _, by rw [Array.getElem?_setIfInBounds_self, if_pos zc_size], fun j hj => by rw [Array.getElem?_setIfInBounds_ne (by omega)]; exact zc_bit hj⟩
noncomputable def onBody : Code := Tryd.f26.body.getD .skip


set_option maxRecDepth 100000 in
set_option maxHeartbeats 4000000 in
theorem on_reg9 {g m gt ct k n : Nat} {tx : ByteArray} {S : ByteArray → Bool} {any : Bool} {F : Nat → Bool} (hk : k < 180) (hki : (k : Int) < 180) (hs : tx.size ≤ maxLen) (hn : n < 1000000) (hgm : g ≠ m) {W : World} (hgl : gt < W.heap.size) (hc : W.cell? ⟨gt, k, none⟩ = some (.string tx)) (HS : Hid (Sw W g m F)) (HT : Hid (TextsN W m n S any)) {Q : Exit → Act → World → Prop} {c : Code} {u0 u1 u2 u5 u7 u8 u9 u10 u11 u12 u13 u14 u15 u16 u17 u18 u19 u20 u21 u22 u23 u24 u25 u26 u27 u28 u29 u30 u31 u32 u33 u34 u35 u36 u37 u38 u39 u40 u41 u42 u43 u44 u45 u46 u47 u48 u49 u50 u51 u52 u53 u54 u55 u56 u57 u58 u59 u60 u61 u62 u63 u64 u65 u66 u67 u68 u69 u70 u71 u72 u73 u74 u75 u76 : Value} (hc : c = codeIn [1, 1, 1, 1, 0, 1, 4, 5, 1, 1, 0, 4, 1, 1, 2] onBody) (hend : ∀ y, TextsN y m (n + 1) (fun t => S t || decide (t = tx)) true → Sw y g m F → W.grownBy y (some m) → Q .normal { tmps := (u0 :: u1 :: u2 :: (.pointer (some ⟨g, 0, none⟩)) :: (.slice (some ⟨gt, 0, none⟩) 180 ct) :: u5 :: (.int .i64 ((k : Int) + 1)) :: u7 :: u8 :: u9 :: u10 :: u11 :: u12 :: u13 :: u14 :: u15 :: u16 :: u17 :: u18 :: u19 :: u20 :: u21 :: u22 :: u23 :: u24 :: u25 :: u26 :: u27 :: u28 :: u29 :: u30 :: u31 :: u32 :: .pointer (some ⟨g, 0, none⟩) :: .pointer (some ⟨g, 0, none⟩) :: .pointer (some ⟨g, 0, none⟩) :: .map (some m) :: .slice (some ⟨gt, 0, none⟩) 180 ct :: .int .i64 ((k : Int) + 1) :: .int .i64 k :: .pointer (some ⟨gt, k, none⟩) :: .string tx :: u42 :: u43 :: u44 :: u45 :: u46 :: u47 :: u48 :: u49 :: u50 :: u51 :: u52 :: u53 :: u54 :: u55 :: u56 :: u57 :: u58 :: u59 :: u60 :: u61 :: u62 :: u63 :: u64 :: u65 :: u66 :: u67 :: u68 :: u69 :: u70 :: u71 :: u72 :: u73 :: u74 :: u75 :: u76 :: []).toArray, defers := [] } y) : Code.wp Tryd.prog c Q { tmps := (u0 :: u1 :: u2 :: (.pointer (some ⟨g, 0, none⟩)) :: (.slice (some ⟨gt, 0, none⟩) 180 ct) :: u5 :: (.int .i64 ((k : Int) + 1)) :: u7 :: u8 :: u9 :: u10 :: u11 :: u12 :: u13 :: u14 :: u15 :: u16 :: u17 :: u18 :: u19 :: u20 :: u21 :: u22 :: u23 :: u24 :: u25 :: u26 :: u27 :: u28 :: u29 :: u30 :: u31 :: u32 :: u33 :: u34 :: u35 :: u36 :: u37 :: u38 :: u39 :: u40 :: u41 :: u42 :: u43 :: u44 :: u45 :: u46 :: u47 :: u48 :: u49 :: u50 :: u51 :: u52 :: u53 :: u54 :: u55 :: u56 :: u57 :: u58 :: u59 :: u60 :: u61 :: u62 :: u63 :: u64 :: u65 :: u66 :: u67 :: u68 :: u69 :: u70 :: u71 :: u72 :: u73 :: u74 :: u75 :: u76 :: []).toArray, defers := [] } W := by
  subst hc
  conv => enter [2]; whnf
  refine wp_region_last (by kernel_rfl) (by kernel_rfl) 9 (by kernel_rfl) (by kernel_rfl) (fun s : Nat → Value => ({ tmps := (u0 :: u1 :: u2 :: (.pointer (some ⟨g, 0, none⟩)) :: (.slice (some ⟨gt, 0, none⟩) 180 ct) :: u5 :: (.int .i64 ((k : Int) + 1)) :: u7 :: u8 :: u9 :: u10 :: u11 :: u12 :: u13 :: u14 :: u15 :: u16 :: u17 :: u18 :: u19 :: u20 :: u21 :: u22 :: u23 :: u24 :: u25 :: u26 :: u27 :: u28 :: u29 :: u30 :: u31 :: u32 :: s 33 :: s 34 :: s 35 :: s 36 :: s 37 :: s 38 :: s 39 :: s 40 :: s 41 :: u42 :: u43 :: u44 :: u45 :: u46 :: u47 :: u48 :: u49 :: u50 :: u51 :: u52 :: u53 :: u54 :: u55 :: u56 :: u57 :: u58 :: u59 :: u60 :: u61 :: u62 :: u63 :: u64 :: u65 :: u66 :: u67 :: u68 :: u69 :: u70 :: u71 :: u72 :: u73 :: u74 :: u75 :: u76 :: []).toArray, defers := [] } : Act)) (fun k => if k = 33 then u33 else if k = 34 then u34 else if k = 35 then u35 else if k = 36 then u36 else if k = 37 then u37 else if k = 38 then u38 else if k = 39 then u39 else if k = 40 then u40 else if k = 41 then u41 else undef) rfl (fun i v _ => ([.pointer (some ⟨g, 0, none⟩), .pointer (some ⟨g, 0, none⟩), .pointer (some ⟨g, 0, none⟩), .map (some m), .slice (some ⟨gt, 0, none⟩) 180 ct, .int .i64 ((k : Int) + 1), .int .i64 k, .pointer (some ⟨gt, k, none⟩), .string tx] : List Value)[i]? = some v) (fun _ _ _ _ h _ => h) (fun i => ([33, 34, 35, 36, 37, 38, 39, 40, 41] : List Nat).getD i 0) ?inj ?step ?last
  case inj =>
    intro i j hi hj h
    have hI : i = 0 ∨ i = 1 ∨ i = 2 ∨ i = 3 ∨ i = 4 ∨ i = 5 ∨ i = 6 ∨ i = 7 ∨ i = 8 := by omega
    have hJ : j = 0 ∨ j = 1 ∨ j = 2 ∨ j = 3 ∨ j = 4 ∨ j = 5 ∨ j = 6 ∨ j = 7 ∨ j = 8 := by omega
    rcases hI with rfl | rfl | rfl | rfl | rfl | rfl | rfl | rfl | rfl <;> rcases hJ with rfl | rfl | rfl | rfl | rfl | rfl | rfl | rfl | rfl <;> first | rfl | (exact absurd h (by decide))
  case last =>
    intro o s x ho hv hb
    have HB := hide hb
    clear hb
    injection ho with ho
    subst ho
    have z0 : s 33 = .pointer (some ⟨g, 0, none⟩) := by have h := hv 0 (by decide); injection h with h; exact h.symm
    have z1 : s 34 = .pointer (some ⟨g, 0, none⟩) := by have h := hv 1 (by decide); injection h with h; exact h.symm
    have z2 : s 35 = .pointer (some ⟨g, 0, none⟩) := by have h := hv 2 (by decide); injection h with h; exact h.symm
    have z3 : s 36 = .map (some m) := by have h := hv 3 (by decide); injection h with h; exact h.symm
    have z4 : s 37 = .slice (some ⟨gt, 0, none⟩) 180 ct := by have h := hv 4 (by decide); injection h with h; exact h.symm
    have z5 : s 38 = .int .i64 ((k : Int) + 1) := by have h := hv 5 (by decide); injection h with h; exact h.symm
    have z6 : s 39 = .int .i64 k := by have h := hv 6 (by decide); injection h with h; exact h.symm
    have z7 : s 40 = .pointer (some ⟨gt, k, none⟩) := by have h := hv 7 (by decide); injection h with h; exact h.symm
    have z8 : s 41 = .string tx := by have h := hv 8 (by decide); injection h with h; exact h.symm
    clear hv
    obtain ⟨y, hrun, hty, hgy⟩ := (HT.out.below HB.out).put tx hs hn
    have hen := hend y hty (HS.out.below HB.out |>.grown hgy (by simp; omega)) (grown_below HB.out hgy)
    have HEN := hide hen
    clear hen hty hgy
    refine opwp_K (fun K2 hK2 => ?_)
    go_simp
    refine hK2 _ _ ?_
    first | exact HEN.out | (simp only [z0, z1, z2, z3, z4, z5, z6, z7, z8]; exact HEN.out)
  case step =>
    intro i o s x hin ho he hb
    have HB := hide hb
    clear hb
    have hcase : i = 0 ∨ i = 1 ∨ i = 2 ∨ i = 3 ∨ i = 4 ∨ i = 5 ∨ i = 6 ∨ i = 7 ∨ i = 8 := by omega
    rcases hcase with rfl | rfl | rfl | rfl | rfl | rfl | rfl | rfl | rfl
    · injection ho with ho
      subst ho
      clear he
      refine opwp_K (fun K2 hK2 => ?_)
      go_simp
      exact hK2 _ _ ⟨(.pointer (some ⟨g, 0, none⟩)), (by first | rfl | (simp [List.getD]; done)), Below.refl _ _, rfl⟩
    · injection ho with ho
      subst ho
      have z0 : s 33 = .pointer (some ⟨g, 0, none⟩) := by have h := he ⟨0, .data⟩ (by simp) rfl; injection h with h; exact h.symm
      clear he
      refine opwp_K (fun K2 hK2 => ?_)
      go_simp
      exact hK2 _ _ ⟨(.pointer (some ⟨g, 0, none⟩)), (by first | rfl | (simp [z0]; done)), Below.refl _ _, rfl⟩
    · injection ho with ho
      subst ho
      have z1 : s 34 = .pointer (some ⟨g, 0, none⟩) := by have h := he ⟨1, .data⟩ (by simp) rfl; injection h with h; exact h.symm
      clear he
      refine opwp_K (fun K2 hK2 => ?_)
      go_simp
      exact hK2 _ _ ⟨(.pointer (some ⟨g, 0, none⟩)), (by first | rfl | (simp [z1]; done)), Below.refl _ _, rfl⟩
    · injection ho with ho
      subst ho
      have z2 : s 35 = .pointer (some ⟨g, 0, none⟩) := by have h := he ⟨2, .data⟩ (by simp) rfl; injection h with h; exact h.symm
      clear he
      have hp := (HS.out.below HB.out).ptr
      refine opwp_K (fun K2 hK2 => ?_)
      go_simp
      exact hK2 _ _ ⟨(.map (some m)), (by first | rfl | (simp [z2]; done)), Below.refl _ _, rfl⟩
    · injection ho with ho
      subst ho
      clear he
      refine opwp_K (fun K2 hK2 => ?_)
      go_simp
      exact hK2 _ _ ⟨(.slice (some ⟨gt, 0, none⟩) 180 ct), (by first | rfl | (simp [List.getD]; done)), Below.refl _ _, rfl⟩
    · injection ho with ho
      subst ho
      clear he
      refine opwp_K (fun K2 hK2 => ?_)
      go_simp
      exact hK2 _ _ ⟨(.int .i64 ((k : Int) + 1)), (by first | rfl | (simp [List.getD]; done)), Below.refl _ _, rfl⟩
    · injection ho with ho
      subst ho
      have z5 : s 38 = .int .i64 ((k : Int) + 1) := by have h := he ⟨5, .data⟩ (by simp) rfl; injection h with h; exact h.symm
      clear he
      have hwk : IntKind.i64.wrap ((k : Int) + 1 - 1) = k := by rw [IntKind.wrap_i64]; omega
      have hwk2 : IntKind.i64.wrap (k : Int) = k := by rw [IntKind.wrap_i64]; omega
      refine opwp_K (fun K2 hK2 => ?_)
      go_simp
      exact hK2 _ _ ⟨(.int .i64 k), (by first | rfl | (simp [z5, hwk2]; done)), Below.refl _ _, rfl⟩
    · injection ho with ho
      subst ho
      have z4 : s 37 = .slice (some ⟨gt, 0, none⟩) 180 ct := by have h := he ⟨4, .data⟩ (by simp) rfl; injection h with h; exact h.symm
      have z6 : s 39 = .int .i64 k := by have h := he ⟨6, .data⟩ (by simp) rfl; injection h with h; exact h.symm
      clear he
      refine opwp_K (fun K2 hK2 => ?_)
      go_simp
      exact hK2 _ _ ⟨(.pointer (some ⟨gt, k, none⟩)), (by first | rfl | (simp [z4, z6]; done)), Below.refl _ _, rfl⟩
    · injection ho with ho
      subst ho
      have z7 : s 40 = .pointer (some ⟨gt, k, none⟩) := by have h := he ⟨7, .data⟩ (by simp) rfl; injection h with h; exact h.symm
      clear he
      have hq := HB.out.cell (p := ⟨gt, k, none⟩) hgl
      rw [hc] at hq
      refine opwp_K (fun K2 hK2 => ?_)
      go_simp
      exact hK2 _ _ ⟨(.string tx), (by first | rfl | (simp [z7]; done)), Below.refl _ _, rfl⟩


set_option maxRecDepth 100000 in
set_option maxHeartbeats 4000000 in
theorem on_reg17 {g m f q r : Nat} {fv wv tx : ByteArray} {S : ByteArray → Bool} {any : Bool} {F : Nat → Bool} (hf : f < 5) (hi : r < 29) (HRQ : Hid (6 + q = r)) (hfi : (f : Int) < 5) (hii : (r : Int) < 29) (hs : tx.size ≤ maxLen) (hz1 : ¬ 9223372036854775807 < fv.size + 1) (hz2 : ¬ 9223372036854775807 < fv.size + 1 + wv.size) (HTX : Hid (fv ++ ⟨#[32]⟩ ++ wv = tx)) {W : World} (HS : Hid (Sw W g m F)) (HT : Hid (Texts W m S any)) (hix1 : ∀ U, (Instr.indexAt 73 (.pointer (some ⟨g, 1, none⟩)) (.int .i64 f)).run Tryd.prog U = .ok (.pointer (some ⟨g, 1 + f * 29, none⟩)) U) (hix2 : ∀ U, (Instr.indexAt 72 (.pointer (some ⟨g, 1 + f * 29, none⟩)) (.int .i64 (r : Int))).run Tryd.prog U = .ok (.pointer (some ⟨g, 1 + f * 29 + r, none⟩)) U) {Q : Exit → Act → World → Prop} {c : Code} {u0 u1 u2 u4 u5 u6 u11 u12 u13 u14 u15 u16 u17 u18 u19 u20 u21 u22 u23 u24 u25 u26 u27 u28 u29 u30 u31 u32 u33 u34 u35 u36 u37 u38 u39 u40 u41 u42 u43 u44 u45 u46 u47 u48 u49 u50 u51 u52 u53 u54 u55 u56 u57 u58 u59 u60 u61 u62 u63 u64 u65 u66 u67 u68 u69 u70 u71 u72 u73 u74 u75 u76 : Value} (hc : c = codeIn [1, 1, 1, 1, 1, 0, 1, 4, 5, 1, 1, 0, 4, 1, 1, 4, 5, 1, 1, 0, 4, 1] onBody) (hend : ∀ y, Sw y g m (fun j => if j = f * 29 + r then S tx else F j) → W.grownBy y (some g) → Q .normal { tmps := (u0 :: u1 :: u2 :: (.pointer (some ⟨g, 0, none⟩)) :: u4 :: u5 :: u6 :: (.int .i64 f) :: (.string fv) :: (.int .i64 q) :: (.string wv) :: u11 :: u12 :: u13 :: u14 :: u15 :: u16 :: u17 :: u18 :: u19 :: u20 :: u21 :: u22 :: u23 :: u24 :: u25 :: u26 :: u27 :: u28 :: u29 :: u30 :: u31 :: u32 :: u33 :: u34 :: u35 :: u36 :: u37 :: u38 :: u39 :: u40 :: u41 :: u42 :: u43 :: u44 :: u45 :: u46 :: u47 :: u48 :: u49 :: u50 :: u51 :: u52 :: u53 :: u54 :: u55 :: u56 :: .pointer (some ⟨g, 0, none⟩) :: .int .i64 f :: .int .i64 q :: .int .i64 (r : Int) :: .pointer (some ⟨g, 0, none⟩) :: .pointer (some ⟨g, 0, none⟩) :: .pointer (some ⟨g, 0, none⟩) :: .map (some m) :: .string fv :: .string (fv ++ ⟨#[32]⟩) :: .string wv :: .string tx :: .bool (S tx) :: .pointer (some ⟨g, 0, none⟩) :: .pointer (some ⟨g, 1, none⟩) :: .pointer (some ⟨g, 1 + f * 29, none⟩) :: .pointer (some ⟨g, 1 + f * 29 + r, none⟩) :: u74 :: u75 :: u76 :: []).toArray, defers := [] } y) : Code.wp Tryd.prog c Q { tmps := (u0 :: u1 :: u2 :: (.pointer (some ⟨g, 0, none⟩)) :: u4 :: u5 :: u6 :: (.int .i64 f) :: (.string fv) :: (.int .i64 q) :: (.string wv) :: u11 :: u12 :: u13 :: u14 :: u15 :: u16 :: u17 :: u18 :: u19 :: u20 :: u21 :: u22 :: u23 :: u24 :: u25 :: u26 :: u27 :: u28 :: u29 :: u30 :: u31 :: u32 :: u33 :: u34 :: u35 :: u36 :: u37 :: u38 :: u39 :: u40 :: u41 :: u42 :: u43 :: u44 :: u45 :: u46 :: u47 :: u48 :: u49 :: u50 :: u51 :: u52 :: u53 :: u54 :: u55 :: u56 :: u57 :: u58 :: u59 :: u60 :: u61 :: u62 :: u63 :: u64 :: u65 :: u66 :: u67 :: u68 :: u69 :: u70 :: u71 :: u72 :: u73 :: u74 :: u75 :: u76 :: []).toArray, defers := [] } W := by
  subst hc
  conv => enter [2]; whnf
  refine wp_region_last (by kernel_rfl) (by kernel_rfl) 17 (by kernel_rfl) (by kernel_rfl) (fun s : Nat → Value => ({ tmps := (u0 :: u1 :: u2 :: (.pointer (some ⟨g, 0, none⟩)) :: u4 :: u5 :: u6 :: (.int .i64 f) :: (.string fv) :: (.int .i64 q) :: (.string wv) :: u11 :: u12 :: u13 :: u14 :: u15 :: u16 :: u17 :: u18 :: u19 :: u20 :: u21 :: u22 :: u23 :: u24 :: u25 :: u26 :: u27 :: u28 :: u29 :: u30 :: u31 :: u32 :: u33 :: u34 :: u35 :: u36 :: u37 :: u38 :: u39 :: u40 :: u41 :: u42 :: u43 :: u44 :: u45 :: u46 :: u47 :: u48 :: u49 :: u50 :: u51 :: u52 :: u53 :: u54 :: u55 :: u56 :: s 57 :: s 58 :: s 59 :: s 60 :: s 61 :: s 62 :: s 63 :: s 64 :: s 65 :: s 66 :: s 67 :: s 68 :: s 69 :: s 70 :: s 71 :: s 72 :: s 73 :: u74 :: u75 :: u76 :: []).toArray, defers := [] } : Act)) (fun k => if k = 57 then u57 else if k = 58 then u58 else if k = 59 then u59 else if k = 60 then u60 else if k = 61 then u61 else if k = 62 then u62 else if k = 63 then u63 else if k = 64 then u64 else if k = 65 then u65 else if k = 66 then u66 else if k = 67 then u67 else if k = 68 then u68 else if k = 69 then u69 else if k = 70 then u70 else if k = 71 then u71 else if k = 72 then u72 else if k = 73 then u73 else undef) rfl (fun i v _ => ([.pointer (some ⟨g, 0, none⟩), .int .i64 f, .int .i64 q, .int .i64 (r : Int), .pointer (some ⟨g, 0, none⟩), .pointer (some ⟨g, 0, none⟩), .pointer (some ⟨g, 0, none⟩), .map (some m), .string fv, .string (fv ++ ⟨#[32]⟩), .string wv, .string tx, .bool (S tx), .pointer (some ⟨g, 0, none⟩), .pointer (some ⟨g, 1, none⟩), .pointer (some ⟨g, 1 + f * 29, none⟩), .pointer (some ⟨g, 1 + f * 29 + r, none⟩)] : List Value)[i]? = some v) (fun _ _ _ _ h _ => h) (fun i => ([57, 58, 59, 60, 61, 62, 63, 64, 65, 66, 67, 68, 69, 70, 71, 72, 73] : List Nat).getD i 0) ?inj ?step ?last
  case inj =>
    intro i j hi hj h
    have hI : i = 0 ∨ i = 1 ∨ i = 2 ∨ i = 3 ∨ i = 4 ∨ i = 5 ∨ i = 6 ∨ i = 7 ∨ i = 8 ∨ i = 9 ∨ i = 10 ∨ i = 11 ∨ i = 12 ∨ i = 13 ∨ i = 14 ∨ i = 15 ∨ i = 16 := by omega
    have hJ : j = 0 ∨ j = 1 ∨ j = 2 ∨ j = 3 ∨ j = 4 ∨ j = 5 ∨ j = 6 ∨ j = 7 ∨ j = 8 ∨ j = 9 ∨ j = 10 ∨ j = 11 ∨ j = 12 ∨ j = 13 ∨ j = 14 ∨ j = 15 ∨ j = 16 := by omega
    rcases hI with rfl | rfl | rfl | rfl | rfl | rfl | rfl | rfl | rfl | rfl | rfl | rfl | rfl | rfl | rfl | rfl | rfl <;> rcases hJ with rfl | rfl | rfl | rfl | rfl | rfl | rfl | rfl | rfl | rfl | rfl | rfl | rfl | rfl | rfl | rfl | rfl <;> first | rfl | (exact absurd h (by decide))
  case last =>
    intro o s x ho hv hb
    have HB := hide hb
    clear hb
    injection ho with ho
    subst ho
    have z0 : s 57 = .pointer (some ⟨g, 0, none⟩) := by have h := hv 0 (by decide); injection h with h; exact h.symm
    have z1 : s 58 = .int .i64 f := by have h := hv 1 (by decide); injection h with h; exact h.symm
    have z2 : s 59 = .int .i64 q := by have h := hv 2 (by decide); injection h with h; exact h.symm
    have z3 : s 60 = .int .i64 (r : Int) := by have h := hv 3 (by decide); injection h with h; exact h.symm
    have z4 : s 61 = .pointer (some ⟨g, 0, none⟩) := by have h := hv 4 (by decide); injection h with h; exact h.symm
    have z5 : s 62 = .pointer (some ⟨g, 0, none⟩) := by have h := hv 5 (by decide); injection h with h; exact h.symm
    have z6 : s 63 = .pointer (some ⟨g, 0, none⟩) := by have h := hv 6 (by decide); injection h with h; exact h.symm
    have z7 : s 64 = .map (some m) := by have h := hv 7 (by decide); injection h with h; exact h.symm
    have z8 : s 65 = .string fv := by have h := hv 8 (by decide); injection h with h; exact h.symm
    have z9 : s 66 = .string (fv ++ ⟨#[32]⟩) := by have h := hv 9 (by decide); injection h with h; exact h.symm
    have z10 : s 67 = .string wv := by have h := hv 10 (by decide); injection h with h; exact h.symm
    have z11 : s 68 = .string tx := by have h := hv 11 (by decide); injection h with h; exact h.symm
    have z12 : s 69 = .bool (S tx) := by have h := hv 12 (by decide); injection h with h; exact h.symm
    have z13 : s 70 = .pointer (some ⟨g, 0, none⟩) := by have h := hv 13 (by decide); injection h with h; exact h.symm
    have z14 : s 71 = .pointer (some ⟨g, 1, none⟩) := by have h := hv 14 (by decide); injection h with h; exact h.symm
    have z15 : s 72 = .pointer (some ⟨g, 1 + f * 29, none⟩) := by have h := hv 15 (by decide); injection h with h; exact h.symm
    have z16 : s 73 = .pointer (some ⟨g, 1 + f * 29 + r, none⟩) := by have h := hv 16 (by decide); injection h with h; exact h.symm
    clear hv
    have hS2 := HS.out.below HB.out
    have hcl := hS2.bit (j := f * 29 + r) (by omega)
    have hfr := hS2.fr (1 + (f * 29 + r))
    have had : 1 + (f * 29 + r) = 1 + f * 29 + r := by omega
    rw [had] at hcl hfr
    have hen := hend _ (had ▸ hS2.set (j := f * 29 + r) (by omega) (S tx)) (grown_below HB.out (gb_set _ _ _ _))
    have HEN := hide hen
    clear hen hS2 had
    refine opwp_K (fun K2 hK2 => ?_)
    go_simp
    refine hK2 _ _ ?_
    first | exact HEN.out | (simp only [z0, z1, z2, z3, z4, z5, z6, z7, z8, z9, z10, z11, z12, z13, z14, z15, z16]; exact HEN.out)
  case step =>
    intro i o s x hin ho he hb
    have HB := hide hb
    clear hb
    have hcase : i = 0 ∨ i = 1 ∨ i = 2 ∨ i = 3 ∨ i = 4 ∨ i = 5 ∨ i = 6 ∨ i = 7 ∨ i = 8 ∨ i = 9 ∨ i = 10 ∨ i = 11 ∨ i = 12 ∨ i = 13 ∨ i = 14 ∨ i = 15 ∨ i = 16 := by omega
    rcases hcase with rfl | rfl | rfl | rfl | rfl | rfl | rfl | rfl | rfl | rfl | rfl | rfl | rfl | rfl | rfl | rfl | rfl
    · injection ho with ho
      subst ho
      clear he
      refine opwp_K (fun K2 hK2 => ?_)
      go_simp
      exact hK2 _ _ ⟨(.pointer (some ⟨g, 0, none⟩)), (by first | rfl | (simp [List.getD]; done)), Below.refl _ _, rfl⟩
    · injection ho with ho
      subst ho
      clear he
      refine opwp_K (fun K2 hK2 => ?_)
      go_simp
      exact hK2 _ _ ⟨(.int .i64 f), (by first | rfl | (simp [List.getD]; done)), Below.refl _ _, rfl⟩
    · injection ho with ho
      subst ho
      clear he
      refine opwp_K (fun K2 hK2 => ?_)
      go_simp
      exact hK2 _ _ ⟨(.int .i64 q), (by first | rfl | (simp [List.getD]; done)), Below.refl _ _, rfl⟩
    · injection ho with ho
      subst ho
      have z2 : s 59 = .int .i64 q := by have h := he ⟨2, .data⟩ (by simp) rfl; injection h with h; exact h.symm
      clear he
      have hwk : IntKind.i64.wrap (6 + (q : Int)) = (r : Int) := by have := HRQ.out; rw [IntKind.wrap_i64]; omega
      refine opwp_K (fun K2 hK2 => ?_)
      go_simp
      exact hK2 _ _ ⟨(.int .i64 (r : Int)), (by first | rfl | (simp [z2]; done)), Below.refl _ _, rfl⟩
    · injection ho with ho
      subst ho
      clear he
      refine opwp_K (fun K2 hK2 => ?_)
      go_simp
      exact hK2 _ _ ⟨(.pointer (some ⟨g, 0, none⟩)), (by first | rfl | (simp [List.getD]; done)), Below.refl _ _, rfl⟩
    · injection ho with ho
      subst ho
      have z4 : s 61 = .pointer (some ⟨g, 0, none⟩) := by have h := he ⟨4, .data⟩ (by simp) rfl; injection h with h; exact h.symm
      clear he
      refine opwp_K (fun K2 hK2 => ?_)
      go_simp
      exact hK2 _ _ ⟨(.pointer (some ⟨g, 0, none⟩)), (by first | rfl | (simp [z4]; done)), Below.refl _ _, rfl⟩
    · injection ho with ho
      subst ho
      have z5 : s 62 = .pointer (some ⟨g, 0, none⟩) := by have h := he ⟨5, .data⟩ (by simp) rfl; injection h with h; exact h.symm
      clear he
      refine opwp_K (fun K2 hK2 => ?_)
      go_simp
      exact hK2 _ _ ⟨(.pointer (some ⟨g, 0, none⟩)), (by first | rfl | (simp [z5]; done)), Below.refl _ _, rfl⟩
    · injection ho with ho
      subst ho
      have z6 : s 63 = .pointer (some ⟨g, 0, none⟩) := by have h := he ⟨6, .data⟩ (by simp) rfl; injection h with h; exact h.symm
      clear he
      have hp := (HS.out.below HB.out).ptr
      refine opwp_K (fun K2 hK2 => ?_)
      go_simp
      exact hK2 _ _ ⟨(.map (some m)), (by first | rfl | (simp [z6]; done)), Below.refl _ _, rfl⟩
    · injection ho with ho
      subst ho
      clear he
      refine opwp_K (fun K2 hK2 => ?_)
      go_simp
      exact hK2 _ _ ⟨(.string fv), (by first | rfl | (simp [List.getD]; done)), Below.refl _ _, rfl⟩
    · injection ho with ho
      subst ho
      have z8 : s 65 = .string fv := by have h := he ⟨8, .data⟩ (by simp) rfl; injection h with h; exact h.symm
      clear he
      refine opwp_K (fun K2 hK2 => ?_)
      go_simp
      exact hK2 _ _ ⟨(.string (fv ++ ⟨#[32]⟩)), (by first | rfl | (simp [z8]; done)), Below.refl _ _, rfl⟩
    · injection ho with ho
      subst ho
      clear he
      refine opwp_K (fun K2 hK2 => ?_)
      go_simp
      exact hK2 _ _ ⟨(.string wv), (by first | rfl | (simp [List.getD]; done)), Below.refl _ _, rfl⟩
    · injection ho with ho
      subst ho
      have z9 : s 66 = .string (fv ++ ⟨#[32]⟩) := by have h := he ⟨9, .data⟩ (by simp) rfl; injection h with h; exact h.symm
      have z10 : s 67 = .string wv := by have h := he ⟨10, .data⟩ (by simp) rfl; injection h with h; exact h.symm
      clear he
      have htx := HTX.out
      refine opwp_K (fun K2 hK2 => ?_)
      go_simp
      exact hK2 _ _ ⟨(.string tx), (by first | rfl | (simp [z9, z10]; done)), Below.refl _ _, rfl⟩
    · injection ho with ho
      subst ho
      have z7 : s 64 = .map (some m) := by have h := he ⟨7, .data⟩ (by simp) rfl; injection h with h; exact h.symm
      have z11 : s 68 = .string tx := by have h := he ⟨11, .data⟩ (by simp) rfl; injection h with h; exact h.symm
      clear he
      have hlk := (HT.out.below HB.out).look tx hs
      refine opwp_K (fun K2 hK2 => ?_)
      go_simp
      exact hK2 _ _ ⟨(.bool (S tx)), (by first | rfl | (simp [z7, z11]; done)), Below.refl _ _, rfl⟩
    · injection ho with ho
      subst ho
      have z0 : s 57 = .pointer (some ⟨g, 0, none⟩) := by have h := he ⟨0, .data⟩ (by simp) rfl; injection h with h; exact h.symm
      clear he
      refine opwp_K (fun K2 hK2 => ?_)
      go_simp
      exact hK2 _ _ ⟨(.pointer (some ⟨g, 0, none⟩)), (by first | rfl | (simp [z0]; done)), Below.refl _ _, rfl⟩
    · injection ho with ho
      subst ho
      have z13 : s 70 = .pointer (some ⟨g, 0, none⟩) := by have h := he ⟨13, .data⟩ (by simp) rfl; injection h with h; exact h.symm
      clear he
      refine opwp_K (fun K2 hK2 => ?_)
      go_simp
      exact hK2 _ _ ⟨(.pointer (some ⟨g, 1, none⟩)), (by first | rfl | (simp [z13]; done)), Below.refl _ _, rfl⟩
    · injection ho with ho
      subst ho
      have z14 : s 71 = .pointer (some ⟨g, 1, none⟩) := by have h := he ⟨14, .data⟩ (by simp) rfl; injection h with h; exact h.symm
      have z1 : s 58 = .int .i64 f := by have h := he ⟨1, .data⟩ (by simp) rfl; injection h with h; exact h.symm
      clear he
      have hix := hix1 x
      refine opwp_K (fun K2 hK2 => ?_)
      go_simp
      exact hK2 _ _ ⟨(.pointer (some ⟨g, 1 + f * 29, none⟩)), (by first | rfl | (simp [z14, z1]; done)), Below.refl _ _, rfl⟩
    · injection ho with ho
      subst ho
      have z15 : s 72 = .pointer (some ⟨g, 1 + f * 29, none⟩) := by have h := he ⟨15, .data⟩ (by simp) rfl; injection h with h; exact h.symm
      have z3 : s 60 = .int .i64 (r : Int) := by have h := he ⟨3, .data⟩ (by simp) rfl; injection h with h; exact h.symm
      clear he
      have hix := hix2 x
      refine opwp_K (fun K2 hK2 => ?_)
      go_simp
      exact hK2 _ _ ⟨(.pointer (some ⟨g, 1 + f * 29 + r, none⟩)), (by first | rfl | (simp [z15, z3]; done)), Below.refl _ _, rfl⟩

def famB : List UInt8 := [105, 110, 118, 101, 114, 116, 101, 100, 32, 115, 116, 114, 105, 99, 116, 32, 122, 101, 114, 111, 32, 115, 119, 97, 112, 112, 101, 100, 32, 114, 101, 112, 108, 97, 99, 101, 100]
def opsB : List UInt8 := [97, 100, 100, 32, 115, 117, 98, 32, 109, 117, 108, 32, 100, 105, 118, 32, 109, 111, 100, 32, 110, 101, 103, 32, 99, 111, 110, 99, 97, 116, 32, 108, 101, 110, 103, 116, 104, 32, 101, 113, 32, 110, 101, 32, 108, 116, 32, 108, 101, 32, 103, 116, 32, 103, 101, 32, 115, 97, 109, 101, 32, 105, 115, 110, 117, 108, 108, 32, 97, 110, 100, 32, 111, 114, 32, 110, 111, 116, 32, 105, 115, 116, 114, 117, 101, 32, 99, 97, 115, 101, 32, 99, 111, 97, 108, 101, 115, 99, 101, 32, 105, 110]
def famW : List (List UInt8) := [[105, 110, 118, 101, 114, 116, 101, 100], [115, 116, 114, 105, 99, 116], [122, 101, 114, 111], [115, 119, 97, 112, 112, 101, 100], [114, 101, 112, 108, 97, 99, 101, 100]]
theorem fam_fields : Lib.fields famB = famW := by kernel_rfl
theorem ops_fields : Lib.fields opsB = opsW := by kernel_rfl
/-- The bit of family j / 29 and operation j % 29. -/
noncomputable def wrongF (S : ByteArray → Bool) (j : Nat) : Bool := decide (6 ≤ j % 29) && S (mk ((famW.getD (j / 29) []) ++ [32] ++ (opsW.getD (j % 29 - 6) [])))
noncomputable def bitsTo (S : ByteArray → Bool) (n : Nat) (j : Nat) : Bool := decide (j < n) && wrongF S j
theorem Sw.congr {x : World} {g m : Nat} {F G : Nat → Bool} (h : Sw x g m F) (he : ∀ j, j < 145 → F j = G j) : Sw x g m G := by obtain ⟨cs, h1, h2, h3⟩ := h; exact ⟨cs, h1, h2, fun j hj => by rw [← he j hj]; exact h3 j hj⟩
theorem bits_row (S : ByteArray → Bool) (f : Nat) : bitsTo S (f * 29 + 6) = bitsTo S (f * 29) := by
  funext j
  unfold bitsTo
  by_cases h1 : j < f * 29
  · rw [decide_eq_true h1, decide_eq_true (by omega)]
  · by_cases h2 : j < f * 29 + 6
    · have h3 : wrongF S j = false := by unfold wrongF; rw [decide_eq_false (by omega), Bool.false_and]
      rw [h3, Bool.and_false, Bool.and_false]
    · rw [decide_eq_false h1, decide_eq_false h2]
theorem bits_step (S : ByteArray → Bool) (f i : Nat) (hi : i < 23) {fw ow : List UInt8} (hf : famW[f]? = some fw) (ho : opsW[i]? = some ow) (r : Nat) (hr : 6 + i = r) : (fun j => if j = f * 29 + r then S (mk (fw ++ [32] ++ ow)) else bitsTo S (f * 29 + r) j) = bitsTo S (f * 29 + (r + 1)) := by
  funext j
  by_cases hj : j = f * 29 + r
  · rw [if_pos hj]
    unfold bitsTo wrongF
    rw [hj, show (f * 29 + r) / 29 = f by omega, show (f * 29 + r) % 29 = r by omega, List.getD_eq_getElem?_getD, hf, show r - 6 = i by omega, List.getD_eq_getElem?_getD, ho, decide_eq_true (by omega), decide_eq_true (by omega)]
    rfl
  · rw [if_neg hj]
    unfold bitsTo
    by_cases h1 : j < f * 29 + r
    · rw [decide_eq_true h1, decide_eq_true (by omega)]
    · rw [decide_eq_false h1, decide_eq_false (by omega)]
theorem words_short : (famW.all fun l => decide (l.length ≤ 20)) = true ∧ (opsW.all fun l => decide (l.length ≤ 20)) = true := by constructor <;> kernel_rfl
theorem text_short {n : Int} (h : 1 ≤ n ∧ n ≤ 180) : (textAt n).size ≤ 200 := by
  unfold textAt
  rw [if_pos h, mk_size]
  have h1 : (textsL.all fun l => decide (l.length ≤ 200)) = true := by kernel_rfl
  rw [List.getD_eq_getElem?_getD]
  cases hk : textsL[(n - 1).toNat]? with
  | none => simp
  | some x => exact of_decide_eq_true (List.all_eq_true.1 h1 x (List.mem_of_getElem? hk))
/-- What is known of the switches while they are made. -/
structure OnR (w x : World) (g m n : Nat) (F S) (any : Bool) : Prop where
  bel : Below w.heap.size w x
  sw : Sw x g m F
  tx : TextsN x m n S any
  gm : g ≠ m
  lo : w.heap.size ≤ g ∧ w.heap.size ≤ m
theorem OnR.call {w x y : World} {g m n : Nat} {F : Nat → Bool} {S : ByteArray → Bool} {any : Bool} (h : OnR w x g m n F S any) (hb : Below x.heap.size x y) : OnR w y g m n F S any := ⟨bel_trans h.bel (hb.mono (Nat.le_refl _)), h.sw.below hb, h.tx.below hb, h.gm, h.lo⟩
/-- Strings that lie in a block. -/
def Strs (x : World) (g : Nat) (l : List (List UInt8)) : Prop := g < x.heap.size ∧ ∀ j s, l[j]? = some s → x.cell? ⟨g, j, none⟩ = some (.string (mk s))
theorem Strs.below {x y : World} {g : Nat} {l : List (List UInt8)} (h : Strs x g l) (hb : Below x.heap.size x y) : Strs y g l := ⟨Nat.lt_of_lt_of_le h.1 hb.size, fun j s hj => by rw [hb.cell (p := ⟨g, j, none⟩) h.1]; exact h.2 j s hj⟩
theorem Strs.grown {x y : World} {g b : Nat} {l : List (List UInt8)} (h : Strs x g l) (hb : x.grownBy y (some b)) (hne : g ≠ b) : Strs y g l := ⟨Nat.lt_of_lt_of_le h.1 hb.size, fun j s hj => hb.cell (h.2 j s hj) (by simp; exact hne)⟩
theorem Strs.new (w : World) (l : List (List UInt8)) : Strs (w.alloc (.cells (l.map fun l => Value.string (mk l)).toArray 9)) w.heap.size l := ⟨by simp, fun j s hj => cells_new hj⟩

end Go.Proofs.YtlkhiihehaiinaaDoor

/- fault.on: the faults that are on. -/
import Derived.Test.YtlkhiihehaiinaaDoorGI
import Derived.Test.YtlkhiihehaiinaaDoorGH
import Derived.Test.YtlkhiihehaiinaaDoorGF
import Derived.LoopTactic
import Derived.Deep.DeepCutAuto
namespace Go.Proofs.YtlkhiihehaiinaaDoor
open Go.RowKit

noncomputable def hitS (l : List Int) (s : ByteArray) : Bool := l.any fun n => decide (1 ≤ n ∧ n ≤ 180) && decide (s = textAt n)
def anyS (l : List Int) : Bool := l.any fun n => decide (1 ≤ n ∧ n ≤ 180)
theorem hitS_snoc (l : List Int) (n : Int) : hitS (l ++ [n]) = fun s => hitS l s || (decide (1 ≤ n ∧ n ≤ 180) && decide (s = textAt n)) := by funext s; simp [hitS]
theorem anyS_snoc (l : List Int) (n : Int) : anyS (l ++ [n]) = (anyS l || decide (1 ≤ n ∧ n ≤ 180)) := by simp [anyS]
/-- Block g holds the switches: the map m and a bit for each family and operation. -/
def Sw (x : World) (g m : Nat) (F : Nat → Bool) : Prop := ∃ cs, Box x g cs 75 ∧ cs[0]? = some (.map (some m)) ∧ ∀ j, j < 145 → cs[1 + j]? = some (.bool (F j))
theorem Sw.grown {x y : World} {g m : Nat} {F : Nat → Bool} {row : Option Nat} (h : Sw x g m F) (hg : x.grownBy y row) (hne : some g ≠ row) : Sw y g m F := by obtain ⟨cs, h1, h2⟩ := h; exact ⟨cs, h1.grown hg hne, h2⟩
theorem Sw.below {x y : World} {g m : Nat} {F : Nat → Bool} (h : Sw x g m F) (hb : Below x.heap.size x y) : Sw y g m F := h.grown (only_below hb none) (by simp)
theorem Sw.ptr {x : World} {g m : Nat} {F : Nat → Bool} (h : Sw x g m F) : x.cell? ⟨g, 0, none⟩ = some (.map (some m)) := by obtain ⟨cs, h1, h2, _⟩ := h; exact h1.cell h2
theorem Sw.bit {x : World} {g m : Nat} {F : Nat → Bool} (h : Sw x g m F) {j : Nat} (hj : j < 145) : x.cell? ⟨g, 1 + j, none⟩ = some (.bool (F j)) := by obtain ⟨cs, h1, _, h2⟩ := h; exact h1.cell (h2 j hj)
theorem Sw.fr {x : World} {g m : Nat} {F : Nat → Bool} (h : Sw x g m F) (j : Nat) : x.frozen? ⟨g, j, none⟩ = false := by obtain ⟨cs, h1, _⟩ := h; exact h1.fr j
theorem Sw.lt {x : World} {g m : Nat} {F : Nat → Bool} (h : Sw x g m F) : g < x.heap.size := by obtain ⟨cs, h1, _⟩ := h; exact h1.lt
theorem Sw.set {x : World} {g m : Nat} {F : Nat → Bool} (h : Sw x g m F) {j : Nat} (hj : j < 145) (b : Bool) : Sw (x.setCell ⟨g, 1 + j, none⟩ (.bool b)) g m (fun k => if k = j then b else F k) := by
  obtain ⟨cs, h1, h2, h3⟩ := h
  refine ⟨_, h1.set (1 + j) (.bool b), ?_, fun k hk => ?_⟩
  · rw [Array.getElem?_setIfInBounds_ne (by omega)]; exact h2
  · by_cases e : k = j
    · subst e
      have hsz : 1 + k < cs.size := (Array.getElem?_eq_some_iff.1 (h3 k hk)).1
      rw [Array.getElem?_setIfInBounds_self, if_pos hsz]; simp
    · rw [Array.getElem?_setIfInBounds_ne (by omega)]; simp only [e, if_false]; exact h3 k hk
theorem zc_bits : (List.range 145).all (fun j => match Tryd.zeroCells75[1 + j]? with | some (.bool false) => true | _ => false) = true := by kernel_rfl
theorem zc_size : 0 < Tryd.zeroCells75.size := of_decide_eq_true (show decide (0 < Tryd.zeroCells75.size) = true by kernel_rfl)
theorem zc_bit {j : Nat} (hj : j < 145) : Tryd.zeroCells75[1 + j]? = some (.bool false) := by
  have h := List.all_eq_true.1 zc_bits j (List.mem_range.2 hj)
  revert h
  generalize Tryd.zeroCells75[1 + j]? = v
  intro h
  split at h
  · rfl
  · cases h
theorem Sw.new (w : World) (m : Nat) : Sw (w.alloc (.cells (Tryd.zeroCells75.setIfInBounds 0 (.map (some m))) 75)) w.heap.size m (fun _ => false) :=
  ⟨_, Box.new _ _ _, by rw [Array.getElem?_setIfInBounds_self, if_pos zc_size], fun j hj => by rw [Array.getElem?_setIfInBounds_ne (by omega)]; exact zc_bit hj⟩
noncomputable def onBody : Code := Tryd.f26.body.getD .skip


set_option maxRecDepth 100000 in
set_option maxHeartbeats 4000000 in
theorem on_reg9 {g m gt ct k n : Nat} {tx : ByteArray} {S : ByteArray → Bool} {any : Bool} {F : Nat → Bool} (hk : k < 180) (hki : (k : Int) < 180) (hs : tx.size ≤ maxLen) (hn : n < 1000000) (hgm : g ≠ m) {W : World} (hgl : gt < W.heap.size) (hc : W.cell? ⟨gt, k, none⟩ = some (.string tx)) (HS : Hid (Sw W g m F)) (HT : Hid (TextsN W m n S any)) {Q : Exit → Act → World → Prop} {c : Code} {u0 u1 u2 u5 u7 u8 u9 u10 u11 u12 u13 u14 u15 u16 u17 u18 u19 u20 u21 u22 u23 u24 u25 u26 u27 u28 u29 u30 u31 u32 u33 u34 u35 u36 u37 u38 u39 u40 u41 u42 u43 u44 u45 u46 u47 u48 u49 u50 u51 u52 u53 u54 u55 u56 u57 u58 u59 u60 u61 u62 u63 u64 u65 u66 u67 u68 u69 u70 u71 u72 u73 u74 u75 u76 : Value} (hc : c = codeIn [1, 1, 1, 1, 0, 1, 4, 5, 1, 1, 0, 4, 1, 1, 2] onBody) (hend : ∀ y, TextsN y m (n + 1) (fun t => S t || decide (t = tx)) true → Sw y g m F → W.grownBy y (some m) → Q .normal { tmps := (u0 :: u1 :: u2 :: (.pointer (some ⟨g, 0, none⟩)) :: (.slice (some ⟨gt, 0, none⟩) 180 ct) :: u5 :: (.int .i64 ((k : Int) + 1)) :: u7 :: u8 :: u9 :: u10 :: u11 :: u12 :: u13 :: u14 :: u15 :: u16 :: u17 :: u18 :: u19 :: u20 :: u21 :: u22 :: u23 :: u24 :: u25 :: u26 :: u27 :: u28 :: u29 :: u30 :: u31 :: u32 :: .pointer (some ⟨g, 0, none⟩) :: .pointer (some ⟨g, 0, none⟩) :: .pointer (some ⟨g, 0, none⟩) :: .map (some m) :: .slice (some ⟨gt, 0, none⟩) 180 ct :: .int .i64 ((k : Int) + 1) :: .int .i64 k :: .pointer (some ⟨gt, k, none⟩) :: .string tx :: u42 :: u43 :: u44 :: u45 :: u46 :: u47 :: u48 :: u49 :: u50 :: u51 :: u52 :: u53 :: u54 :: u55 :: u56 :: u57 :: u58 :: u59 :: u60 :: u61 :: u62 :: u63 :: u64 :: u65 :: u66 :: u67 :: u68 :: u69 :: u70 :: u71 :: u72 :: u73 :: u74 :: u75 :: u76 :: []).toArray, defers := [] } y) : Code.wp Tryd.prog c Q { tmps := (u0 :: u1 :: u2 :: (.pointer (some ⟨g, 0, none⟩)) :: (.slice (some ⟨gt, 0, none⟩) 180 ct) :: u5 :: (.int .i64 ((k : Int) + 1)) :: u7 :: u8 :: u9 :: u10 :: u11 :: u12 :: u13 :: u14 :: u15 :: u16 :: u17 :: u18 :: u19 :: u20 :: u21 :: u22 :: u23 :: u24 :: u25 :: u26 :: u27 :: u28 :: u29 :: u30 :: u31 :: u32 :: u33 :: u34 :: u35 :: u36 :: u37 :: u38 :: u39 :: u40 :: u41 :: u42 :: u43 :: u44 :: u45 :: u46 :: u47 :: u48 :: u49 :: u50 :: u51 :: u52 :: u53 :: u54 :: u55 :: u56 :: u57 :: u58 :: u59 :: u60 :: u61 :: u62 :: u63 :: u64 :: u65 :: u66 :: u67 :: u68 :: u69 :: u70 :: u71 :: u72 :: u73 :: u74 :: u75 :: u76 :: []).toArray, defers := [] } W := by
  subst hc
  conv => enter [2]; whnf
  refine wp_region_last (by kernel_rfl) (by kernel_rfl) 9 (by kernel_rfl) (by kernel_rfl) (fun s : Nat → Value => ({ tmps := (u0 :: u1 :: u2 :: (.pointer (some ⟨g, 0, none⟩)) :: (.slice (some ⟨gt, 0, none⟩) 180 ct) :: u5 :: (.int .i64 ((k : Int) + 1)) :: u7 :: u8 :: u9 :: u10 :: u11 :: u12 :: u13 :: u14 :: u15 :: u16 :: u17 :: u18 :: u19 :: u20 :: u21 :: u22 :: u23 :: u24 :: u25 :: u26 :: u27 :: u28 :: u29 :: u30 :: u31 :: u32 :: s 33 :: s 34 :: s 35 :: s 36 :: s 37 :: s 38 :: s 39 :: s 40 :: s 41 :: u42 :: u43 :: u44 :: u45 :: u46 :: u47 :: u48 :: u49 :: u50 :: u51 :: u52 :: u53 :: u54 :: u55 :: u56 :: u57 :: u58 :: u59 :: u60 :: u61 :: u62 :: u63 :: u64 :: u65 :: u66 :: u67 :: u68 :: u69 :: u70 :: u71 :: u72 :: u73 :: u74 :: u75 :: u76 :: []).toArray, defers := [] } : Act)) (fun k => if k = 33 then u33 else if k = 34 then u34 else if k = 35 then u35 else if k = 36 then u36 else if k = 37 then u37 else if k = 38 then u38 else if k = 39 then u39 else if k = 40 then u40 else if k = 41 then u41 else undef) rfl (fun i v _ => ([.pointer (some ⟨g, 0, none⟩), .pointer (some ⟨g, 0, none⟩), .pointer (some ⟨g, 0, none⟩), .map (some m), .slice (some ⟨gt, 0, none⟩) 180 ct, .int .i64 ((k : Int) + 1), .int .i64 k, .pointer (some ⟨gt, k, none⟩), .string tx] : List Value)[i]? = some v) (fun _ _ _ _ h _ => h) (fun i => ([33, 34, 35, 36, 37, 38, 39, 40, 41] : List Nat).getD i 0) ?inj ?step ?last
  case inj =>
    intro i j hi hj h
    have hI : i = 0 ∨ i = 1 ∨ i = 2 ∨ i = 3 ∨ i = 4 ∨ i = 5 ∨ i = 6 ∨ i = 7 ∨ i = 8 := by omega
    have hJ : j = 0 ∨ j = 1 ∨ j = 2 ∨ j = 3 ∨ j = 4 ∨ j = 5 ∨ j = 6 ∨ j = 7 ∨ j = 8 := by omega
    rcases hI with rfl | rfl | rfl | rfl | rfl | rfl | rfl | rfl | rfl <;> rcases hJ with rfl | rfl | rfl | rfl | rfl | rfl | rfl | rfl | rfl <;> first | rfl | (exact absurd h (by decide))
  case last =>
    intro o s x ho hv hb
    have HB := hide hb
    clear hb
    injection ho with ho
    subst ho
    have z0 : s 33 = .pointer (some ⟨g, 0, none⟩) := by have h := hv 0 (by decide); injection h with h; exact h.symm
    have z1 : s 34 = .pointer (some ⟨g, 0, none⟩) := by have h := hv 1 (by decide); injection h with h; exact h.symm
    have z2 : s 35 = .pointer (some ⟨g, 0, none⟩) := by have h := hv 2 (by decide); injection h with h; exact h.symm
    have z3 : s 36 = .map (some m) := by have h := hv 3 (by decide); injection h with h; exact h.symm
    have z4 : s 37 = .slice (some ⟨gt, 0, none⟩) 180 ct := by have h := hv 4 (by decide); injection h with h; exact h.symm
    have z5 : s 38 = .int .i64 ((k : Int) + 1) := by have h := hv 5 (by decide); injection h with h; exact h.symm
    have z6 : s 39 = .int .i64 k := by have h := hv 6 (by decide); injection h with h; exact h.symm
    have z7 : s 40 = .pointer (some ⟨gt, k, none⟩) := by have h := hv 7 (by decide); injection h with h; exact h.symm
    have z8 : s 41 = .string tx := by have h := hv 8 (by decide); injection h with h; exact h.symm
    clear hv
    obtain ⟨y, hrun, hty, hgy⟩ := (HT.out.below HB.out).put tx hs hn
    have hen := hend y hty (HS.out.below HB.out |>.grown hgy (by simp; omega)) (grown_below HB.out hgy)
    have HEN := hide hen
    clear hen hty hgy
    refine opwp_K (fun K2 hK2 => ?_)
    go_simp
    refine hK2 _ _ ?_
    first | exact HEN.out | (simp only [z0, z1, z2, z3, z4, z5, z6, z7, z8]; exact HEN.out)
  case step =>
    intro i o s x hin ho he hb
    have HB := hide hb
    clear hb
    have hcase : i = 0 ∨ i = 1 ∨ i = 2 ∨ i = 3 ∨ i = 4 ∨ i = 5 ∨ i = 6 ∨ i = 7 ∨ i = 8 := by omega
    rcases hcase with rfl | rfl | rfl | rfl | rfl | rfl | rfl | rfl | rfl
    · injection ho with ho
      subst ho
      clear he
      refine opwp_K (fun K2 hK2 => ?_)
      go_simp
      exact hK2 _ _ ⟨(.pointer (some ⟨g, 0, none⟩)), (by first | rfl | (simp [List.getD]; done)), Below.refl _ _, rfl⟩
    · injection ho with ho
      subst ho
      have z0 : s 33 = .pointer (some ⟨g, 0, none⟩) := by have h := he ⟨0, .data⟩ (by simp) rfl; injection h with h; exact h.symm
      clear he
      refine opwp_K (fun K2 hK2 => ?_)
      go_simp
      exact hK2 _ _ ⟨(.pointer (some ⟨g, 0, none⟩)), (by first | rfl | (simp [z0]; done)), Below.refl _ _, rfl⟩
    · injection ho with ho
      subst ho
      have z1 : s 34 = .pointer (some ⟨g, 0, none⟩) := by have h := he ⟨1, .data⟩ (by simp) rfl; injection h with h; exact h.symm
      clear he
      refine opwp_K (fun K2 hK2 => ?_)
      go_simp
      exact hK2 _ _ ⟨(.pointer (some ⟨g, 0, none⟩)), (by first | rfl | (simp [z1]; done)), Below.refl _ _, rfl⟩
    · injection ho with ho
      subst ho
      have z2 : s 35 = .pointer (some ⟨g, 0, none⟩) := by have h := he ⟨2, .data⟩ (by simp) rfl; injection h with h; exact h.symm
      clear he
      have hp := (HS.out.below HB.out).ptr
      refine opwp_K (fun K2 hK2 => ?_)
      go_simp
      exact hK2 _ _ ⟨(.map (some m)), (by first | rfl | (simp [z2]; done)), Below.refl _ _, rfl⟩
    · injection ho with ho
      subst ho
      clear he
      refine opwp_K (fun K2 hK2 => ?_)
      go_simp
      exact hK2 _ _ ⟨(.slice (some ⟨gt, 0, none⟩) 180 ct), (by first | rfl | (simp [List.getD]; done)), Below.refl _ _, rfl⟩
    · injection ho with ho
      subst ho
      clear he
      refine opwp_K (fun K2 hK2 => ?_)
      go_simp
      exact hK2 _ _ ⟨(.int .i64 ((k : Int) + 1)), (by first | rfl | (simp [List.getD]; done)), Below.refl _ _, rfl⟩
    · injection ho with ho
      subst ho
      have z5 : s 38 = .int .i64 ((k : Int) + 1) := by have h := he ⟨5, .data⟩ (by simp) rfl; injection h with h; exact h.symm
      clear he
      have hwk : IntKind.i64.wrap ((k : Int) + 1 - 1) = k := by rw [IntKind.wrap_i64]; omega
      have hwk2 : IntKind.i64.wrap (k : Int) = k := by rw [IntKind.wrap_i64]; omega
      refine opwp_K (fun K2 hK2 => ?_)
      go_simp
      exact hK2 _ _ ⟨(.int .i64 k), (by first | rfl | (simp [z5, hwk2]; done)), Below.refl _ _, rfl⟩
    · injection ho with ho
      subst ho
      have z4 : s 37 = .slice (some ⟨gt, 0, none⟩) 180 ct := by have h := he ⟨4, .data⟩ (by simp) rfl; injection h with h; exact h.symm
      have z6 : s 39 = .int .i64 k := by have h := he ⟨6, .data⟩ (by simp) rfl; injection h with h; exact h.symm
      clear he
      refine opwp_K (fun K2 hK2 => ?_)
      go_simp
      exact hK2 _ _ ⟨(.pointer (some ⟨gt, k, none⟩)), (by first | rfl | (simp [z4, z6]; done)), Below.refl _ _, rfl⟩
    · injection ho with ho
      subst ho
      have z7 : s 40 = .pointer (some ⟨gt, k, none⟩) := by have h := he ⟨7, .data⟩ (by simp) rfl; injection h with h; exact h.symm
      clear he
      have hq := HB.out.cell (p := ⟨gt, k, none⟩) hgl
      rw [hc] at hq
      refine opwp_K (fun K2 hK2 => ?_)
      go_simp
      exact hK2 _ _ ⟨(.string tx), (by first | rfl | (simp [z7]; done)), Below.refl _ _, rfl⟩


set_option maxRecDepth 100000 in
set_option maxHeartbeats 4000000 in
theorem on_reg17 {g m f q r : Nat} {fv wv tx : ByteArray} {S : ByteArray → Bool} {any : Bool} {F : Nat → Bool} (hf : f < 5) (hi : r < 29) (HRQ : Hid (6 + q = r)) (hfi : (f : Int) < 5) (hii : (r : Int) < 29) (hs : tx.size ≤ maxLen) (hz1 : ¬ 9223372036854775807 < fv.size + 1) (hz2 : ¬ 9223372036854775807 < fv.size + 1 + wv.size) (HTX : Hid (fv ++ ⟨#[32]⟩ ++ wv = tx)) {W : World} (HS : Hid (Sw W g m F)) (HT : Hid (Texts W m S any)) (hix1 : ∀ U, (Instr.indexAt 73 (.pointer (some ⟨g, 1, none⟩)) (.int .i64 f)).run Tryd.prog U = .ok (.pointer (some ⟨g, 1 + f * 29, none⟩)) U) (hix2 : ∀ U, (Instr.indexAt 72 (.pointer (some ⟨g, 1 + f * 29, none⟩)) (.int .i64 (r : Int))).run Tryd.prog U = .ok (.pointer (some ⟨g, 1 + f * 29 + r, none⟩)) U) {Q : Exit → Act → World → Prop} {c : Code} {u0 u1 u2 u4 u5 u6 u11 u12 u13 u14 u15 u16 u17 u18 u19 u20 u21 u22 u23 u24 u25 u26 u27 u28 u29 u30 u31 u32 u33 u34 u35 u36 u37 u38 u39 u40 u41 u42 u43 u44 u45 u46 u47 u48 u49 u50 u51 u52 u53 u54 u55 u56 u57 u58 u59 u60 u61 u62 u63 u64 u65 u66 u67 u68 u69 u70 u71 u72 u73 u74 u75 u76 : Value} (hc : c = codeIn [1, 1, 1, 1, 1, 0, 1, 4, 5, 1, 1, 0, 4, 1, 1, 4, 5, 1, 1, 0, 4, 1] onBody) (hend : ∀ y, Sw y g m (fun j => if j = f * 29 + r then S tx else F j) → W.grownBy y (some g) → Q .normal { tmps := (u0 :: u1 :: u2 :: (.pointer (some ⟨g, 0, none⟩)) :: u4 :: u5 :: u6 :: (.int .i64 f) :: (.string fv) :: (.int .i64 q) :: (.string wv) :: u11 :: u12 :: u13 :: u14 :: u15 :: u16 :: u17 :: u18 :: u19 :: u20 :: u21 :: u22 :: u23 :: u24 :: u25 :: u26 :: u27 :: u28 :: u29 :: u30 :: u31 :: u32 :: u33 :: u34 :: u35 :: u36 :: u37 :: u38 :: u39 :: u40 :: u41 :: u42 :: u43 :: u44 :: u45 :: u46 :: u47 :: u48 :: u49 :: u50 :: u51 :: u52 :: u53 :: u54 :: u55 :: u56 :: .pointer (some ⟨g, 0, none⟩) :: .int .i64 f :: .int .i64 q :: .int .i64 (r : Int) :: .pointer (some ⟨g, 0, none⟩) :: .pointer (some ⟨g, 0, none⟩) :: .pointer (some ⟨g, 0, none⟩) :: .map (some m) :: .string fv :: .string (fv ++ ⟨#[32]⟩) :: .string wv :: .string tx :: .bool (S tx) :: .pointer (some ⟨g, 0, none⟩) :: .pointer (some ⟨g, 1, none⟩) :: .pointer (some ⟨g, 1 + f * 29, none⟩) :: .pointer (some ⟨g, 1 + f * 29 + r, none⟩) :: u74 :: u75 :: u76 :: []).toArray, defers := [] } y) : Code.wp Tryd.prog c Q { tmps := (u0 :: u1 :: u2 :: (.pointer (some ⟨g, 0, none⟩)) :: u4 :: u5 :: u6 :: (.int .i64 f) :: (.string fv) :: (.int .i64 q) :: (.string wv) :: u11 :: u12 :: u13 :: u14 :: u15 :: u16 :: u17 :: u18 :: u19 :: u20 :: u21 :: u22 :: u23 :: u24 :: u25 :: u26 :: u27 :: u28 :: u29 :: u30 :: u31 :: u32 :: u33 :: u34 :: u35 :: u36 :: u37 :: u38 :: u39 :: u40 :: u41 :: u42 :: u43 :: u44 :: u45 :: u46 :: u47 :: u48 :: u49 :: u50 :: u51 :: u52 :: u53 :: u54 :: u55 :: u56 :: u57 :: u58 :: u59 :: u60 :: u61 :: u62 :: u63 :: u64 :: u65 :: u66 :: u67 :: u68 :: u69 :: u70 :: u71 :: u72 :: u73 :: u74 :: u75 :: u76 :: []).toArray, defers := [] } W := by
  subst hc
  conv => enter [2]; whnf
  refine wp_region_last (by kernel_rfl) (by kernel_rfl) 17 (by kernel_rfl) (by kernel_rfl) (fun s : Nat → Value => ({ tmps := (u0 :: u1 :: u2 :: (.pointer (some ⟨g, 0, none⟩)) :: u4 :: u5 :: u6 :: (.int .i64 f) :: (.string fv) :: (.int .i64 q) :: (.string wv) :: u11 :: u12 :: u13 :: u14 :: u15 :: u16 :: u17 :: u18 :: u19 :: u20 :: u21 :: u22 :: u23 :: u24 :: u25 :: u26 :: u27 :: u28 :: u29 :: u30 :: u31 :: u32 :: u33 :: u34 :: u35 :: u36 :: u37 :: u38 :: u39 :: u40 :: u41 :: u42 :: u43 :: u44 :: u45 :: u46 :: u47 :: u48 :: u49 :: u50 :: u51 :: u52 :: u53 :: u54 :: u55 :: u56 :: s 57 :: s 58 :: s 59 :: s 60 :: s 61 :: s 62 :: s 63 :: s 64 :: s 65 :: s 66 :: s 67 :: s 68 :: s 69 :: s 70 :: s 71 :: s 72 :: s 73 :: u74 :: u75 :: u76 :: []).toArray, defers := [] } : Act)) (fun k => if k = 57 then u57 else if k = 58 then u58 else if k = 59 then u59 else if k = 60 then u60 else if k = 61 then u61 else if k = 62 then u62 else if k = 63 then u63 else if k = 64 then u64 else if k = 65 then u65 else if k = 66 then u66 else if k = 67 then u67 else if k = 68 then u68 else if k = 69 then u69 else if k = 70 then u70 else if k = 71 then u71 else if k = 72 then u72 else if k = 73 then u73 else undef) rfl (fun i v _ => ([.pointer (some ⟨g, 0, none⟩), .int .i64 f, .int .i64 q, .int .i64 (r : Int), .pointer (some ⟨g, 0, none⟩), .pointer (some ⟨g, 0, none⟩), .pointer (some ⟨g, 0, none⟩), .map (some m), .string fv, .string (fv ++ ⟨#[32]⟩), .string wv, .string tx, .bool (S tx), .pointer (some ⟨g, 0, none⟩), .pointer (some ⟨g, 1, none⟩), .pointer (some ⟨g, 1 + f * 29, none⟩), .pointer (some ⟨g, 1 + f * 29 + r, none⟩)] : List Value)[i]? = some v) (fun _ _ _ _ h _ => h) (fun i => ([57, 58, 59, 60, 61, 62, 63, 64, 65, 66, 67, 68, 69, 70, 71, 72, 73] : List Nat).getD i 0) ?inj ?step ?last
  case inj =>
    intro i j hi hj h
    have hI : i = 0 ∨ i = 1 ∨ i = 2 ∨ i = 3 ∨ i = 4 ∨ i = 5 ∨ i = 6 ∨ i = 7 ∨ i = 8 ∨ i = 9 ∨ i = 10 ∨ i = 11 ∨ i = 12 ∨ i = 13 ∨ i = 14 ∨ i = 15 ∨ i = 16 := by omega
    have hJ : j = 0 ∨ j = 1 ∨ j = 2 ∨ j = 3 ∨ j = 4 ∨ j = 5 ∨ j = 6 ∨ j = 7 ∨ j = 8 ∨ j = 9 ∨ j = 10 ∨ j = 11 ∨ j = 12 ∨ j = 13 ∨ j = 14 ∨ j = 15 ∨ j = 16 := by omega
    rcases hI with rfl | rfl | rfl | rfl | rfl | rfl | rfl | rfl | rfl | rfl | rfl | rfl | rfl | rfl | rfl | rfl | rfl <;> rcases hJ with rfl | rfl | rfl | rfl | rfl | rfl | rfl | rfl | rfl | rfl | rfl | rfl | rfl | rfl | rfl | rfl | rfl <;> first | rfl | (exact absurd h (by decide))
  case last =>
    intro o s x ho hv hb
    have HB := hide hb
    clear hb
    injection ho with ho
    subst ho
    have z0 : s 57 = .pointer (some ⟨g, 0, none⟩) := by have h := hv 0 (by decide); injection h with h; exact h.symm
    have z1 : s 58 = .int .i64 f := by have h := hv 1 (by decide); injection h with h; exact h.symm
    have z2 : s 59 = .int .i64 q := by have h := hv 2 (by decide); injection h with h; exact h.symm
    have z3 : s 60 = .int .i64 (r : Int) := by have h := hv 3 (by decide); injection h with h; exact h.symm
    have z4 : s 61 = .pointer (some ⟨g, 0, none⟩) := by have h := hv 4 (by decide); injection h with h; exact h.symm
    have z5 : s 62 = .pointer (some ⟨g, 0, none⟩) := by have h := hv 5 (by decide); injection h with h; exact h.symm
    have z6 : s 63 = .pointer (some ⟨g, 0, none⟩) := by have h := hv 6 (by decide); injection h with h; exact h.symm
    have z7 : s 64 = .map (some m) := by have h := hv 7 (by decide); injection h with h; exact h.symm
    have z8 : s 65 = .string fv := by have h := hv 8 (by decide); injection h with h; exact h.symm
    have z9 : s 66 = .string (fv ++ ⟨#[32]⟩) := by have h := hv 9 (by decide); injection h with h; exact h.symm
    have z10 : s 67 = .string wv := by have h := hv 10 (by decide); injection h with h; exact h.symm
    have z11 : s 68 = .string tx := by have h := hv 11 (by decide); injection h with h; exact h.symm
    have z12 : s 69 = .bool (S tx) := by have h := hv 12 (by decide); injection h with h; exact h.symm
    have z13 : s 70 = .pointer (some ⟨g, 0, none⟩) := by have h := hv 13 (by decide); injection h with h; exact h.symm
    have z14 : s 71 = .pointer (some ⟨g, 1, none⟩) := by have h := hv 14 (by decide); injection h with h; exact h.symm
    have z15 : s 72 = .pointer (some ⟨g, 1 + f * 29, none⟩) := by have h := hv 15 (by decide); injection h with h; exact h.symm
    have z16 : s 73 = .pointer (some ⟨g, 1 + f * 29 + r, none⟩) := by have h := hv 16 (by decide); injection h with h; exact h.symm
    clear hv
    have hS2 := HS.out.below HB.out
    have hcl := hS2.bit (j := f * 29 + r) (by omega)
    have hfr := hS2.fr (1 + (f * 29 + r))
    have had : 1 + (f * 29 + r) = 1 + f * 29 + r := by omega
    rw [had] at hcl hfr
    have hen := hend _ (had ▸ hS2.set (j := f * 29 + r) (by omega) (S tx)) (grown_below HB.out (gb_set _ _ _ _))
    have HEN := hide hen
    clear hen hS2 had
    refine opwp_K (fun K2 hK2 => ?_)
    go_simp
    refine hK2 _ _ ?_
    first | exact HEN.out | (simp only [z0, z1, z2, z3, z4, z5, z6, z7, z8, z9, z10, z11, z12, z13, z14, z15, z16]; exact HEN.out)
  case step =>
    intro i o s x hin ho he hb
    have HB := hide hb
    clear hb
    have hcase : i = 0 ∨ i = 1 ∨ i = 2 ∨ i = 3 ∨ i = 4 ∨ i = 5 ∨ i = 6 ∨ i = 7 ∨ i = 8 ∨ i = 9 ∨ i = 10 ∨ i = 11 ∨ i = 12 ∨ i = 13 ∨ i = 14 ∨ i = 15 ∨ i = 16 := by omega
    rcases hcase with rfl | rfl | rfl | rfl | rfl | rfl | rfl | rfl | rfl | rfl | rfl | rfl | rfl | rfl | rfl | rfl | rfl
    · injection ho with ho
      subst ho
      clear he
      refine opwp_K (fun K2 hK2 => ?_)
      go_simp
      exact hK2 _ _ ⟨(.pointer (some ⟨g, 0, none⟩)), (by first | rfl | (simp [List.getD]; done)), Below.refl _ _, rfl⟩
    · injection ho with ho
      subst ho
      clear he
      refine opwp_K (fun K2 hK2 => ?_)
      go_simp
      exact hK2 _ _ ⟨(.int .i64 f), (by first | rfl | (simp [List.getD]; done)), Below.refl _ _, rfl⟩
    · injection ho with ho
      subst ho
      clear he
      refine opwp_K (fun K2 hK2 => ?_)
      go_simp
      exact hK2 _ _ ⟨(.int .i64 q), (by first | rfl | (simp [List.getD]; done)), Below.refl _ _, rfl⟩
    · injection ho with ho
      subst ho
      have z2 : s 59 = .int .i64 q := by have h := he ⟨2, .data⟩ (by simp) rfl; injection h with h; exact h.symm
      clear he
      have hwk : IntKind.i64.wrap (6 + (q : Int)) = (r : Int) := by have := HRQ.out; rw [IntKind.wrap_i64]; omega
      refine opwp_K (fun K2 hK2 => ?_)
      go_simp
      exact hK2 _ _ ⟨(.int .i64 (r : Int)), (by first | rfl | (simp [z2]; done)), Below.refl _ _, rfl⟩
    · injection ho with ho
      subst ho
      clear he
      refine opwp_K (fun K2 hK2 => ?_)
      go_simp
      exact hK2 _ _ ⟨(.pointer (some ⟨g, 0, none⟩)), (by first | rfl | (simp [List.getD]; done)), Below.refl _ _, rfl⟩
    · injection ho with ho
      subst ho
      have z4 : s 61 = .pointer (some ⟨g, 0, none⟩) := by have h := he ⟨4, .data⟩ (by simp) rfl; injection h with h; exact h.symm
      clear he
      refine opwp_K (fun K2 hK2 => ?_)
      go_simp
      exact hK2 _ _ ⟨(.pointer (some ⟨g, 0, none⟩)), (by first | rfl | (simp [z4]; done)), Below.refl _ _, rfl⟩
    · injection ho with ho
      subst ho
      have z5 : s 62 = .pointer (some ⟨g, 0, none⟩) := by have h := he ⟨5, .data⟩ (by simp) rfl; injection h with h; exact h.symm
      clear he
      refine opwp_K (fun K2 hK2 => ?_)
      go_simp
      exact hK2 _ _ ⟨(.pointer (some ⟨g, 0, none⟩)), (by first | rfl | (simp [z5]; done)), Below.refl _ _, rfl⟩
    · injection ho with ho
      subst ho
      have z6 : s 63 = .pointer (some ⟨g, 0, none⟩) := by have h := he ⟨6, .data⟩ (by simp) rfl; injection h with h; exact h.symm
      clear he
      have hp := (HS.out.below HB.out).ptr
      refine opwp_K (fun K2 hK2 => ?_)
      go_simp
      exact hK2 _ _ ⟨(.map (some m)), (by first | rfl | (simp [z6]; done)), Below.refl _ _, rfl⟩
    · injection ho with ho
      subst ho
      clear he
      refine opwp_K (fun K2 hK2 => ?_)
      go_simp
      exact hK2 _ _ ⟨(.string fv), (by first | rfl | (simp [List.getD]; done)), Below.refl _ _, rfl⟩
    · injection ho with ho
      subst ho
      have z8 : s 65 = .string fv := by have h := he ⟨8, .data⟩ (by simp) rfl; injection h with h; exact h.symm
      clear he
      refine opwp_K (fun K2 hK2 => ?_)
      go_simp
      exact hK2 _ _ ⟨(.string (fv ++ ⟨#[32]⟩)), (by first | rfl | (simp [z8]; done)), Below.refl _ _, rfl⟩
    · injection ho with ho
      subst ho
      clear he
      refine opwp_K (fun K2 hK2 => ?_)
      go_simp
      exact hK2 _ _ ⟨(.string wv), (by first | rfl | (simp [List.getD]; done)), Below.refl _ _, rfl⟩
    · injection ho with ho
      subst ho
      have z9 : s 66 = .string (fv ++ ⟨#[32]⟩) := by have h := he ⟨9, .data⟩ (by simp) rfl; injection h with h; exact h.symm
      have z10 : s 67 = .string wv := by have h := he ⟨10, .data⟩ (by simp) rfl; injection h with h; exact h.symm
      clear he
      have htx := HTX.out
      refine opwp_K (fun K2 hK2 => ?_)
      go_simp
      exact hK2 _ _ ⟨(.string tx), (by first | rfl | (simp [z9, z10]; done)), Below.refl _ _, rfl⟩
    · injection ho with ho
      subst ho
      have z7 : s 64 = .map (some m) := by have h := he ⟨7, .data⟩ (by simp) rfl; injection h with h; exact h.symm
      have z11 : s 68 = .string tx := by have h := he ⟨11, .data⟩ (by simp) rfl; injection h with h; exact h.symm
      clear he
      have hlk := (HT.out.below HB.out).look tx hs
      refine opwp_K (fun K2 hK2 => ?_)
      go_simp
      exact hK2 _ _ ⟨(.bool (S tx)), (by first | rfl | (simp [z7, z11]; done)), Below.refl _ _, rfl⟩
    · injection ho with ho
      subst ho
      have z0 : s 57 = .pointer (some ⟨g, 0, none⟩) := by have h := he ⟨0, .data⟩ (by simp) rfl; injection h with h; exact h.symm
      clear he
      refine opwp_K (fun K2 hK2 => ?_)
      go_simp
      exact hK2 _ _ ⟨(.pointer (some ⟨g, 0, none⟩)), (by first | rfl | (simp [z0]; done)), Below.refl _ _, rfl⟩
    · injection ho with ho
      subst ho
      have z13 : s 70 = .pointer (some ⟨g, 0, none⟩) := by have h := he ⟨13, .data⟩ (by simp) rfl; injection h with h; exact h.symm
      clear he
      refine opwp_K (fun K2 hK2 => ?_)
      go_simp
      exact hK2 _ _ ⟨(.pointer (some ⟨g, 1, none⟩)), (by first | rfl | (simp [z13]; done)), Below.refl _ _, rfl⟩
    · injection ho with ho
      subst ho
      have z14 : s 71 = .pointer (some ⟨g, 1, none⟩) := by have h := he ⟨14, .data⟩ (by simp) rfl; injection h with h; exact h.symm
      have z1 : s 58 = .int .i64 f := by have h := he ⟨1, .data⟩ (by simp) rfl; injection h with h; exact h.symm
      clear he
      have hix := hix1 x
      refine opwp_K (fun K2 hK2 => ?_)
      go_simp
      exact hK2 _ _ ⟨(.pointer (some ⟨g, 1 + f * 29, none⟩)), (by first | rfl | (simp [z14, z1]; done)), Below.refl _ _, rfl⟩
    · injection ho with ho
      subst ho
      have z15 : s 72 = .pointer (some ⟨g, 1 + f * 29, none⟩) := by have h := he ⟨15, .data⟩ (by simp) rfl; injection h with h; exact h.symm
      have z3 : s 60 = .int .i64 (r : Int) := by have h := he ⟨3, .data⟩ (by simp) rfl; injection h with h; exact h.symm
      clear he
      have hix := hix2 x
      refine opwp_K (fun K2 hK2 => ?_)
      go_simp
      exact hK2 _ _ ⟨(.pointer (some ⟨g, 1 + f * 29 + r, none⟩)), (by first | rfl | (simp [z15, z3]; done)), Below.refl _ _, rfl⟩

def famB : List UInt8 := [105, 110, 118, 101, 114, 116, 101, 100, 32, 115, 116, 114, 105, 99, 116, 32, 122, 101, 114, 111, 32, 115, 119, 97, 112, 112, 101, 100, 32, 114, 101, 112, 108, 97, 99, 101, 100]
def opsB : List UInt8 := [97, 100, 100, 32, 115, 117, 98, 32, 109, 117, 108, 32, 100, 105, 118, 32, 109, 111, 100, 32, 110, 101, 103, 32, 99, 111, 110, 99, 97, 116, 32, 108, 101, 110, 103, 116, 104, 32, 101, 113, 32, 110, 101, 32, 108, 116, 32, 108, 101, 32, 103, 116, 32, 103, 101, 32, 115, 97, 109, 101, 32, 105, 115, 110, 117, 108, 108, 32, 97, 110, 100, 32, 111, 114, 32, 110, 111, 116, 32, 105, 115, 116, 114, 117, 101, 32, 99, 97, 115, 101, 32, 99, 111, 97, 108, 101, 115, 99, 101, 32, 105, 110]
def famW : List (List UInt8) := [[105, 110, 118, 101, 114, 116, 101, 100], [115, 116, 114, 105, 99, 116], [122, 101, 114, 111], [115, 119, 97, 112, 112, 101, 100], [114, 101, 112, 108, 97, 99, 101, 100]]
theorem fam_fields : Lib.fields famB = famW := by kernel_rfl
theorem ops_fields : Lib.fields opsB = opsW := by kernel_rfl
/-- The bit of family j / 29 and operation j % 29. -/
noncomputable def wrongF (S : ByteArray → Bool) (j : Nat) : Bool := decide (6 ≤ j % 29) && S (mk ((famW.getD (j / 29) []) ++ [32] ++ (opsW.getD (j % 29 - 6) [])))
noncomputable def bitsTo (S : ByteArray → Bool) (n : Nat) (j : Nat) : Bool := decide (j < n) && wrongF S j
theorem Sw.congr {x : World} {g m : Nat} {F G : Nat → Bool} (h : Sw x g m F) (he : ∀ j, j < 145 → F j = G j) : Sw x g m G := by obtain ⟨cs, h1, h2, h3⟩ := h; exact ⟨cs, h1, h2, fun j hj => by rw [← he j hj]; exact h3 j hj⟩
theorem bits_row (S : ByteArray → Bool) (f : Nat) : bitsTo S (f * 29 + 6) = bitsTo S (f * 29) := by
  funext j
  unfold bitsTo
  by_cases h1 : j < f * 29
  · rw [decide_eq_true h1, decide_eq_true (by omega)]
  · by_cases h2 : j < f * 29 + 6
    · have h3 : wrongF S j = false := by unfold wrongF; rw [decide_eq_false (by omega), Bool.false_and]
      rw [h3, Bool.and_false, Bool.and_false]
    · rw [decide_eq_false h1, decide_eq_false h2]
theorem bits_step (S : ByteArray → Bool) (f i : Nat) (hi : i < 23) {fw ow : List UInt8} (hf : famW[f]? = some fw) (ho : opsW[i]? = some ow) (r : Nat) (hr : 6 + i = r) : (fun j => if j = f * 29 + r then S (mk (fw ++ [32] ++ ow)) else bitsTo S (f * 29 + r) j) = bitsTo S (f * 29 + (r + 1)) := by
  funext j
  by_cases hj : j = f * 29 + r
  · rw [if_pos hj]
    unfold bitsTo wrongF
    rw [hj, show (f * 29 + r) / 29 = f by omega, show (f * 29 + r) % 29 = r by omega, List.getD_eq_getElem?_getD, hf, show r - 6 = i by omega, List.getD_eq_getElem?_getD, ho, decide_eq_true (by omega), decide_eq_true (by omega)]
    rfl
  · rw [if_neg hj]
    unfold bitsTo
    by_cases h1 : j < f * 29 + r
    · rw [decide_eq_true h1, decide_eq_true (by omega)]
    · rw [decide_eq_false h1, decide_eq_false (by omega)]
theorem words_short : (famW.all fun l => decide (l.length ≤ 20)) = true ∧ (opsW.all fun l => decide (l.length ≤ 20)) = true := by constructor <;> kernel_rfl
theorem text_short {n : Int} (h : 1 ≤ n ∧ n ≤ 180) : (textAt n).size ≤ 200 := by
  unfold textAt
  rw [if_pos h, mk_size]
  have h1 : (textsL.all fun l => decide (l.length ≤ 200)) = true := by kernel_rfl
  rw [List.getD_eq_getElem?_getD]
  cases hk : textsL[(n - 1).toNat]? with
  | none => simp
  | some x => exact of_decide_eq_true (List.all_eq_true.1 h1 x (List.mem_of_getElem? hk))
/-- What is known of the switches while they are made. -/
structure OnR (w x : World) (g m n : Nat) (F S) (any : Bool) : Prop where
  bel : Below w.heap.size w x
  sw : Sw x g m F
  tx : TextsN x m n S any
  gm : g ≠ m
  lo : w.heap.size ≤ g ∧ w.heap.size ≤ m
theorem OnR.call {w x y : World} {g m n : Nat} {F : Nat → Bool} {S : ByteArray → Bool} {any : Bool} (h : OnR w x g m n F S any) (hb : Below x.heap.size x y) : OnR w y g m n F S any := ⟨bel_trans h.bel (hb.mono (Nat.le_refl _)), h.sw.below hb, h.tx.below hb, h.gm, h.lo⟩
/-- Strings that lie in a block. -/
def Strs (x : World) (g : Nat) (l : List (List UInt8)) : Prop := g < x.heap.size ∧ ∀ j s, l[j]? = some s → x.cell? ⟨g, j, none⟩ = some (.string (mk s))
theorem Strs.below {x y : World} {g : Nat} {l : List (List UInt8)} (h : Strs x g l) (hb : Below x.heap.size x y) : Strs y g l := ⟨Nat.lt_of_lt_of_le h.1 hb.size, fun j s hj => by rw [hb.cell (p := ⟨g, j, none⟩) h.1]; exact h.2 j s hj⟩
theorem Strs.grown {x y : World} {g b : Nat} {l : List (List UInt8)} (h : Strs x g l) (hb : x.grownBy y (some b)) (hne : g ≠ b) : Strs y g l := ⟨Nat.lt_of_lt_of_le h.1 hb.size, fun j s hj => hb.cell (h.2 j s hj) (by simp; exact hne)⟩
theorem Strs.new (w : World) (l : List (List UInt8)) : Strs (w.alloc (.cells (l.map fun l => Value.string (mk l)).toArray 9)) w.heap.size l := ⟨by simp, fun j s hj => cells_new hj⟩

end Go.Proofs.YtlkhiihehaiinaaDoor

/- fault.on at any list that is not empty. -/
namespace Go.Proofs.YtlkhiihehaiinaaDoor
open Go.RowKit

theorem texts_strs {x : World} {g : Nat} (h : ∀ j s, (textsL.map mk)[j]? = some s → x.cell? ⟨g, j, none⟩ = some (.string s)) (hg : g < x.heap.size) : Strs x g textsL := ⟨hg, fun j s hj => h j _ (by rw [List.getElem?_map, hj]; rfl)⟩
theorem text_at {k : Nat} (hk : k < 180) : ∃ t, textsL[k]? = some t ∧ textAt ((k : Int) + 1) = mk t := by
  have hkl : k < textsL.length := by rw [texts_len]; exact hk
  refine ⟨_, List.getElem?_eq_getElem hkl, ?_⟩
  unfold textAt
  rw [if_pos (by omega), show ((k : Int) + 1 - 1).toNat = k by omega, List.getD_eq_getElem?_getD, List.getElem?_eq_getElem hkl]
  rfl
theorem tx_inv {g : Nat} {w x : World} {m n : Nat} {F : Nat → Bool} {l : List Int} {a : Int} (h : OnR w x g m n F (hitS l) (anyS l)) (hn : ¬ (1 ≤ a ∧ a ≤ 180)) : OnR w x g m (n + 1) F (hitS (l ++ [a])) (anyS (l ++ [a])) := by
  have e1 : hitS (l ++ [a]) = hitS l := by rw [hitS_snoc]; funext s; rw [decide_eq_false hn, Bool.false_and, Bool.or_false]
  have e2 : anyS (l ++ [a]) = anyS l := by rw [anyS_snoc, decide_eq_false hn, Bool.or_false]
  rw [e1, e2]
  exact ⟨h.bel, h.sw, h.tx.more, h.gm, h.lo⟩

set_option maxRecDepth 100000 in
theorem fields_fam (w : World) (h : FW w) : Calls Tryd.prog 48 #[.string (mk famB)] w fun e w' => e = .returned (.slice (some ⟨w.heap.size, 0, none⟩) 5 5) ∧ Strs w' w.heap.size famW ∧ Below w.heap.size w w' := by
  refine (fields_mk famB w h.tab (by decide) (by decide)).mono ?_
  rintro e x ⟨rfl, rfl⟩
  rw [fam_fields]
  exact ⟨rfl, Strs.new _ _, belA _⟩
set_option maxRecDepth 100000 in
theorem fields_ops (w : World) (h : FW w) : Calls Tryd.prog 48 #[.string (mk opsB)] w fun e w' => e = .returned (.slice (some ⟨w.heap.size, 0, none⟩) 23 23) ∧ Strs w' w.heap.size opsW ∧ Below w.heap.size w w' := by
  refine (fields_mk opsB w h.tab (by decide) (by decide)).mono ?_
  rintro e x ⟨rfl, rfl⟩
  rw [ops_fields]
  exact ⟨rfl, Strs.new _ _, belA _⟩
/-- In the second loop. -/
structure OnQ (w x : World) (g m : Nat) (F : Nat → Bool) (S : ByteArray → Bool) (any : Bool) : Prop where
  bel : Below w.heap.size w x
  sw : Sw x g m F
  tx : Texts x m S any
  gm : g ≠ m
  lo : w.heap.size ≤ g ∧ w.heap.size ≤ m
theorem OnQ.call {w x y : World} {g m : Nat} {F : Nat → Bool} {S : ByteArray → Bool} {any : Bool} (h : OnQ w x g m F S any) (hb : Below x.heap.size x y) : OnQ w y g m F S any := ⟨bel_trans h.bel (hb.mono (Nat.le_refl _)), h.sw.below hb, h.tx.below hb, h.gm, h.lo⟩
theorem OnQ.set {w x y : World} {g m : Nat} {F G : Nat → Bool} {S : ByteArray → Bool} {any : Bool} (h : OnQ w x g m F S any) (hs : Sw y g m G) (hg : x.grownBy y (some g)) : OnQ w y g m G S any :=
  ⟨h.bel.grown hg h.bel.size (fun j hj => by injection hj with hj; have := h.lo.1; omega), hs, h.tx.grown hg (by simp; exact fun e => h.gm e.symm), h.gm, h.lo⟩
theorem ix_fam (g f : Nat) (hf : f < 5) : ∀ U, (Instr.indexAt 73 (.pointer (some ⟨g, 1, none⟩)) (.int .i64 f)).run Tryd.prog U = .ok (.pointer (some ⟨g, 1 + f * 29, none⟩)) U := by
  intro U
  have h1 : Tryd.prog.arrayLen 73 = 5 := by kernel_rfl
  have h2 : Tryd.prog.elem 73 = 72 := by kernel_rfl
  have h3 : (Tryd.prog.info? 72).map (·.size) = some 29 := by kernel_rfl
  obtain ⟨j, hj, hsz⟩ := Option.map_eq_some_iff.1 h3
  have h := run_indexAt_array (P := Tryd.prog) U 73 ⟨g, 1, none⟩ .i64 f (by rw [h1, h2]; kernel_rfl)
  rw [h, h1, h2, if_pos ⟨by omega, by omega⟩]
  simp [sizeOf, typeInfo, hj, hsz, Addr.add_lit]
theorem ix_op (g o r : Nat) (hr : r < 29) : ∀ U, (Instr.indexAt 72 (.pointer (some ⟨g, o, none⟩)) (.int .i64 r)).run Tryd.prog U = .ok (.pointer (some ⟨g, o + r, none⟩)) U := by
  intro U
  have h1 : Tryd.prog.arrayLen 72 = 29 := by kernel_rfl
  have h2 : Tryd.prog.elem 72 = 4 := by kernel_rfl
  have h3 : (Tryd.prog.info? 4).map (·.size) = some 1 := by kernel_rfl
  obtain ⟨j, hj, hsz⟩ := Option.map_eq_some_iff.1 h3
  have h := run_indexAt_array (P := Tryd.prog) U 72 ⟨g, o, none⟩ .i64 r (by rw [h1, h2]; kernel_rfl)
  rw [h, h1, h2, if_pos ⟨by omega, by omega⟩]
  simp [sizeOf, typeInfo, hj, hsz, Addr.add_lit]

set_option maxRecDepth 100000 in
set_option maxHeartbeats 8000000 in
theorem on_any (l : IL) (w : World) (hl : l.In w) (h0 : 0 < l.l.length) (hsm : l.l.length ≤ 1000) (hw : FW w) : Calls Tryd.prog 26 #[.slice l.h.ao l.l.length l.h.cap] w fun e w' => (∃ g m, e = .returned (.pointer (some ⟨g, 0, none⟩)) ∧ Sw w' g m (wrongF (hitS l.l)) ∧ Texts w' m (hitS l.l) (anyS l.l)) ∧ Below w.heap.size w w' := by
  have hmm := @run_makeMap Tryd.prog
  have hlen2 : ((l.l.length : Int) == 0) = false := beq_eq_false_iff_ne.2 (by omega)
  have hsz := hl.1.len
  have HL := hide hl
  have HW := hide hw
  have HB0 := hide (belAA (w := w) (.map #[] 0) (.cells (Tryd.zeroCells75.setIfInBounds 0 (.map (some w.heap.size))) 75))
  have HR0 := hide (show OnR w ((w.alloc (.map #[] 0)).alloc (.cells (Tryd.zeroCells75.setIfInBounds 0 (.map (some w.heap.size))) 75)) (w.heap.size + 1) w.heap.size 0 (fun _ => false) (hitS []) (anyS []) from
    ⟨belAA _ _, by have h := Sw.new (w.alloc (.map #[] 0)) w.heap.size; simpa only [World.size_alloc] using h, (TextsN.new w).below (belA _), by omega, by omega, by omega⟩)
  clear hl hw
  go_enter Tryd.func26, Tryd.ntmps26
  go_wp2_with (go_at_call 42; refine (texts_any _ (HW.out.below HB0.out).sh (HW.out.below HB0.out).tab).mono ?_; rintro e x1 ⟨gt, ct, rfl, hg, hc, hb⟩; have HR1 := hide (HR0.out.call hb); have HST := hide (texts_strs hc (World.block_lt_of_cell? x1 ⟨gt, 0, none⟩ (hc 0 _ (by rw [texts_get 0 (by omega)])))); have hgt : w.heap.size + 1 < gt := (by simp at hg; omega); clear hc hb)
  generalize Tryd.zeroCells75.setIfInBounds 0 (.map (some w.heap.size)) = zc at *
  go_loopw [21] (fun i wr => ∃ k : Nat, k ≤ l.l.length ∧ i = .int .i64 k ∧ Hid (OnR w wr (w.heap.size + 1) w.heap.size k (fun _ => false) (hitS (l.l.take k)) (anyS (l.l.take k))) ∧ Hid (Strs wr gt textsL)) (fun i _ => l.l.length - (intOf i).toNat)
  case atStart => exact ⟨0, Nat.zero_le _, rfl, HR1, HST⟩
  case round =>
    clear HR1 HST HR0
    obtain ⟨k, hk, rfl, HR, HST⟩ := hrel
    by_cases hlt : k < l.l.length
    · have hlti : (k : Int) < l.l.length := by omega
      have HIN := hide (HL.out.mono HR.out.bel)
      have hix := HIN.out.1.ix hlt Tryd.underlying34 szil
      have c0 := int_at HIN.out.1 hlt
      have hbk := HIN.out.1.blk hlt
      obtain ⟨n, hnn⟩ : ∃ n, l.l[k] = n := ⟨_, rfl⟩
      rw [hnn] at c0
      have HTK := hide (show l.l.take (k + 1) = l.l.take k ++ [n] from by rw [take_snoc _ hlt, hnn])
      clear hnn
      by_cases h1 : n < 1
      · have HR2 := hide (tx_inv HR.out (a := n) (by omega))
        go_wp2
        go_roundw
        case rel => exact ⟨k + 1, by omega, by go_num, hide (by rw [HTK.out]; exact HR2.out), HST⟩
        case measure => simp [intOf]; omega
      by_cases h2 : (180 : Int) < n
      · have HR2 := hide (tx_inv HR.out (a := n) (by omega))
        go_wp2
        go_roundw
        case rel => exact ⟨k + 1, by omega, by go_num, hide (by rw [HTK.out]; exact HR2.out), HST⟩
        case measure => simp [intOf]; omega
      · obtain ⟨q, hq, rfl⟩ : ∃ q : Nat, q < 180 ∧ n = (q : Int) + 1 := ⟨(n - 1).toNat, by omega, by omega⟩
        obtain ⟨t, ht, hte⟩ := text_at hq
        have hcell := HST.out.2 q t ht
        have hgl := HST.out.1
        have hts := text_short (n := (q : Int) + 1) ⟨by omega, by omega⟩
        rw [hte] at hts
        have HTE := hide hte
        have hkm : k < 1000000 := by omega
        obtain ⟨tx, htx⟩ : ∃ tx, mk t = tx := ⟨_, rfl⟩
        rw [htx] at hcell hts HTE
        clear ht hte htx h1 h2
        go_wp2
        clear hix c0 hbk
        refine on_reg9 (g := w.heap.size + 1) (m := w.heap.size) (gt := gt) (ct := ct) (k := q) (n := k) (tx := tx) hq (by omega) (by unfold maxLen; omega) hkm (by omega) hgl hcell (hide HR.out.sw) (hide HR.out.tx) ?hc ?hend
        case hc => rfl
        case hend =>
          intro y hty hsy hgy
          have HR2 := hide (show OnR w y (w.heap.size + 1) w.heap.size (k + 1) (fun _ => false) (hitS (l.l.take (k + 1))) (anyS (l.l.take (k + 1))) from by
            rw [HTK.out, hitS_snoc, anyS_snoc, decide_eq_true (show (1 : Int) ≤ (q : Int) + 1 ∧ (q : Int) + 1 ≤ 180 from ⟨by omega, by omega⟩)]
            simp only [Bool.true_and, Bool.or_true, HTE.out]
            exact ⟨HR.out.bel.grown hgy HR.out.bel.size (fun j hj => by injection hj with hj; omega), hsy, hty, HR.out.gm, HR.out.lo⟩)
          have HST2 := hide (HST.out.grown hgy (by omega))
          clear hty hsy hgy hcell
          go_wp2
          go_roundw
          case rel => exact ⟨k + 1, by omega, by go_num, HR2, HST2⟩
          case measure => simp [intOf]; omega
    · have hke : k = l.l.length := by omega
      have HR2 := hide (show OnR w wr (w.heap.size + 1) w.heap.size k (fun _ => false) (hitS l.l) (anyS l.l) from by have h := HR.out; rw [hke, List.take_length] at h; rw [hke]; exact h)
      have hlti : ¬ (k : Int) < l.l.length := by omega
      have hkm : k ≤ 1000000 := by omega
      have HQ := hide (show OnQ w wr (w.heap.size + 1) w.heap.size (bitsTo (hitS l.l) (0 * 29)) (hitS l.l) (anyS l.l) from ⟨HR2.out.bel, HR2.out.sw.congr (fun j _ => by unfold bitsTo; rw [decide_eq_false (by omega), Bool.false_and]), HR2.out.tx.texts hkm, HR2.out.gm, HR2.out.lo⟩)
      clear HR HR2 HST hgt
      go_wp2_with (go_at_call 48; refine (fields_fam _ (HW.out.below HQ.out.bel)).mono ?_; rintro e x2 ⟨rfl, hst, hb⟩; have HQ2 := hide (HQ.out.call hb); have HS2 := hide hst; have hl2 := hb.size; clear hst hb)
      have hg2 := HQ.out.sw.lt
      have hm2 := HQ.out.tx.lt
      generalize wr.heap.size = b2 at *
      go_loopw [45] (fun i wr => ∃ f : Nat, f ≤ 5 ∧ i = .int .i64 f ∧ Hid (OnQ w wr (w.heap.size + 1) w.heap.size (bitsTo (hitS l.l) (f * 29)) (hitS l.l) (anyS l.l)) ∧ Hid (Strs wr b2 famW)) (fun i _ => 5 - (intOf i).toNat)
      case atStart => exact ⟨0, by omega, rfl, HQ2, HS2⟩
      case round =>
        clear HQ HQ2 HS2
        obtain ⟨f, hf, rfl, HQ, HSF⟩ := hrel
        by_cases hf5 : f < 5
        · have hfi : (f : Int) < 5 := by omega
          obtain ⟨fw, hfw⟩ : ∃ x, famW[f]? = some x := ⟨_, List.getElem?_eq_getElem (show f < famW.length from hf5)⟩
          have cf := HSF.out.2 f fw hfw
          have hbl := HSF.out.1
          have hfl : fw.length ≤ 20 := of_decide_eq_true (List.all_eq_true.1 words_short.1 fw (List.mem_of_getElem? hfw))
          have HFW := hide hfw
          clear hfw
          go_wp2_with (go_at_call 48; refine (fields_ops _ (HW.out.below HQ.out.bel)).mono ?_; rintro e x3 ⟨rfl, hst, hb⟩; have HQ3 := hide (HQ.out.call hb); have HS3 := hide (HSF.out.below hb); have HO3 := hide hst; clear hst hb)
          have hl3 := HQ3.out.sw.lt
          have hbo := HO3.out.1
          generalize wr.heap.size = b3 at *
          go_loopw [52] (fun i wr => ∃ q : Nat, q ≤ 23 ∧ i = .int .i64 q ∧ Hid (OnQ w wr (w.heap.size + 1) w.heap.size (bitsTo (hitS l.l) (f * 29 + (6 + q))) (hitS l.l) (anyS l.l)) ∧ Hid (Strs wr b2 famW) ∧ Hid (Strs wr b3 opsW)) (fun i _ => 23 - (intOf i).toNat)
          case atStart => exact ⟨0, by omega, rfl, hide (by show OnQ _ _ _ _ (bitsTo _ (f * 29 + 6)) _ _; rw [bits_row]; exact HQ3.out), HS3, HO3⟩
          case round =>
            clear HQ3 HS3 HO3
            obtain ⟨q, hq, rfl, HQ4, HS4, HO4⟩ := hrel
            by_cases hq23 : q < 23
            · have hqi : (q : Int) < 23 := by omega
              obtain ⟨ow, how⟩ : ∃ x, opsW[q]? = some x := ⟨_, List.getElem?_eq_getElem (show q < opsW.length from hq23)⟩
              have co := HO4.out.2 q ow how
              have hbl4 := HO4.out.1
              have hol : ow.length ≤ 20 := of_decide_eq_true (List.all_eq_true.1 words_short.2 ow (List.mem_of_getElem? how))
              have HOW := hide how
              clear how
              obtain ⟨fv, hfv⟩ : ∃ x, mk fw = x := ⟨_, rfl⟩
              obtain ⟨wv, hwv⟩ : ∃ x, mk ow = x := ⟨_, rfl⟩
              rw [hwv] at co
              have hf1 : fv.size ≤ 20 := by rw [← hfv, mk_size]; exact hfl
              have hw1 : wv.size ≤ 20 := by rw [← hwv, mk_size]; exact hol
              have HTX := hide (show fv ++ ⟨#[32]⟩ ++ wv = mk (fw ++ [32] ++ ow) from by rw [← mk_app, ← mk_app, hfv, hwv])
              have hts : (mk (fw ++ [32] ++ ow)).size ≤ maxLen := by rw [mk_size]; simp; unfold maxLen; omega
              obtain ⟨tx, htx⟩ : ∃ tx, mk (fw ++ [32] ++ ow) = tx := ⟨_, rfl⟩
              have HB := hide (bits_step (hitS l.l) f q hq23 HFW.out HOW.out (6 + q) rfl)
              rw [htx] at HTX hts HB
              rw [hfv]
              clear hfv hwv htx
              go_wp2
              clear co
              refine on_reg17 (g := w.heap.size + 1) (m := w.heap.size) (f := f) (q := q) (r := 6 + q) (fv := fv) (wv := wv) (tx := tx) hf5 (by omega) (hide rfl) (by omega) (by omega) hts (by omega) (by omega) HTX (hide HQ4.out.sw) (hide HQ4.out.tx) (ix_fam _ f hf5) (ix_op _ _ (6 + q) (by omega)) ?hc ?hend
              case hc => rfl
              case hend =>
                intro y hsy hgy
                have HQ5 := hide (HQ4.out.set hsy hgy)
                rw [HB.out] at HQ5
                have HS5 := hide (HS4.out.grown hgy (by omega))
                have HO5 := hide (HO4.out.grown hgy (by omega))
                clear hsy hgy
                go_wp2
                go_roundw
                case rel => exact ⟨q + 1, by omega, by go_num, HQ5, HS5, HO5⟩
                case measure => simp [intOf]; omega
            · have hqe : q = 23 := by omega
              have HQ5 := hide (show OnQ w wr (w.heap.size + 1) w.heap.size (bitsTo (hitS l.l) ((f + 1) * 29)) (hitS l.l) (anyS l.l) from by have h := HQ4.out; rw [hqe, show f * 29 + (6 + 23) = (f + 1) * 29 by omega] at h; exact h)
              have hqi : ¬ (q : Int) < 23 := by omega
              clear hqe
              go_wp2
              go_roundw
              case rel => exact ⟨f + 1, by omega, by go_num, HQ5, HS4⟩
              case measure => simp [intOf]; omega
        · have hfe : f = 5 := by omega
          have HF := hide (show Sw wr (w.heap.size + 1) w.heap.size (wrongF (hitS l.l)) ∧ Texts wr w.heap.size (hitS l.l) (anyS l.l) from ⟨HQ.out.sw.congr (fun j hj => by unfold bitsTo; rw [decide_eq_true (by omega), Bool.true_and]), HQ.out.tx⟩)
          have hfi : ¬ (f : Int) < 5 := by omega
          go_wp2
          go_ret
          exact ⟨⟨_, rfl, _, HF.out⟩, HQ.out.bel⟩
end Go.Proofs.YtlkhiihehaiinaaDoor

/- ref36.families: the 19 families of faults. -/
import Derived.Test.YtlkhiihehaiinaaDoorGC
import Derived.Test.YtlkhiihehaiinaaDoorGD
namespace Go.Proofs.YtlkhiihehaiinaaDoor
open Go.RowKit

/-- ref36.family -/
structure Fm where
  nm : ByteArray
  first : Int
  pl : IL
  parts : Int
abbrev Fm.cells (f : Fm) : List Value := [.string f.nm, .int .i64 f.first, .slice f.pl.h.ao f.pl.l.length f.pl.h.cap, .int .i64 f.parts]
abbrev FT : Type := List UInt8 × Int × List Int × Int
def fmIs (f : Fm) (t : FT) : Prop := f.nm = mk t.1 ∧ f.first = t.2.1 ∧ f.pl.l = t.2.2.1 ∧ f.parts = t.2.2.2
def famTs : List FT := [([105, 110, 118, 101, 114, 116, 101, 100], 1, (ints 6 23), 1), ([115, 116, 114, 105, 99, 116], 24, [20, 21, 22, 23, 25, 26, 27, 28], 1), ([122, 101, 114, 111], 32, ((ints 6 5) ++ [11, 12, 13] ++ (ints 14 6) ++ [22, 23, 24, 28]), 1), ([115, 119, 97, 112, 112, 101, 100], 50, ([7, 9, 10, 12] ++ (ints 16 4) ++ [27, 28]), 1), ([114, 101, 112, 108, 97, 99, 101, 100], 60, ((ints 6 5) ++ (ints 14 7) ++ [22, 23]), 1), ([108, 111, 115, 116], 74, (ints 1 15), 1), ([100, 111, 117, 98, 108, 101, 100], 89, (ints 1 15), 1), ([110, 117, 108, 108, 108, 101, 115, 115], 104, (ints 1 15), 1), ([115, 105, 110, 103, 108, 101], 119, (ints 1 15), 1), ([107, 105, 110, 100], 134, [5, 6, 7], 6), ([110, 117, 108, 108, 107, 101, 121, 115], 152, [6, 7], 1), ([117, 110, 107, 110, 111, 119, 110], 154, ([3] ++ [5, 6, 7]), 1), ([97, 103, 103, 114, 101, 103, 97, 116, 101], 158, [9, 10], 6), ([101, 109, 112, 116, 121, 103, 114, 111, 117, 112], 170, [9, 10], 1), ([110, 117, 108, 108, 103, 114, 111, 117, 112], 172, [9, 10], 1), ([100, 101, 115, 99, 101, 110, 100, 105, 110, 103], 174, [8], 1), ([97, 108, 108], 175, [14, 15], 1), ([99, 111, 108, 117, 109, 110], 177, [12, 13], 1), ([97, 112, 112, 101, 110, 100], 179, [11], 2)]
inductive All2 : List Fm → List FT → Prop
  | nil : All2 [] []
  | cons {f : Fm} {t : FT} {fs : List Fm} {ts : List FT} (h : fmIs f t) (r : All2 fs ts) : All2 (f :: fs) (t :: ts)
theorem All2.len {fs : List Fm} {ts : List FT} (h : All2 fs ts) : fs.length = ts.length := by induction h with | nil => rfl | cons _ _ ih => simp [ih]
theorem All2.get {fs : List Fm} {ts : List FT} (h : All2 fs ts) : ∀ (i : Nat) (hi : i < fs.length) (hj : i < ts.length), fmIs fs[i] ts[i] := by
  induction h with
  | nil => intro i hi; exact absurd hi (by simp)
  | cons h _ ih =>
    intro i hi hj
    cases i with
    | zero => exact h
    | succ i => exact ih i (by simpa using hi) (by simpa using hj)
/-- The slice holds these families. -/
def Fams (ts : List FT) (v : Value) (w : World) : Prop := ∃ (g : Nat) (fs : List Fm), v = .slice (some ⟨g, 0, none⟩) ts.length ts.length ∧ Row w 4 Fm.cells ⟨some ⟨g, 0, none⟩, ts.length⟩ fs ∧ (∀ f ∈ fs, f.pl.In w) ∧ All2 fs ts
inductive FD where
  | il (l : List Int)
  | one (n : Int)
  | lit (g : Nat) (l : List Int)
  | ill (l : List (List Int))
  | fam (t : FT)
  | fin
def FD.holds : FD → Value → World → Prop
  | .il l, v, w => ILis l v w
  | .one n, v, w => ∃ g, v = .slice (some ⟨g, 0, none⟩) 1 1 ∧ g < w.heap.size ∧ w.cell? ⟨g, 0, none⟩ = some (.int .i64 n)
  | .lit g l, v, w => v = .slice (some ⟨g, 0, none⟩) l.length l.length ∧ g < w.heap.size ∧ ∀ j u, (l.flatMap icells)[j]? = some u → w.cell? ⟨g, j, none⟩ = some u
  | .ill ls, v, w => ∃ (h : Hd) (xs : List IL), v = .slice h.ao xs.length h.cap ∧ Row w 1 IL.cells h xs ∧ (∀ u ∈ xs, u.In w) ∧ xs.map IL.l = ls
  | .fam t, v, w => ∃ f : Fm, v = .agg f.cells.toArray ∧ fmIs f t ∧ f.pl.In w
  | .fin, v, w => Fams famTs v w
theorem Fams.mono {ts : List FT} {v : Value} {x y : World} (h : Fams ts v x) (hb : Below x.heap.size x y) : Fams ts v y := by
  obtain ⟨g, fs, h1, h2, h3, h4⟩ := h
  exact ⟨g, fs, h1, h2.mono hb, fun f hf => (h3 f hf).mono hb, h4⟩
theorem FD.mono (d : FD) (v : Value) (x y : World) (h : d.holds v x) (hb : Below x.heap.size x y) : d.holds v y := by
  cases d with
  | il l => exact ILis.mono h hb
  | one n => obtain ⟨g, h1, h2, h3⟩ := h; exact ⟨g, h1, Nat.lt_of_lt_of_le h2 hb.size, by rw [hb.cell (p := ⟨g, 0, none⟩) h2]; exact h3⟩
  | lit g l => obtain ⟨h1, h2, h3⟩ := h; exact ⟨h1, Nat.lt_of_lt_of_le h2 hb.size, fun j u hj => by rw [hb.cell (p := ⟨g, j, none⟩) h2]; exact h3 j u hj⟩
  | ill l => obtain ⟨h, xs, h1, h2, h3, h4⟩ := h; exact ⟨h, xs, h1, h2.mono hb, fun u hu => (h3 u hu).mono hb, h4⟩
  | fam t => obtain ⟨f, h1, h2, h3⟩ := h; exact ⟨f, h1, h2, h3.mono hb⟩
  | fin => exact Fams.mono h hb
theorem new_row {α : Type} {cells : α → List Value} {size : Nat} {xs : List α} {w : World} {T : TypeId} (hs : ∀ x, (cells x).length = size) (hl : xs.length ≤ maxLen) : Row (w.alloc (.cells (xs.flatMap cells).toArray T)) size cells ⟨some ⟨w.heap.size, 0, none⟩, xs.length⟩ xs := by
  refine ⟨Nat.le_refl _, hl, fun _ => ⟨rfl, by show w.heap.size < _; simp⟩, fun i hi j v hv => ?_⟩
  have hj : j < size := by have := (List.getElem?_eq_some_iff.1 hv).1; rwa [hs] at this
  have h := new_cells (w := w) (t := T) (i * size + j) v (by rw [flatMap_at hs xs i j hi hj]; exact hv)
  rw [Addr.add_lit] at h
  show (w.alloc _).cell? ⟨w.heap.size, 0 + i * size + j, none⟩ = some v
  rw [Nat.add_assoc]
  exact h
theorem ok64 (l : List Int) (h : (l.all fun n => decide (0 ≤ n ∧ n ≤ 1000)) = true) : ∀ n ∈ l, int64 n := fun n hn => by have := List.all_eq_true.1 h n hn; have h2 := of_decide_eq_true this; constructor <;> omega
theorem bs_il (l : List Int) (w : World) (T : TypeId) (hl : l.length ≤ maxLen) (h : ∀ n ∈ l, int64 n) : ILis l (.slice (some ⟨w.heap.size, 0, none⟩) l.length l.length) (w.alloc (.cells (l.flatMap icells).toArray T)) :=
  ⟨⟨⟨some ⟨w.heap.size, 0, none⟩, l.length⟩, l⟩, rfl, rfl, new_row (fun _ => rfl) hl, h⟩
theorem bss_ill (xs : List IL) (w : World) (T : TypeId) (hl : xs.length ≤ maxLen) (h : ∀ u ∈ xs, u.In w) : FD.holds (.ill (xs.map IL.l)) (.slice (some ⟨w.heap.size, 0, none⟩) xs.length xs.length) (w.alloc (.cells (xs.flatMap IL.cells).toArray T)) :=
  ⟨⟨some ⟨w.heap.size, 0, none⟩, xs.length⟩, xs, rfl, new_row (fun _ => rfl) hl, fun u hu => (h u hu).mono (belA _), rfl⟩
theorem fams_new (fs : List Fm) (ts : List FT) (w : World) (T : TypeId) (hl : fs.length ≤ maxLen) (h : ∀ f ∈ fs, f.pl.In w) (he : All2 fs ts) : Fams ts (.slice (some ⟨w.heap.size, 0, none⟩) fs.length fs.length) (w.alloc (.cells (fs.flatMap Fm.cells).toArray T)) := by
  have e := he.len
  refine ⟨w.heap.size, fs, by rw [e], ?_, fun f hf => (h f hf).mono (belA _), he⟩
  rw [← e]
  exact new_row (fun _ => rfl) hl
theorem lit_in {g n : Nat} {l : List Int} {x : World} (hg : g < x.heap.size) (hcs : ∀ j u, (l.flatMap icells)[j]? = some u → x.cell? ⟨g, j, none⟩ = some u) (hl : l.length ≤ n ∧ n ≤ maxLen) (h : ∀ k ∈ l, int64 k) : IL.In x ⟨⟨some ⟨g, 0, none⟩, n⟩, l⟩ := by
  refine ⟨⟨hl.1, hl.2, fun _ => ⟨rfl, hg⟩, fun i hi j v hv => ?_⟩, h⟩
  have hj : j < 1 := (List.getElem?_eq_some_iff.1 hv).1
  have e : j = 0 := by omega
  subst e
  have h1 := hcs i v (by have h2 := flatMap_at (cells := icells) (size := 1) (fun _ => rfl) l i 0 hi (by decide); simp only [Nat.mul_one, Nat.add_zero] at h2; rw [h2]; exact hv)
  show x.cell? ⟨g, 0 + i * 1 + 0, none⟩ = _
  rw [Nat.mul_one, Nat.zero_add, Nat.add_zero]
  exact h1
theorem lit_tail {g : Nat} {x : World} (hg : g < x.heap.size) (hcs : ∀ j u, ([5, 6, 7].flatMap icells)[j]? = some u → x.cell? ⟨g, j, none⟩ = some u) : IL.In x ⟨⟨some ⟨g, 1, none⟩, 2⟩, [6, 7]⟩ := by
  refine ⟨⟨by show 2 ≤ 2; decide, by show 2 ≤ maxLen; decide, fun _ => ⟨rfl, hg⟩, fun i hi j v hv => ?_⟩, ok64 [6, 7] rfl⟩
  have hj : j < 1 := (List.getElem?_eq_some_iff.1 hv).1
  have e : j = 0 := by omega
  subst e
  have hi2 : i < 2 := hi
  show x.cell? ⟨g, 1 + i * 1 + 0, none⟩ = _
  have hc2 : i = 0 ∨ i = 1 := by omega
  rcases hc2 with rfl | rfl
  · exact hcs 1 v hv
  · exact hcs 2 v hv
theorem below_grown {x y : World} (h : x.grownBy y none) : Below x.heap.size x y := (Below.refl _ x).grown h (Nat.le_refl _) (fun k e => by cases e)
theorem ill_join {xs : List IL} {ls : List (List Int)} (h : xs.map IL.l = ls) : xs.flatMap IL.l = ls.flatten := by
  rw [← h, List.flatMap_def]
def famD (g2 g3 : Nat) : List FD := [.il (ints 6 23), .fam ([105, 110, 118, 101, 114, 116, 101, 100], 1, (ints 6 23), 1), .il [20, 21, 22, 23, 25, 26, 27, 28], .fam ([115, 116, 114, 105, 99, 116], 24, [20, 21, 22, 23, 25, 26, 27, 28], 1), .il (ints 6 5), .il [11, 12, 13], .il (ints 14 6), .il [22, 23, 24, 28], .ill [(ints 6 5), [11, 12, 13], (ints 14 6), [22, 23, 24, 28]], .il ((ints 6 5) ++ [11, 12, 13] ++ (ints 14 6) ++ [22, 23, 24, 28]), .fam ([122, 101, 114, 111], 32, ((ints 6 5) ++ [11, 12, 13] ++ (ints 14 6) ++ [22, 23, 24, 28]), 1), .il [7, 9, 10, 12], .il (ints 16 4), .il [27, 28], .ill [[7, 9, 10, 12], (ints 16 4), [27, 28]], .il ([7, 9, 10, 12] ++ (ints 16 4) ++ [27, 28]), .fam ([115, 119, 97, 112, 112, 101, 100], 50, ([7, 9, 10, 12] ++ (ints 16 4) ++ [27, 28]), 1), .il (ints 6 5), .il (ints 14 7), .il [22, 23], .ill [(ints 6 5), (ints 14 7), [22, 23]], .il ((ints 6 5) ++ (ints 14 7) ++ [22, 23]), .fam ([114, 101, 112, 108, 97, 99, 101, 100], 60, ((ints 6 5) ++ (ints 14 7) ++ [22, 23]), 1), .il (ints 1 15), .fam ([108, 111, 115, 116], 74, (ints 1 15), 1), .il (ints 1 15), .fam ([100, 111, 117, 98, 108, 101, 100], 89, (ints 1 15), 1), .il (ints 1 15), .fam ([110, 117, 108, 108, 108, 101, 115, 115], 104, (ints 1 15), 1), .il (ints 1 15), .fam ([115, 105, 110, 103, 108, 101], 119, (ints 1 15), 1), .lit g2 [5, 6, 7], .fam ([107, 105, 110, 100], 134, [5, 6, 7], 6), .lit g2 [5, 6, 7], .il [6, 7], .fam ([110, 117, 108, 108, 107, 101, 121, 115], 152, [6, 7], 1), .one 3, .lit g2 [5, 6, 7], .il ([3] ++ [5, 6, 7]), .fam ([117, 110, 107, 110, 111, 119, 110], 154, ([3] ++ [5, 6, 7]), 1), .lit g3 [9, 10], .fam ([97, 103, 103, 114, 101, 103, 97, 116, 101], 158, [9, 10], 6), .lit g3 [9, 10], .fam ([101, 109, 112, 116, 121, 103, 114, 111, 117, 112], 170, [9, 10], 1), .lit g3 [9, 10], .fam ([110, 117, 108, 108, 103, 114, 111, 117, 112], 172, [9, 10], 1), .il [8], .fam ([100, 101, 115, 99, 101, 110, 100, 105, 110, 103], 174, [8], 1), .il [14, 15], .fam ([97, 108, 108], 175, [14, 15], 1), .il [12, 13], .fam ([99, 111, 108, 117, 109, 110], 177, [12, 13], 1), .il [11], .fam ([97, 112, 112, 101, 110, 100], 179, [11], 2), .fin, .fin]
def famΦ (g2 g3 : Nat) (i : Nat) (v : Value) (w : World) : Prop := ∀ d, (famD g2 g3)[i]? = some d → d.holds v w
/-- The code at a place: 0, 1: of two in a row; 2, 3: of a branch; 4: in a block. -/
def codeAt : List Nat → Code → Code
  | [], c => c
  | 0 :: l, .seq x _ => codeAt l x
  | 1 :: l, .seq _ y => codeAt l y
  | 2 :: l, .cond _ x _ => codeAt l x
  | 3 :: l, .cond _ _ y => codeAt l y
  | 4 :: l, .block _ x => codeAt l x
  | _, c => c
noncomputable def famBody : Code := Tryd.f22.body.getD .skip
def famSl (i : Nat) : Nat := if i < 55 then 7 + i else 0

set_option maxRecDepth 100000 in
set_option maxHeartbeats 16000000 in
theorem famregion {w : World} {g2 g3 : Nat} {v1 v4 v5 v6 : Value} {a : Act} {Q : Exit → Act → World → Prop} {c : Code} (hc : c = codeAt [1, 1, 1, 1, 0] famBody) (H1 : Hid (ILis (ints 1 15) v1 w))
    (H2 : Hid (FD.holds (.lit g2 [5, 6, 7]) (.slice (some ⟨g2, 0, none⟩) 3 3) w)) (H3 : Hid (FD.holds (.lit g3 [9, 10]) (.slice (some ⟨g3, 0, none⟩) 2 2) w)) (s0 : Nat → Value) (ha : a = (fun s : Nat → Value => ({ tmps := (s 0 :: v1 :: .slice (some ⟨g2, 0, none⟩) 3 3 :: .slice (some ⟨g3, 0, none⟩) 2 2 :: v4 :: v5 :: v6 :: s 7 :: s 8 :: s 9 :: s 10 :: s 11 :: s 12 :: s 13 :: s 14 :: s 15 :: s 16 :: s 17 :: s 18 :: s 19 :: s 20 :: s 21 :: s 22 :: s 23 :: s 24 :: s 25 :: s 26 :: s 27 :: s 28 :: s 29 :: s 30 :: s 31 :: s 32 :: s 33 :: s 34 :: s 35 :: s 36 :: s 37 :: s 38 :: s 39 :: s 40 :: s 41 :: s 42 :: s 43 :: s 44 :: s 45 :: s 46 :: s 47 :: s 48 :: s 49 :: s 50 :: s 51 :: s 52 :: s 53 :: s 54 :: s 55 :: s 56 :: s 57 :: s 58 :: s 59 :: s 60 :: s 61 :: []).toArray, defers := [] } : Act)) s0)
    (hend : ∀ (s : Nat → Value) (x : World), Fams famTs (s 0) x → Below w.heap.size w x → Q .normal { tmps := (s 0 :: v1 :: .slice (some ⟨g2, 0, none⟩) 3 3 :: .slice (some ⟨g3, 0, none⟩) 2 2 :: v4 :: v5 :: v6 :: s 7 :: s 8 :: s 9 :: s 10 :: s 11 :: s 12 :: s 13 :: s 14 :: s 15 :: s 16 :: s 17 :: s 18 :: s 19 :: s 20 :: s 21 :: s 22 :: s 23 :: s 24 :: s 25 :: s 26 :: s 27 :: s 28 :: s 29 :: s 30 :: s 31 :: s 32 :: s 33 :: s 34 :: s 35 :: s 36 :: s 37 :: s 38 :: s 39 :: s 40 :: s 41 :: s 42 :: s 43 :: s 44 :: s 45 :: s 46 :: s 47 :: s 48 :: s 49 :: s 50 :: s 51 :: s 52 :: s 53 :: s 54 :: s 55 :: s 56 :: s 57 :: s 58 :: s 59 :: s 60 :: s 61 :: []).toArray, defers := [] } x) : Code.wp Tryd.prog c Q a w := by
  subst hc
  conv => enter [2]; whnf
  refine wp_region_mono (by kernel_rfl) (by kernel_rfl) (fun s : Nat → Value => ({ tmps := (s 0 :: v1 :: .slice (some ⟨g2, 0, none⟩) 3 3 :: .slice (some ⟨g3, 0, none⟩) 2 2 :: v4 :: v5 :: v6 :: s 7 :: s 8 :: s 9 :: s 10 :: s 11 :: s 12 :: s 13 :: s 14 :: s 15 :: s 16 :: s 17 :: s 18 :: s 19 :: s 20 :: s 21 :: s 22 :: s 23 :: s 24 :: s 25 :: s 26 :: s 27 :: s 28 :: s 29 :: s 30 :: s 31 :: s 32 :: s 33 :: s 34 :: s 35 :: s 36 :: s 37 :: s 38 :: s 39 :: s 40 :: s 41 :: s 42 :: s 43 :: s 44 :: s 45 :: s 46 :: s 47 :: s 48 :: s 49 :: s 50 :: s 51 :: s 52 :: s 53 :: s 54 :: s 55 :: s 56 :: s 57 :: s 58 :: s 59 :: s 60 :: s 61 :: []).toArray, defers := [] } : Act)) s0 ha (famΦ g2 g3) (fun i v x y h hb d hd => d.mono v x y (h d hd) hb) famSl ?inj ?step ?done
  case inj => intro i j hi hj h; unfold famSl at h; have h1 : i < 56 := hi; have h2 : j < 56 := hj; split at h <;> split at h <;> omega
  case done => intro s x h hb; exact hend s x (h 55 (by decide) _ rfl) hb
  case step =>
    intro i o s x ho he hb
    have HB := hide hb
    clear hb
    have hlt : i < 56 := (Array.getElem?_eq_some_iff.1 ho).1
    have hcase : i = 0 ∨ i = 1 ∨ i = 2 ∨ i = 3 ∨ i = 4 ∨ i = 5 ∨ i = 6 ∨ i = 7 ∨ i = 8 ∨ i = 9 ∨ i = 10 ∨ i = 11 ∨ i = 12 ∨ i = 13 ∨ i = 14 ∨ i = 15 ∨ i = 16 ∨ i = 17 ∨ i = 18 ∨ i = 19 ∨ i = 20 ∨ i = 21 ∨ i = 22 ∨ i = 23 ∨ i = 24 ∨ i = 25 ∨ i = 26 ∨ i = 27 ∨ i = 28 ∨ i = 29 ∨ i = 30 ∨ i = 31 ∨ i = 32 ∨ i = 33 ∨ i = 34 ∨ i = 35 ∨ i = 36 ∨ i = 37 ∨ i = 38 ∨ i = 39 ∨ i = 40 ∨ i = 41 ∨ i = 42 ∨ i = 43 ∨ i = 44 ∨ i = 45 ∨ i = 46 ∨ i = 47 ∨ i = 48 ∨ i = 49 ∨ i = 50 ∨ i = 51 ∨ i = 52 ∨ i = 53 ∨ i = 54 ∨ i = 55 := by omega
    rcases hcase with rfl | rfl | rfl | rfl | rfl | rfl | rfl | rfl | rfl | rfl | rfl | rfl | rfl | rfl | rfl | rfl | rfl | rfl | rfl | rfl | rfl | rfl | rfl | rfl | rfl | rfl | rfl | rfl | rfl | rfl | rfl | rfl | rfl | rfl | rfl | rfl | rfl | rfl | rfl | rfl | rfl | rfl | rfl | rfl | rfl | rfl | rfl | rfl | rfl | rfl | rfl | rfl | rfl | rfl | rfl | rfl
    · injection ho with ho
      subst ho
      clear he
      refine opwp_K (fun K2 hK2 => ?_)
      go_simp
      go_at_call 46
      refine (through_any 6 23 x (by omega) (by omega) _ (by decide)).mono ?_
      rintro _ y ⟨⟨v, rfl, hv⟩, hy⟩
      go_simp
      exact hK2 _ _ ⟨v, (by first | rfl | (simp [famSl]; done)), hy, fun d hd => by injection hd with hd; subst hd; exact hv⟩
    · injection ho with ho
      subst ho
      have f0 := he ⟨0, .data⟩ (by simp) rfl _ rfl
      change FD.holds _ (s 7) _ at f0
      clear he
      obtain ⟨r, hz, hl, hr⟩ := f0
      have HL := hide hl
      clear hl
      refine opwp_K (fun K2 hK2 => ?_)
      go_simp
      exact hK2 _ _ ⟨(.agg #[.string (mk [105, 110, 118, 101, 114, 116, 101, 100]), .int .i64 1, .slice r.h.ao r.l.length r.h.cap, .int .i64 1]), (by first | rfl | (simp [famSl, hz]; done)), Below.refl _ _, fun d hd => by injection hd with hd; subst hd; exact ⟨⟨mk [105, 110, 118, 101, 114, 116, 101, 100], 1, r, 1⟩, rfl, ⟨rfl, rfl, HL.out, rfl⟩, hr⟩⟩
    · injection ho with ho
      subst ho
      clear he
      refine opwp_K (fun K2 hK2 => ?_)
      go_simp
      exact hK2 _ _ ⟨(.slice (some ⟨x.heap.size, 0, none⟩) 8 8), (by first | rfl | (simp [famSl]; done)), belA _, fun d hd => by injection hd with hd; subst hd; exact bs_il [20, 21, 22, 23, 25, 26, 27, 28] x _ (by decide) (ok64 _ rfl)⟩
    · injection ho with ho
      subst ho
      have f2 := he ⟨2, .data⟩ (by simp) rfl _ rfl
      change FD.holds _ (s 9) _ at f2
      clear he
      obtain ⟨r, hz, hl, hr⟩ := f2
      have HL := hide hl
      clear hl
      refine opwp_K (fun K2 hK2 => ?_)
      go_simp
      exact hK2 _ _ ⟨(.agg #[.string (mk [115, 116, 114, 105, 99, 116]), .int .i64 24, .slice r.h.ao r.l.length r.h.cap, .int .i64 1]), (by first | rfl | (simp [famSl, hz]; done)), Below.refl _ _, fun d hd => by injection hd with hd; subst hd; exact ⟨⟨mk [115, 116, 114, 105, 99, 116], 24, r, 1⟩, rfl, ⟨rfl, rfl, HL.out, rfl⟩, hr⟩⟩
    · injection ho with ho
      subst ho
      clear he
      refine opwp_K (fun K2 hK2 => ?_)
      go_simp
      go_at_call 46
      refine (through_any 6 5 x (by omega) (by omega) _ (by decide)).mono ?_
      rintro _ y ⟨⟨v, rfl, hv⟩, hy⟩
      go_simp
      exact hK2 _ _ ⟨v, (by first | rfl | (simp [famSl]; done)), hy, fun d hd => by injection hd with hd; subst hd; exact hv⟩
    · injection ho with ho
      subst ho
      clear he
      refine opwp_K (fun K2 hK2 => ?_)
      go_simp
      exact hK2 _ _ ⟨(.slice (some ⟨x.heap.size, 0, none⟩) 3 3), (by first | rfl | (simp [famSl]; done)), belA _, fun d hd => by injection hd with hd; subst hd; exact bs_il [11, 12, 13] x _ (by decide) (ok64 _ rfl)⟩
    · injection ho with ho
      subst ho
      clear he
      refine opwp_K (fun K2 hK2 => ?_)
      go_simp
      go_at_call 46
      refine (through_any 14 6 x (by omega) (by omega) _ (by decide)).mono ?_
      rintro _ y ⟨⟨v, rfl, hv⟩, hy⟩
      go_simp
      exact hK2 _ _ ⟨v, (by first | rfl | (simp [famSl]; done)), hy, fun d hd => by injection hd with hd; subst hd; exact hv⟩
    · injection ho with ho
      subst ho
      clear he
      refine opwp_K (fun K2 hK2 => ?_)
      go_simp
      exact hK2 _ _ ⟨(.slice (some ⟨x.heap.size, 0, none⟩) 4 4), (by first | rfl | (simp [famSl]; done)), belA _, fun d hd => by injection hd with hd; subst hd; exact bs_il [22, 23, 24, 28] x _ (by decide) (ok64 _ rfl)⟩
    · injection ho with ho
      subst ho
      have f4 := he ⟨4, .data⟩ (by simp) rfl _ rfl
      change FD.holds _ (s 11) _ at f4
      have f5 := he ⟨5, .data⟩ (by simp) rfl _ rfl
      change FD.holds _ (s 12) _ at f5
      have f6 := he ⟨6, .data⟩ (by simp) rfl _ rfl
      change FD.holds _ (s 13) _ at f6
      have f7 := he ⟨7, .data⟩ (by simp) rfl _ rfl
      change FD.holds _ (s 14) _ at f7
      clear he
      obtain ⟨r4, hz4, hl4, hr4⟩ := f4
      have HL4 := hide hl4
      clear hl4
      obtain ⟨r5, hz5, hl5, hr5⟩ := f5
      have HL5 := hide hl5
      clear hl5
      obtain ⟨r6, hz6, hl6, hr6⟩ := f6
      have HL6 := hide hl6
      clear hl6
      obtain ⟨r7, hz7, hl7, hr7⟩ := f7
      have HL7 := hide hl7
      clear hl7
      refine opwp_K (fun K2 hK2 => ?_)
      go_simp
      refine hK2 _ _ ⟨(.slice (some ⟨x.heap.size, 0, none⟩) 4 4), (by first | rfl | (simp [famSl, hz4, hz5, hz6, hz7]; done)), belA _, fun d hd => ?_⟩
      injection hd with hd
      subst hd
      have h := bss_ill [r4, r5, r6, r7] x 34 (by show 4 ≤ maxLen; decide) (by simp only [List.forall_mem_cons]; exact ⟨hr4, hr5, hr6, hr7, by simp⟩)
      simp only [List.map_cons, List.map_nil, HL4.out, HL5.out, HL6.out, HL7.out] at h
      exact h
    · injection ho with ho
      subst ho
      have f8 := he ⟨8, .data⟩ (by simp) rfl _ rfl
      change FD.holds _ (s 15) _ at f8
      clear he
      obtain ⟨h, xs, hz, hr, hin, hl⟩ := f8
      have HL := hide hl
      have HJ := hide (ill_join hl)
      clear hl
      refine opwp_K (fun K2 hK2 => ?_)
      go_simp
      go_at_call 47
      refine (join_any h xs x hr (fun u hu => ⟨hin u hu, ?_⟩) (by rw [HJ.out]; decide)).mono ?_
      · have hm : u.l ∈ xs.map IL.l := List.mem_map_of_mem hu
        rw [HL.out] at hm
        simp only [List.mem_cons, List.not_mem_nil, or_false] at hm
        rcases hm with hm | hm | hm | hm <;> rw [hm] <;> decide
      rintro _ y ⟨⟨v, rfl, hv⟩, hy⟩
      go_simp
      exact hK2 _ _ ⟨v, (by first | rfl | (simp [famSl, hz]; done)), hy, fun d hd => by injection hd with hd; subst hd; rw [HJ.out] at hv; exact hv⟩
    · injection ho with ho
      subst ho
      have f9 := he ⟨9, .data⟩ (by simp) rfl _ rfl
      change FD.holds _ (s 16) _ at f9
      clear he
      obtain ⟨r, hz, hl, hr⟩ := f9
      have HL := hide hl
      clear hl
      refine opwp_K (fun K2 hK2 => ?_)
      go_simp
      exact hK2 _ _ ⟨(.agg #[.string (mk [122, 101, 114, 111]), .int .i64 32, .slice r.h.ao r.l.length r.h.cap, .int .i64 1]), (by first | rfl | (simp [famSl, hz]; done)), Below.refl _ _, fun d hd => by injection hd with hd; subst hd; exact ⟨⟨mk [122, 101, 114, 111], 32, r, 1⟩, rfl, ⟨rfl, rfl, HL.out, rfl⟩, hr⟩⟩
    · injection ho with ho
      subst ho
      clear he
      refine opwp_K (fun K2 hK2 => ?_)
      go_simp
      exact hK2 _ _ ⟨(.slice (some ⟨x.heap.size, 0, none⟩) 4 4), (by first | rfl | (simp [famSl]; done)), belA _, fun d hd => by injection hd with hd; subst hd; exact bs_il [7, 9, 10, 12] x _ (by decide) (ok64 _ rfl)⟩
    · injection ho with ho
      subst ho
      clear he
      refine opwp_K (fun K2 hK2 => ?_)
      go_simp
      go_at_call 46
      refine (through_any 16 4 x (by omega) (by omega) _ (by decide)).mono ?_
      rintro _ y ⟨⟨v, rfl, hv⟩, hy⟩
      go_simp
      exact hK2 _ _ ⟨v, (by first | rfl | (simp [famSl]; done)), hy, fun d hd => by injection hd with hd; subst hd; exact hv⟩
    · injection ho with ho
      subst ho
      clear he
      refine opwp_K (fun K2 hK2 => ?_)
      go_simp
      exact hK2 _ _ ⟨(.slice (some ⟨x.heap.size, 0, none⟩) 2 2), (by first | rfl | (simp [famSl]; done)), belA _, fun d hd => by injection hd with hd; subst hd; exact bs_il [27, 28] x _ (by decide) (ok64 _ rfl)⟩
    · injection ho with ho
      subst ho
      have f11 := he ⟨11, .data⟩ (by simp) rfl _ rfl
      change FD.holds _ (s 18) _ at f11
      have f12 := he ⟨12, .data⟩ (by simp) rfl _ rfl
      change FD.holds _ (s 19) _ at f12
      have f13 := he ⟨13, .data⟩ (by simp) rfl _ rfl
      change FD.holds _ (s 20) _ at f13
      clear he
      obtain ⟨r11, hz11, hl11, hr11⟩ := f11
      have HL11 := hide hl11
      clear hl11
      obtain ⟨r12, hz12, hl12, hr12⟩ := f12
      have HL12 := hide hl12
      clear hl12
      obtain ⟨r13, hz13, hl13, hr13⟩ := f13
      have HL13 := hide hl13
      clear hl13
      refine opwp_K (fun K2 hK2 => ?_)
      go_simp
      refine hK2 _ _ ⟨(.slice (some ⟨x.heap.size, 0, none⟩) 3 3), (by first | rfl | (simp [famSl, hz11, hz12, hz13]; done)), belA _, fun d hd => ?_⟩
      injection hd with hd
      subst hd
      have h := bss_ill [r11, r12, r13] x 34 (by show 3 ≤ maxLen; decide) (by simp only [List.forall_mem_cons]; exact ⟨hr11, hr12, hr13, by simp⟩)
      simp only [List.map_cons, List.map_nil, HL11.out, HL12.out, HL13.out] at h
      exact h
    · injection ho with ho
      subst ho
      have f14 := he ⟨14, .data⟩ (by simp) rfl _ rfl
      change FD.holds _ (s 21) _ at f14
      clear he
      obtain ⟨h, xs, hz, hr, hin, hl⟩ := f14
      have HL := hide hl
      have HJ := hide (ill_join hl)
      clear hl
      refine opwp_K (fun K2 hK2 => ?_)
      go_simp
      go_at_call 47
      refine (join_any h xs x hr (fun u hu => ⟨hin u hu, ?_⟩) (by rw [HJ.out]; decide)).mono ?_
      · have hm : u.l ∈ xs.map IL.l := List.mem_map_of_mem hu
        rw [HL.out] at hm
        simp only [List.mem_cons, List.not_mem_nil, or_false] at hm
        rcases hm with hm | hm | hm <;> rw [hm] <;> decide
      rintro _ y ⟨⟨v, rfl, hv⟩, hy⟩
      go_simp
      exact hK2 _ _ ⟨v, (by first | rfl | (simp [famSl, hz]; done)), hy, fun d hd => by injection hd with hd; subst hd; rw [HJ.out] at hv; exact hv⟩
    · injection ho with ho
      subst ho
      have f15 := he ⟨15, .data⟩ (by simp) rfl _ rfl
      change FD.holds _ (s 22) _ at f15
      clear he
      obtain ⟨r, hz, hl, hr⟩ := f15
      have HL := hide hl
      clear hl
      refine opwp_K (fun K2 hK2 => ?_)
      go_simp
      exact hK2 _ _ ⟨(.agg #[.string (mk [115, 119, 97, 112, 112, 101, 100]), .int .i64 50, .slice r.h.ao r.l.length r.h.cap, .int .i64 1]), (by first | rfl | (simp [famSl, hz]; done)), Below.refl _ _, fun d hd => by injection hd with hd; subst hd; exact ⟨⟨mk [115, 119, 97, 112, 112, 101, 100], 50, r, 1⟩, rfl, ⟨rfl, rfl, HL.out, rfl⟩, hr⟩⟩
    · injection ho with ho
      subst ho
      clear he
      refine opwp_K (fun K2 hK2 => ?_)
      go_simp
      go_at_call 46
      refine (through_any 6 5 x (by omega) (by omega) _ (by decide)).mono ?_
      rintro _ y ⟨⟨v, rfl, hv⟩, hy⟩
      go_simp
      exact hK2 _ _ ⟨v, (by first | rfl | (simp [famSl]; done)), hy, fun d hd => by injection hd with hd; subst hd; exact hv⟩
    · injection ho with ho
      subst ho
      clear he
      refine opwp_K (fun K2 hK2 => ?_)
      go_simp
      go_at_call 46
      refine (through_any 14 7 x (by omega) (by omega) _ (by decide)).mono ?_
      rintro _ y ⟨⟨v, rfl, hv⟩, hy⟩
      go_simp
      exact hK2 _ _ ⟨v, (by first | rfl | (simp [famSl]; done)), hy, fun d hd => by injection hd with hd; subst hd; exact hv⟩
    · injection ho with ho
      subst ho
      clear he
      refine opwp_K (fun K2 hK2 => ?_)
      go_simp
      exact hK2 _ _ ⟨(.slice (some ⟨x.heap.size, 0, none⟩) 2 2), (by first | rfl | (simp [famSl]; done)), belA _, fun d hd => by injection hd with hd; subst hd; exact bs_il [22, 23] x _ (by decide) (ok64 _ rfl)⟩
    · injection ho with ho
      subst ho
      have f17 := he ⟨17, .data⟩ (by simp) rfl _ rfl
      change FD.holds _ (s 24) _ at f17
      have f18 := he ⟨18, .data⟩ (by simp) rfl _ rfl
      change FD.holds _ (s 25) _ at f18
      have f19 := he ⟨19, .data⟩ (by simp) rfl _ rfl
      change FD.holds _ (s 26) _ at f19
      clear he
      obtain ⟨r17, hz17, hl17, hr17⟩ := f17
      have HL17 := hide hl17
      clear hl17
      obtain ⟨r18, hz18, hl18, hr18⟩ := f18
      have HL18 := hide hl18
      clear hl18
      obtain ⟨r19, hz19, hl19, hr19⟩ := f19
      have HL19 := hide hl19
      clear hl19
      refine opwp_K (fun K2 hK2 => ?_)
      go_simp
      refine hK2 _ _ ⟨(.slice (some ⟨x.heap.size, 0, none⟩) 3 3), (by first | rfl | (simp [famSl, hz17, hz18, hz19]; done)), belA _, fun d hd => ?_⟩
      injection hd with hd
      subst hd
      have h := bss_ill [r17, r18, r19] x 34 (by show 3 ≤ maxLen; decide) (by simp only [List.forall_mem_cons]; exact ⟨hr17, hr18, hr19, by simp⟩)
      simp only [List.map_cons, List.map_nil, HL17.out, HL18.out, HL19.out] at h
      exact h
    · injection ho with ho
      subst ho
      have f20 := he ⟨20, .data⟩ (by simp) rfl _ rfl
      change FD.holds _ (s 27) _ at f20
      clear he
      obtain ⟨h, xs, hz, hr, hin, hl⟩ := f20
      have HL := hide hl
      have HJ := hide (ill_join hl)
      clear hl
      refine opwp_K (fun K2 hK2 => ?_)
      go_simp
      go_at_call 47
      refine (join_any h xs x hr (fun u hu => ⟨hin u hu, ?_⟩) (by rw [HJ.out]; decide)).mono ?_
      · have hm : u.l ∈ xs.map IL.l := List.mem_map_of_mem hu
        rw [HL.out] at hm
        simp only [List.mem_cons, List.not_mem_nil, or_false] at hm
        rcases hm with hm | hm | hm <;> rw [hm] <;> decide
      rintro _ y ⟨⟨v, rfl, hv⟩, hy⟩
      go_simp
      exact hK2 _ _ ⟨v, (by first | rfl | (simp [famSl, hz]; done)), hy, fun d hd => by injection hd with hd; subst hd; rw [HJ.out] at hv; exact hv⟩
    · injection ho with ho
      subst ho
      have f21 := he ⟨21, .data⟩ (by simp) rfl _ rfl
      change FD.holds _ (s 28) _ at f21
      clear he
      obtain ⟨r, hz, hl, hr⟩ := f21
      have HL := hide hl
      clear hl
      refine opwp_K (fun K2 hK2 => ?_)
      go_simp
      exact hK2 _ _ ⟨(.agg #[.string (mk [114, 101, 112, 108, 97, 99, 101, 100]), .int .i64 60, .slice r.h.ao r.l.length r.h.cap, .int .i64 1]), (by first | rfl | (simp [famSl, hz]; done)), Below.refl _ _, fun d hd => by injection hd with hd; subst hd; exact ⟨⟨mk [114, 101, 112, 108, 97, 99, 101, 100], 60, r, 1⟩, rfl, ⟨rfl, rfl, HL.out, rfl⟩, hr⟩⟩
    · injection ho with ho
      subst ho
      clear he
      refine opwp_K (fun K2 hK2 => ?_)
      go_simp
      exact hK2 _ _ ⟨(v1), (by first | rfl | (simp [famSl]; done)), Below.refl _ _, fun d hd => by injection hd with hd; subst hd; exact H1.out.mono HB.out⟩
    · injection ho with ho
      subst ho
      have f23 := he ⟨23, .data⟩ (by simp) rfl _ rfl
      change FD.holds _ (s 30) _ at f23
      clear he
      obtain ⟨r, hz, hl, hr⟩ := f23
      have HL := hide hl
      clear hl
      refine opwp_K (fun K2 hK2 => ?_)
      go_simp
      exact hK2 _ _ ⟨(.agg #[.string (mk [108, 111, 115, 116]), .int .i64 74, .slice r.h.ao r.l.length r.h.cap, .int .i64 1]), (by first | rfl | (simp [famSl, hz]; done)), Below.refl _ _, fun d hd => by injection hd with hd; subst hd; exact ⟨⟨mk [108, 111, 115, 116], 74, r, 1⟩, rfl, ⟨rfl, rfl, HL.out, rfl⟩, hr⟩⟩
    · injection ho with ho
      subst ho
      clear he
      refine opwp_K (fun K2 hK2 => ?_)
      go_simp
      exact hK2 _ _ ⟨(v1), (by first | rfl | (simp [famSl]; done)), Below.refl _ _, fun d hd => by injection hd with hd; subst hd; exact H1.out.mono HB.out⟩
    · injection ho with ho
      subst ho
      have f25 := he ⟨25, .data⟩ (by simp) rfl _ rfl
      change FD.holds _ (s 32) _ at f25
      clear he
      obtain ⟨r, hz, hl, hr⟩ := f25
      have HL := hide hl
      clear hl
      refine opwp_K (fun K2 hK2 => ?_)
      go_simp
      exact hK2 _ _ ⟨(.agg #[.string (mk [100, 111, 117, 98, 108, 101, 100]), .int .i64 89, .slice r.h.ao r.l.length r.h.cap, .int .i64 1]), (by first | rfl | (simp [famSl, hz]; done)), Below.refl _ _, fun d hd => by injection hd with hd; subst hd; exact ⟨⟨mk [100, 111, 117, 98, 108, 101, 100], 89, r, 1⟩, rfl, ⟨rfl, rfl, HL.out, rfl⟩, hr⟩⟩
    · injection ho with ho
      subst ho
      clear he
      refine opwp_K (fun K2 hK2 => ?_)
      go_simp
      exact hK2 _ _ ⟨(v1), (by first | rfl | (simp [famSl]; done)), Below.refl _ _, fun d hd => by injection hd with hd; subst hd; exact H1.out.mono HB.out⟩
    · injection ho with ho
      subst ho
      have f27 := he ⟨27, .data⟩ (by simp) rfl _ rfl
      change FD.holds _ (s 34) _ at f27
      clear he
      obtain ⟨r, hz, hl, hr⟩ := f27
      have HL := hide hl
      clear hl
      refine opwp_K (fun K2 hK2 => ?_)
      go_simp
      exact hK2 _ _ ⟨(.agg #[.string (mk [110, 117, 108, 108, 108, 101, 115, 115]), .int .i64 104, .slice r.h.ao r.l.length r.h.cap, .int .i64 1]), (by first | rfl | (simp [famSl, hz]; done)), Below.refl _ _, fun d hd => by injection hd with hd; subst hd; exact ⟨⟨mk [110, 117, 108, 108, 108, 101, 115, 115], 104, r, 1⟩, rfl, ⟨rfl, rfl, HL.out, rfl⟩, hr⟩⟩
    · injection ho with ho
      subst ho
      clear he
      refine opwp_K (fun K2 hK2 => ?_)
      go_simp
      exact hK2 _ _ ⟨(v1), (by first | rfl | (simp [famSl]; done)), Below.refl _ _, fun d hd => by injection hd with hd; subst hd; exact H1.out.mono HB.out⟩
    · injection ho with ho
      subst ho
      have f29 := he ⟨29, .data⟩ (by simp) rfl _ rfl
      change FD.holds _ (s 36) _ at f29
      clear he
      obtain ⟨r, hz, hl, hr⟩ := f29
      have HL := hide hl
      clear hl
      refine opwp_K (fun K2 hK2 => ?_)
      go_simp
      exact hK2 _ _ ⟨(.agg #[.string (mk [115, 105, 110, 103, 108, 101]), .int .i64 119, .slice r.h.ao r.l.length r.h.cap, .int .i64 1]), (by first | rfl | (simp [famSl, hz]; done)), Below.refl _ _, fun d hd => by injection hd with hd; subst hd; exact ⟨⟨mk [115, 105, 110, 103, 108, 101], 119, r, 1⟩, rfl, ⟨rfl, rfl, HL.out, rfl⟩, hr⟩⟩
    · injection ho with ho
      subst ho
      clear he
      refine opwp_K (fun K2 hK2 => ?_)
      go_simp
      exact hK2 _ _ ⟨(.slice (some ⟨g2, 0, none⟩) 3 3), (by first | rfl | (simp [famSl]; done)), Below.refl _ _, fun d hd => by injection hd with hd; subst hd; exact FD.mono (.lit g2 [5, 6, 7]) _ _ _ H2.out HB.out⟩
    · injection ho with ho
      subst ho
      have f31 := he ⟨31, .data⟩ (by simp) rfl _ rfl
      change FD.holds _ (s 38) _ at f31
      clear he
      obtain ⟨hz, hg, hcs⟩ := f31
      refine opwp_K (fun K2 hK2 => ?_)
      go_simp
      exact hK2 _ _ ⟨(.agg #[.string (mk [107, 105, 110, 100]), .int .i64 134, .slice (some ⟨g2, 0, none⟩) 3 3, .int .i64 6]), (by first | rfl | (simp [famSl, hz]; done)), Below.refl _ _, fun d hd => by injection hd with hd; subst hd; exact ⟨⟨mk [107, 105, 110, 100], 134, ⟨⟨some ⟨g2, 0, none⟩, 3⟩, [5, 6, 7]⟩, 6⟩, rfl, ⟨rfl, rfl, rfl, rfl⟩, lit_in hg hcs (by decide) (ok64 _ rfl)⟩⟩
    · injection ho with ho
      subst ho
      clear he
      refine opwp_K (fun K2 hK2 => ?_)
      go_simp
      exact hK2 _ _ ⟨(.slice (some ⟨g2, 0, none⟩) 3 3), (by first | rfl | (simp [famSl]; done)), Below.refl _ _, fun d hd => by injection hd with hd; subst hd; exact FD.mono (.lit g2 [5, 6, 7]) _ _ _ H2.out HB.out⟩
    · injection ho with ho
      subst ho
      have f33 := he ⟨33, .data⟩ (by simp) rfl _ rfl
      change FD.holds _ (s 40) _ at f33
      clear he
      obtain ⟨hz, hg, hcs⟩ := f33
      refine opwp_K (fun K2 hK2 => ?_)
      go_simp
      exact hK2 _ _ ⟨(.slice (some ⟨g2, 1, none⟩) 2 2), (by first | rfl | (simp [famSl, hz]; done)), Below.refl _ _, fun d hd => by injection hd with hd; subst hd; exact ⟨⟨⟨some ⟨g2, 1, none⟩, 2⟩, [6, 7]⟩, rfl, rfl, lit_tail hg hcs⟩⟩
    · injection ho with ho
      subst ho
      have f34 := he ⟨34, .data⟩ (by simp) rfl _ rfl
      change FD.holds _ (s 41) _ at f34
      clear he
      obtain ⟨r, hz, hl, hr⟩ := f34
      have HL := hide hl
      clear hl
      refine opwp_K (fun K2 hK2 => ?_)
      go_simp
      exact hK2 _ _ ⟨(.agg #[.string (mk [110, 117, 108, 108, 107, 101, 121, 115]), .int .i64 152, .slice r.h.ao r.l.length r.h.cap, .int .i64 1]), (by first | rfl | (simp [famSl, hz]; done)), Below.refl _ _, fun d hd => by injection hd with hd; subst hd; exact ⟨⟨mk [110, 117, 108, 108, 107, 101, 121, 115], 152, r, 1⟩, rfl, ⟨rfl, rfl, HL.out, rfl⟩, hr⟩⟩
    · injection ho with ho
      subst ho
      clear he
      refine opwp_K (fun K2 hK2 => ?_)
      go_simp
      exact hK2 _ _ ⟨(.slice (some ⟨x.heap.size, 0, none⟩) 1 1), (by first | rfl | (simp [famSl]; done)), belA _, fun d hd => by injection hd with hd; subst hd; exact ⟨x.heap.size, rfl, by simp, by rw [World.cell?_alloc_at _ _ _ _ rfl]; rfl⟩⟩
    · injection ho with ho
      subst ho
      clear he
      refine opwp_K (fun K2 hK2 => ?_)
      go_simp
      exact hK2 _ _ ⟨(.slice (some ⟨g2, 0, none⟩) 3 3), (by first | rfl | (simp [famSl]; done)), Below.refl _ _, fun d hd => by injection hd with hd; subst hd; exact FD.mono (.lit g2 [5, 6, 7]) _ _ _ H2.out HB.out⟩
    · injection ho with ho
      subst ho
      have f36 := he ⟨36, .data⟩ (by simp) rfl _ rfl
      change FD.holds _ (s 43) _ at f36
      have f37 := he ⟨37, .data⟩ (by simp) rfl _ rfl
      change FD.holds _ (s 44) _ at f37
      clear he
      obtain ⟨g, hz, hg, hc0⟩ := f36
      obtain ⟨hzB, hg2, hcs⟩ := f37
      obtain ⟨i0, hi, hz0, hz1, hz2⟩ := info_parts info3
      refine opwp_K (fun K2 hK2 => ?_)
      refine opwp_append_grows x _ _ 34 rfl 3 i0 (.int .i64 0) 1 8 Tryd.underlying34 hi hz0 hz1 hz2 rfl (by decide) ⟨g, 0, none⟩ 1 1 [.int .i64 3] hz rfl ?c1 ⟨g2, 0, none⟩ 3 3 ([5, 6, 7].flatMap icells) hzB rfl ?c2 (by decide) (by decide) (by decide) ?_
      · intro j u hj
        rw [Addr.add_lit]
        match j, hj with
        | 0, hj => injection hj with hj; subst hj; simpa using hc0
        | n + 1, hj => cases hj
      · intro j u hj; rw [Addr.add_lit]; simpa using hcs j u hj
      intro v y hown hgr
      refine hK2 _ _ ⟨v, (by first | rfl | (simp [famSl, hz, hzB]; done)), below_grown hgr, fun d hd => ?_⟩
      injection hd with hd
      subst hd
      exact il_mk (xs := [3] ++ [5, 6, 7]) hown (ok64 _ rfl)
    · injection ho with ho
      subst ho
      have f38 := he ⟨38, .data⟩ (by simp) rfl _ rfl
      change FD.holds _ (s 45) _ at f38
      clear he
      obtain ⟨r, hz, hl, hr⟩ := f38
      have HL := hide hl
      clear hl
      refine opwp_K (fun K2 hK2 => ?_)
      go_simp
      exact hK2 _ _ ⟨(.agg #[.string (mk [117, 110, 107, 110, 111, 119, 110]), .int .i64 154, .slice r.h.ao r.l.length r.h.cap, .int .i64 1]), (by first | rfl | (simp [famSl, hz]; done)), Below.refl _ _, fun d hd => by injection hd with hd; subst hd; exact ⟨⟨mk [117, 110, 107, 110, 111, 119, 110], 154, r, 1⟩, rfl, ⟨rfl, rfl, HL.out, rfl⟩, hr⟩⟩
    · injection ho with ho
      subst ho
      clear he
      refine opwp_K (fun K2 hK2 => ?_)
      go_simp
      exact hK2 _ _ ⟨(.slice (some ⟨g3, 0, none⟩) 2 2), (by first | rfl | (simp [famSl]; done)), Below.refl _ _, fun d hd => by injection hd with hd; subst hd; exact FD.mono (.lit g3 [9, 10]) _ _ _ H3.out HB.out⟩
    · injection ho with ho
      subst ho
      have f40 := he ⟨40, .data⟩ (by simp) rfl _ rfl
      change FD.holds _ (s 47) _ at f40
      clear he
      obtain ⟨hz, hg, hcs⟩ := f40
      refine opwp_K (fun K2 hK2 => ?_)
      go_simp
      exact hK2 _ _ ⟨(.agg #[.string (mk [97, 103, 103, 114, 101, 103, 97, 116, 101]), .int .i64 158, .slice (some ⟨g3, 0, none⟩) 2 2, .int .i64 6]), (by first | rfl | (simp [famSl, hz]; done)), Below.refl _ _, fun d hd => by injection hd with hd; subst hd; exact ⟨⟨mk [97, 103, 103, 114, 101, 103, 97, 116, 101], 158, ⟨⟨some ⟨g3, 0, none⟩, 2⟩, [9, 10]⟩, 6⟩, rfl, ⟨rfl, rfl, rfl, rfl⟩, lit_in hg hcs (by decide) (ok64 _ rfl)⟩⟩
    · injection ho with ho
      subst ho
      clear he
      refine opwp_K (fun K2 hK2 => ?_)
      go_simp
      exact hK2 _ _ ⟨(.slice (some ⟨g3, 0, none⟩) 2 2), (by first | rfl | (simp [famSl]; done)), Below.refl _ _, fun d hd => by injection hd with hd; subst hd; exact FD.mono (.lit g3 [9, 10]) _ _ _ H3.out HB.out⟩
    · injection ho with ho
      subst ho
      have f42 := he ⟨42, .data⟩ (by simp) rfl _ rfl
      change FD.holds _ (s 49) _ at f42
      clear he
      obtain ⟨hz, hg, hcs⟩ := f42
      refine opwp_K (fun K2 hK2 => ?_)
      go_simp
      exact hK2 _ _ ⟨(.agg #[.string (mk [101, 109, 112, 116, 121, 103, 114, 111, 117, 112]), .int .i64 170, .slice (some ⟨g3, 0, none⟩) 2 2, .int .i64 1]), (by first | rfl | (simp [famSl, hz]; done)), Below.refl _ _, fun d hd => by injection hd with hd; subst hd; exact ⟨⟨mk [101, 109, 112, 116, 121, 103, 114, 111, 117, 112], 170, ⟨⟨some ⟨g3, 0, none⟩, 2⟩, [9, 10]⟩, 1⟩, rfl, ⟨rfl, rfl, rfl, rfl⟩, lit_in hg hcs (by decide) (ok64 _ rfl)⟩⟩
    · injection ho with ho
      subst ho
      clear he
      refine opwp_K (fun K2 hK2 => ?_)
      go_simp
      exact hK2 _ _ ⟨(.slice (some ⟨g3, 0, none⟩) 2 2), (by first | rfl | (simp [famSl]; done)), Below.refl _ _, fun d hd => by injection hd with hd; subst hd; exact FD.mono (.lit g3 [9, 10]) _ _ _ H3.out HB.out⟩
    · injection ho with ho
      subst ho
      have f44 := he ⟨44, .data⟩ (by simp) rfl _ rfl
      change FD.holds _ (s 51) _ at f44
      clear he
      obtain ⟨hz, hg, hcs⟩ := f44
      refine opwp_K (fun K2 hK2 => ?_)
      go_simp
      exact hK2 _ _ ⟨(.agg #[.string (mk [110, 117, 108, 108, 103, 114, 111, 117, 112]), .int .i64 172, .slice (some ⟨g3, 0, none⟩) 2 2, .int .i64 1]), (by first | rfl | (simp [famSl, hz]; done)), Below.refl _ _, fun d hd => by injection hd with hd; subst hd; exact ⟨⟨mk [110, 117, 108, 108, 103, 114, 111, 117, 112], 172, ⟨⟨some ⟨g3, 0, none⟩, 2⟩, [9, 10]⟩, 1⟩, rfl, ⟨rfl, rfl, rfl, rfl⟩, lit_in hg hcs (by decide) (ok64 _ rfl)⟩⟩
    · injection ho with ho
      subst ho
      clear he
      refine opwp_K (fun K2 hK2 => ?_)
      go_simp
      exact hK2 _ _ ⟨(.slice (some ⟨x.heap.size, 0, none⟩) 1 1), (by first | rfl | (simp [famSl]; done)), belA _, fun d hd => by injection hd with hd; subst hd; exact bs_il [8] x _ (by decide) (ok64 _ rfl)⟩
    · injection ho with ho
      subst ho
      have f46 := he ⟨46, .data⟩ (by simp) rfl _ rfl
      change FD.holds _ (s 53) _ at f46
      clear he
      obtain ⟨r, hz, hl, hr⟩ := f46
      have HL := hide hl
      clear hl
      refine opwp_K (fun K2 hK2 => ?_)
      go_simp
      exact hK2 _ _ ⟨(.agg #[.string (mk [100, 101, 115, 99, 101, 110, 100, 105, 110, 103]), .int .i64 174, .slice r.h.ao r.l.length r.h.cap, .int .i64 1]), (by first | rfl | (simp [famSl, hz]; done)), Below.refl _ _, fun d hd => by injection hd with hd; subst hd; exact ⟨⟨mk [100, 101, 115, 99, 101, 110, 100, 105, 110, 103], 174, r, 1⟩, rfl, ⟨rfl, rfl, HL.out, rfl⟩, hr⟩⟩
    · injection ho with ho
      subst ho
      clear he
      refine opwp_K (fun K2 hK2 => ?_)
      go_simp
      exact hK2 _ _ ⟨(.slice (some ⟨x.heap.size, 0, none⟩) 2 2), (by first | rfl | (simp [famSl]; done)), belA _, fun d hd => by injection hd with hd; subst hd; exact bs_il [14, 15] x _ (by decide) (ok64 _ rfl)⟩
    · injection ho with ho
      subst ho
      have f48 := he ⟨48, .data⟩ (by simp) rfl _ rfl
      change FD.holds _ (s 55) _ at f48
      clear he
      obtain ⟨r, hz, hl, hr⟩ := f48
      have HL := hide hl
      clear hl
      refine opwp_K (fun K2 hK2 => ?_)
      go_simp
      exact hK2 _ _ ⟨(.agg #[.string (mk [97, 108, 108]), .int .i64 175, .slice r.h.ao r.l.length r.h.cap, .int .i64 1]), (by first | rfl | (simp [famSl, hz]; done)), Below.refl _ _, fun d hd => by injection hd with hd; subst hd; exact ⟨⟨mk [97, 108, 108], 175, r, 1⟩, rfl, ⟨rfl, rfl, HL.out, rfl⟩, hr⟩⟩
    · injection ho with ho
      subst ho
      clear he
      refine opwp_K (fun K2 hK2 => ?_)
      go_simp
      exact hK2 _ _ ⟨(.slice (some ⟨x.heap.size, 0, none⟩) 2 2), (by first | rfl | (simp [famSl]; done)), belA _, fun d hd => by injection hd with hd; subst hd; exact bs_il [12, 13] x _ (by decide) (ok64 _ rfl)⟩
    · injection ho with ho
      subst ho
      have f50 := he ⟨50, .data⟩ (by simp) rfl _ rfl
      change FD.holds _ (s 57) _ at f50
      clear he
      obtain ⟨r, hz, hl, hr⟩ := f50
      have HL := hide hl
      clear hl
      refine opwp_K (fun K2 hK2 => ?_)
      go_simp
      exact hK2 _ _ ⟨(.agg #[.string (mk [99, 111, 108, 117, 109, 110]), .int .i64 177, .slice r.h.ao r.l.length r.h.cap, .int .i64 1]), (by first | rfl | (simp [famSl, hz]; done)), Below.refl _ _, fun d hd => by injection hd with hd; subst hd; exact ⟨⟨mk [99, 111, 108, 117, 109, 110], 177, r, 1⟩, rfl, ⟨rfl, rfl, HL.out, rfl⟩, hr⟩⟩
    · injection ho with ho
      subst ho
      clear he
      refine opwp_K (fun K2 hK2 => ?_)
      go_simp
      exact hK2 _ _ ⟨(.slice (some ⟨x.heap.size, 0, none⟩) 1 1), (by first | rfl | (simp [famSl]; done)), belA _, fun d hd => by injection hd with hd; subst hd; exact bs_il [11] x _ (by decide) (ok64 _ rfl)⟩
    · injection ho with ho
      subst ho
      have f52 := he ⟨52, .data⟩ (by simp) rfl _ rfl
      change FD.holds _ (s 59) _ at f52
      clear he
      obtain ⟨r, hz, hl, hr⟩ := f52
      have HL := hide hl
      clear hl
      refine opwp_K (fun K2 hK2 => ?_)
      go_simp
      exact hK2 _ _ ⟨(.agg #[.string (mk [97, 112, 112, 101, 110, 100]), .int .i64 179, .slice r.h.ao r.l.length r.h.cap, .int .i64 2]), (by first | rfl | (simp [famSl, hz]; done)), Below.refl _ _, fun d hd => by injection hd with hd; subst hd; exact ⟨⟨mk [97, 112, 112, 101, 110, 100], 179, r, 2⟩, rfl, ⟨rfl, rfl, HL.out, rfl⟩, hr⟩⟩
    · injection ho with ho
      subst ho
      have f1 := he ⟨1, .data⟩ (by simp) rfl _ rfl
      change FD.holds _ (s 8) _ at f1
      have f3 := he ⟨3, .data⟩ (by simp) rfl _ rfl
      change FD.holds _ (s 10) _ at f3
      have f10 := he ⟨10, .data⟩ (by simp) rfl _ rfl
      change FD.holds _ (s 17) _ at f10
      have f16 := he ⟨16, .data⟩ (by simp) rfl _ rfl
      change FD.holds _ (s 23) _ at f16
      have f22 := he ⟨22, .data⟩ (by simp) rfl _ rfl
      change FD.holds _ (s 29) _ at f22
      have f24 := he ⟨24, .data⟩ (by simp) rfl _ rfl
      change FD.holds _ (s 31) _ at f24
      have f26 := he ⟨26, .data⟩ (by simp) rfl _ rfl
      change FD.holds _ (s 33) _ at f26
      have f28 := he ⟨28, .data⟩ (by simp) rfl _ rfl
      change FD.holds _ (s 35) _ at f28
      have f30 := he ⟨30, .data⟩ (by simp) rfl _ rfl
      change FD.holds _ (s 37) _ at f30
      have f32 := he ⟨32, .data⟩ (by simp) rfl _ rfl
      change FD.holds _ (s 39) _ at f32
      have f35 := he ⟨35, .data⟩ (by simp) rfl _ rfl
      change FD.holds _ (s 42) _ at f35
      have f39 := he ⟨39, .data⟩ (by simp) rfl _ rfl
      change FD.holds _ (s 46) _ at f39
      have f41 := he ⟨41, .data⟩ (by simp) rfl _ rfl
      change FD.holds _ (s 48) _ at f41
      have f43 := he ⟨43, .data⟩ (by simp) rfl _ rfl
      change FD.holds _ (s 50) _ at f43
      have f45 := he ⟨45, .data⟩ (by simp) rfl _ rfl
      change FD.holds _ (s 52) _ at f45
      have f47 := he ⟨47, .data⟩ (by simp) rfl _ rfl
      change FD.holds _ (s 54) _ at f47
      have f49 := he ⟨49, .data⟩ (by simp) rfl _ rfl
      change FD.holds _ (s 56) _ at f49
      have f51 := he ⟨51, .data⟩ (by simp) rfl _ rfl
      change FD.holds _ (s 58) _ at f51
      have f53 := he ⟨53, .data⟩ (by simp) rfl _ rfl
      change FD.holds _ (s 60) _ at f53
      clear he
      obtain ⟨r1, hz1, hl1, hr1⟩ := f1
      have HL1 := hide hl1
      clear hl1
      obtain ⟨r3, hz3, hl3, hr3⟩ := f3
      have HL3 := hide hl3
      clear hl3
      obtain ⟨r10, hz10, hl10, hr10⟩ := f10
      have HL10 := hide hl10
      clear hl10
      obtain ⟨r16, hz16, hl16, hr16⟩ := f16
      have HL16 := hide hl16
      clear hl16
      obtain ⟨r22, hz22, hl22, hr22⟩ := f22
      have HL22 := hide hl22
      clear hl22
      obtain ⟨r24, hz24, hl24, hr24⟩ := f24
      have HL24 := hide hl24
      clear hl24
      obtain ⟨r26, hz26, hl26, hr26⟩ := f26
      have HL26 := hide hl26
      clear hl26
      obtain ⟨r28, hz28, hl28, hr28⟩ := f28
      have HL28 := hide hl28
      clear hl28
      obtain ⟨r30, hz30, hl30, hr30⟩ := f30
      have HL30 := hide hl30
      clear hl30
      obtain ⟨r32, hz32, hl32, hr32⟩ := f32
      have HL32 := hide hl32
      clear hl32
      obtain ⟨r35, hz35, hl35, hr35⟩ := f35
      have HL35 := hide hl35
      clear hl35
      obtain ⟨r39, hz39, hl39, hr39⟩ := f39
      have HL39 := hide hl39
      clear hl39
      obtain ⟨r41, hz41, hl41, hr41⟩ := f41
      have HL41 := hide hl41
      clear hl41
      obtain ⟨r43, hz43, hl43, hr43⟩ := f43
      have HL43 := hide hl43
      clear hl43
      obtain ⟨r45, hz45, hl45, hr45⟩ := f45
      have HL45 := hide hl45
      clear hl45
      obtain ⟨r47, hz47, hl47, hr47⟩ := f47
      have HL47 := hide hl47
      clear hl47
      obtain ⟨r49, hz49, hl49, hr49⟩ := f49
      have HL49 := hide hl49
      clear hl49
      obtain ⟨r51, hz51, hl51, hr51⟩ := f51
      have HL51 := hide hl51
      clear hl51
      obtain ⟨r53, hz53, hl53, hr53⟩ := f53
      have HL53 := hide hl53
      clear hl53
      refine opwp_K (fun K2 hK2 => ?_)
      go_simp
      refine hK2 _ _ ⟨(.slice (some ⟨x.heap.size, 0, none⟩) 19 19), (by first | rfl | (simp [famSl, hz1, hz3, hz10, hz16, hz22, hz24, hz26, hz28, hz30, hz32, hz35, hz39, hz41, hz43, hz45, hz47, hz49, hz51, hz53]; done)), belA _, fun d hd => ?_⟩
      injection hd with hd
      subst hd
      exact fams_new [r1, r3, r10, r16, r22, r24, r26, r28, r30, r32, r35, r39, r41, r43, r45, r47, r49, r51, r53] famTs x 51 (by show 19 ≤ maxLen; decide) (by simp only [List.forall_mem_cons]; exact ⟨hr1, hr3, hr10, hr16, hr22, hr24, hr26, hr28, hr30, hr32, hr35, hr39, hr41, hr43, hr45, hr47, hr49, hr51, hr53, by simp⟩) (.cons HL1.out (.cons HL3.out (.cons HL10.out (.cons HL16.out (.cons HL22.out (.cons HL24.out (.cons HL26.out (.cons HL28.out (.cons HL30.out (.cons HL32.out (.cons HL35.out (.cons HL39.out (.cons HL41.out (.cons HL43.out (.cons HL45.out (.cons HL47.out (.cons HL49.out (.cons HL51.out (.cons HL53.out .nil)))))))))))))))))))
    · injection ho with ho
      subst ho
      have f54 := he ⟨54, .data⟩ (by simp) rfl _ rfl
      change FD.holds _ (s 61) _ at f54
      clear he
      refine opwp_K (fun K2 hK2 => ?_)
      go_simp
      exact hK2 _ _ ⟨(s 61), (by first | rfl | (simp [famSl]; done)), Below.refl _ _, fun d hd => by injection hd with hd; subst hd; exact f54⟩

set_option maxRecDepth 100000 in
set_option maxHeartbeats 4000000 in
theorem families_any (w : World) : Calls Tryd.prog 22 #[] w fun e w' => (∃ v, e = .returned v ∧ Fams famTs v w') ∧ Below w.heap.size w w' := by
  go_enter Tryd.func22, Tryd.ntmps22
  go_wp2_with (go_at_call 46; refine (through_any 1 15 _ (by omega) (by omega) _ (by decide)).mono ?_; rintro e x ⟨⟨v, rfl, hv⟩, hb⟩; have HV := hide hv; have HB := hide hb; clear hv hb)
  have HB2 := hide (HB.out.trans (((belAA (w := x) (.cells #[.int .i64 5, .int .i64 6, .int .i64 7] 3) (.cells #[.int .i64 9, .int .i64 10] 3))).mono HB.out.size))
  have H2 := hide (show FD.holds (.lit x.heap.size [5, 6, 7]) (.slice (some ⟨x.heap.size, 0, none⟩) 3 3) ((x.alloc (.cells #[.int .i64 5, .int .i64 6, .int .i64 7] 3)).alloc (.cells #[.int .i64 9, .int .i64 10] 3)) from
    FD.mono (.lit x.heap.size [5, 6, 7]) _ _ _ ⟨rfl, by simp, fun j u hj => by have h := new_cells (w := x) (t := 3) j u hj; rwa [Addr.add_lit, Nat.zero_add] at h⟩ (belA _))
  have H3 := hide (show FD.holds (.lit (x.heap.size + 1) [9, 10]) (.slice (some ⟨x.heap.size + 1, 0, none⟩) 2 2) ((x.alloc (.cells #[.int .i64 5, .int .i64 6, .int .i64 7] 3)).alloc (.cells #[.int .i64 9, .int .i64 10] 3)) from
    ⟨rfl, by simp, fun j u hj => by have h := new_cells1 (w := x) (x := .cells #[.int .i64 5, .int .i64 6, .int .i64 7] 3) (t := 3) j u hj; rwa [Addr.add_lit, Nat.zero_add] at h⟩)
  refine famregion (g2 := x.heap.size) (g3 := x.heap.size + 1) (v1 := v) (v4 := v) (v5 := .slice (some ⟨x.heap.size, 0, none⟩) 3 3) (v6 := .slice (some ⟨x.heap.size + 1, 0, none⟩) 2 2) ?hc (hide (HV.out.mono (belAA _ _))) H2 H3 (fun k => if k = 0 then .slice none 0 0 else undef) rfl ?hend
  case hc => rfl
  case hend =>
    intro s y hF hb
    have HF := hide hF
    have HY := hide (HB2.out.trans (hb.mono HB2.out.size))
    clear hF hb
    go_wp2
    go_ret
    exact ⟨⟨_, rfl, HF.out⟩, HY.out⟩
end Go.Proofs.YtlkhiihehaiinaaDoor

/- made.Schema at an empty tape: what each part leaves. -/
import Derived.Test.YtmnbhdhgjbgidaaDoorMadeE
namespace Go.Proofs.YtmnbhdhgjbgidaaDoor
open Go.RowKit

theorem info_col : (Tryd.prog.info? 41).map (fun i => (i.zero, i.size, i.bytes)) = some (some (.agg #[.string ⟨#[]⟩, .int .i64 0, .bool false]), 3, 32) := by kernel_rfl
theorem info_exp : (Tryd.prog.info? 45).map (fun i => (i.zero, i.size, i.bytes)) = some (some (.agg #[.int .i64 0, .int .i64 0, .int .i64 0, .string ⟨#[]⟩, .int .i64 0, .slice none 0 0]), 6, 72) := by kernel_rfl
theorem info_tab : (Tryd.prog.info? 39).map (fun i => (i.zero, i.size, i.bytes)) = some (some (.agg #[.string ⟨#[]⟩, .slice none 0 0, .slice none 0 0, .slice none 0 0, .slice none 0 0, .slice none 0 0]), 6, 136) := by kernel_rfl

theorem name_t (w : World) : Calls Tryd.prog 18 #[.string ⟨#[116]⟩, .int .i64 0] w fun e w' => e = .returned (.string ⟨#[116, 48]⟩) ∧ Below w.heap.size w w' := name_zero w ⟨#[116]⟩ (by decide)
theorem name_c (w : World) : Calls Tryd.prog 18 #[.string ⟨#[99]⟩, .int .i64 0] w fun e w' => e = .returned (.string ⟨#[99, 48]⟩) ∧ Below w.heap.size w w' := name_zero w ⟨#[99]⟩ (by decide)

theorem Box.set {w : World} {g : Nat} {cs : Array Value} {T : TypeId} (h : Box w g cs T) (j : Nat) (v : Value) : Box (w.setCell ⟨g, j, none⟩ v) g (cs.setIfInBounds j v) T := heap_setCell_same w g j cs T v h
theorem own_ne {w : World} {base n m size cap g k : Nat} {e T : TypeId} {xs : List Value} {cs : Array Value} (ho : w.ownsRow base e size (.slice (some ⟨g, 0, none⟩) m cap) n xs) (hb : Box w k cs T) (hne : e ≠ T) : g ≠ k := by
  rintro rfl
  rcases ho.2 with ⟨h1, -⟩ | ⟨g', cap', cur, h1, _, hg, -⟩
  · cases h1
  · cases h1
    unfold Box at hb
    rw [hg] at hb
    injection hb with hb
    injection hb with _ h2
    exact hne h2
theorem own_ge {w : World} {base n m size cap g : Nat} {e : TypeId} {xs : List Value} (ho : w.ownsRow base e size (.slice (some ⟨g, 0, none⟩) m cap) n xs) : base ≤ g := by
  rcases ho.2 with ⟨h1, -⟩ | ⟨g', cap', cur, h1, hb, _⟩
  · cases h1
  · cases h1; exact hb
/-- What the first table's literal leaves. -/
structure Lit0 (W V : World) (b a c : Nat) : Prop where
  gb : W.grownBy V (some b)
  le : W.heap.size ≤ c
  tp : TapeIn V b E0 a
  bp : Box V (c + 1) #[.int .i64 0] 3
  bx : Box V (c + 1 + 1) #[.string ⟨#[116, 48]⟩, .slice (some ⟨c, 0, none⟩) 1 1, .slice (some ⟨c + 1, 0, none⟩) 1 1, .slice none 0 0, .slice none 0 0, .slice none 0 0] 39
  own : V.ownsRow c 41 3 (.slice (some ⟨c, 0, none⟩) 1 1) 1 [.string ⟨#[105, 100]⟩, .int .i64 1, .bool false]

/-- What the loop of the columns leaves. -/
structure Lit1 (W z : World) (b a c : Nat) (v : Value) : Prop where
  gb : W.grownBy z (some b)
  le : W.heap.size ≤ c
  tp : TapeIn z b E0 a
  bp : Box z (c + 1) #[.int .i64 0] 3
  bx : Box z (c + 1 + 1) #[.string ⟨#[116, 48]⟩, v, .slice (some ⟨c + 1, 0, none⟩) 1 1, .slice none 0 0, .slice none 0 0, .slice none 0 0] 39
  own : z.ownsRow c 41 3 v 2 [.string ⟨#[105, 100]⟩, .int .i64 1, .bool false, .string ⟨#[99, 48]⟩, .int .i64 1, .bool true]

/-- The first table, as a tree. -/
def T0 (c g cap u g2 cap2 : Nat) : Tab := ⟨⟨#[116, 48]⟩, ⟨some ⟨g, 0, none⟩, cap⟩, [⟨⟨#[105, 100]⟩, 1, false⟩, ⟨⟨#[99, 48]⟩, 1, true⟩], ⟨⟨some ⟨c + 1, 0, none⟩, 1⟩, [0]⟩, ⟨some ⟨g2, 0, none⟩, cap2⟩, [⟨⟨some ⟨u, 0, none⟩, 1⟩, [1]⟩], nilHd, [], nilHd, []⟩
/-- What the unique key leaves. -/
structure Lit2 (W z : World) (b a c g cap u g2 cap2 : Nat) : Prop where
  gb : W.grownBy z (some b)
  le : W.heap.size ≤ c
  tp : TapeIn z b E0 a
  bp : Box z (c + 1) #[.int .i64 0] 3
  bu : Box z u #[.int .i64 1] 3
  bx : Box z (c + 1 + 1) #[.string ⟨#[116, 48]⟩, .slice (some ⟨g, 0, none⟩) 2 cap, .slice (some ⟨c + 1, 0, none⟩) 1 1, .slice (some ⟨g2, 0, none⟩) 1 cap2, .slice none 0 0, .slice none 0 0] 39
  own : z.ownsRow c 41 3 (.slice (some ⟨g, 0, none⟩) 2 cap) 2 [.string ⟨#[105, 100]⟩, .int .i64 1, .bool false, .string ⟨#[99, 48]⟩, .int .i64 1, .bool true]
  own2 : z.ownsRow c 22 1 (.slice (some ⟨g2, 0, none⟩) 1 cap2) 1 [.slice (some ⟨u, 0, none⟩) 1 1]
  uc : c ≤ u

theorem own_row2 {α : Type} {w : World} {base : Nat} {e : TypeId} {size n g cap : Nat} {cells : α → List Value} {xs : List α} (hs : ∀ x, (cells x).length = size) (hpos : 0 < size)
    (h : w.ownsRow base e size (.slice (some ⟨g, 0, none⟩) n cap) n (xs.flatMap cells)) : Row w size cells ⟨some ⟨g, 0, none⟩, cap⟩ xs := by
  obtain ⟨hd, hv, hr⟩ := own_row hs hpos h
  obtain ⟨ao, cp⟩ := hd
  injection hv with h1 _ h3
  subst h1
  subst h3
  exact hr
theorem box_il {w : World} {g : Nat} {n : Int} {T : TypeId} (hb : Box w g #[.int .i64 n] T) (hn : int64 n) : IL.In w ⟨⟨some ⟨g, 0, none⟩, 1⟩, [n]⟩ := by
  refine ⟨⟨by show (1 : Nat) ≤ 1; omega, by show (1 : Nat) ≤ maxLen; unfold maxLen; omega, fun _ => ⟨rfl, hb.lt⟩, fun i hi j v hv => ?_⟩, fun m hm => ?_⟩
  · have h0 : i = 0 := by simp at hi; omega
    subst h0
    have hj : j = 0 := by
      have := (List.getElem?_eq_some_iff.1 hv).1
      simp at this; omega
    subst hj
    exact hb.cell (j := 0) (by simpa using hv)
  · rw [List.mem_singleton.1 hm]; exact hn
theorem T0_in {W z : World} {b a c g cap u g2 cap2 : Nat} (h : Lit2 W z b a c g cap u g2 cap2) : (T0 c g cap u g2 cap2).In z where
  nm := by show (2 : Nat) ≤ maxLen; unfold maxLen; omega
  rc := own_row2 (e := 41) (n := 2) (xs := [⟨⟨#[105, 100]⟩, 1, false⟩, ⟨⟨#[99, 48]⟩, 1, true⟩]) (cells := Col.cells) (fun _ => rfl) (by decide) h.own
  cs := by
    intro x hx
    simp only [T0, List.mem_cons, List.not_mem_nil, or_false] at hx
    rcases hx with rfl | rfl
    · exact ⟨by show (2 : Nat) ≤ maxLen; unfold maxLen; omega, by constructor <;> decide⟩
    · exact ⟨by show (2 : Nat) ≤ maxLen; unfold maxLen; omega, by constructor <;> decide⟩
  rp := box_il h.bp (by constructor <;> decide)
  ru := own_row2 (e := 22) (n := 1) (xs := [(⟨⟨some ⟨u, 0, none⟩, 1⟩, [1]⟩ : IL)]) (cells := IL.cells) (fun _ => rfl) (by decide) h.own2
  us := by
    intro x hx
    have hx' := List.mem_singleton.1 hx
    subst hx'
    exact box_il h.bu (by constructor <;> decide)
  rf := Row.nil _ _ _
  fs := by intro x hx; cases hx
  rk := Row.nil _ _ _
  ks := by intro x hx; cases hx

/-- The null constant of type Bool. -/
def N0 : Ex := ⟨1, 2, 0, ⟨#[]⟩, 0, nilHd, []⟩
theorem N0_in (w : World) : N0.In w := by
  refine ⟨_, ⟨?_, ?_, ?_, ?_, ?_⟩, Row.nil _ _ _, by intro x hx; cases hx⟩
  · constructor <;> decide
  · constructor <;> decide
  · constructor <;> decide
  · show (0 : Nat) ≤ maxLen; omega
  · constructor <;> decide
/-- The first table as it is in the end. -/
def T1 (c g cap u g2 cap2 k cap3 : Nat) : Tab := { T0 c g cap u g2 cap2 with kh := ⟨some ⟨k, 0, none⟩, cap3⟩, checks := [N0] }
theorem Box.ne {z : World} {g g' : Nat} {cs cs' : Array Value} {T T' : TypeId} (h : Box z g cs T) (h' : Box z g' cs' T') (hne : T ≠ T') : g ≠ g' := by
  rintro rfl
  unfold Box at h h'
  rw [h] at h'
  injection h' with h'
  injection h' with _ h2
  exact hne h2
theorem own_some {z z' : World} {c b m n size cap g : Nat} {e : TypeId} {xs : List Value} (ho : z.ownsRow c e size (.slice (some ⟨g, 0, none⟩) m cap) n xs) (hg : z.grownBy z' (some b)) (hbc : b < c) : z'.ownsRow c e size (.slice (some ⟨g, 0, none⟩) m cap) n xs :=
  ho.kept hg (.inr (by have := own_ge ho; simp [Value.ownBlock]; omega))
theorem Lit2.next {W z t : World} {b a a' c g cap u g2 cap2 : Nat} (h : Lit2 W z b a c g cap u g2 cap2) (hg : z.grownBy t (some b)) (ht : TapeIn t b E0 a') (hbc : b < c) : Lit2 W t b a' c g cap u g2 cap2 :=
  ⟨h.gb.trans hg, h.le, ht, h.bp.grown hg (by simp; omega), h.bu.grown hg (by have := h.uc; simp; omega), h.bx.grown hg (by simp; omega), own_some h.own hg hbc, own_some h.own2 hg hbc, h.uc⟩

theorem types_T0 {W z w : World} {b a c g cap u g2 cap2 : Nat} (h : Lit2 W z b a c g cap u g2 cap2) (hb : Below z.heap.size z w) :
    Calls Tryd.prog 20 #[.agg #[.string ⟨#[116, 48]⟩, .slice (some ⟨g, 0, none⟩) 2 cap, .slice (some ⟨c + 1, 0, none⟩) 1 1, .slice (some ⟨g2, 0, none⟩) 1 cap2, .slice none 0 0, .slice none 0 0]] w
      fun e w' => (∃ r : IL, e = .returned (.slice r.h.ao r.l.length r.h.cap) ∧ r.l = [1, 1] ∧ r.In w' ∧ w.heap.size ≤ r.h.b) ∧ Below w.heap.size w w' := by
  refine (rtypes_new (T0 c g cap u g2 cap2) w ((T0_in h).mono hb) (by show (2 : Nat) ≤ 100; omega)).mono ?_
  rintro e w' ⟨⟨r, rfl, hl, hr, hp⟩, hbw⟩
  have hl2 : r.l = [1, 1] := hl
  exact ⟨⟨r, rfl, hl2, hr, hp (by rw [hl2]; decide)⟩, hbw⟩

/-- What the check leaves. -/
structure Lit3 (W z : World) (b a c g cap u g2 cap2 k cap3 : Nat) : Prop where
  gb : W.grownBy z (some b)
  le : W.heap.size ≤ c
  tp : TapeIn z b E0 a
  bp : Box z (c + 1) #[.int .i64 0] 3
  bu : Box z u #[.int .i64 1] 3
  bx : Box z (c + 1 + 1) #[.string ⟨#[116, 48]⟩, .slice (some ⟨g, 0, none⟩) 2 cap, .slice (some ⟨c + 1, 0, none⟩) 1 1, .slice (some ⟨g2, 0, none⟩) 1 cap2, .slice none 0 0, .slice (some ⟨k, 0, none⟩) 1 cap3] 39
  own : z.ownsRow c 41 3 (.slice (some ⟨g, 0, none⟩) 2 cap) 2 [.string ⟨#[105, 100]⟩, .int .i64 1, .bool false, .string ⟨#[99, 48]⟩, .int .i64 1, .bool true]
  own2 : z.ownsRow c 22 1 (.slice (some ⟨g2, 0, none⟩) 1 cap2) 1 [.slice (some ⟨u, 0, none⟩) 1 1]
  uc : c ≤ u
  own3 : z.ownsRow c 45 6 (.slice (some ⟨k, 0, none⟩) 1 cap3) 1 [.int .i64 1, .int .i64 2, .int .i64 0, .string ⟨#[]⟩, .int .i64 0, .slice none 0 0]
theorem own_put {z : World} {c m n size cap g j x : Nat} {e T : TypeId} {v : Value} {cs : Array Value} {xs : List Value} (ho : z.ownsRow c e size (.slice (some ⟨g, 0, none⟩) m cap) n xs) (hb : Box z x cs T) (hne : e ≠ T) : (z.setCell ⟨x, j, none⟩ v).ownsRow c e size (.slice (some ⟨g, 0, none⟩) m cap) n xs :=
  ho.kept (gb_set _ _ _ _) (.inr (by have := own_ne ho hb hne; simp [Value.ownBlock]; exact this))
theorem Lit2.check {W z : World} {b a c g cap u g2 cap2 k cap3 : Nat} (h : Lit2 W z b a c g cap u g2 cap2) (hbc : b < c) (ho : z.ownsRow c 45 6 (.slice (some ⟨k, 0, none⟩) 1 cap3) 1 [.int .i64 1, .int .i64 2, .int .i64 0, .string ⟨#[]⟩, .int .i64 0, .slice none 0 0]) :
    Lit3 W (z.setCell ⟨c + 1 + 1, 5, none⟩ (.slice (some ⟨k, 0, none⟩) 1 cap3)) b a c g cap u g2 cap2 k cap3 :=
  ⟨gb_then h.gb (gb_set _ _ _ _) (by have := h.le; omega), h.le, tz h.tp (gb_set _ _ _ _) (by simp; omega), h.bp.grown (gb_set _ _ _ _) (by simp), h.bu.grown (gb_set _ _ _ _) (by have := h.bu.ne h.bx (by decide); simp; exact this), h.bx.set 5 _, own_put h.own h.bx (by decide), own_put h.own2 h.bx (by decide), h.uc, own_put ho h.bx (by decide)⟩

/-- The schema, in the blocks from c on. -/
structure TF (z : World) (c g cap u g2 cap2 k cap3 G capG : Nat) : Prop where
  bp : Box z (c + 1) #[.int .i64 0] 3
  bu : Box z u #[.int .i64 1] 3
  own : z.ownsRow c 41 3 (.slice (some ⟨g, 0, none⟩) 2 cap) 2 [.string ⟨#[105, 100]⟩, .int .i64 1, .bool false, .string ⟨#[99, 48]⟩, .int .i64 1, .bool true]
  own2 : z.ownsRow c 22 1 (.slice (some ⟨g2, 0, none⟩) 1 cap2) 1 [.slice (some ⟨u, 0, none⟩) 1 1]
  uc : c ≤ u
  own3 : z.ownsRow c 45 6 (.slice (some ⟨k, 0, none⟩) 1 cap3) 1 [.int .i64 1, .int .i64 2, .int .i64 0, .string ⟨#[]⟩, .int .i64 0, .slice none 0 0]
  own4 : z.ownsRow c 39 6 (.slice (some ⟨G, 0, none⟩) 1 capG) 1 [.string ⟨#[116, 48]⟩, .slice (some ⟨g, 0, none⟩) 2 cap, .slice (some ⟨c + 1, 0, none⟩) 1 1, .slice (some ⟨g2, 0, none⟩) 1 cap2, .slice none 0 0, .slice (some ⟨k, 0, none⟩) 1 cap3]
theorem TF.far {z z' : World} {h c g cap u g2 cap2 k cap3 G capG : Nat} (t : TF z c g cap u g2 cap2 k cap3 G capG) (hg : z.grownBy z' (some h)) (hc : h < c) : TF z' c g cap u g2 cap2 k cap3 G capG :=
  ⟨t.bp.grown hg (by simp; omega), t.bu.grown hg (by have := t.uc; simp; omega), own_some t.own hg hc, own_some t.own2 hg hc, t.uc, own_some t.own3 hg hc, own_some t.own4 hg hc⟩
theorem TF.tab {z : World} {c g cap u g2 cap2 k cap3 G capG : Nat} (h : TF z c g cap u g2 cap2 k cap3 G capG) : (T1 c g cap u g2 cap2 k cap3).In z where
  nm := by show (2 : Nat) ≤ maxLen; unfold maxLen; omega
  rc := own_row2 (e := 41) (n := 2) (xs := [⟨⟨#[105, 100]⟩, 1, false⟩, ⟨⟨#[99, 48]⟩, 1, true⟩]) (cells := Col.cells) (fun _ => rfl) (by decide) h.own
  cs := by
    intro x hx
    simp only [T1, T0, List.mem_cons, List.not_mem_nil, or_false] at hx
    rcases hx with rfl | rfl
    · exact ⟨by show (2 : Nat) ≤ maxLen; unfold maxLen; omega, by constructor <;> decide⟩
    · exact ⟨by show (2 : Nat) ≤ maxLen; unfold maxLen; omega, by constructor <;> decide⟩
  rp := box_il h.bp (by constructor <;> decide)
  ru := own_row2 (e := 22) (n := 1) (xs := [(⟨⟨some ⟨u, 0, none⟩, 1⟩, [1]⟩ : IL)]) (cells := IL.cells) (fun _ => rfl) (by decide) h.own2
  us := by
    intro x hx
    have hx' := List.mem_singleton.1 hx
    subst hx'
    exact box_il h.bu (by constructor <;> decide)
  rf := Row.nil _ _ _
  fs := by intro x hx; cases hx
  rk := own_row2 (e := 45) (n := 1) (xs := [N0]) (cells := Ex.cells) (fun _ => rfl) (by decide) h.own3
  ks := by
    intro x hx
    have hx' := List.mem_singleton.1 hx
    subst hx'
    exact N0_in _
/-- The schema as a tree. -/
def S1 (c g cap u g2 cap2 k cap3 G capG : Nat) : Sch := ⟨⟨some ⟨G, 0, none⟩, capG⟩, [T1 c g cap u g2 cap2 k cap3]⟩
theorem TF.sch {z : World} {c g cap u g2 cap2 k cap3 G capG : Nat} (h : TF z c g cap u g2 cap2 k cap3 G capG) : (S1 c g cap u g2 cap2 k cap3 G capG).In z where
  rt := own_row2 (e := 39) (n := 1) (xs := [T1 c g cap u g2 cap2 k cap3]) (cells := Tab.cells) (fun _ => rfl) (by decide) h.own4
  ts := by
    intro x hx
    have hx' := List.mem_singleton.1 hx
    subst hx'
    exact h.tab
end Go.Proofs.YtmnbhdhgjbgidaaDoor

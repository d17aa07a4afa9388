/- A query that reads as a value is no greater than what is counted of the value. -/
import Derived.Test.YtmnbhdhgjbgidaaRows
import Derived.Test.YtmnbhdhgjbgidaaOpen
import Derived.Test.YtmnbhdhgjbgidaaAQSize
namespace Go.Proofs.Ytmnbhdhgjbgidaa
open Go.RowKit Go.ChangeShapes Go.WideShapes

theorem one_le {H : Type} (d : DataW H) : 1 ≤ Rows.uptoBulk d := by
  cases d with
  | lit l => cases l <;> simp [Rows.uptoBulk]
  | nil => simp [Rows.uptoBulk]
  | ptr d => simp [Rows.uptoBulk]
  | slice elems spare => simp [Rows.uptoBulk]
  | agg parts => simp [Rows.uptoBulk]
  | iface t d => simp [Rows.uptoBulk]
  | map entries => simp [Rows.uptoBulk]
  | held h => simp [Rows.uptoBulk]
theorem ones_len {α : Type} (l : List α) : (l.map fun _ => 1).sum = l.length := by
  induction l with
  | nil => rfl
  | cons a l ih => simp only [List.map_cons, List.sum_cons, ih, List.length_cons]; omega
theorem sum_wts (l : List Qu) : (l.map Qu.wt).sum = Qu.wts l := by
  induction l with
  | nil => simp [Qu.wts]
  | cons a l ih => simp only [List.map_cons, List.sum_cons, ih, Qu.wts]

section
variable {H : Type} {enc : TypeId × Value → H} {w : World} {sp : Nat → Bool} {hd : Bool}

/-- Bulk of a list of readings. -/
def lb (l : List (DataW H × List MemPlace)) : Nat := Rows.uptoBulkAll (l.map (·.1))
theorem lb_drop (l : List (DataW H × List MemPlace)) : ∀ {i : Nat} {a : DataW H × List MemPlace}, l[i]? = some a → Rows.uptoBulk a.1 + lb (l.drop (i + 1)) ≤ lb l := by
  induction l with
  | nil => intro i a h; simp at h
  | cons x l ih =>
    intro i a h
    cases i with
    | zero =>
      simp at h
      subst h
      simp [lb, Rows.uptoBulkAll]
    | succ i =>
      have h1 := ih (i := i) (a := a) (by simpa using h)
      simp only [List.drop_succ_cons]
      simp only [lb, List.map_cons, Rows.uptoBulkAll] at *
      omega
theorem bulk_three {l : List (DataW H × List MemPlace)} {a b c : DataW H × List MemPlace} (ha : l[5]? = some a) (hb : l[6]? = some b) (hc : l[9]? = some c) :
    Rows.uptoBulk a.1 + Rows.uptoBulk b.1 + Rows.uptoBulk c.1 ≤ Rows.uptoBulkAll (l.map (·.1)) := by
  have h1 := lb_drop l ha
  have h2 := lb_drop (l.drop 6) (i := 0) (a := b) (by simpa using hb)
  have h3 := lb_drop (l.drop 7) (i := 2) (a := c) (by simpa using hc)
  simp only [List.drop_drop] at h2 h3
  unfold lb at *
  have e1 : 5 + 1 = 6 := rfl
  have e2 : 6 + (0 + 1) = 7 := rfl
  rw [e1] at h1
  rw [e2] at h2
  omega

theorem fldW {P : Program} {n : Nat} {cs : List Value} {xs : List (DataW H × List MemPlace)} {fs : Array Field} (hxl : xs.length = fs.size)
    (hf : ∀ (i : Nat) (f : Field), fs[i]? = some f → DataW.trod enc P w 0 sp hd n f.type ((cs.drop f.offset).take (P.cellsOf f.type)) = xs[i]?) (i T off sz : Nat) (hif : ∃ f, fs[i]? = some f ∧ f.type = T ∧ f.offset = off) (hs : P.cellsOf T = sz) :
    ∃ y, DataW.trod enc P w 0 sp hd n T ((cs.drop off).take sz) = some y ∧ xs[i]? = some y := by
  obtain ⟨f, hif, rfl, rfl⟩ := hif
  subst hs
  have hi : i < xs.length := by rw [hxl]; exact (Array.getElem?_eq_some_iff.1 hif).1
  exact ⟨_, (hf i f hif).trans (List.getElem?_eq_getElem hi), List.getElem?_eq_getElem hi⟩

theorem sum_le : ∀ {α : Type} (mu : α → Nat) (xs : List α) (es : List (DataW H × List MemPlace)), xs.length = es.length → (∀ i (h : i < xs.length) (h2 : i < es.length), mu xs[i] ≤ Rows.uptoBulk es[i].1) → (xs.map mu).sum ≤ lb es
  | _, mu, [], es, _, _ => by simp
  | _, mu, x :: xs, [], h, _ => by simp at h
  | _, mu, x :: xs, e :: es, h, hh => by
    have h1 := hh 0 (by simp) (by simp)
    have h2 := sum_le mu xs es (by simpa using h) (fun i h3 h4 => hh (i + 1) (by simpa using h3) (by simpa using h4))
    simp only [List.getElem_cons_zero] at h1
    simp only [lb, List.map_cons, List.sum_cons, Rows.uptoBulkAll] at *
    omega

theorem open_rowW {P : Program} {α : Type} {t e : TypeId} {size fuel : Nat} {cs : List Value} {x : DataW H × List MemPlace} (cells : α → List Value) (good : α → Prop) (mu : α → Nat)
    (ht : P.underlying t = some (.slice e)) (hc : P.cellsOf e = size) (hpos : 0 < size)
    (hel : ∀ fuel' cs' x', fuel' < fuel → DataW.trod enc P w 0 sp hd fuel' e cs' = some x' → ∃ a : α, cs' = cells a ∧ good a ∧ mu a ≤ Rows.uptoBulk x'.1)
    (h : DataW.trod enc P w 0 sp hd fuel t cs = some x) : ∃ (h : Hd) (xs : List α), cs = [.slice h.ao xs.length h.cap] ∧ Row w size cells h xs ∧ (∀ a ∈ xs, good a) ∧ (xs.map mu).sum ≤ Rows.uptoBulk x.1 := by
  rcases DataW.trod_slice ht h with ⟨rfl, _⟩ | ⟨a, len, cap, elems, rest, n, hn, rfl, hxx, _, hl, hm, hlen, hall, _⟩
  · exact ⟨nilHd, [], rfl, Row.nil _ _ _, fun a ha => (by cases ha), by simp⟩
  · rw [hc] at hall
    have key : ∀ i, i < len → ∃ b : α, (∀ j v, (cells b)[j]? = some v → w.cell? ((a.add (i * size)).add j) = some v) ∧ (cells b).length = size ∧ good b ∧ ∀ h : i < elems.length, mu b ≤ Rows.uptoBulk elems[i].1 := by
      intro i hi
      have h1 := hall i hi
      rw [List.getElem?_eq_getElem (by omega)] at h1
      obtain ⟨cs', hcs, htr⟩ := Option.bind_eq_some_iff.1 h1
      obtain ⟨b, rfl, hb, hmu⟩ := hel n cs' _ (by omega) htr
      obtain ⟨_, hcl, hcell⟩ := World.cells?_some hcs
      refine ⟨b, fun j v hv => ?_, hcl, hb, fun _ => hmu⟩
      have hj : j < size := by rw [← hcl]; exact (List.getElem?_eq_some_iff.1 hv).1
      rw [hcell j hj]; exact hv
    obtain ⟨xs, hxl, hx⟩ := pick_list len key
    subst hxl
    obtain ⟨b, o, spot⟩ := a
    have hspot : 0 < xs.length → spot = none ∧ b < w.heap.size := by
      intro hp
      obtain ⟨g1, g2, _⟩ := hx 0 hp
      have hv : (cells (xs[0]'hp))[0]? = some ((cells (xs[0]'hp))[0]'(by omega)) := List.getElem?_eq_getElem (by omega)
      have := g1 0 _ hv
      simp only [Nat.zero_mul] at this
      have h0 : ((⟨b, o, spot⟩ : Addr).add 0).add 0 = ⟨b, o, spot⟩ := by simp [Addr.add]
      rw [h0] at this
      have hs := World.cell?_spot this
      have hs' : spot = none := by simpa using hs
      subst hs'
      exact ⟨rfl, World.block_lt_of_cell? w ⟨b, o, none⟩ this⟩
    refine ⟨⟨some ⟨b, o, spot⟩, cap⟩, xs, rfl, ⟨hl, hm, fun hp => ?_, fun i hi j v hv => ?_⟩, fun a ha => ?_, ?_⟩
    · obtain ⟨rfl, hlt⟩ := hspot hp
      exact ⟨rfl, hlt⟩
    · obtain ⟨rfl, hlt⟩ := hspot (by omega)
      have := (hx i hi).1 j v hv
      rw [Addr.add_lit, Addr.add_lit] at this
      exact this
    · obtain ⟨i, hi, rfl⟩ := List.getElem_of_mem ha
      exact (hx i hi).2.2.1
    · have h1 := sum_le mu xs elems hlen.symm (fun i h h2 => (hx i h).2.2.2 h2)
      rw [hxx]
      simp only [Rows.uptoBulk]
      unfold lb at h1
      omega

set_option maxRecDepth 100000 in
theorem open_quW : ∀ (fuel : Nat) (cs : List Value) (x : DataW H × List MemPlace), DataW.trod enc Try.prog w 0 sp hd fuel 46 cs = some x → ∃ r : Qu, cs = r.cells ∧ r.In w ∧ r.wt ≤ Rows.uptoBulk x.1 := by
  intro fuel
  induction fuel using Nat.strongRecOn with
  | _ fuel ih =>
  intro cs x h
  obtain ⟨xs, n, hn, hxx, hlen, hxl, hf⟩ := DataW.trod_struct Try.underlying46 h
  rw [cells_of_46] at hlen
  obtain ⟨c0, c1, c2, c3, c4, c5, c6, c7, c8, c9, c10, c11, c12, c13, c14, rfl⟩ := list15 hlen
  · skip
    obtain ⟨y0, g0⟩ := fld hxl hf 0 3 0 1 ⟨_, rfl, rfl, rfl⟩ cells_of_3
    obtain ⟨op, e0, _, w0⟩ := DataW.trod_int Try.underlying3 g0
    obtain ⟨y1, g1⟩ := fld hxl hf 1 9 1 1 ⟨_, rfl, rfl, rfl⟩ cells_of_9
    obtain ⟨table, e1, _, w1⟩ := DataW.trod_string Try.underlying9 g1
    obtain ⟨y2, g2⟩ := fld hxl hf 2 3 2 1 ⟨_, rfl, rfl, rfl⟩ cells_of_3
    obtain ⟨kind, e2, _, w2⟩ := DataW.trod_int Try.underlying3 g2
    obtain ⟨y3, g3⟩ := fld hxl hf 3 4 3 1 ⟨_, rfl, rfl, rfl⟩ cells_of_4
    obtain ⟨al, e3, _⟩ := DataW.trod_bool Try.underlying4 g3
    obtain ⟨y4, g4⟩ := fld hxl hf 4 41 4 6 ⟨_, rfl, rfl, rfl⟩ cells_of_41
    obtain ⟨cond, e4, w4⟩ := open_ex _ _ _ g4
    obtain ⟨y5, g5, z5⟩ := fldW hxl hf 5 34 10 1 ⟨_, rfl, rfl, rfl⟩ cells_of_34
    obtain ⟨exh, ex, e5, r5, w5, u5⟩ := open_rowW Ex.cells (Ex.In w) (fun _ => 1) Try.underlying34 cells_of_41 (by decide) (fun f cs x hlt h => by obtain ⟨r, h1, h2⟩ := open_ex _ _ _ h; exact ⟨r, h1, h2, one_le _⟩) g5
    obtain ⟨y6, g6, z6⟩ := fldW hxl hf 6 42 11 1 ⟨_, rfl, rfl, rfl⟩ cells_of_42
    obtain ⟨agh, ag, e6, r6, w6, u6⟩ := open_rowW Agg.cells (fun a => int64 a.fn ∧ a.arg.In w) (fun _ => 1) Try.underlying42 cells_of_74 (by decide) (fun f cs x hlt h => by obtain ⟨r, h1, h2⟩ := open_agg h; exact ⟨r, h1, h2, one_le _⟩) g6
    obtain ⟨y7, g7⟩ := fld hxl hf 7 31 12 1 ⟨_, rfl, rfl, rfl⟩ cells_of_31
    obtain ⟨ty, e7, w7⟩ := open_il g7
    obtain ⟨y8, g8⟩ := fld hxl hf 8 43 13 1 ⟨_, rfl, rfl, rfl⟩ cells_of_43
    obtain ⟨roh, ro, e8, r8, w8⟩ := open_row VL.cells (VL.In w) Try.underlying43 cells_of_69 (by decide) (fun f cs x hlt h => open_vl h) g8
    obtain ⟨y9, g9, z9⟩ := fldW hxl hf 9 44 14 1 ⟨_, rfl, rfl, rfl⟩ cells_of_44
    obtain ⟨kidsh, kids, e9, r9, w9, u9⟩ := open_rowW Qu.cells (Qu.In w) Qu.wt Try.underlying44 cells_of_46 (by decide) (fun f cs x hlt h => ih f (by omega) cs x h) g9
    simp only [List.drop_zero, List.drop_succ_cons, List.take_succ_cons, List.take_zero, List.cons.injEq, and_true] at e0 e1 e2 e3 e4 e5 e6 e7 e8 e9
    obtain ⟨rfl, rfl, rfl, rfl, rfl, rfl⟩ := e4
    subst e0 e1 e2 e3 e5 e6 e7 e8 e9
    refine ⟨⟨op, table, kind, al, cond, exh, ex, agh, ag, ty, roh, ro, kidsh, kids⟩, rfl, ⟨_, ⟨int64_of w0, w1, int64_of w2, w4, r5, w5, r6, w6, w7, r8, w8⟩, r9, w9⟩, ?_⟩
    rw [hxx, Qu.wt_eq]
    have h3 := bulk_three (l := xs) z5 z6 z9
    rw [ones_len] at u5 u6
    rw [sum_wts] at u9
    simp only [Rows.uptoBulk]
    omega

end
end Go.Proofs.Ytmnbhdhgjbgidaa

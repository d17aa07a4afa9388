/- The tables that made.Schema makes: what holds of them in a world, and what keeps it. -/
import Derived.Test.YtmnbhdhgjbgidaaDoorMadeT
import Derived.Test.YtmnbhdhgjbgidaaDoorMadeL
namespace Go.Proofs.YtmnbhdhgjbgidaaDoor
open Go.RowKit

/-- The block of a slice's header. -/
def Hd.ob (h : Hd) : Option Nat := h.ao.map (·.block)
theorem Hd.ob_eq (h : Hd) (n c : Nat) : (Value.slice h.ao n c).ownBlock = h.ob := by
  obtain ⟨ao, cap⟩ := h
  cases ao <;> rfl
theorem own_ob {z : World} {B n size : Nat} {e : TypeId} {h : Hd} {xs : List Value} (ho : z.ownsRow B e size (.slice h.ao n h.cap) n xs) {g : Nat} (hg : h.ob = some g) :
    B ≤ g ∧ g < z.heap.size ∧ ∃ cur, z.heap[g]? = some (.cells cur e (0, 0)) := by
  rcases ho.2 with ⟨h1, -⟩ | ⟨g', cap', cur, h1, hb, hh, -⟩
  · injection h1 with h2
    simp [Hd.ob, h2] at hg
  · injection h1 with h2
    have : g' = g := by simpa [Hd.ob, h2] using hg
    subst this
    exact ⟨hb, (Array.getElem?_eq_some_iff.1 hh).1, cur, hh⟩
theorem own_ob_ne {z : World} {B B' n n' size size' : Nat} {e e' : TypeId} {h h' : Hd} {xs xs' : List Value} (ho : z.ownsRow B e size (.slice h.ao n h.cap) n xs) (ho' : z.ownsRow B' e' size' (.slice h'.ao n' h'.cap) n' xs') (hne : e ≠ e') {g : Nat} (hg : h'.ob = some g) : h.ob ≠ some g := by
  intro hg'
  obtain ⟨_, _, c1, h1⟩ := own_ob ho hg'
  obtain ⟨_, _, c2, h2⟩ := own_ob ho' hg
  rw [h1] at h2
  injection h2 with h2
  injection h2 with _ h2
  exact hne h2
theorem own_box_ne {z : World} {B n size g : Nat} {e T : TypeId} {h : Hd} {xs : List Value} {cs : Array Value} (ho : z.ownsRow B e size (.slice h.ao n h.cap) n xs) (hb : Box z g cs T) (hne : e ≠ T) : h.ob ≠ some g := by
  intro hg'
  obtain ⟨_, _, c1, h1⟩ := own_ob ho hg'
  unfold Box at hb
  rw [h1] at hb
  injection hb with h2
  injection h2 with _ h2
  exact hne h2
theorem own_keep {z z' : World} {B n size : Nat} {e : TypeId} {h : Hd} {xs : List Value} {r : Option Nat} (ho : z.ownsRow B e size (.slice h.ao n h.cap) n xs) (hg : z.grownBy z' r) (hne : ∀ g, r = some g → h.ob ≠ some g) : z'.ownsRow B e size (.slice h.ao n h.cap) n xs := by
  refine ho.kept hg ?_
  rw [Hd.ob_eq]
  cases r with
  | none =>
    cases hh : h.ob with
    | none => exact .inl rfl
    | some g => exact .inr (by simp)
  | some g => exact .inr (hne g rfl)

/-- A list of one number, in a block of its own. -/
def One (z : World) (B : Nat) (x : IL) : Prop := ∃ g n, x = ⟨⟨some ⟨g, 0, none⟩, 1⟩, [n]⟩ ∧ Box z g #[.int .i64 n] 3 ∧ int64 n ∧ B ≤ g
theorem One.keep {z z' : World} {B : Nat} {x : IL} {r : Option Nat} (h : One z B x) (hg : z.grownBy z' r) (hne : ∀ g, r = some g → x.h.b ≠ g) : One z' B x := by
  obtain ⟨g, n, rfl, hb, hn, hB⟩ := h
  exact ⟨g, n, rfl, hb.grown hg (fun e => hne g e.symm rfl), hn, hB⟩
theorem One.inn {z : World} {B : Nat} {x : IL} (h : One z B x) : x.In z := by
  obtain ⟨g, n, rfl, hb, hn, hB⟩ := h
  exact box_il hb hn
theorem One.ge {z : World} {B : Nat} {x : IL} (h : One z B x) : B ≤ x.h.b := by
  obtain ⟨g, n, rfl, hb, hn, hB⟩ := h
  exact hB
theorem One.lt {z : World} {B : Nat} {x : IL} (h : One z B x) : x.h.b < z.heap.size := by
  obtain ⟨g, n, rfl, hb, hn, hB⟩ := h
  exact hb.lt
theorem One.ne {z : World} {B g : Nat} {x : IL} {cs : Array Value} {T : TypeId} (h : One z B x) (hb : Box z g cs T) (hT : 3 ≠ T) : x.h.b ≠ g := by
  obtain ⟨g', n, rfl, hb', hn, hB⟩ := h
  exact hb'.ne hb hT
theorem One.neo {z : World} {B B' n size g : Nat} {e : TypeId} {h : Hd} {xs : List Value} {x : IL} (hx : One z B x) (ho : z.ownsRow B' e size (.slice h.ao n h.cap) n xs) (hT : e ≠ 3) (hg : h.ob = some g) : x.h.b ≠ g := by
  obtain ⟨g', n, rfl, hb', hn, hB⟩ := hx
  intro he
  have : g' = g := he
  subst this
  exact own_box_ne ho hb' hT hg

theorem One.base {z : World} {B B' : Nat} {x : IL} (h : One z B x) (hb : B' ≤ B) : One z B' x := by
  obtain ⟨g, n, rfl, h1, hn, hB⟩ := h
  exact ⟨g, n, rfl, h1, hn, Nat.le_trans hb hB⟩
theorem base_own {z : World} {B B' n size : Nat} {e : TypeId} {v : Value} {xs : List Value} (ho : z.ownsRow B e size v n xs) (hb : B' ≤ B) : z.ownsRow B' e size v n xs := by
  refine ⟨ho.1, ?_⟩
  rcases ho.2 with hn | ⟨g, cap, cur, rfl, hB, rest⟩
  · exact .inl hn
  · exact .inr ⟨g, cap, cur, rfl, Nat.le_trans hb hB, rest⟩

/-- No block of a table is g. -/
structure TOff (g : Nat) (t : Tab) : Prop where
  c : t.ch.ob ≠ some g
  p : t.prim.h.b ≠ g
  u : t.uh.ob ≠ some g
  us : ∀ x ∈ t.uniqs, x.h.b ≠ g
  f : t.fh.ob ≠ some g
  fs : ∀ x ∈ t.fors, x.cols.h.b ≠ g
  k : t.kh.ob ≠ some g
  ks : ∀ x ∈ t.checks, x.Off g

/-- A table that was made, all of whose blocks lie from B on and are its own. -/
structure TI (z : World) (B : Nat) (t : Tab) : Prop where
  oc : z.ownsRow B 41 3 (.slice t.ch.ao t.cols.length t.ch.cap) t.cols.length (t.cols.flatMap Col.cells)
  ou : z.ownsRow B 22 1 (.slice t.uh.ao t.uniqs.length t.uh.cap) t.uniqs.length (t.uniqs.flatMap IL.cells)
  of : z.ownsRow B 43 2 (.slice t.fh.ao t.fors.length t.fh.cap) t.fors.length (t.fors.flatMap Frn.cells)
  ok : z.ownsRow B 45 6 (.slice t.kh.ao t.checks.length t.kh.cap) t.checks.length (t.checks.flatMap Ex.cells)
  nm : t.name.size ≤ 100
  cs : ∀ c ∈ t.cols, c.name.size ≤ 100 ∧ int64 c.typ
  pr : One z B t.prim
  us : ∀ u ∈ t.uniqs, One z B u
  fs : ∀ f ∈ t.fors, One z B f.cols ∧ f.tab.size ≤ 100
  ks : ∀ k ∈ t.checks, k.In z ∧ k.Fresh B ∧ k.size ≤ 21
theorem row_of_own {α : Type} {w : World} {base n : Nat} {e : TypeId} {size : Nat} {h : Hd} {cells : α → List Value} {xs : List α} (hs : ∀ x, (cells x).length = size) (hpos : 0 < size)
    (ho : w.ownsRow base e size (.slice h.ao n h.cap) n (xs.flatMap cells)) : Row w size cells h xs := by
  obtain ⟨hd, hv, hr⟩ := own_row hs hpos ho
  obtain ⟨ao, cap⟩ := h
  obtain ⟨ao', cap'⟩ := hd
  injection hv with h1 _ h2
  dsimp only at h1 h2
  subst h1 h2
  exact hr
theorem TI.inn {z : World} {B : Nat} {t : Tab} (h : TI z B t) : t.In z where
  nm := Nat.le_trans h.nm (by unfold maxLen; omega)
  rc := row_of_own (fun _ => rfl) (by decide) h.oc
  cs := fun c hc => ⟨Nat.le_trans (h.cs c hc).1 (by unfold maxLen; omega), (h.cs c hc).2⟩
  rp := h.pr.inn
  ru := row_of_own (fun _ => rfl) (by decide) h.ou
  us := fun u hu => (h.us u hu).inn
  rf := row_of_own (fun _ => rfl) (by decide) h.of
  fs := fun f hf => ⟨(h.fs f hf).1.inn, Nat.le_trans (h.fs f hf).2 (by unfold maxLen; omega)⟩
  rk := row_of_own (fun _ => rfl) (by decide) h.ok
  ks := fun k hk => (h.ks k hk).1
theorem TI.off {z : World} {B g : Nat} {t : Tab} (h : TI z B t) (hg : g < B ∨ z.heap.size ≤ g) : TOff g t where
  c := fun e => by have := own_ob h.oc e; omega
  p := by have := h.pr.ge; have := h.pr.lt; omega
  u := fun e => by have := own_ob h.ou e; omega
  us := fun u hu => by have := (h.us u hu).ge; have := (h.us u hu).lt; omega
  f := fun e => by have := own_ob h.of e; omega
  fs := fun f hf => by have := (h.fs f hf).1.ge; have := (h.fs f hf).1.lt; omega
  k := fun e => by have := own_ob h.ok e; omega
  ks := fun k hk => by
    rcases hg with hg | hg
    · exact (h.ks k hk).2.1.off hg
    · exact (h.ks k hk).1.off hg
theorem TI.off_box {z : World} {B g : Nat} {t : Tab} {cs : Array Value} (h : TI z B t) (hb : Box z g cs 39) (hk : ∀ x ∈ t.checks, x.Off g) : TOff g t where
  c := own_box_ne h.oc hb (by decide)
  p := h.pr.ne hb (by decide)
  u := own_box_ne h.ou hb (by decide)
  us := fun u hu => (h.us u hu).ne hb (by decide)
  f := own_box_ne h.of hb (by decide)
  fs := fun f hf => (h.fs f hf).1.ne hb (by decide)
  k := own_box_ne h.ok hb (by decide)
  ks := hk
theorem TI.keep {z z' : World} {B : Nat} {t : Tab} {r : Option Nat} (h : TI z B t) (hg : z.grownBy z' r) (ho : ∀ g, r = some g → TOff g t) : TI z' B t where
  oc := own_keep h.oc hg fun g e => (ho g e).c
  ou := own_keep h.ou hg fun g e => (ho g e).u
  of := own_keep h.of hg fun g e => (ho g e).f
  ok := own_keep h.ok hg fun g e => (ho g e).k
  nm := h.nm
  cs := h.cs
  pr := h.pr.keep hg fun g e => (ho g e).p
  us := fun u hu => (h.us u hu).keep hg fun g e => (ho g e).us u hu
  fs := fun f hf => ⟨(h.fs f hf).1.keep hg fun g e => (ho g e).fs f hf, (h.fs f hf).2⟩
  ks := fun k hk => ⟨by
    cases r with
    | none => exact (h.ks k hk).1.grownOff ((h.ks k hk).1.off (Nat.le_refl _)) (hg.but _)
    | some g => exact (h.ks k hk).1.grownOff ((ho g rfl).ks k hk) hg, (h.ks k hk).2⟩
theorem TI.keepB {z z' : World} {B b : Nat} {t : Tab} (h : TI z B t) (hg : z.grownBy z' (some b)) (hb : b < B) : TI z' B t := h.keep hg fun g e => h.off (by injection e with e; omega)
theorem TI.keepA {z : World} {B : Nat} {t : Tab} (h : TI z B t) (o : Obj) : TI (z.alloc o) B t := h.keep (only_below (belA o) none) fun g e => by cases e

theorem fm_snoc {α : Type} (cells : α → List Value) (xs : List α) (x : α) : (xs ++ [x]).flatMap cells = xs.flatMap cells ++ cells x := by simp
/-- A column is appended. -/
theorem TI.col {z z' : World} {B g cap : Nat} {t : Tab} {c : Col} (h : TI z B t)
    (ho : z'.ownsRow B 41 3 (.slice (some ⟨g, 0, none⟩) (t.cols.length + 1) cap) (t.cols.length + 1) (t.cols.flatMap Col.cells ++ Col.cells c)) (hg : z.grownBy z' t.ch.ob)
    (hk : ∀ x ∈ t.checks, ∀ g, t.ch.ob = some g → x.Off g) (hc : c.name.size ≤ 100 ∧ int64 c.typ) : TI z' B { t with ch := ⟨some ⟨g, 0, none⟩, cap⟩, cols := t.cols ++ [c] } where
  oc := by
    show z'.ownsRow B _ 3 (.slice (some ⟨g, 0, none⟩) (t.cols ++ [c]).length cap) (t.cols ++ [c]).length ((t.cols ++ [c]).flatMap Col.cells)
    rw [fm_snoc, List.length_append]
    exact ho
  ou := own_keep h.ou hg fun g e => own_ob_ne h.ou h.oc (by decide) e
  of := own_keep h.of hg fun g e => own_ob_ne h.of h.oc (by decide) e
  ok := own_keep h.ok hg fun g e => own_ob_ne h.ok h.oc (by decide) e
  nm := h.nm
  cs := fun x hx => by
    rcases List.mem_append.1 hx with hx | hx
    · exact h.cs x hx
    · rw [List.mem_singleton.1 hx]; exact hc
  pr := h.pr.keep hg fun g e => h.pr.neo h.oc (by decide) e
  us := fun u hu => (h.us u hu).keep hg fun g e => (h.us u hu).neo h.oc (by decide) e
  fs := fun f hf => ⟨(h.fs f hf).1.keep hg fun g e => (h.fs f hf).1.neo h.oc (by decide) e, (h.fs f hf).2⟩
  ks := fun k hkk => ⟨by
    cases hr : t.ch.ob with
    | none => rw [hr] at hg; exact (h.ks k hkk).1.grownOff ((h.ks k hkk).1.off (Nat.le_refl _)) (hg.but _)
    | some g => rw [hr] at hg; exact (h.ks k hkk).1.grownOff (hk k hkk g hr) hg, (h.ks k hkk).2⟩
/-- A unique key is appended. -/
theorem TI.unq {z z' : World} {B g cap : Nat} {t : Tab} {c : IL} (h : TI z B t)
    (ho : z'.ownsRow B 22 1 (.slice (some ⟨g, 0, none⟩) (t.uniqs.length + 1) cap) (t.uniqs.length + 1) (t.uniqs.flatMap IL.cells ++ IL.cells c)) (hg : z.grownBy z' t.uh.ob)
    (hk : ∀ x ∈ t.checks, ∀ g, t.uh.ob = some g → x.Off g) (hc : One z B c) : TI z' B { t with uh := ⟨some ⟨g, 0, none⟩, cap⟩, uniqs := t.uniqs ++ [c] } where
  oc := own_keep h.oc hg fun g e => own_ob_ne h.oc h.ou (by decide) e
  ou := by
    show z'.ownsRow B _ 1 (.slice (some ⟨g, 0, none⟩) (t.uniqs ++ [c]).length cap) (t.uniqs ++ [c]).length ((t.uniqs ++ [c]).flatMap IL.cells)
    rw [fm_snoc, List.length_append]
    exact ho
  of := own_keep h.of hg fun g e => own_ob_ne h.of h.ou (by decide) e
  ok := own_keep h.ok hg fun g e => own_ob_ne h.ok h.ou (by decide) e
  nm := h.nm
  cs := h.cs
  pr := h.pr.keep hg fun g e => h.pr.neo h.ou (by decide) e
  us := fun x hx => by
    rcases List.mem_append.1 hx with hx | hx
    · exact (h.us x hx).keep hg fun g e => (h.us x hx).neo h.ou (by decide) e
    · rw [List.mem_singleton.1 hx]; exact hc.keep hg fun g e => hc.neo h.ou (by decide) e
  fs := fun f hf => ⟨(h.fs f hf).1.keep hg fun g e => (h.fs f hf).1.neo h.ou (by decide) e, (h.fs f hf).2⟩
  ks := fun k hkk => ⟨by
    cases hr : t.uh.ob with
    | none => rw [hr] at hg; exact (h.ks k hkk).1.grownOff ((h.ks k hkk).1.off (Nat.le_refl _)) (hg.but _)
    | some g => rw [hr] at hg; exact (h.ks k hkk).1.grownOff (hk k hkk g hr) hg, (h.ks k hkk).2⟩
/-- A foreign key is appended. -/
theorem TI.frn {z z' : World} {B g cap : Nat} {t : Tab} {c : Frn} (h : TI z B t)
    (ho : z'.ownsRow B 43 2 (.slice (some ⟨g, 0, none⟩) (t.fors.length + 1) cap) (t.fors.length + 1) (t.fors.flatMap Frn.cells ++ Frn.cells c)) (hg : z.grownBy z' t.fh.ob)
    (hk : ∀ x ∈ t.checks, ∀ g, t.fh.ob = some g → x.Off g) (hc : One z B c.cols ∧ c.tab.size ≤ 100) : TI z' B { t with fh := ⟨some ⟨g, 0, none⟩, cap⟩, fors := t.fors ++ [c] } where
  oc := own_keep h.oc hg fun g e => own_ob_ne h.oc h.of (by decide) e
  ou := own_keep h.ou hg fun g e => own_ob_ne h.ou h.of (by decide) e
  of := by
    show z'.ownsRow B _ 2 (.slice (some ⟨g, 0, none⟩) (t.fors ++ [c]).length cap) (t.fors ++ [c]).length ((t.fors ++ [c]).flatMap Frn.cells)
    rw [fm_snoc, List.length_append]
    exact ho
  ok := own_keep h.ok hg fun g e => own_ob_ne h.ok h.of (by decide) e
  nm := h.nm
  cs := h.cs
  pr := h.pr.keep hg fun g e => h.pr.neo h.of (by decide) e
  us := fun u hu => (h.us u hu).keep hg fun g e => (h.us u hu).neo h.of (by decide) e
  fs := fun x hx => by
    rcases List.mem_append.1 hx with hx | hx
    · exact ⟨(h.fs x hx).1.keep hg fun g e => (h.fs x hx).1.neo h.of (by decide) e, (h.fs x hx).2⟩
    · rw [List.mem_singleton.1 hx]; exact ⟨hc.1.keep hg fun g e => hc.1.neo h.of (by decide) e, hc.2⟩
  ks := fun k hkk => ⟨by
    cases hr : t.fh.ob with
    | none => rw [hr] at hg; exact (h.ks k hkk).1.grownOff ((h.ks k hkk).1.off (Nat.le_refl _)) (hg.but _)
    | some g => rw [hr] at hg; exact (h.ks k hkk).1.grownOff (hk k hkk g hr) hg, (h.ks k hkk).2⟩
/-- A check is appended. -/
theorem TI.chk {z z' : World} {B g cap : Nat} {t : Tab} {c : Ex} (h : TI z B t)
    (ho : z'.ownsRow B 45 6 (.slice (some ⟨g, 0, none⟩) (t.checks.length + 1) cap) (t.checks.length + 1) (t.checks.flatMap Ex.cells ++ Ex.cells c)) (hg : z.grownBy z' t.kh.ob)
    (hk : ∀ x ∈ t.checks ++ [c], ∀ g, t.kh.ob = some g → x.Off g) (hc : c.In z ∧ c.Fresh B ∧ c.size ≤ 21) : TI z' B { t with kh := ⟨some ⟨g, 0, none⟩, cap⟩, checks := t.checks ++ [c] } where
  oc := own_keep h.oc hg fun g e => own_ob_ne h.oc h.ok (by decide) e
  ou := own_keep h.ou hg fun g e => own_ob_ne h.ou h.ok (by decide) e
  of := own_keep h.of hg fun g e => own_ob_ne h.of h.ok (by decide) e
  ok := by
    show z'.ownsRow B _ 6 (.slice (some ⟨g, 0, none⟩) (t.checks ++ [c]).length cap) (t.checks ++ [c]).length ((t.checks ++ [c]).flatMap Ex.cells)
    rw [fm_snoc, List.length_append]
    exact ho
  nm := h.nm
  cs := h.cs
  pr := h.pr.keep hg fun g e => h.pr.neo h.ok (by decide) e
  us := fun u hu => (h.us u hu).keep hg fun g e => (h.us u hu).neo h.ok (by decide) e
  fs := fun f hf => ⟨(h.fs f hf).1.keep hg fun g e => (h.fs f hf).1.neo h.ok (by decide) e, (h.fs f hf).2⟩
  ks := fun k hkk => by
    have hk' : k.In z ∧ k.Fresh B ∧ k.size ≤ 21 := by
      rcases List.mem_append.1 hkk with hx | hx
      · exact h.ks k hx
      · rw [List.mem_singleton.1 hx]; exact hc
    refine ⟨?_, hk'.2⟩
    cases hr : t.kh.ob with
    | none => rw [hr] at hg; exact hk'.1.grownOff (hk'.1.off (Nat.le_refl _)) (hg.but _)
    | some g => rw [hr] at hg; exact hk'.1.grownOff (hk k hkk g hr) hg
end Go.Proofs.YtmnbhdhgjbgidaaDoor

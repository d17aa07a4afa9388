/- SchemaSpoilt: for every list, two numbers and a name the law returns true, and they read as they did. The package variable expression.operations starts as the program's text lays it (the card ties that to the text). No other condition. -/
import Derived.Test.YtmnbhdhgjbgidaaDoorGV
import Derived.Test.YtmnbhdhgjbgidaaDoorMadeZ
import Derived.Test.YtmnbhdhgjbgidaaDoorOps
import Derived.Test.YtmnbhdhgjbgidaaDoorRows
import Derived.Test.YtmnbhdhgjbgidaaDoorProg
import Derived.Test.YtmnbhdhgjbgidaaDoorData
import Derived.Test.YtmnbhdhgjbgidaaDoorCards
import Derived.Test.YtmnbhdhgjbgidaaDoorTie
import Derived.Test.YtmnbhdhgjbgidaaDoorGU
import Derived.Deep.CutBlock
import Derived.Deep.DeepCutAuto
import Derived.OpenShut
import Derived.Lib.LaidU8
import Derived.ProofKit
import Derived.KernelRfl
import Derived.WalkKit
import Derived.ShutString
import Derived.ChangeOld
import Derived.Deep.DeepHandedRow
/- A made schema one of whose fields is changed: plain facts. -/
namespace Go.Proofs.YtmnbhdhgjbgidaaDoor
open Go.RowKit

/-- One cell of a row of structs is changed. -/
theorem fm_set {α : Type} {cells : α → List Value} {size : Nat} (hs : ∀ x, (cells x).length = size) {x' : α} {j : Nat} {v : Value} (hj : j < size) : ∀ (xs : List α) (i : Nat) (hi : i < xs.length), cells x' = (cells xs[i]).set j v →
    (xs.flatMap cells).set (i * size + j) v = (xs.set i x').flatMap cells := by
  intro xs
  induction xs with
  | nil => intro i hi; simp at hi
  | cons x xs ih =>
    intro i hi hx
    cases i with
    | zero =>
      simp only [List.flatMap_cons, Nat.zero_mul, Nat.zero_add, List.set_cons_zero]
      rw [List.set_append_left _ _ (by rw [hs]; exact hj)]
      simp only [List.getElem_cons_zero] at hx
      rw [hx]
    | succ i =>
      simp only [List.flatMap_cons, List.set_cons_succ]
      rw [List.set_append_right _ _ (by rw [hs, Nat.add_mul]; omega), hs]
      have e : (i + 1) * size + j - size = i * size + j := by rw [Nat.add_mul]; omega
      rw [e, ih i (by simpa using hi) (by simpa using hx)]
theorem fm_same {α : Type} {cells : α → List Value} {x' : α} : ∀ (xs : List α) (i : Nat) (hi : i < xs.length), cells x' = cells xs[i] → (xs.set i x').flatMap cells = xs.flatMap cells := by
  intro xs
  induction xs with
  | nil => intro i hi; simp at hi
  | cons x xs ih =>
    intro i hi hx
    cases i with
    | zero => simp only [List.set_cons_zero, List.flatMap_cons]; rw [hx]; rfl
    | succ i => simp only [List.set_cons_succ, List.flatMap_cons]; rw [ih i (by simpa using hi) (by simpa using hx)]
/-- The header of a row that is not empty. -/
theorem own_hd {z : World} {B n size : Nat} {e : TypeId} {h : Hd} {xs : List Value} (ho : z.ownsRow B e size (.slice h.ao n h.cap) n xs) (hn : 0 < n) : ∃ g cap, h = ⟨some ⟨g, 0, none⟩, cap⟩ := by
  obtain ⟨ao, cap⟩ := h
  rcases ho.2 with ⟨-, h2⟩ | ⟨g, cap', cur, h1, -⟩
  · omega
  · injection h1 with h2 _ h3
    dsimp only at h2 h3
    subst h2 h3
    exact ⟨g, _, rfl⟩
/-- A longer row is a shorter one, too. -/
theorem own_trunc {z : World} {B n size g cap : Nat} {e : TypeId} {xs ys : List Value} (ho : z.ownsRow B e size (.slice (some ⟨g, 0, none⟩) (n + 1) cap) (n + 1) (xs ++ ys)) (hx : xs.length = n * size) : z.ownsRow B e size (.slice (some ⟨g, 0, none⟩) n cap) n xs := by
  refine ⟨hx, .inr ?_⟩
  rcases ho.2 with ⟨-, h2⟩ | ⟨g', cap', cur, h1, hb, hg, hn, hm, hc, ht⟩
  · omega
  · injection h1 with h2 _ h3
    injection h2 with h2
    injection h2 with h2
    subst h2 h3
    refine ⟨g, cap, cur, rfl, hb, hg, by omega, hm, hc, ?_⟩
    have h4 : (cur.toList.take ((n + 1) * size)).take (n * size) = xs := by
      rw [ht, ← hx, List.take_append_of_le_length (Nat.le_refl _), List.take_length]
    rw [List.take_take, Nat.min_eq_left (Nat.mul_le_mul_right _ (by omega))] at h4
    exact h4

theorem TI.off_own {z : World} {B B0 g n cap : Nat} {t : Tab} {xs : List Value} (h : TI z B t) (ho : z.ownsRow B0 39 6 (.slice (some ⟨g, 0, none⟩) n cap) n xs) (hk : ∀ x ∈ t.checks, x.Off g) : TOff g t :=
  have ho' : z.ownsRow B0 39 6 (.slice (⟨some ⟨g, 0, none⟩, cap⟩ : Hd).ao n (⟨some ⟨g, 0, none⟩, cap⟩ : Hd).cap) n xs := ho
  { c := own_ob_ne h.oc ho' (by decide) rfl
    p := h.pr.neo ho' (by decide) rfl
    u := own_ob_ne h.ou ho' (by decide) rfl
    us := fun u hu => (h.us u hu).neo ho' (by decide) rfl
    f := own_ob_ne h.of ho' (by decide) rfl
    fs := fun f hf => (h.fs f hf).1.neo ho' (by decide) rfl
    k := own_ob_ne h.ok ho' (by decide) rfl
    ks := hk }
/-- A column is changed. -/
theorem TI.reC {z z' : World} {B g : Nat} {t : Tab} {cs : List Col} (h : TI z B t) (hg : z.grownBy z' (some g)) (hob : t.ch.ob = some g)
    (ho : z'.ownsRow B 41 3 (.slice t.ch.ao cs.length t.ch.cap) cs.length (cs.flatMap Col.cells)) (hc : ∀ c ∈ cs, c.name.size ≤ 100 ∧ int64 c.typ) (hk : ∀ x ∈ t.checks, x.Off g) : TI z' B { t with cols := cs } where
  oc := ho
  ou := own_keep h.ou hg fun g' e => own_ob_ne h.ou h.oc (by decide) (hob.trans e)
  of := own_keep h.of hg fun g' e => own_ob_ne h.of h.oc (by decide) (hob.trans e)
  ok := own_keep h.ok hg fun g' e => own_ob_ne h.ok h.oc (by decide) (hob.trans e)
  nm := h.nm
  cs := hc
  pr := h.pr.keep hg fun g' e => h.pr.neo h.oc (by decide) (hob.trans e)
  us := fun u hu => (h.us u hu).keep hg fun g' e => (h.us u hu).neo h.oc (by decide) (hob.trans e)
  fs := fun f hf => ⟨(h.fs f hf).1.keep hg fun g' e => (h.fs f hf).1.neo h.oc (by decide) (hob.trans e), (h.fs f hf).2⟩
  ks := fun k hkk => ⟨(h.ks k hkk).1.grownOff (hk k hkk) hg, (h.ks k hkk).2⟩
/-- The checks are changed. -/
theorem TI.reK {z z' : World} {B g : Nat} {t : Tab} {cs : List Ex} (h : TI z B t) (hg : z.grownBy z' (some g)) (hob : t.kh.ob = some g)
    (ho : z'.ownsRow B 45 6 (.slice t.kh.ao cs.length t.kh.cap) cs.length (cs.flatMap Ex.cells)) (hk : ∀ k ∈ cs, k.In z' ∧ k.Fresh B ∧ k.size ≤ 21) : TI z' B { t with checks := cs } where
  oc := own_keep h.oc hg fun g' e => own_ob_ne h.oc h.ok (by decide) (hob.trans e)
  ou := own_keep h.ou hg fun g' e => own_ob_ne h.ou h.ok (by decide) (hob.trans e)
  of := own_keep h.of hg fun g' e => own_ob_ne h.of h.ok (by decide) (hob.trans e)
  ok := ho
  nm := h.nm
  cs := h.cs
  pr := h.pr.keep hg fun g' e => h.pr.neo h.ok (by decide) (hob.trans e)
  us := fun u hu => (h.us u hu).keep hg fun g' e => (h.us u hu).neo h.ok (by decide) (hob.trans e)
  fs := fun f hf => ⟨(h.fs f hf).1.keep hg fun g' e => (h.fs f hf).1.neo h.ok (by decide) (hob.trans e), (h.fs f hf).2⟩
  ks := hk
/-- The unique keys' row has a new header. -/
theorem TI.hdU {z z' : World} {B g cap : Nat} {t : Tab} {ys : List Value} (h : TI z B t)
    (ho : z'.ownsRow B 22 1 (.slice (some ⟨g, 0, none⟩) (t.uniqs.length + 1) cap) (t.uniqs.length + 1) (t.uniqs.flatMap IL.cells ++ ys)) (hg : z.grownBy z' t.uh.ob)
    (hk : ∀ x ∈ t.checks, ∀ g, t.uh.ob = some g → x.Off g) : TI z' B { t with uh := ⟨some ⟨g, 0, none⟩, cap⟩ } where
  oc := own_keep h.oc hg fun g e => own_ob_ne h.oc h.ou (by decide) e
  ou := own_trunc ho h.ou.1
  of := own_keep h.of hg fun g e => own_ob_ne h.of h.ou (by decide) e
  ok := own_keep h.ok hg fun g e => own_ob_ne h.ok h.ou (by decide) e
  nm := h.nm
  cs := h.cs
  pr := h.pr.keep hg fun g e => h.pr.neo h.ou (by decide) e
  us := fun x hx => (h.us x hx).keep hg fun g e => (h.us x hx).neo h.ou (by decide) e
  fs := fun f hf => ⟨(h.fs f hf).1.keep hg fun g e => (h.fs f hf).1.neo h.ou (by decide) e, (h.fs f hf).2⟩
  ks := fun k hkk => ⟨by
    cases hr : t.uh.ob with
    | none => rw [hr] at hg; exact (h.ks k hkk).1.grownOff ((h.ks k hkk).1.off (Nat.le_refl _)) (hg.but _)
    | some g => rw [hr] at hg; exact (h.ks k hkk).1.grownOff (hk k hkk g hr) hg, (h.ks k hkk).2⟩

/-- The tables of a made schema, in a world. -/
structure SK (z : World) (B g cap : Nat) (ts : List Tab) : Prop where
  own : z.ownsRow B 39 6 (.slice (some ⟨g, 0, none⟩) ts.length cap) ts.length (ts.flatMap Tab.cells)
  tis : ∀ t ∈ ts, TI z B t ∧ TFin t
  off : ∀ t ∈ ts, TOff g t
  pw : ts.Pairwise fun t t' => TDis t t' ∧ TDis t' t
theorem SK.below {z z' : World} {B g cap : Nat} {ts : List Tab} (s : SK z B g cap ts) (hb : Below z.heap.size z z') : SK z' B g cap ts :=
  ⟨s.own.kept (only_below hb none) (by simp [Value.ownBlock]), fun t ht => ⟨(s.tis t ht).1.keep (only_below hb none) (fun g e => by cases e), (s.tis t ht).2⟩, s.off, s.pw⟩
theorem SK.tape {z z' : World} {B g cap b : Nat} {ts : List Tab} (s : SK z B g cap ts) (hg : z.grownBy z' (some b)) (hb : b < B) : SK z' B g cap ts :=
  ⟨own_keep (h := ⟨some ⟨g, 0, none⟩, cap⟩) s.own hg (fun g' e e' => by have := (own_ob (h := ⟨some ⟨g, 0, none⟩, cap⟩) s.own e').1; injection e with e; omega), fun t ht => ⟨(s.tis t ht).1.keepB hg hb, (s.tis t ht).2⟩, s.off, s.pw⟩
theorem SK.dis {z : World} {B g cap : Nat} {ts : List Tab} (s : SK z B g cap ts) {i j : Nat} (hi : i < ts.length) (hj : j < ts.length) (hne : j ≠ i) {g' : Nat} (hg : RowBlk ts[i] g') : TOff g' ts[j] := by
  have hp := List.pairwise_iff_getElem.1 s.pw
  rcases Nat.lt_or_gt_of_ne hne with h | h
  · exact (hp j i hj hi h).2 g' hg
  · exact (hp i j hi hj h).1 g' hg
/-- A schema as it is behind the change. -/
structure SFit (z : World) (g cap : Nat) (ts : List Tab) : Prop where
  sin : (⟨⟨some ⟨g, 0, none⟩, cap⟩, ts⟩ : Sch).In z
  sok : SchOk ⟨⟨some ⟨g, 0, none⟩, cap⟩, ts⟩
theorem SFit.below {z z' : World} {g cap : Nat} {ts : List Tab} (s : SFit z g cap ts) (hb : Below z.heap.size z z') : SFit z' g cap ts := ⟨s.sin.mono hb, s.sok⟩
theorem okU_of {t : Tab} (h : t.uniqs = [] → t.uh = nilHd) : okU t := by
  by_cases e : t.uniqs = []
  · right; rw [h e]; rfl
  · left; exact List.length_pos_iff.2 e
/-- Table i is another one. -/
theorem fit_set {z : World} {B g cap i : Nat} {ts : List Tab} {t' : Tab} (ho : z.ownsRow B 39 6 (.slice (some ⟨g, 0, none⟩) ts.length cap) ts.length ((ts.set i t').flatMap Tab.cells))
    (hin : ∀ j (hj : j < ts.length), j ≠ i → ts[j].In z) (hfin : ∀ t ∈ ts, TFin t) (hsz : ∀ t ∈ ts, ∀ k ∈ t.checks, k.size ≤ 21) (hin' : t'.In z) (hu : okU t') (hk : ∀ k ∈ t'.checks, k.size ≤ 21) : SFit z g cap (ts.set i t') where
  sin :=
    { rt := by
        have hl : (ts.set i t').length = ts.length := by simp
        rw [← hl] at ho
        exact row_of_own (h := ⟨some ⟨g, 0, none⟩, cap⟩) (fun _ => rfl) (by decide) ho
      ts := fun x hx => by
        obtain ⟨j, hj, rfl⟩ := List.getElem_of_mem hx
        rw [List.getElem_set]
        split
        · exact hin'
        · exact hin j (by simpa using hj) (by omega) }
  sok :=
    { us := fun x hx => by
        rcases List.mem_or_eq_of_mem_set hx with h | rfl
        · exact okU_of (hfin x h).nu
        · exact hu
      cs := fun x hx c hc => by
        rcases List.mem_or_eq_of_mem_set hx with h | rfl
        · exact Nat.le_trans (hsz x h c hc) (by decide)
        · exact Nat.le_trans (hk c hc) (by decide) }
theorem SK.here {z : World} {B g cap : Nat} {ts : List Tab} (s : SK z B g cap ts) : SFit z g cap ts where
  sin := { rt := row_of_own (h := ⟨some ⟨g, 0, none⟩, cap⟩) (fun _ => rfl) (by decide) s.own, ts := fun t ht => (s.tis t ht).1.inn }
  sok := { us := fun t ht => okU_of (s.tis t ht).2.nu, cs := fun t ht c hc => Nat.le_trans ((s.tis t ht).1.ks c hc).2.2 (by decide) }

/-- A field of a table is written: z1 is the world ahead of the write, t1 the table as it will be. -/
theorem SK.put {z z1 : World} {B g cap i j : Nat} {ts : List Tab} {t1 : Tab} {v : Value} {r : Option Nat} (s : SK z B g cap ts) (hi : i < ts.length) (hj : j < 6) (hg : z.grownBy z1 r) (hr : ∀ g', r = some g' → RowBlk ts[i] g')
    (hc : t1.cells = ts[i].cells.set j v) (hin : ∀ (w' : World), z1.grownBy w' (some g) → (w'.ownsRow B 39 6 (.slice (some ⟨g, 0, none⟩) ts.length cap) ts.length ((ts.set i t1).flatMap Tab.cells)) → t1.In w') (hu : okU t1) (hk : ∀ k ∈ t1.checks, k.size ≤ 21) :
    SFit (z1.setCell ⟨g, i * 6 + j, none⟩ v) g cap (ts.set i t1) := by
  have hgr : ∀ g', r = some g' → g' ≠ g := fun g' e => by
    have h2 := s.off _ (List.getElem_mem hi)
    rintro rfl
    rcases hr _ e with h | h | h | h
    · exact h2.c h
    · exact h2.u h
    · exact h2.f h
    · exact h2.k h
  have ho1 := own_keep (h := ⟨some ⟨g, 0, none⟩, cap⟩) s.own hg (fun g' e e' => hgr g' e (by simpa [Hd.ob] using e'.symm))
  obtain ⟨ho2, hg2⟩ := World.ownsRow.stored ho1 (i * 6 + j) v
  rw [fm_set (cells := Tab.cells) (size := 6) (fun _ => rfl) hj ts i hi hc] at ho2
  refine fit_set ho2 (fun k hkk hne => ?_) (fun t ht => (s.tis t ht).2) (fun t ht k hk => ((s.tis t ht).1.ks k hk).2.2) (hin _ hg2 ho2) hu hk
  have h1 := (s.tis _ (List.getElem_mem hkk)).1.keep hg (fun g' e => s.dis hi hkk hne (hr g' e))
  exact (h1.keep hg2 (fun g' e => by injection e with e; subst e; exact s.off _ (List.getElem_mem hkk))).inn
/-- What holds behind an append to a row of table i. -/
theorem SK.grow {w z z1 : World} {B g cap i c : Nat} {ts : List Tab} {r : Option Nat} {cs : Array Value} (s : SK z B g cap ts) (hi : i < ts.length) (hg : z.grownBy z1 r) (hr : ∀ g', r = some g' → RowBlk ts[i] g')
    (hbx : Box z c cs 28) (hw : Below w.heap.size w z) (hwB : w.heap.size ≤ B) :
    z1.ownsRow B 39 6 (.slice (some ⟨g, 0, none⟩) ts.length cap) ts.length (ts.flatMap Tab.cells) ∧ (∀ (j : Nat) (v : Value), ts[i].cells[j]? = some v → z1.cell? ⟨g, i * 6 + j, none⟩ = some v) ∧ (∀ j, z1.frozen? ⟨g, j, none⟩ = false) ∧ Box z1 c cs 28 ∧ Below w.heap.size w z1 := by
  have h2 := s.off _ (List.getElem_mem hi)
  have h3 := (s.tis _ (List.getElem_mem hi)).1
  have hgr : ∀ g', r = some g' → g' ≠ g := fun g' e => by
    rintro rfl
    rcases hr _ e with h | h | h | h
    · exact h2.c h
    · exact h2.u h
    · exact h2.f h
    · exact h2.k h
  have ho1 := own_keep (h := ⟨some ⟨g, 0, none⟩, cap⟩) s.own hg (fun g' e e' => hgr g' e (by simpa [Hd.ob] using e'.symm))
  have hrow := row_of_own (h := ⟨some ⟨g, 0, none⟩, cap⟩) (cells := Tab.cells) (fun _ => rfl) (by decide) ho1
  refine ⟨ho1, fun j v hv => ?_, fun j => World.ownsRow.frozenAt ho1 j, hbx.grown hg (fun e => ?_), hw.grown hg hw.size (fun k hk => ?_)⟩
  · have := hrow.2.2.2 i hi j v hv
    simpa [Hd.b, Hd.o] using this
  · rcases hr _ e.symm with h | h | h | h
    · exact own_box_ne h3.oc hbx (by decide) h
    · exact own_box_ne h3.ou hbx (by decide) h
    · exact own_box_ne h3.of hbx (by decide) h
    · exact own_box_ne h3.ok hbx (by decide) h
  · exact Nat.le_trans hwB (h3.rowblk (hr _ hk)).1
/-- A column's field is written. -/
theorem SK.col {z : World} {B g cap i c k gc cc : Nat} {ts : List Tab} {x : Col} {v : Value} (s : SK z B g cap ts) (hi : i < ts.length) (hh : ts[i].ch = ⟨some ⟨gc, 0, none⟩, cc⟩) (hc : c < ts[i].cols.length) (hk : k < 3)
    (hx : x.cells = ts[i].cols[c].cells.set k v) (hw : x.name.size ≤ 100 ∧ int64 x.typ) :
    SFit (z.setCell ⟨gc, c * 3 + k, none⟩ v) g cap (ts.set i { ts[i] with cols := ts[i].cols.set c x }) := by
  have hti := (s.tis _ (List.getElem_mem hi)).1
  have hfin := (s.tis _ (List.getElem_mem hi)).2
  have hoc := hti.oc
  rw [hh] at hoc
  obtain ⟨ho2, hg2⟩ := World.ownsRow.stored hoc (c * 3 + k) v
  rw [fm_set (cells := Col.cells) (size := 3) (fun _ => rfl) hk _ c hc hx] at ho2
  have hob : ts[i].ch.ob = some gc := by rw [hh]; rfl
  have hrb : RowBlk ts[i] gc := .inl hob
  have h1 : TI (z.setCell ⟨gc, c * 3 + k, none⟩ v) B { ts[i] with cols := ts[i].cols.set c x } := by
    refine hti.reC hg2 hob ?_ (fun y hy => ?_) (fun e he => hfin.kd e he gc hrb)
    · rw [hh, List.length_set]; exact ho2
    · rcases List.mem_or_eq_of_mem_set hy with h | rfl
      · exact hti.cs y h
      · exact hw
  have hne : gc ≠ g := fun e => (s.off _ (List.getElem_mem hi)).c (by rw [hob, e])
  have ho1 := own_keep (h := ⟨some ⟨g, 0, none⟩, cap⟩) s.own hg2 (fun g' e e' => by
    have h1 : g = g' := by simpa [Hd.ob] using e'
    have h2 : gc = g' := by injection e
    exact hne (h2.trans h1.symm))
  have he : (ts.set i { ts[i] with cols := ts[i].cols.set c x }).flatMap Tab.cells = ts.flatMap Tab.cells := fm_same ts i hi (by simp [Tab.cells])
  refine fit_set (by rw [he]; exact ho1) (fun j hj hne => ?_) (fun t ht => (s.tis t ht).2) (fun t ht k hk => ((s.tis t ht).1.ks k hk).2.2) h1.inn (okU_of hfin.nu) (fun k hk => (hti.ks k hk).2.2)
  exact ((s.tis _ (List.getElem_mem hj)).1.keep hg2 (fun g' e => by injection e with e; subst e; exact s.dis hi hj hne hrb)).inn
theorem SchOut.sk {w z : World} {b a : Nat} {L : IL} {g cap : Nat} {ts : List Tab} (o : SchOut w z b L a ⟨some ⟨g, 0, none⟩, cap⟩ ts) : SK z (w.heap.size + 2) g cap ts :=
  ⟨o.own, o.tis, fun t ht => o.off t ht g rfl, o.pw⟩

/-- A table to which a unique key of two columns was appended. -/
theorem unq_in {z w' : World} {B B0 g n cap g2 cap2 u : Nat} {t : Tab} {a1 a2 : Int} {xs : List Value} (h : TI z B { t with uh := ⟨some ⟨g2, 0, none⟩, cap2⟩ })
    (ho : z.ownsRow B 22 1 (.slice (some ⟨g2, 0, none⟩) (t.uniqs.length + 1) cap2) (t.uniqs.length + 1) (t.uniqs.flatMap IL.cells ++ [.slice (some ⟨u, 0, none⟩) 2 2])) (hT : z.ownsRow B0 39 6 (.slice (some ⟨g, 0, none⟩) n cap) n xs)
    (hk : ∀ x ∈ t.checks, x.Off g) (hb : Box z u #[.int .i64 a1, .int .i64 a2] 3) (hug : u ≠ g) (hg : z.grownBy w' (some g)) (h1 : int64 a1) (h2 : int64 a2) :
    ({ t with uh := ⟨some ⟨g2, 0, none⟩, cap2⟩, uniqs := t.uniqs ++ [⟨⟨some ⟨u, 0, none⟩, 2⟩, [a1, a2]⟩] } : Tab).In w' := by
  have hI := (h.keep hg (fun g' e => by injection e with e; subst e; exact h.off_own hT hk)).inn
  have hR := own_keep (h := ⟨some ⟨g2, 0, none⟩, cap2⟩) ho hg (fun g' e => own_ob_ne (h := ⟨some ⟨g2, 0, none⟩, cap2⟩) (h' := ⟨some ⟨g, 0, none⟩, cap⟩) ho hT (by decide) e)
  have hB := hb.grown hg (by simp; exact hug)
  have hc : (⟨⟨some ⟨u, 0, none⟩, 2⟩, [a1, a2]⟩ : IL).In w' := ⟨row_of_box (xs := [a1, a2]) (cells := icells) (size := 1) (fun _ => rfl) (by show 2 ≤ maxLen; unfold maxLen; omega) hB, fun m hm => by
    simp only [List.mem_cons, List.not_mem_nil, or_false] at hm
    rcases hm with rfl | rfl
    · exact h1
    · exact h2⟩
  exact
    { nm := hI.nm, rc := hI.rc, cs := hI.cs, rp := hI.rp
      ru := row_of_own (h := ⟨some ⟨g2, 0, none⟩, cap2⟩) (n := t.uniqs.length + 1) (cells := IL.cells) (fun _ => rfl) (by decide) (by show w'.ownsRow _ _ _ _ _ ((t.uniqs ++ [_]).flatMap IL.cells); rw [fm_snoc]; exact hR)
      us := fun x hx => by
        rcases List.mem_append.1 hx with hx | hx
        · exact hI.us x hx
        · rw [List.mem_singleton.1 hx]; exact hc
      rf := hI.rf, fs := hI.fs, rk := hI.rk, ks := hI.ks }

abbrev zcells : List Value := [.int .i64 0, .int .i64 0, .int .i64 0, .string ⟨#[]⟩, .int .i64 0, .slice none 0 0]
/-- A row of checks to which an empty one was appended. -/
theorem zrow {z : World} {B g2 cap2 : Nat} {xs : List Ex} (ho : z.ownsRow B 45 6 (.slice (some ⟨g2, 0, none⟩) (xs.length + 1) cap2) (xs.length + 1) (xs.flatMap Ex.cells ++ zcells)) :
    (∀ U, (Instr.indexAt 37 (.slice (some ⟨g2, 0, none⟩) (xs.length + 1) cap2) (.int .i64 (xs.length : Int))).run Tryd.prog U = .ok (.pointer (some ⟨g2, xs.length * 6, none⟩)) U) ∧ (∀ (j : Nat) (v : Value), zcells[j]? = some v → z.cell? ⟨g2, xs.length * 6 + j, none⟩ = some v) ∧ ∀ j, z.frozen? ⟨g2, j, none⟩ = false := by
  have hr := row_of_own (w := z) (base := B) (e := 45) (size := 6) (h := ⟨some ⟨g2, 0, none⟩, cap2⟩) (n := xs.length + 1) (cells := Ex.cells) (xs := xs ++ [leafEx 0 0 0 ⟨#[]⟩ 0]) (fun _ => rfl) (by decide) (by rw [fm_snoc]; exact ho)
  have hl : xs.length < (xs ++ [leafEx 0 0 0 ⟨#[]⟩ 0]).length := by simp
  refine ⟨fun U => ?_, fun j v hv => ?_, fun j => ho.frozenAt j⟩
  · have := hr.ix hl Tryd.underlying37 sz41 U
    simpa [Hd.b, Hd.o] using this
  · have hj : j < 6 := by
      have := (List.getElem?_eq_some_iff.1 hv).1
      simpa using this
    have hx : (xs.flatMap Ex.cells).length = xs.length * 6 := flatMap_len (size := 6) (fun _ => rfl) xs
    rw [ho.cellAt _ (by rw [Nat.add_mul]; omega), List.getElem?_append_right (by rw [hx]; omega), hx, Nat.add_sub_cancel_left]
    exact hv

theorem app_set {xs zs : List Value} {m j : Nat} {v : Value} (hx : xs.length = m) : (xs ++ zs).set (m + j) v = xs ++ zs.set j v := by
  subst hx
  rw [List.set_append_right _ _ (by omega), Nat.add_sub_cancel_left]
theorem set_comm {w : World} {g h j k : Nat} {u v : Value} (hne : g ≠ h) : (w.setCell ⟨g, j, none⟩ u).setCell ⟨h, k, none⟩ v = (w.setCell ⟨h, k, none⟩ v).setCell ⟨g, j, none⟩ u := by
  unfold World.setCell
  congr 1
  apply Array.ext_getElem?
  intro n
  simp only [Array.getElem?_modify]
  by_cases h1 : g = n
  · have h2 : ¬ h = n := fun e => hne (h1.trans e.symm)
    simp [h1, h2]
  · by_cases h2 : h = n
    · simp [h1, h2]
    · simp [h1, h2]
/-- The world in which the last check has been written. -/
abbrev zend (z : World) (g2 n : Nat) (tn : Int) : World := (((((z.setCell ⟨g2, n * 6, none⟩ (.int .i64 5)).setCell ⟨g2, n * 6 + 1, none⟩ (.int .i64 0)).setCell ⟨g2, n * 6 + 2, none⟩ (.int .i64 0)).setCell ⟨g2, n * 6 + 3, none⟩ (.string ⟨#[]⟩)).setCell ⟨g2, n * 6 + 4, none⟩ (.int .i64 tn)).setCell ⟨g2, n * 6 + 5, none⟩ (.slice none 0 0)
theorem zend_gb (z : World) (g2 n : Nat) (tn : Int) : z.grownBy (zend z g2 n tn) (some g2) :=
  (((((gb_set z g2 (n * 6) _).trans (gb_set _ g2 (n * 6 + 1) _)).trans (gb_set _ g2 (n * 6 + 2) _)).trans (gb_set _ g2 (n * 6 + 3) _)).trans (gb_set _ g2 (n * 6 + 4) _)).trans (gb_set _ g2 (n * 6 + 5) _)
theorem zend_own {z : World} {B g2 cap2 n : Nat} {xs : List Value} {tn : Int} (ho : z.ownsRow B 45 6 (.slice (some ⟨g2, 0, none⟩) (n + 1) cap2) (n + 1) (xs ++ zcells)) (hx : xs.length = n * 6) :
    (zend z g2 n tn).ownsRow B 45 6 (.slice (some ⟨g2, 0, none⟩) (n + 1) cap2) (n + 1) (xs ++ Ex.cells (leafEx 5 0 0 ⟨#[]⟩ tn)) := by
  have o1 := (ho.stored (n * 6 + 0) (.int .i64 5)).1
  rw [app_set hx] at o1
  have o2 := (o1.stored (n * 6 + 1) (.int .i64 0)).1
  rw [app_set hx] at o2
  have o3 := (o2.stored (n * 6 + 2) (.int .i64 0)).1
  rw [app_set hx] at o3
  have o4 := (o3.stored (n * 6 + 3) (.string ⟨#[]⟩)).1
  rw [app_set hx] at o4
  have o5 := (o4.stored (n * 6 + 4) (.int .i64 tn)).1
  rw [app_set hx] at o5
  have o6 := (o5.stored (n * 6 + 5) (.slice none 0 0)).1
  rw [app_set hx] at o6
  exact o6
theorem leaf_off (op typ num : Int) (text : ByteArray) (col : Int) (g : Nat) : (leafEx op typ num text col).Off g := ⟨_, fun h => absurd h (by show ¬ 0 < 0; omega), fun k hk => by cases hk⟩
/-- A check of one column is appended to table i. -/
theorem chk_fit {w w9 z : World} {B g cap i c g2 cap2 : Nat} {ts : List Tab} {tn : Int} {cs : Array Value} (s : SK w9 B g cap ts) (hi : i < ts.length)
    (hown : z.ownsRow B 45 6 (.slice (some ⟨g2, 0, none⟩) (ts[i].checks.length + 1) cap2) (ts[i].checks.length + 1) (ts[i].checks.flatMap Ex.cells ++ zcells)) (hgr : (w9.drew.alloc ZE).grownBy z ts[i].kh.ob)
    (hat : ts[i].kh.ob = some g2 ∨ w9.heap.size ≤ g2) (htn : int64 tn) (hbx : Box w9 c cs 28) (hw : Below w.heap.size w w9) (hwB : w.heap.size ≤ B) :
    ∃ ts' : List Tab, ts'.length = ts.length ∧ SFit ((zend z g2 ts[i].checks.length tn).setCell ⟨g, i * 6 + 5, none⟩ (.slice (some ⟨g2, 0, none⟩) (ts[i].checks.length + 1) cap2)) g cap ts' ∧
      Box ((zend z g2 ts[i].checks.length tn).setCell ⟨g, i * 6 + 5, none⟩ (.slice (some ⟨g2, 0, none⟩) (ts[i].checks.length + 1) cap2)) c cs 28 ∧ Below w.heap.size w ((zend z g2 ts[i].checks.length tn).setCell ⟨g, i * 6 + 5, none⟩ (.slice (some ⟨g2, 0, none⟩) (ts[i].checks.length + 1) cap2)) := by
  have hti := (s.tis _ (List.getElem_mem hi)).1
  have hfin := (s.tis _ (List.getElem_mem hi)).2
  have hta := (hti.keep (only_below (bel_self w9) none) (fun g e => by cases e)).keepA ZE
  have hgz : w9.grownBy z ts[i].kh.ob := ((only_below (bel_self w9) ts[i].kh.ob).trans (only_below (belA (w := w9.drew) ZE) ts[i].kh.ob)).trans hgr
  obtain ⟨hT, -, -, hbz, hwz⟩ := s.grow hi hgz (fun g' e => .inr (.inr (.inr e))) hbx hw hwB
  have hz := zend_gb z g2 ts[i].checks.length tn
  have hx : (ts[i].checks.flatMap Ex.cells).length = ts[i].checks.length * 6 := flatMap_len (size := 6) (fun _ => rfl) _
  have ho6 := zend_own (tn := tn) hown hx
  have hoff : ∀ e ∈ ts[i].checks, e.Off g2 := fun e he => by
    rcases hat with h | h
    · exact hfin.kd e he g2 (.inr (.inr (.inr h)))
    · exact (hti.ks e he).1.off h
  have hgz6 : w9.grownBy (zend z g2 ts[i].checks.length tn) ts[i].kh.ob := by
    rcases hat with h | h
    · rw [h] at hgz ⊢; exact hgz.trans hz
    · exact gbo hgz hz (fun g' e => by injection e with e; omega)
  have hT1 := hta.chk (c := leafEx 0 0 0 ⟨#[]⟩ 0) hown hgr (fun y hy g' e => by
    rcases List.mem_append.1 hy with hy | hy
    · exact hfin.kd y hy g' (.inr (.inr (.inr e)))
    · rw [List.mem_singleton.1 hy]; exact leaf_off _ _ _ _ _ _) ⟨leaf_in z64 z64 z64 (by show (0 : Nat) ≤ maxLen; omega) z64 _, leaf_fresh _ _ _ _ _ _, by rw [leaf_size]; decide⟩
  have hT2 := hT1.reK (cs := ts[i].checks ++ [leafEx 5 0 0 ⟨#[]⟩ tn]) hz rfl (by
      show World.ownsRow _ _ _ _ (.slice (some ⟨g2, 0, none⟩) (ts[i].checks ++ [_]).length cap2) (ts[i].checks ++ [_]).length ((ts[i].checks ++ [_]).flatMap Ex.cells)
      rw [fm_snoc, List.length_append]
      exact ho6) (fun e he => by
      rcases List.mem_append.1 he with he | he
      · have h1 := hT1.ks e (List.mem_append_left _ he)
        exact ⟨h1.1.grownOff (hoff e he) hz, h1.2⟩
      · rw [List.mem_singleton.1 he]
        exact ⟨leaf_in (by constructor <;> decide) z64 z64 (by show (0 : Nat) ≤ maxLen; omega) htn _, leaf_fresh _ _ _ _ _ _, by rw [leaf_size]; decide⟩)
  have hgc : g ≠ c := fun e => own_box_ne (h := ⟨some ⟨g, 0, none⟩, cap⟩) hT hbz (by decide) (by rw [e]; rfl)
  have hgc2 : g2 ≠ c := fun e => own_box_ne (h := ⟨some ⟨g2, 0, none⟩, cap2⟩) hown hbz (by decide) (by rw [e]; rfl)
  have hB1 : w.heap.size ≤ g := Nat.le_trans hwB (own_ob (h := ⟨some ⟨g, 0, none⟩, cap⟩) hT rfl).1
  have hB2 : w.heap.size ≤ g2 := Nat.le_trans hwB (own_ob (h := ⟨some ⟨g2, 0, none⟩, cap2⟩) hown rfl).1
  have hT6 := own_keep (h := ⟨some ⟨g, 0, none⟩, cap⟩) hT hz (fun g' e e' => own_ob_ne (h := ⟨some ⟨g, 0, none⟩, cap⟩) (h' := ⟨some ⟨g2, 0, none⟩, cap2⟩) hT hown (by decide) e e')
  refine ⟨_, List.length_set, s.put (t1 := { ts[i] with kh := ⟨some ⟨g2, 0, none⟩, cap2⟩, checks := ts[i].checks ++ [leafEx 5 0 0 ⟨#[]⟩ tn] }) (j := 5) hi (by decide) hgz6 (fun g' e => .inr (.inr (.inr e))) (by simp [Tab.cells]) (fun w' hg' _ => ?_) (okU_of hfin.nu) (fun k hk => (hT2.ks k hk).2.2), (hbz.grown hz (by simp; exact fun e => hgc2 e.symm)).grown (gb_set _ _ _ _) (by simp; exact fun e => hgc e.symm), ((hwz.grown hz hwz.size (fun k hk => by injection hk with hk; omega)).setCell (p := ⟨g, i * 6 + 5, none⟩) hB1 _)⟩
  refine (hT2.keep hg' (fun g' e => by
    injection e with e
    subst e
    refine hT2.off_own hT6 (fun e he => ?_)
    rcases List.mem_append.1 he with he | he
    · exact (s.off _ (List.getElem_mem hi)).ks e he
    · rw [List.mem_singleton.1 he]; exact leaf_off _ _ _ _ _ _)).inn
end Go.Proofs.YtmnbhdhgjbgidaaDoor

/- The walk of law03.SchemaSpoilt: true for every list, two numbers and a name. -/
namespace Go.Proofs.YtmnbhdhgjbgidaaDoor
open Go.RowKit

set_option maxRecDepth 100000 in
set_option maxHeartbeats 8000000 in
theorem spoilt_walk (HSA : Hid SchemaAt) (L : IL) (wh tn : Int) (nm : ByteArray) (w : World) (hL : L.In w) (hto : int64 tn) (hf : OpsAt w) (hsh : w.ShapedOpen Tryd.prog) :
    Calls Tryd.prog 3 #[.slice L.h.ao L.l.length L.h.cap, .int .i64 wh, .int .i64 tn, .string nm] w fun e w' => e = .returned (.bool true) ∧ Below w.heap.size w w' := by
  have HT := hide (show TapeIn (w.alloc (.cells #[.slice L.h.ao L.l.length L.h.cap, .int .i64 0] 25)) w.heap.size L 0 from ⟨(Box.new w _ _).cell (j := 0) rfl, (Box.new w _ _).cell (j := 1) rfl, (Box.new w _ _).fr 1, hL.mono (belA _), fun hp => by have := hL.1.blk hp; omega⟩)
  have HSHX := hide (show ∀ w' : World, Below w.heap.size w w' → w'.ShapedOpen Tryd.prog from fun w' h => hsh.keptBut (h.frame (fun _ => False)) (by simp))
  have HF := hide hf
  have HTO := hide hto
  clear hf hsh hL hto
  by_cases hn : nm.size ≤ 40
  · have hni : (nm.size : Int) ≤ 40 := by omega
    have HNM := hide hn
    clear hn
    go_enter Tryd.func3, Tryd.ntmps3
    go_upto_region 5 with (go_at_call 7; refine (HSA.out _ w.heap.size 0 L HT.out (by omega)).mono ?_; rintro e w2 ⟨h, ts, he, h1, h3, a', ha', hso⟩; obtain ⟨g, cap, rfl⟩ := own_hd hso.own (by omega); dsimp only at he; subst he; have HSK := hide hso.sk; have HTP := hide hso.tp; have HB2 := hide (grown1 (B := w.heap.size) (Below.refl _ _) (Nat.le_refl _) hso.gb (fun k hk => by injection hk with hk; omega)); clear hso)
    clear hni
    have HB3 := hide (HB2.out.trans ((belA (.cells #[.slice (some ⟨g, 0, none⟩) ts.length cap] 28)).mono HB2.out.size))
    have HS3 := hide (HSK.out.below (belA (.cells #[.slice (some ⟨g, 0, none⟩) ts.length cap] 28)))
    have HT3 := hide (HTP.out.mono (belA (.cells #[.slice (some ⟨g, 0, none⟩) ts.length cap] 28)))
    have HBX := hide (Box.new w2 #[.slice (some ⟨g, 0, none⟩) ts.length cap] 28)
    have hcw : w.heap.size < w2.heap.size := HTP.out.lt
    generalize w2.alloc (.cells #[.slice (some ⟨g, 0, none⟩) ts.length cap] 28) = W at *
    clear HSK HB2 HT HTP
    generalize w2.heap.size = c at *
    simp only [World.size_alloc] at HS3
    generalize hBB : w.heap.size + 1 + 2 = B at *
    have hbB : w.heap.size < B := by omega
    clear hBB
    have hy : ∀ w' : World, Below W.heap.size W w' → w'.cell? ⟨c, 0, none⟩ = some (.slice (some ⟨g, 0, none⟩) ts.length cap) := fun w' h => (HBX.out.below h).cell (j := 0) rfl
    go_region_held3 (fun w' => Below W.heap.size W w') ((first | exact (Below.refl _ _).drew | exact bel_trans (by assumption) (by assumption))) (first
      | (go_at_call 9; refine (rvalid_any ⟨⟨some ⟨g, 0, none⟩, cap⟩, ts⟩ _ (HS3.out.here.sin.mono (by assumption)) HS3.out.here.sok).mono ?_; rintro e w6 ⟨⟨v2, rfl, hv2⟩, hb6⟩; have HV2 := hide hv2; clear hv2)
      | (go_at_call 8; refine (valid_any ⟨⟨some ⟨g, 0, none⟩, cap⟩, ts⟩ _ (HS3.out.here.sin.mono (by assumption)) HS3.out.here.sok ((HF.out.mono HB3.out).mono (by assumption)) (HSHX.out _ (HB3.out.trans ((show Below W.heap.size W _ by assumption).mono HB3.out.size)))).mono ?_; rintro e w7 ⟨⟨v1, rfl, hv1⟩, hb7⟩; have HV1 := hide hv1; clear hv1))
    have HFIN := hide (show Below W.heap.size W w6 by assumption)
    obtain rfl : v1 = v2 := valid_one HV1.out HV2.out
    have HS6 := hide (HS3.out.below HFIN.out)
    have HT6 := hide (HT3.out.mono HFIN.out)
    have HBX6 := hide (HBX.out.below HFIN.out)
    have HBW6 := hide (HB3.out.trans (HFIN.out.mono HB3.out.size))
    clear HS3 HT3 HBX HB3 HFIN HV1 HV2 hy
    obtain ⟨i, hi, hi3⟩ := nat_next L a' (n := (ts.length : Int)) (by omega)
    have HI := hide hi
    clear hi
    have y6 := HBX6.out.cell (j := 0) rfl
    go_upto_region 8 with (go_at_call 10; refine (next_any _ w.heap.size a' L ts.length HT6.out (by omega) (by omega) ⟨by omega, by omega⟩).mono ?_; rintro e w8 ⟨rfl, ht2, hg2⟩; have HT8 := hide ht2; have HS8 := hide (HS6.out.tape hg2 hbB); have HBX8 := hide (HBX6.out.grown hg2 (by simp; omega)); have HBW8 := hide (HBW6.out.grown hg2 HBW6.out.size (fun k hk => by injection hk with hk; omega)); clear ht2 hg2; rw [HI.out])
    clear HS6 HT6 HBX6 HBW6 y6
    have hit : i < ts.length := by omega
    have hfin := (HS8.out.tis _ (List.getElem_mem hit)).2
    obtain ⟨gc, cc, hch⟩ := own_hd (HS8.out.tis _ (List.getElem_mem hit)).1.oc (by have := hfin.nc; omega)
    have hix : ∀ U, (Instr.indexAt 26 (.slice (some ⟨g, 0, none⟩) ts.length cap) (.int .i64 (i : Int))).run Tryd.prog U = .ok (.pointer (some ⟨g, i * 6, none⟩)) U := by
      intro U
      have := HS8.out.here.sin.rt.ix hit Tryd.underlying26 sz22 U
      simpa [Hd.b, Hd.o] using this
    have hcell : ∀ (j : Nat) (v : Value), ts[i].cells[j]? = some v → w8.cell? ⟨g, i * 6 + j, none⟩ = some v := fun j v hv => by
      have := HS8.out.here.sin.rt.2.2.2 i hit j v hv
      simpa [Hd.b, Hd.o] using this
    have c1 : w8.cell? ⟨g, i * 6 + 1, none⟩ = some (.slice (some ⟨gc, 0, none⟩) ts[i].cols.length cc) := hcell 1 _ (by simp [Tab.cells, hch])
    have y8 := HBX8.out.cell (j := 0) rfl
    have hnc := hfin.nc
    obtain ⟨k, hk, hk3⟩ := nat_next L (a' + 1) (n := (ts[i].cols.length : Int)) (by omega)
    have HK := hide hk
    have hkt : k < ts[i].cols.length := by omega
    clear hk
    go_upto_region 10 with (go_at_call 10; refine (next_any _ w.heap.size (a' + 1) L ts[i].cols.length HT8.out (by omega) (by omega) ⟨by omega, by omega⟩).mono ?_; rintro e w9 ⟨rfl, ht2, hg2⟩; have HS9 := hide (HS8.out.tape hg2 hbB); have HBX9 := hide (HBX8.out.grown hg2 (by simp; omega)); have HBW9 := hide (HBW8.out.grown hg2 HBW8.out.size (fun k hk => by injection hk with hk; omega)); clear ht2 hg2; rw [HK.out])
    clear HS8 HT8 HBX8 HBW8 y8 c1 hcell hix hi3 hk3 hnc
    have hcB : w.heap.size < c := hcw
    go_upto_block 0 with fail
    generalize Go.bits BinOp.and IntKind.i64 wh 7 = x
    go_cut [] (fun wx => ∃ ts' : List Tab, Hid (ts'.length = ts.length) ∧ Hid (SFit wx g cap ts') ∧ Hid (Box wx c #[.slice (some ⟨g, 0, none⟩) ts.length cap] 28) ∧ Hid (Below w.heap.size w wx))
    case first =>
      have hti := (HS9.out.tis _ (List.getElem_mem hit)).1
      have hBs : B ≤ w9.heap.size := by have := hti.pr.ge; have := hti.pr.lt; omega
      have hBg : B ≤ g ∧ g < w9.heap.size := ⟨(own_ob (h := ⟨some ⟨g, 0, none⟩, cap⟩) HS9.out.own rfl).1, (own_ob (h := ⟨some ⟨g, 0, none⟩, cap⟩) HS9.out.own rfl).2.1⟩
      have hgx : g ≠ c := fun e => own_box_ne (h := ⟨some ⟨g, 0, none⟩, cap⟩) HS9.out.own HBX9.out (by decide) (by rw [e]; rfl)
      have hoc := hti.oc
      rw [hch] at hoc
      have hgcx : gc ≠ c := fun e => own_box_ne (h := ⟨some ⟨gc, 0, none⟩, cc⟩) hoc HBX9.out (by decide) (by rw [e]; rfl)
      have hBgc : B ≤ gc := (own_ob (h := ⟨some ⟨gc, 0, none⟩, cc⟩) hoc rfl).1
      have hcell : ∀ (j : Nat) (v : Value), ts[i].cells[j]? = some v → w9.cell? ⟨g, i * 6 + j, none⟩ = some v := fun j v hv => by
        have := HS9.out.here.sin.rt.2.2.2 i hit j v hv
        simpa [Hd.b, Hd.o] using this
      have hfz : ∀ j, w9.frozen? ⟨g, j, none⟩ = false := fun j => HS9.out.own.frozenAt j
      have hrc := hti.inn.rc
      rw [hch] at hrc
      have hixc : ∀ U, (Instr.indexAt 34 (.slice (some ⟨gc, 0, none⟩) ts[i].cols.length cc) (.int .i64 (k : Int))).run Tryd.prog U = .ok (.pointer (some ⟨gc, k * 3, none⟩)) U := by
        intro U
        have := hrc.ix hkt Tryd.underlying34 sz30 U
        simpa [Hd.b, Hd.o] using this
      have hccell : ∀ (j : Nat) (v : Value), ts[i].cols[k].cells[j]? = some v → w9.cell? ⟨gc, k * 3 + j, none⟩ = some v := fun j v hv => by
        have := hrc.2.2.2 k hkt j v hv
        simpa [Hd.b, Hd.o] using this
      have hfzc : ∀ j, w9.frozen? ⟨gc, j, none⟩ = false := fun j => hoc.frozenAt j
      have HTI := hide hti
      have HFIN := hide hfin
      have HCE := hide hcell
      have HCC := hide hccell
      have HFZ := hide hfz
      have HFC := hide hfzc
      have HWF := hide (hti.cs _ (List.getElem_mem hkt))
      have HCH := hide hch
      have c1 : w9.cell? ⟨g, i * 6 + 1, none⟩ = some (.slice (some ⟨gc, 0, none⟩) ts[i].cols.length cc) := hcell 1 _ (by simp [Tab.cells, hch])
      have HC1 := hide c1
      have hwg : w.heap.size ≤ g := by omega
      have hwgc : w.heap.size ≤ gc := by omega
      clear hti hoc hcell hfz hrc hccell hfzc hfin hch c1
      by_cases h0 : x = 0
      · subst h0
        have d0 : w9.cell? ⟨g, i * 6, none⟩ = some (.string ts[i].name) := HCE.out 0 _ rfl
        have f0 := HFZ.out (i * 6)
        have HSF := hide (show SFit (w9.setCell ⟨g, i * 6 + 0, none⟩ (.string nm)) g cap (ts.set i { ts[i] with name := nm }) from HS9.out.put (t1 := { ts[i] with name := nm }) (j := 0) (v := .string nm) (r := none) hit (by decide) (only_below (Below.refl _ _) none) (fun g' e => by cases e) rfl (fun w' hg' _ => by
            have hT := HTI.out.keep hg' (fun g' e => by injection e with e; subst e; exact HS9.out.off _ (List.getElem_mem hit))
            exact (show TI w' B { ts[i] with name := nm } from ⟨hT.oc, hT.ou, hT.of, hT.ok, (by have := HNM.out; show nm.size ≤ 100; omega), hT.cs, hT.pr, hT.us, hT.fs, hT.ks⟩).inn) (okU_of HFIN.out.nu) (fun k hk => (HTI.out.ks k hk).2.2))
        go_wp2_with fail
        go_meet
        exact ⟨_, hide List.length_set, HSF.out, HBX9.out.grown (gb_set _ _ _ _) (by simp; exact fun e => hgx e.symm), HBW9.out.setCell (p := ⟨g, i * 6, none⟩) hwg _⟩
      have b0 : (x == 0) = false := beq_eq_false_iff_ne.2 h0
      by_cases h1 : x = 1
      · subst h1
        have c1 := HC1.out
        have d0 : w9.cell? ⟨gc, k * 3, none⟩ = some (.string ts[i].cols[k].name) := HCC.out 0 _ rfl
        have f0 := HFC.out (k * 3)
        go_wp2_with fail
        go_meet
        exact ⟨_, hide List.length_set, HS9.out.col (k := 0) (v := .string nm) (x := { ts[i].cols[k] with name := nm }) hit HCH.out hkt (by decide) rfl ⟨(by have := HNM.out; show nm.size ≤ 100; omega), HWF.out.2⟩,
          HBX9.out.grown (gb_set _ _ _ _) (by simp; exact fun e => hgcx e.symm), HBW9.out.setCell (p := ⟨gc, k * 3, none⟩) hwgc _⟩
      have b1 : (x == 1) = false := beq_eq_false_iff_ne.2 h1
      by_cases h2 : x = 2
      · subst h2
        have c1 := HC1.out
        have d0 : w9.cell? ⟨gc, k * 3 + 1, none⟩ = some (.int .i64 ts[i].cols[k].typ) := HCC.out 1 _ rfl
        have f0 := HFC.out (k * 3 + 1)
        go_wp2_with fail
        go_meet
        exact ⟨_, hide List.length_set, HS9.out.col (k := 1) (v := .int .i64 tn) (x := { ts[i].cols[k] with typ := tn }) hit HCH.out hkt (by decide) rfl ⟨HWF.out.1, HTO.out⟩,
          HBX9.out.grown (gb_set _ _ _ _) (by simp; exact fun e => hgcx e.symm), HBW9.out.setCell (p := ⟨gc, k * 3 + 1, none⟩) hwgc _⟩
      have b2 : (x == 2) = false := beq_eq_false_iff_ne.2 h2
      by_cases h3x : x = 3
      · subst h3x
        have HA := hide (HS9.out.own.alloc (.cells #[.int .i64 tn] 3))
        have d0 : (w9.alloc (.cells #[.int .i64 tn] 3)).cell? ⟨g, i * 6 + 2, none⟩ = some (.slice ts[i].prim.h.ao ts[i].prim.l.length ts[i].prim.h.cap) := (World.cell?_of_block ((belA (w := w9) (.cells #[.int .i64 tn] 3)).block g hBg.2)).trans (HCE.out 2 _ rfl)
        have f0 := HA.out.frozenAt (i * 6 + 2)
        have HSF := hide (show SFit ((w9.alloc (.cells #[.int .i64 tn] 3)).setCell ⟨g, i * 6 + 2, none⟩ (.slice (some ⟨w9.heap.size, 0, none⟩) 1 1)) g cap (ts.set i { ts[i] with prim := ⟨⟨some ⟨w9.heap.size, 0, none⟩, 1⟩, [tn]⟩ }) from HS9.out.put (t1 := { ts[i] with prim := ⟨⟨some ⟨w9.heap.size, 0, none⟩, 1⟩, [tn]⟩ }) (j := 2) (v := .slice (some ⟨w9.heap.size, 0, none⟩) 1 1) (r := none) hit (by decide) (only_below (belA (.cells #[.int .i64 tn] 3)) none) (fun g' e => by cases e) rfl (fun w' hg' _ => by
            have hT := HTI.out.keepA (.cells #[.int .i64 tn] 3)
            have hT1 : TI (w9.alloc (.cells #[.int .i64 tn] 3)) B { ts[i] with prim := ⟨⟨some ⟨w9.heap.size, 0, none⟩, 1⟩, [tn]⟩ } := ⟨hT.oc, hT.ou, hT.of, hT.ok, hT.nm, hT.cs, One.new w9 hBs HTO.out, hT.us, hT.fs, hT.ks⟩
            exact (hT1.keep hg' (fun g' e => by injection e with e; subst e; exact hT1.off_own HA.out (HS9.out.off _ (List.getElem_mem hit)).ks)).inn) (okU_of HFIN.out.nu) (fun k hk => (HTI.out.ks k hk).2.2))
        go_wp2_with fail
        go_meet
        have e := World.setCell_alloc_past (w := w9) (.cells #[.int .i64 tn] 3) g (i * 6 + 2) (.slice (some ⟨w9.heap.size, 0, none⟩) 1 1) hBg.2
        exact ⟨_, hide List.length_set, (by rw [← e]; exact HSF.out), (by rw [← e]; exact (HBX9.out.below (belA _)).grown (gb_set _ _ _ _) (by simp; exact fun e => hgx e.symm)), (by rw [← e]; exact (HBW9.out.trans ((belA _).mono HBW9.out.size)).setCell (p := ⟨g, i * 6 + 2, none⟩) hwg _)⟩
      have b3 : (x == 3) = false := beq_eq_false_iff_ne.2 h3x
      have hgl := hBg.2
      have hwB : w.heap.size ≤ B := by omega
      have hnl := HFIN.out.nl
      have hk64 : int64 (k : Int) := by have := HFIN.out.nc; exact ⟨by omega, by omega⟩
      by_cases h4 : x = 4
      · subst h4
        obtain ⟨j0, hi, hz0, hz1, hz2⟩ := info_parts info_frn
        have HQ := hide (And.intro hi (And.intro hz0 (And.intro hz1 hz2)))
        clear hi hz0 hz1 hz2
        have HTA := hide ((HTI.out.keepA (.cells #[.int .i64 (k : Int)] 3)).keepA (.cells #[.slice (some ⟨w9.heap.size, 0, none⟩) 1 1, .string nm] 43))
        have d0 : w9.cell? ⟨g, i * 6 + 4, none⟩ = some (.slice ts[i].fh.ao ts[i].fors.length ts[i].fh.cap) := HCE.out 4 _ rfl
        go_wp2_with (at_builtin; go_loud (refine wpList_append_lies _ rfl _ _ 36 rfl B 43 j0 _ 2 40 Tryd.underlying36 HQ.out.1 HQ.out.2.1 HQ.out.2.2.1 HQ.out.2.2.2 rfl (by decide) (.slice ts[i].fh.ao ts[i].fors.length ts[i].fh.cap) ts[i].fors.length (ts[i].fors.flatMap Frn.cells) (by rfl) HTA.out.of ⟨w9.heap.size + 1, 0, none⟩ 1 1 [.slice (some ⟨w9.heap.size, 0, none⟩) 1 1, .string nm] (by rfl) (by rfl) new_cells1 (by intro u hu; simp only [List.mem_cons, List.not_mem_nil, or_false] at hu; rcases hu with rfl | rfl <;> rfl) (by decide) (by unfold maxLen; omega) (by omega) (by simp; omega) (w9.heap.size + 1 + 1) (by simp) ?_; intro g2 cap2 z hown hgr hat hltz; rw [Hd.ob_eq] at hgr; have hgz := (only_below (belAA (w := w9) (.cells #[.int .i64 (k : Int)] 3) (.cells #[.slice (some ⟨w9.heap.size, 0, none⟩) 1 1, .string nm] 43)) ts[i].fh.ob).trans hgr; have HGZ := hide hgz; have HGW := hide (HS9.out.grow hit hgz (fun g' e => .inr (.inr (.inl e))) HBX9.out HBW9.out hwB); have kz := HGW.out.2.1 4 _ rfl; have fz := HGW.out.2.2.1 (i * 6 + 4); have HT1 := hide (HTA.out.frn (c := ⟨⟨⟨some ⟨w9.heap.size, 0, none⟩, 1⟩, [(k : Int)]⟩, nm⟩) hown hgr (fun x hx g' e => HFIN.out.kd x hx g' (.inr (.inr (.inl e)))) ⟨(One.new w9 hBs hk64).below (belA _), by have := HNM.out; show nm.size ≤ 100; omega⟩); clear hown hgr hgz hat hltz))
        have HSF := hide (HS9.out.put (t1 := { ts[i] with fh := ⟨some ⟨g2, 0, none⟩, cap2⟩, fors := ts[i].fors ++ [⟨⟨⟨some ⟨w9.heap.size, 0, none⟩, 1⟩, [(k : Int)]⟩, nm⟩] }) (j := 4) (v := .slice (some ⟨g2, 0, none⟩) (ts[i].fors.length + 1) cap2) hit (by decide) HGZ.out (fun g' e => .inr (.inr (.inl e))) (by simp [Tab.cells]) (fun w' hg' _ => (HT1.out.keep hg' (fun g' e => by injection e with e; subst e; exact HT1.out.off_own HGW.out.1 (HS9.out.off _ (List.getElem_mem hit)).ks)).inn) (okU_of HFIN.out.nu) (fun k hk => (HTI.out.ks k hk).2.2))
        go_meet
        exact ⟨_, hide List.length_set, HSF.out, HGW.out.2.2.2.1.grown (gb_set _ _ _ _) (by simp; exact fun e => hgx e.symm), HGW.out.2.2.2.2.setCell (p := ⟨g, i * 6 + 4, none⟩) hwg _⟩
      have b4 : (x == 4) = false := beq_eq_false_iff_ne.2 h4
      by_cases h5 : x = 5
      · subst h5
        have HD9 := hide (HS9.out.below (bel_self _))
        have c1 := HC1.out
        have d0 : w9.cell? ⟨gc, k * 3 + 2, none⟩ = some (.bool ts[i].cols[k].nul) := HCC.out 2 _ rfl
        have f0 := HFC.out (k * 3 + 2)
        go_upto_region 23 with fail
        go_region
        all_goals
          go_wp2_with fail
          go_meet
          exact ⟨_, hide List.length_set, (HS9.out.col (k := 2) (v := .bool (!ts[i].cols[k].nul)) (x := { ts[i].cols[k] with nul := !ts[i].cols[k].nul }) hit HCH.out hkt (by decide) rfl ⟨HWF.out.1, HWF.out.2⟩).below (bel_self _),
            (HBX9.out.grown (gb_set _ _ _ _) (by simp; exact fun e => hgcx e.symm)).below (bel_self _), (HBW9.out.setCell (p := ⟨gc, k * 3 + 2, none⟩) hwgc _).drew⟩
      have b5 : (x == 5) = false := beq_eq_false_iff_ne.2 h5
      by_cases h6 : x = 6
      · subst h6
        obtain ⟨j0, hi, hz0, hz1, hz2⟩ := info_parts info_il
        have HQ := hide (And.intro hi (And.intro hz0 (And.intro hz1 hz2)))
        clear hi hz0 hz1 hz2
        have HTA := hide ((HTI.out.keepA (.cells #[.int .i64 (k : Int), .int .i64 tn] 3)).keepA (.cells #[.slice (some ⟨w9.heap.size, 0, none⟩) 2 2] 22))
        have HBK := hide ((Box.new w9 #[.int .i64 (k : Int), .int .i64 tn] 3).below (belA (.cells #[.slice (some ⟨w9.heap.size, 0, none⟩) 2 2] 22)))
        have d0 : w9.cell? ⟨g, i * 6 + 3, none⟩ = some (.slice ts[i].uh.ao ts[i].uniqs.length ts[i].uh.cap) := HCE.out 3 _ rfl
        go_wp2_with (at_builtin; go_loud (refine wpList_append_lies _ rfl _ _ 35 rfl B 22 j0 _ 1 24 Tryd.underlying35 HQ.out.1 HQ.out.2.1 HQ.out.2.2.1 HQ.out.2.2.2 rfl (by decide) (.slice ts[i].uh.ao ts[i].uniqs.length ts[i].uh.cap) ts[i].uniqs.length (ts[i].uniqs.flatMap IL.cells) (by rfl) HTA.out.ou ⟨w9.heap.size + 1, 0, none⟩ 1 1 [.slice (some ⟨w9.heap.size, 0, none⟩) 2 2] (by rfl) (by rfl) new_cells1 (by intro u hu; simp only [List.mem_cons, List.not_mem_nil, or_false] at hu; rcases hu with rfl; rfl) (by decide) (by unfold maxLen; omega) (by omega) (by simp; omega) (w9.heap.size + 1 + 1) (by simp) ?_; intro g2 cap2 z hown hgr hat hltz; rw [Hd.ob_eq] at hgr; have hgz := (only_below (belAA (w := w9) (.cells #[.int .i64 (k : Int), .int .i64 tn] 3) (.cells #[.slice (some ⟨w9.heap.size, 0, none⟩) 2 2] 22)) ts[i].uh.ob).trans hgr; have HGZ := hide hgz; have HGW := hide (HS9.out.grow hit hgz (fun g' e => .inr (.inl e)) HBX9.out HBW9.out hwB); have kz := HGW.out.2.1 3 _ rfl; have fz := HGW.out.2.2.1 (i * 6 + 3); have HT1 := hide (HTA.out.hdU hown hgr (fun x hx g' e => HFIN.out.kd x hx g' (.inr (.inl e)))); have HBZ := hide (HBK.out.grown hgr (fun e => by have := (own_ob HTI.out.ou e.symm).2.1; omega)); have HOW := hide hown; clear hown hgr hgz hat hltz))
        have HSF := hide (HS9.out.put (t1 := { ts[i] with uh := ⟨some ⟨g2, 0, none⟩, cap2⟩, uniqs := ts[i].uniqs ++ [⟨⟨some ⟨w9.heap.size, 0, none⟩, 2⟩, [(k : Int), tn]⟩] }) (j := 3) (v := .slice (some ⟨g2, 0, none⟩) (ts[i].uniqs.length + 1) cap2) hit (by decide) HGZ.out (fun g' e => .inr (.inl e)) (by simp [Tab.cells]) (fun w' hg' _ => unq_in HT1.out HOW.out HGW.out.1 (HS9.out.off _ (List.getElem_mem hit)).ks HBZ.out (by omega) hg' hk64 HTO.out) (.inl (by simp)) (fun k hk => (HTI.out.ks k hk).2.2))
        go_meet
        exact ⟨_, hide List.length_set, HSF.out, HGW.out.2.2.2.1.grown (gb_set _ _ _ _) (by simp; exact fun e => hgx e.symm), HGW.out.2.2.2.2.setCell (p := ⟨g, i * 6 + 3, none⟩) hwg _⟩
      have b6 : (x == 6) = false := beq_eq_false_iff_ne.2 h6
      obtain ⟨j0, hi, hz0, hz1, hz2⟩ := info_parts info_exp
      have HQ := hide (And.intro hi (And.intro hz0 (And.intro hz1 hz2)))
      clear hi hz0 hz1 hz2
      have HTA := hide ((HTI.out.keep (only_below (bel_self _) none) (fun g e => by cases e)).keepA ZE)
      have d0 : w9.cell? ⟨g, i * 6 + 5, none⟩ = some (.slice ts[i].kh.ao ts[i].checks.length ts[i].kh.cap) := HCE.out 5 _ rfl
      have d1 : (w9.alloc ZE).cell? ⟨g, i * 6 + 5, none⟩ = some (.slice ts[i].kh.ao ts[i].checks.length ts[i].kh.cap) := by rw [World.cell?_alloc_past _ _ _ hgl]; exact d0
      go_upto_region 11 with fail
      go_region_law (first
        | (refine step_append_lies _ (by rfl) _ _ _ (by rfl) B 45 j0 _ 6 72 Tryd.underlying37 HQ.out.1 HQ.out.2.1 HQ.out.2.2.1 HQ.out.2.2.2 rfl (by decide) (.slice ts[i].kh.ao ts[i].checks.length ts[i].kh.cap) ts[i].checks.length (ts[i].checks.flatMap Ex.cells) (by rfl) HTA.out.ok ⟨w9.heap.size, 0, none⟩ 1 1 [.int .i64 0, .int .i64 0, .int .i64 0, .string ⟨#[]⟩, .int .i64 0, .slice none 0 0] (by rfl) (by rfl) new_cells (by intro u hu; simp only [List.mem_cons, List.not_mem_nil, or_false] at hu; rcases hu with rfl | rfl | rfl | rfl | rfl | rfl <;> rfl) (by decide) (by unfold maxLen; omega) (by omega) (by simp; omega) (w9.heap.size + 1) (by simp) ?_; intro g2 cap2 z hown hgr hat hltz; rw [Hd.ob_eq] at hgr; have HOW := hide hown; have HGR := hide hgr; have HAT := hide hat; obtain ⟨hixz, hzc, hzf⟩ := zrow hown; have q0 : z.cell? ⟨g2, ts[i].checks.length * 6, none⟩ = some (.int .i64 0) := hzc 0 _ rfl; have q1 := hzc 1 _ rfl; have q2 := hzc 2 _ rfl; have q3 := hzc 3 _ rfl; have q4 := hzc 4 _ rfl; have q5 := hzc 5 _ rfl; have r0 := hzf (ts[i].checks.length * 6); have r1 := hzf (ts[i].checks.length * 6 + 1); have r2 := hzf (ts[i].checks.length * 6 + 2); have r3 := hzf (ts[i].checks.length * 6 + 3); have r4 := hzf (ts[i].checks.length * 6 + 4); have r5 := hzf (ts[i].checks.length * 6 + 5);
            have hgz := ((only_below (bel_self w9) ts[i].kh.ob).trans (only_below (belA (w := w9.drew) ZE) ts[i].kh.ob)).trans hgr; have HGZ := hide hgz; have HGW := hide (HS9.out.grow hit hgz (fun g' e => .inr (.inr (.inr e))) HBX9.out HBW9.out hwB); have kz := HGW.out.2.1 5 _ rfl; have fz := HGW.out.2.2.1 (i * 6 + 5);
            have hg2 : g2 ≠ g := (fun e => own_ob_ne (h := ⟨some ⟨g2, 0, none⟩, cap2⟩) (h' := ⟨some ⟨g, 0, none⟩, cap⟩) hown HGW.out.1 (by decide) rfl (by rw [e]; rfl)); have hg2' : g ≠ g2 := fun e => hg2 e.symm;
            clear hown hgr hat hzc hzf hgz))
      all_goals
        obtain ⟨ts', hl, hsf, hbx, hbw⟩ := chk_fit (g2 := g2) (cap2 := cap2) (tn := tn) HS9.out hit HOW.out HGR.out (HAT.out.imp (fun h => by rw [Hd.ob_eq] at h; exact h) (fun h => by omega)) HTO.out HBX9.out HBW9.out hwB
        have HL := hide hl
        have HSF := hide hsf
        have HBE := hide hbx
        have HWE := hide hbw
        have e1 : ((((((z.setCell ⟨g, i * 6 + 5, none⟩ (.slice (some ⟨g2, 0, none⟩) (ts[i].checks.length + 1) cap2)).setCell ⟨g2, ts[i].checks.length * 6, none⟩ (.int .i64 5)).setCell ⟨g2, ts[i].checks.length * 6 + 1, none⟩ (.int .i64 0)).setCell ⟨g2, ts[i].checks.length * 6 + 2, none⟩ (.int .i64 0)).setCell ⟨g2, ts[i].checks.length * 6 + 3, none⟩ (.string ⟨#[]⟩)).setCell ⟨g2, ts[i].checks.length * 6 + 4, none⟩ (.int .i64 tn)).setCell ⟨g2, ts[i].checks.length * 6 + 5, none⟩ (.slice none 0 0) = (zend z g2 ts[i].checks.length tn).setCell ⟨g, i * 6 + 5, none⟩ (.slice (some ⟨g2, 0, none⟩) (ts[i].checks.length + 1) cap2) := by
          rw [set_comm hg2', set_comm hg2', set_comm hg2', set_comm hg2', set_comm hg2', set_comm hg2']
        have HE1 := hide e1
        clear hl hsf hbx hbw e1 q0 q1 q2 q3 q4 q5 r0 r1 r2 r3 r4 r5 kz fz hixz hg2 hg2' d0 d1 HGW HGZ HOW HGR HAT
        go_wp2_with fail
        go_meet
        first
          | rw [HE1.out]
          | skip
        exact ⟨ts', HL.out, HSF.out, HBE.out, HWE.out⟩
    case rest =>
      obtain ⟨ts', HL, HSF, HBX, HBW⟩ := hcut
      clear HS9 HBX9 HBW9 hfin hch hkt hit HK HI
      have hy : ∀ w' : World, Below wc.heap.size wc w' → w'.cell? ⟨c, 0, none⟩ = some (.slice (some ⟨g, 0, none⟩) ts'.length cap) := fun w' h => by rw [HL.out]; exact (HBX.out.below h).cell (j := 0) rfl
      go_upto_region 26 with fail
      go_region_held3 (fun w' => Below wc.heap.size wc w') ((first | exact (Below.refl _ _).drew | exact bel_trans (by assumption) (by assumption))) (first
        | (go_at_call 9; refine (rvalid_any ⟨⟨some ⟨g, 0, none⟩, cap⟩, ts'⟩ _ (HSF.out.sin.mono (by assumption)) HSF.out.sok).mono ?_; rintro e x6 ⟨⟨u2, rfl, hv2⟩, hb6⟩; have HV2 := hide hv2; clear hv2)
        | (go_at_call 8; refine (valid_any ⟨⟨some ⟨g, 0, none⟩, cap⟩, ts'⟩ _ (HSF.out.sin.mono (by assumption)) HSF.out.sok ((HF.out.mono HBW.out).mono (by assumption)) (HSHX.out _ (HBW.out.trans ((show Below wc.heap.size wc _ by assumption).mono HBW.out.size)))).mono ?_; rintro e x7 ⟨⟨u1, rfl, hv1⟩, hb7⟩; have HV1 := hide hv1; clear hv1))
      have HFIN := hide (show Below wc.heap.size wc x6 by assumption)
      obtain rfl : u1 = u2 := valid_one HV1.out HV2.out
      go_wp2
      go_ret
      exact ⟨by simp, HBW.out.trans (HFIN.out.mono HBW.out.size)⟩
  · have hni : ¬ (nm.size : Int) ≤ 40 := by omega
    go_enter Tryd.func3, Tryd.ntmps3
    go_wp2
    go_ret
    exact ⟨rfl, Below.refl _ _⟩
end Go.Proofs.YtmnbhdhgjbgidaaDoor

/- What the row's list says of expression.operations, cell by cell. -/
namespace Go.Proofs.YtmnbhdhgjbgidaaDoor
open Go.RowKit

theorem gOpers : Tryd.prog.globalNamed "querylab/expression.operations" = some 2 := by kernel_rfl
theorem gOpersType : (Tryd.prog.globals[2]?).map (·.type) = some 155 := by kernel_rfl
theorem cellsOper : Tryd.prog.cellsOf 135 = 4 := by kernel_rfl

section
variable {H : Type} {enc : TypeId × Value → H} {w : World} {base : Nat} {sp : Nat → Bool} {held : Bool} {fuel : Nat}
theorem oper_cells {c : List Value} {x : List UInt8} {n1 n2 n3 : Int} {d : DataW H × List MemPlace} (hd : d.1 = .agg [.lit (.string x), .lit (.int .i64 n1), .lit (.int .i64 n2), .lit (.int .i64 n3)])
    (h : DataW.trod enc Tryd.prog w base sp held fuel 135 c = some d) : c[0]? = some (.string ⟨x.toArray⟩) ∧ c[1]? = some (.int .i64 n1) ∧ c[2]? = some (.int .i64 n2) ∧ c[3]? = some (.int .i64 n3) := by
  obtain ⟨xs, m, rfl, rfl, hl, hxl, hall⟩ := DataW.trod_struct Tryd.underlying135 h
  have hd' : xs.map (·.1) = [.lit (.string x), .lit (.int .i64 n1), .lit (.int .i64 n2), .lit (.int .i64 n3)] := by simpa using hd
  have h0 := hall 0 _ rfl
  have h1 := hall 1 _ rfl
  have h2 := hall 2 _ rfl
  have h3 := hall 3 _ rfl
  obtain ⟨a0, a1, a2, a3, rfl⟩ : ∃ a0 a1 a2 a3, xs = [a0, a1, a2, a3] := by
    match xs, hxl with
    | [a0, a1, a2, a3], _ => exact ⟨a0, a1, a2, a3, rfl⟩
  simp only [List.map_cons, List.map_nil, List.cons.injEq, and_true] at hd'
  obtain ⟨e0, e1, e2, e3⟩ := hd'
  simp only [List.getElem?_cons_zero, List.getElem?_cons_succ] at h0 h1 h2 h3
  obtain ⟨s0, hc0, he0, -⟩ := DataW.trod_string Tryd.underlying9 h0
  obtain ⟨m1, hc1, he1, -⟩ := DataW.trod_int Tryd.underlying3 h1
  obtain ⟨m2, hc2, he2, -⟩ := DataW.trod_int Tryd.underlying3 h2
  obtain ⟨m3, hc3, he3, -⟩ := DataW.trod_int Tryd.underlying3 h3
  subst he0; subst he1; subst he2; subst he3
  simp only [DataW.lit.injEq, Lit.string.injEq, Lit.int.injEq, true_and] at e0 e1 e2 e3
  subst e1; subst e2; subst e3
  have g0 := congrArg (·[0]?) hc0
  have g1 := congrArg (·[0]?) hc1
  have g2 := congrArg (·[0]?) hc2
  have g3 := congrArg (·[0]?) hc3
  simp only [List.getElem?_take, List.getElem?_drop, List.getElem?_cons_zero] at g0 g1 g2 g3
  refine ⟨?_, ?_, ?_, ?_⟩
  · rw [← e0]
    have := (show _ ∧ c[0]? = some (Value.string s0) by simpa using g0).2
    simp only [Array.toArray_toList]
    exact this
  · exact (show _ ∧ c[1]? = some (Value.int .i64 m1) by simpa using g1).2
  · exact (show _ ∧ c[2]? = some (Value.int .i64 m2) by simpa using g2).2
  · exact (show _ ∧ c[3]? = some (Value.int .i64 m3) by simpa using g3).2
end

theorem ops_of_reads {W : World} (h : Lib.VarReads Tryd.prog W "querylab/expression.operations" Rows.laid_querylab_expression_operations) : OpsAt W := by
  obtain ⟨g, t, cs, fuel, p, hg, ht, hv, hr⟩ := h
  obtain rfl := Option.some.inj (gOpers.symm.trans hg)
  obtain rfl := Option.some.inj (gOpersType.symm.trans ht)
  obtain ⟨xs, m, rfl, hx, hl, hxl, hall⟩ := DataW.trod_array Tryd.underlying155 hr
  have hx' : Rows.laid_querylab_expression_operations (H := Unit) = .agg (xs.map (·.1)) := congrArg Prod.fst hx
  unfold Rows.laid_querylab_expression_operations at hx'
  injection hx' with hx'
  have key : ∀ (i : Nat) (hi : i < 29) (x : List UInt8) (n1 n2 n3 : Int), (xs.map (·.1))[i]? = some (.agg [.lit (.string x), .lit (.int .i64 n1), .lit (.int .i64 n2), .lit (.int .i64 n3)]) →
      W.cell? ⟨2, i * 4, none⟩ = some (.string ⟨x.toArray⟩) ∧ W.cell? ⟨2, i * 4 + 1, none⟩ = some (.int .i64 n1) ∧ W.cell? ⟨2, i * 4 + 2, none⟩ = some (.int .i64 n2) ∧ W.cell? ⟨2, i * 4 + 3, none⟩ = some (.int .i64 n3) := by
    intro i hi x n1 n2 n3 hd
    have h1 := hall i hi
    rw [List.getElem?_map] at hd
    obtain ⟨d, hd1, hd2⟩ := Option.map_eq_some_iff.1 hd
    rw [hd1, cellsOper] at h1
    obtain ⟨c0, c1, c2, c3⟩ := oper_cells hd2 h1
    rw [World.var?_cell gOpers hv, World.var?_cell gOpers hv, World.var?_cell gOpers hv, World.var?_cell gOpers hv]
    simp only [List.getElem?_take, List.getElem?_drop] at c0 c1 c2 c3
    refine ⟨?_, ?_, ?_, ?_⟩
    · simpa using c0
    · simpa using c1
    · simpa using c2
    · simpa using c3
  rw [← hx'] at key
  intro i hi
  have hc : i = 0 ∨ i = 1 ∨ i = 2 ∨ i = 3 ∨ i = 4 ∨ i = 5 ∨ i = 6 ∨ i = 7 ∨ i = 8 ∨ i = 9 ∨ i = 10 ∨ i = 11 ∨ i = 12 ∨ i = 13 ∨ i = 14 ∨ i = 15 ∨ i = 16 ∨ i = 17 ∨ i = 18 ∨ i = 19 ∨ i = 20 ∨ i = 21 ∨ i = 22 ∨ i = 23 ∨ i = 24 ∨ i = 25 ∨ i = 26 ∨ i = 27 ∨ i = 28 := by have := ops_len; omega
  rcases hc with rfl | rfl | rfl | rfl | rfl | rfl | rfl | rfl | rfl | rfl | rfl | rfl | rfl | rfl | rfl | rfl | rfl | rfl | rfl | rfl | rfl | rfl | rfl | rfl | rfl | rfl | rfl | rfl | rfl
  all_goals exact key _ (by decide) _ _ _ _ rfl
end Go.Proofs.YtmnbhdhgjbgidaaDoor

/- What reads as a Go value is one of the trees of the data text, and lies in the world. -/
namespace Go.Proofs.YtmnbhdhgjbgidaaDoor
open Go.RowKit Go.ChangeShapes Go.WideShapes

section
variable {H : Type} {enc : TypeId × Value → H} {w : World} {sp : Nat → Bool} {hd : Bool}

theorem pick_list {α : Type} {p : Nat → α → Prop} : ∀ (n : Nat), (∀ i, i < n → ∃ a, p i a) → ∃ xs : List α, xs.length = n ∧ ∀ i (h : i < xs.length), p i xs[i]
  | 0, _ => ⟨[], rfl, fun i h => absurd h (by simp)⟩
  | n + 1, h => by
    obtain ⟨xs, hl, hx⟩ := pick_list n (fun i hi => h i (by omega))
    obtain ⟨a, ha⟩ := h n (by omega)
    refine ⟨xs ++ [a], by simp [hl], fun i hi => ?_⟩
    by_cases e : i < xs.length
    · rw [List.getElem_append_left e]; exact hx i e
    · have hin : i = xs.length := by simp at hi; omega
      subst hin
      rw [List.getElem_append_right (by omega)]
      simpa [hl] using ha

theorem open_row {P : Program} {α : Type} {t e : TypeId} {size fuel : Nat} {cs : List Value} {x : DataW H × List MemPlace} (cells : α → List Value) (good : α → Prop)
    (ht : P.underlying t = some (.slice e)) (hc : P.cellsOf e = size) (hpos : 0 < size)
    (hel : ∀ fuel' cs' x', fuel' < fuel → DataW.trod enc P w 0 sp hd fuel' e cs' = some x' → ∃ a : α, cs' = cells a ∧ good a)
    (h : DataW.trod enc P w 0 sp hd fuel t cs = some x) : ∃ (h : Hd) (xs : List α), cs = [.slice h.ao xs.length h.cap] ∧ Row w size cells h xs ∧ ∀ a ∈ xs, good a := by
  rcases DataW.trod_slice ht h with ⟨rfl, _⟩ | ⟨a, len, cap, elems, rest, n, hn, rfl, _, _, hl, hm, hlen, hall, _⟩
  · exact ⟨nilHd, [], rfl, Row.nil _ _ _, fun a ha => by cases ha⟩
  · rw [hc] at hall
    have key : ∀ i, i < len → ∃ b : α, (∀ j v, (cells b)[j]? = some v → w.cell? ((a.add (i * size)).add j) = some v) ∧ (cells b).length = size ∧ good b := by
      intro i hi
      have h1 := hall i hi
      rw [List.getElem?_eq_getElem (by omega)] at h1
      obtain ⟨cs', hcs, htr⟩ := Option.bind_eq_some_iff.1 h1
      obtain ⟨b, rfl, hb⟩ := hel n cs' _ (by omega) htr
      obtain ⟨_, hcl, hcell⟩ := World.cells?_some hcs
      refine ⟨b, fun j v hv => ?_, hcl, hb⟩
      have hj : j < size := by rw [← hcl]; exact (List.getElem?_eq_some_iff.1 hv).1
      rw [hcell j hj]; exact hv
    obtain ⟨xs, hxl, hx⟩ := pick_list len key
    subst hxl
    obtain ⟨b, o, spot⟩ := a
    have hspot : 0 < xs.length → spot = none ∧ b < w.heap.size := by
      intro hp
      obtain ⟨g1, g2, _⟩ := hx 0 hp
      have hv : (cells (xs[0]'hp))[0]? = some ((cells (xs[0]'hp))[0]'(by omega)) := List.getElem?_eq_getElem (by omega)
      have := g1 0 _ hv
      simp only [Nat.zero_mul] at this
      have h0 : ((⟨b, o, spot⟩ : Addr).add 0).add 0 = ⟨b, o, spot⟩ := by simp [Addr.add]
      rw [h0] at this
      have hs := World.cell?_spot this
      have hs' : spot = none := by simpa using hs
      subst hs'
      exact ⟨rfl, World.block_lt_of_cell? w ⟨b, o, none⟩ this⟩
    refine ⟨⟨some ⟨b, o, spot⟩, cap⟩, xs, rfl, ⟨hl, hm, fun hp => ?_, fun i hi j v hv => ?_⟩, fun a ha => ?_⟩
    · obtain ⟨rfl, hlt⟩ := hspot hp
      exact ⟨rfl, hlt⟩
    · obtain ⟨rfl, hlt⟩ := hspot (by omega)
      have := (hx i hi).1 j v hv
      rw [Addr.add_lit, Addr.add_lit] at this
      exact this
    · obtain ⟨i, hi, rfl⟩ := List.getElem_of_mem ha
      exact (hx i hi).2.2

theorem fld {P : Program} {n : Nat} {cs : List Value} {xs : List (DataW H × List MemPlace)} {fs : Array Field} (hxl : xs.length = fs.size)
    (hf : ∀ (i : Nat) (f : Field), fs[i]? = some f → DataW.trod enc P w 0 sp hd n f.type ((cs.drop f.offset).take (P.cellsOf f.type)) = xs[i]?) (i T off sz : Nat) (hif : ∃ f, fs[i]? = some f ∧ f.type = T ∧ f.offset = off) (hs : P.cellsOf T = sz) :
    ∃ y, DataW.trod enc P w 0 sp hd n T ((cs.drop off).take sz) = some y := by
  obtain ⟨f, hif, rfl, rfl⟩ := hif
  subst hs
  have hi : i < xs.length := by rw [hxl]; exact (Array.getElem?_eq_some_iff.1 hif).1
  exact ⟨_, (hf i f hif).trans (List.getElem?_eq_getElem hi)⟩

theorem int64_of {n : Int} (h : (Lit.int .i64 n).wf = true) : int64 n := by
  exact bounds_i64 h
theorem list1 {α : Type} {l : List α} (h : l.length = 1) : ∃ c0, l = [c0] := by
  match l, h with
  | [c0], _ => exact ⟨c0, rfl⟩
theorem list2 {α : Type} {l : List α} (h : l.length = 2) : ∃ c0 c1, l = [c0, c1] := by
  match l, h with
  | [c0, c1], _ => exact ⟨c0, c1, rfl⟩
theorem list3 {α : Type} {l : List α} (h : l.length = 3) : ∃ c0 c1 c2, l = [c0, c1, c2] := by
  match l, h with
  | [c0, c1, c2], _ => exact ⟨c0, c1, c2, rfl⟩
theorem list6 {α : Type} {l : List α} (h : l.length = 6) : ∃ c0 c1 c2 c3 c4 c5, l = [c0, c1, c2, c3, c4, c5] := by
  match l, h with
  | [c0, c1, c2, c3, c4, c5], _ => exact ⟨c0, c1, c2, c3, c4, c5, rfl⟩
theorem list7 {α : Type} {l : List α} (h : l.length = 7) : ∃ c0 c1 c2 c3 c4 c5 c6, l = [c0, c1, c2, c3, c4, c5, c6] := by
  match l, h with
  | [c0, c1, c2, c3, c4, c5, c6], _ => exact ⟨c0, c1, c2, c3, c4, c5, c6, rfl⟩
theorem list15 {α : Type} {l : List α} (h : l.length = 15) : ∃ c0 c1 c2 c3 c4 c5 c6 c7 c8 c9 c10 c11 c12 c13 c14, l = [c0, c1, c2, c3, c4, c5, c6, c7, c8, c9, c10, c11, c12, c13, c14] := by
  match l, h with
  | [c0, c1, c2, c3, c4, c5, c6, c7, c8, c9, c10, c11, c12, c13, c14], _ => exact ⟨c0, c1, c2, c3, c4, c5, c6, c7, c8, c9, c10, c11, c12, c13, c14, rfl⟩

theorem cells_of_3 : Tryd.prog.cellsOf 3 = 1 := by kernel_rfl
theorem cells_of_2 : Tryd.prog.cellsOf 2 = 1 := by kernel_rfl
theorem cells_of_9 : Tryd.prog.cellsOf 9 = 1 := by kernel_rfl
theorem cells_of_4 : Tryd.prog.cellsOf 4 = 1 := by kernel_rfl
theorem cells_of_22 : Tryd.prog.cellsOf 22 = 1 := by kernel_rfl
theorem cells_of_35 : Tryd.prog.cellsOf 35 = 1 := by kernel_rfl
theorem cells_of_37 : Tryd.prog.cellsOf 37 = 1 := by kernel_rfl
theorem cells_of_45 : Tryd.prog.cellsOf 45 = 6 := by kernel_rfl
theorem cells_of_41 : Tryd.prog.cellsOf 41 = 3 := by kernel_rfl
theorem cells_of_34 : Tryd.prog.cellsOf 34 = 1 := by kernel_rfl
theorem cells_of_43 : Tryd.prog.cellsOf 43 = 2 := by kernel_rfl
theorem cells_of_36 : Tryd.prog.cellsOf 36 = 1 := by kernel_rfl
theorem cells_of_39 : Tryd.prog.cellsOf 39 = 6 := by kernel_rfl
theorem cells_of_26 : Tryd.prog.cellsOf 26 = 1 := by kernel_rfl
theorem cells_of_28 : Tryd.prog.cellsOf 28 = 1 := by kernel_rfl
theorem cells_of_98 : Tryd.prog.cellsOf 98 = 3 := by kernel_rfl
theorem cells_of_79 : Tryd.prog.cellsOf 79 = 1 := by kernel_rfl
theorem cells_of_54 : Tryd.prog.cellsOf 54 = 1 := by kernel_rfl
theorem cells_of_63 : Tryd.prog.cellsOf 63 = 7 := by kernel_rfl
theorem cells_of_53 : Tryd.prog.cellsOf 53 = 1 := by kernel_rfl
theorem cells_of_57 : Tryd.prog.cellsOf 57 = 15 := by kernel_rfl
theorem cells_of_55 : Tryd.prog.cellsOf 55 = 1 := by kernel_rfl

theorem open_il {fuel : Nat} {cs : List Value} {x : DataW H × List MemPlace} (h : DataW.trod enc Tryd.prog w 0 sp hd fuel 22 cs = some x) : ∃ r : IL, cs = r.cells ∧ r.In w := by
  obtain ⟨hd, xs, rfl, hr, hg⟩ := open_row icells int64 Tryd.underlying22 cells_of_3 (by decide) (fun f cs x _ h => by obtain ⟨n, rfl, _, hw⟩ := DataW.trod_int Tryd.underlying3 h; exact ⟨n, rfl, int64_of hw⟩) h
  exact ⟨⟨hd, xs⟩, rfl, hr, hg⟩

set_option maxRecDepth 100000 in
theorem open_ex : ∀ (fuel : Nat) (cs : List Value) (x : DataW H × List MemPlace), DataW.trod enc Tryd.prog w 0 sp hd fuel 45 cs = some x → ∃ r : Ex, cs = r.cells ∧ r.In w := by
  intro fuel
  induction fuel using Nat.strongRecOn with
  | _ fuel ih =>
  intro cs x h
  obtain ⟨xs, n, hn, _, hlen, hxl, hf⟩ := DataW.trod_struct Tryd.underlying45 h
  rw [cells_of_45] at hlen
  obtain ⟨c0, c1, c2, c3, c4, c5, rfl⟩ := list6 hlen
  · skip
    obtain ⟨y0, g0⟩ := fld hxl hf 0 3 0 1 ⟨_, rfl, rfl, rfl⟩ cells_of_3
    obtain ⟨op, e0, _, w0⟩ := DataW.trod_int Tryd.underlying3 g0
    obtain ⟨y1, g1⟩ := fld hxl hf 1 3 1 1 ⟨_, rfl, rfl, rfl⟩ cells_of_3
    obtain ⟨typ, e1, _, w1⟩ := DataW.trod_int Tryd.underlying3 g1
    obtain ⟨y2, g2⟩ := fld hxl hf 2 2 2 1 ⟨_, rfl, rfl, rfl⟩ cells_of_2
    obtain ⟨num, e2, _, w2⟩ := DataW.trod_int Tryd.underlying2 g2
    obtain ⟨y3, g3⟩ := fld hxl hf 3 9 3 1 ⟨_, rfl, rfl, rfl⟩ cells_of_9
    obtain ⟨text, e3, _, w3⟩ := DataW.trod_string Tryd.underlying9 g3
    obtain ⟨y4, g4⟩ := fld hxl hf 4 3 4 1 ⟨_, rfl, rfl, rfl⟩ cells_of_3
    obtain ⟨col, e4, _, w4⟩ := DataW.trod_int Tryd.underlying3 g4
    obtain ⟨y5, g5⟩ := fld hxl hf 5 37 5 1 ⟨_, rfl, rfl, rfl⟩ cells_of_37
    obtain ⟨kidsh, kids, e5, r5, w5⟩ := open_row Ex.cells (Ex.In w) Tryd.underlying37 cells_of_45 (by decide) (fun f cs x hlt h => ih f (by omega) cs x h) g5
    simp only [List.drop_zero, List.drop_succ_cons, List.take_succ_cons, List.take_zero, List.cons.injEq, and_true] at e0 e1 e2 e3 e4 e5
    subst e0 e1 e2 e3 e4 e5
    exact ⟨⟨op, typ, num, text, col, kidsh, kids⟩, rfl, ⟨_, ⟨int64_of w0, int64_of w1, int64_of w2, w3, int64_of w4⟩, r5, w5⟩⟩

set_option maxRecDepth 100000 in
theorem open_col {fuel : Nat} {cs : List Value} {x : DataW H × List MemPlace} (h : DataW.trod enc Tryd.prog w 0 sp hd fuel 41 cs = some x) : ∃ r : Col, cs = r.cells ∧ r.wf := by
  obtain ⟨xs, n, hn, _, hlen, hxl, hf⟩ := DataW.trod_struct Tryd.underlying41 h
  rw [cells_of_41] at hlen
  obtain ⟨c0, c1, c2, rfl⟩ := list3 hlen
  · skip
    obtain ⟨y0, g0⟩ := fld hxl hf 0 9 0 1 ⟨_, rfl, rfl, rfl⟩ cells_of_9
    obtain ⟨nm, e0, _, w0⟩ := DataW.trod_string Tryd.underlying9 g0
    obtain ⟨y1, g1⟩ := fld hxl hf 1 3 1 1 ⟨_, rfl, rfl, rfl⟩ cells_of_3
    obtain ⟨typ, e1, _, w1⟩ := DataW.trod_int Tryd.underlying3 g1
    obtain ⟨y2, g2⟩ := fld hxl hf 2 4 2 1 ⟨_, rfl, rfl, rfl⟩ cells_of_4
    obtain ⟨nul, e2, _⟩ := DataW.trod_bool Tryd.underlying4 g2
    simp only [List.drop_zero, List.drop_succ_cons, List.take_succ_cons, List.take_zero, List.cons.injEq, and_true] at e0 e1 e2
    subst e0 e1 e2
    exact ⟨⟨nm, typ, nul⟩, rfl, w0, int64_of w1⟩

set_option maxRecDepth 100000 in
theorem open_frn {fuel : Nat} {cs : List Value} {x : DataW H × List MemPlace} (h : DataW.trod enc Tryd.prog w 0 sp hd fuel 43 cs = some x) : ∃ r : Frn, cs = r.cells ∧ r.In w := by
  obtain ⟨xs, n, hn, _, hlen, hxl, hf⟩ := DataW.trod_struct Tryd.underlying43 h
  rw [cells_of_43] at hlen
  obtain ⟨c0, c1, rfl⟩ := list2 hlen
  · skip
    obtain ⟨y0, g0⟩ := fld hxl hf 0 22 0 1 ⟨_, rfl, rfl, rfl⟩ cells_of_22
    obtain ⟨cols, e0, w0⟩ := open_il g0
    obtain ⟨y1, g1⟩ := fld hxl hf 1 9 1 1 ⟨_, rfl, rfl, rfl⟩ cells_of_9
    obtain ⟨tab, e1, _, w1⟩ := DataW.trod_string Tryd.underlying9 g1
    simp only [List.drop_zero, List.drop_succ_cons, List.take_succ_cons, List.take_zero, List.cons.injEq, and_true] at e0 e1
    subst e0 e1
    exact ⟨⟨cols, tab⟩, rfl, w0, w1⟩

set_option maxRecDepth 100000 in
theorem open_tab {fuel : Nat} {cs : List Value} {x : DataW H × List MemPlace} (h : DataW.trod enc Tryd.prog w 0 sp hd fuel 39 cs = some x) : ∃ r : Tab, cs = r.cells ∧ r.In w := by
  obtain ⟨xs, n, hn, _, hlen, hxl, hf⟩ := DataW.trod_struct Tryd.underlying39 h
  rw [cells_of_39] at hlen
  obtain ⟨c0, c1, c2, c3, c4, c5, rfl⟩ := list6 hlen
  · skip
    obtain ⟨y0, g0⟩ := fld hxl hf 0 9 0 1 ⟨_, rfl, rfl, rfl⟩ cells_of_9
    obtain ⟨nm, e0, _, w0⟩ := DataW.trod_string Tryd.underlying9 g0
    obtain ⟨y1, g1⟩ := fld hxl hf 1 34 1 1 ⟨_, rfl, rfl, rfl⟩ cells_of_34
    obtain ⟨colsh, cols, e1, r1, w1⟩ := open_row Col.cells Col.wf Tryd.underlying34 cells_of_41 (by decide) (fun f cs x hlt h => open_col h) g1
    obtain ⟨y2, g2⟩ := fld hxl hf 2 22 2 1 ⟨_, rfl, rfl, rfl⟩ cells_of_22
    obtain ⟨prim, e2, w2⟩ := open_il g2
    obtain ⟨y3, g3⟩ := fld hxl hf 3 35 3 1 ⟨_, rfl, rfl, rfl⟩ cells_of_35
    obtain ⟨uqh, uq, e3, r3, w3⟩ := open_row IL.cells (IL.In w) Tryd.underlying35 cells_of_22 (by decide) (fun f cs x hlt h => open_il h) g3
    obtain ⟨y4, g4⟩ := fld hxl hf 4 36 4 1 ⟨_, rfl, rfl, rfl⟩ cells_of_36
    obtain ⟨foh, fo, e4, r4, w4⟩ := open_row Frn.cells (Frn.In w) Tryd.underlying36 cells_of_43 (by decide) (fun f cs x hlt h => open_frn h) g4
    obtain ⟨y5, g5⟩ := fld hxl hf 5 37 5 1 ⟨_, rfl, rfl, rfl⟩ cells_of_37
    obtain ⟨ckh, ck, e5, r5, w5⟩ := open_row Ex.cells (Ex.In w) Tryd.underlying37 cells_of_45 (by decide) (fun f cs x hlt h => open_ex _ _ _ h) g5
    simp only [List.drop_zero, List.drop_succ_cons, List.take_succ_cons, List.take_zero, List.cons.injEq, and_true] at e0 e1 e2 e3 e4 e5
    subst e0 e1 e2 e3 e4 e5
    exact ⟨⟨nm, colsh, cols, prim, uqh, uq, foh, fo, ckh, ck⟩, rfl, ⟨w0, r1, w1, w2, r3, w3, r4, w4, r5, w5⟩⟩

set_option maxRecDepth 100000 in
theorem open_sch {fuel : Nat} {cs : List Value} {x : DataW H × List MemPlace} (h : DataW.trod enc Tryd.prog w 0 sp hd fuel 28 cs = some x) : ∃ r : Sch, cs = r.cells ∧ r.In w := by
  obtain ⟨xs, n, hn, _, hlen, hxl, hf⟩ := DataW.trod_struct Tryd.underlying28 h
  rw [cells_of_28] at hlen
  obtain ⟨c0, rfl⟩ := list1 hlen
  · skip
    obtain ⟨y0, g0⟩ := fld hxl hf 0 26 0 1 ⟨_, rfl, rfl, rfl⟩ cells_of_26
    obtain ⟨tabsh, tabs, e0, r0, w0⟩ := open_row Tab.cells (Tab.In w) Tryd.underlying26 cells_of_39 (by decide) (fun f cs x hlt h => open_tab h) g0
    simp only [List.drop_zero, List.take_succ_cons, List.take_zero, List.cons.injEq, and_true] at e0
    subst e0
    exact ⟨⟨tabsh, tabs⟩, rfl, ⟨r0, w0⟩⟩

set_option maxRecDepth 100000 in
theorem open_val {fuel : Nat} {cs : List Value} {x : DataW H × List MemPlace} (h : DataW.trod enc Tryd.prog w 0 sp hd fuel 98 cs = some x) : ∃ r : V, cs = r.cells ∧ r.wf := by
  obtain ⟨xs, n, hn, _, hlen, hxl, hf⟩ := DataW.trod_struct Tryd.underlying98 h
  rw [cells_of_98] at hlen
  obtain ⟨c0, c1, c2, rfl⟩ := list3 hlen
  · skip
    obtain ⟨y0, g0⟩ := fld hxl hf 0 3 0 1 ⟨_, rfl, rfl, rfl⟩ cells_of_3
    obtain ⟨kind, e0, _, w0⟩ := DataW.trod_int Tryd.underlying3 g0
    obtain ⟨y1, g1⟩ := fld hxl hf 1 2 1 1 ⟨_, rfl, rfl, rfl⟩ cells_of_2
    obtain ⟨num, e1, _, w1⟩ := DataW.trod_int Tryd.underlying2 g1
    obtain ⟨y2, g2⟩ := fld hxl hf 2 9 2 1 ⟨_, rfl, rfl, rfl⟩ cells_of_9
    obtain ⟨text, e2, _, w2⟩ := DataW.trod_string Tryd.underlying9 g2
    simp only [List.drop_zero, List.drop_succ_cons, List.take_succ_cons, List.take_zero, List.cons.injEq, and_true] at e0 e1 e2
    subst e0 e1 e2
    exact ⟨⟨kind, num, text⟩, rfl, int64_of w0, int64_of w1, w2⟩

theorem open_vl {fuel : Nat} {cs : List Value} {x : DataW H × List MemPlace} (h : DataW.trod enc Tryd.prog w 0 sp hd fuel 79 cs = some x) : ∃ r : VL, cs = r.cells ∧ r.In w := by
  obtain ⟨hd, xs, rfl, hr, hg⟩ := open_row V.cells V.wf Tryd.underlying79 cells_of_98 (by decide) (fun f cs x _ h => open_val h) h
  exact ⟨⟨hd, xs⟩, rfl, hr, hg⟩
set_option maxRecDepth 100000 in
theorem open_agg {fuel : Nat} {cs : List Value} {x : DataW H × List MemPlace} (h : DataW.trod enc Tryd.prog w 0 sp hd fuel 63 cs = some x) : ∃ r : Agg, cs = r.cells ∧ int64 r.fn ∧ r.arg.In w := by
  obtain ⟨xs, n, hn, _, hlen, hxl, hf⟩ := DataW.trod_struct Tryd.underlying63 h
  rw [cells_of_63] at hlen
  obtain ⟨c0, c1, c2, c3, c4, c5, c6, rfl⟩ := list7 hlen
  · skip
    obtain ⟨y0, g0⟩ := fld hxl hf 0 3 0 1 ⟨_, rfl, rfl, rfl⟩ cells_of_3
    obtain ⟨fn, e0, _, w0⟩ := DataW.trod_int Tryd.underlying3 g0
    obtain ⟨y1, g1⟩ := fld hxl hf 1 45 1 6 ⟨_, rfl, rfl, rfl⟩ cells_of_45
    obtain ⟨arg, e1, w1⟩ := open_ex _ _ _ g1
    simp only [List.drop_zero, List.drop_succ_cons, List.take_succ_cons, List.take_zero, List.cons.injEq, and_true] at e0 e1
    obtain ⟨rfl, rfl, rfl, rfl, rfl, rfl⟩ := e1
    subst e0
    exact ⟨⟨fn, arg⟩, rfl, int64_of w0, w1⟩

set_option maxRecDepth 100000 in
theorem open_qu : ∀ (fuel : Nat) (cs : List Value) (x : DataW H × List MemPlace), DataW.trod enc Tryd.prog w 0 sp hd fuel 57 cs = some x → ∃ r : Qu, cs = r.cells ∧ r.In w := by
  intro fuel
  induction fuel using Nat.strongRecOn with
  | _ fuel ih =>
  intro cs x h
  obtain ⟨xs, n, hn, _, hlen, hxl, hf⟩ := DataW.trod_struct Tryd.underlying57 h
  rw [cells_of_57] at hlen
  obtain ⟨c0, c1, c2, c3, c4, c5, c6, c7, c8, c9, c10, c11, c12, c13, c14, rfl⟩ := list15 hlen
  · skip
    obtain ⟨y0, g0⟩ := fld hxl hf 0 3 0 1 ⟨_, rfl, rfl, rfl⟩ cells_of_3
    obtain ⟨op, e0, _, w0⟩ := DataW.trod_int Tryd.underlying3 g0
    obtain ⟨y1, g1⟩ := fld hxl hf 1 9 1 1 ⟨_, rfl, rfl, rfl⟩ cells_of_9
    obtain ⟨table, e1, _, w1⟩ := DataW.trod_string Tryd.underlying9 g1
    obtain ⟨y2, g2⟩ := fld hxl hf 2 3 2 1 ⟨_, rfl, rfl, rfl⟩ cells_of_3
    obtain ⟨kind, e2, _, w2⟩ := DataW.trod_int Tryd.underlying3 g2
    obtain ⟨y3, g3⟩ := fld hxl hf 3 4 3 1 ⟨_, rfl, rfl, rfl⟩ cells_of_4
    obtain ⟨al, e3, _⟩ := DataW.trod_bool Tryd.underlying4 g3
    obtain ⟨y4, g4⟩ := fld hxl hf 4 45 4 6 ⟨_, rfl, rfl, rfl⟩ cells_of_45
    obtain ⟨cond, e4, w4⟩ := open_ex _ _ _ g4
    obtain ⟨y5, g5⟩ := fld hxl hf 5 37 10 1 ⟨_, rfl, rfl, rfl⟩ cells_of_37
    obtain ⟨exh, ex, e5, r5, w5⟩ := open_row Ex.cells (Ex.In w) Tryd.underlying37 cells_of_45 (by decide) (fun f cs x hlt h => open_ex _ _ _ h) g5
    obtain ⟨y6, g6⟩ := fld hxl hf 6 53 11 1 ⟨_, rfl, rfl, rfl⟩ cells_of_53
    obtain ⟨agh, ag, e6, r6, w6⟩ := open_row Agg.cells (fun a => int64 a.fn ∧ a.arg.In w) Tryd.underlying53 cells_of_63 (by decide) (fun f cs x hlt h => open_agg h) g6
    obtain ⟨y7, g7⟩ := fld hxl hf 7 22 12 1 ⟨_, rfl, rfl, rfl⟩ cells_of_22
    obtain ⟨ty, e7, w7⟩ := open_il g7
    obtain ⟨y8, g8⟩ := fld hxl hf 8 54 13 1 ⟨_, rfl, rfl, rfl⟩ cells_of_54
    obtain ⟨roh, ro, e8, r8, w8⟩ := open_row VL.cells (VL.In w) Tryd.underlying54 cells_of_79 (by decide) (fun f cs x hlt h => open_vl h) g8
    obtain ⟨y9, g9⟩ := fld hxl hf 9 55 14 1 ⟨_, rfl, rfl, rfl⟩ cells_of_55
    obtain ⟨kidsh, kids, e9, r9, w9⟩ := open_row Qu.cells (Qu.In w) Tryd.underlying55 cells_of_57 (by decide) (fun f cs x hlt h => ih f (by omega) cs x h) g9
    simp only [List.drop_zero, List.drop_succ_cons, List.take_succ_cons, List.take_zero, List.cons.injEq, and_true] at e0 e1 e2 e3 e4 e5 e6 e7 e8 e9
    obtain ⟨rfl, rfl, rfl, rfl, rfl, rfl⟩ := e4
    subst e0 e1 e2 e3 e5 e6 e7 e8 e9
    exact ⟨⟨op, table, kind, al, cond, exh, ex, agh, ag, ty, roh, ro, kidsh, kids⟩, rfl, ⟨_, ⟨int64_of w0, w1, int64_of w2, w4, r5, w5, r6, w6, w7, r8, w8⟩, r9, w9⟩⟩

end
end Go.Proofs.YtmnbhdhgjbgidaaDoor

/- SchemaSpoilt: for every list, two numbers and a name the law returns true, and they read as they did. The package variable expression.operations starts as the program's text lays it (the card ties that to the text). No other condition. -/
namespace Go.Proofs.YtmnbhdhgjbgidaaDoor.schemaSpoilt
open Go.ChangeShapes Go.WideShapes Go.ChangeAt Go.RowKit
open Go.ChangeMaps (open_string)

theorem own : ownKnob Tryd.prog.godebug = none := by kernel_rfl
theorem laidOut : laidOutB Tryd.prog = true := by kernel_rfl

/-- The cells that a datum of structs, strings and integers takes. -/
def flatD : Nat → DataW Unit → List Value
  | n + 1, .agg l => l.flatMap (flatD n)
  | _ + 1, .lit (.string s) => [.string ⟨s.toArray⟩]
  | _ + 1, .lit (.int k n) => [.int k n]
  | _, _ => []
/-- A world for the witness: the settled one, the table holding what its initialiser lays. -/
noncomputable def laidWorld (os : Os) : World :=
  let w0 := World.holding Tryd.prog os ⟨#[], #[], []⟩
  let put (h : Array Obj) (g : Nat) (cs : Array Value) : Array Obj := h.modify g fun
    | .cells _ t frozen => .cells cs t frozen
    | o => o
  { w0 with heap := put w0.heap 2 (flatD 8 Rows.laid_querylab_expression_operations).toArray }
theorem laid_met (os : Os) : laidMet Tryd.prog Rows.schemaSpoiltRow.laid ((laidWorld os).forCall (fun _ _ => 0) ⟨#[], #[.slice none 0 0, .int .i64 0, .int .i64 0, .string ⟨#[]⟩], []⟩).memory :=
  laidMet_of_run' 8 (by kernel_rfl) (by kernel_rfl)
theorem reads (os : Os) {H : Type} (enc : TypeId × Value → H) : ∃ places, DataW.whole enc Tryd.prog ((laidWorld os).forCall (fun _ _ => 0) ⟨#[], #[.slice none 0 0, .int .i64 0, .int .i64 0, .string ⟨#[]⟩], []⟩).memory Tryd.f3.params.toList Rows.schemaSpoiltSpec.vars false (#[Value.slice none 0 0, Value.int .i64 0, Value.int .i64 0, Value.string ⟨#[]⟩] : Array Value).toList 8 = some ([.nil, .lit (.int .i64 0), .lit (.int .i64 0), .lit (.string [])], [], places) :=
  ⟨[], by kernel_rfl⟩

set_option maxRecDepth 100000 in
theorem contract (H : Type) (enc : TypeId × Value → H) (W : World) (base : Nat) (args : Array Value) (ds gs : List (DataW H)) (before : List MemPlace)
    (hval : ∀ (j : Nat) t v, Tryd.f3.params[j]? = some t → args[j]? = some v → Value.okWide Tryd.prog W .any base t v)
    (hW : DataW.Whole enc Tryd.prog Tryd.f3.params.toList Rows.schemaSpoiltSpec.vars false W args.toList ds gs before) (hL : laidMetH Tryd.prog Rows.schemaSpoiltRow.laid W) (hsh : W.ShapedOpen Tryd.prog) :
    Calls Tryd.prog 3 args W fun e W' => ∃ v, e = .returned v ∧ Rows.schemaSpoiltSpec.post enc Tryd.prog Tryd.f3 false true false false W args v W' := by
  have hW' := hW
  obtain ⟨p, q, hA0, hV, rfl, hfz, hnd⟩ := hW
  have hA : DataW.TrodAll enc Tryd.prog W 0 (fun _ => true) true Tryd.f3.params.toList args.toList ds p := hA0
  rw [Tryd.params3] at hA hval
  obtain ⟨v0, vs0, d0, ds0, p0, q0, hargs, rfl, rfl, h0, r0⟩ := trodAll_cons hA
  obtain ⟨v1, vs1, d1, ds1, p1, q1, rfl, rfl, rfl, h1, r1⟩ := trodAll_cons r0
  obtain ⟨v2, vs2, d2, ds2, p2, q2, rfl, rfl, rfl, h2, r2⟩ := trodAll_cons r1
  obtain ⟨v3, vs3, d3, ds3, p3, q3, rfl, rfl, rfl, h3, r3⟩ := trodAll_cons r2
  obtain ⟨rfl, rfl, rfl⟩ := trodAll_nil r3
  obtain rfl : args = #[v0, v1, v2, v3] := by cases args; simp_all
  obtain ⟨rfl, rfl⟩ := trodVars_none hV
  have k0 := h0
  have lt0 : ∀ x ∈ p0, x.block < W.heap.size := by obtain ⟨m, hm⟩ := k0; exact DataW.trod_lt m _ _ _ hm
  obtain ⟨ao0, n0, cp0, rfl⟩ := okWide_slice Tryd.underlying22 (hval 0 22 v0 rfl rfl)
  obtain ⟨a0, e0, w0⟩ : ∃ a : IL, [Value.slice ao0 n0 cp0] = a.cells ∧ a.In W := by obtain ⟨m, hm⟩ := k0; exact open_il hm
  injection e0 with e0 _
  injection e0 with x0 y0 z0
  subst x0 y0 z0
  have k1 := h1
  have lt1 : ∀ x ∈ p1, x.block < W.heap.size := by obtain ⟨m, hm⟩ := k1; exact DataW.trod_lt m _ _ _ hm
  obtain ⟨a1, rfl, _, _, w1⟩ := open_int Tryd.underlying3 (hval 1 3 v1 rfl rfl) h1
  have k2 := h2
  have lt2 : ∀ x ∈ p2, x.block < W.heap.size := by obtain ⟨m, hm⟩ := k2; exact DataW.trod_lt m _ _ _ hm
  obtain ⟨a2, rfl, _, _, w2⟩ := open_int Tryd.underlying3 (hval 2 3 v2 rfl rfl) h2
  have k3 := h3
  have lt3 : ∀ x ∈ p3, x.block < W.heap.size := by obtain ⟨m, hm⟩ := k3; exact DataW.trod_lt m _ _ _ hm
  obtain ⟨a3, rfl, _, _, w3⟩ := open_string Tryd.underlying9 (hval 3 9 v3 rfl rfl) h3
  have b2 : int64 a2 := by
    simp [Lit.wf, IntKind.min, IntKind.max, IntKind.signed, IntKind.bits] at w2
    exact ⟨by omega, by omega⟩
  clear hA0
  have hr : Lib.VarReads Tryd.prog W "querylab/expression.operations" Rows.laid_querylab_expression_operations := Lib.laidMet.reads (l := Rows.schemaSpoiltRow.laid) hL (by simp [Rows.schemaSpoiltRow])
  refine (spoilt_walk (hide (schema_of (hide expr_any3))) a0 a1 a2 a3 W w0 b2 (ops_of_reads hr) hsh).mono fun e W' ⟨he, bel⟩ => ?_
  subst he
  exact ⟨_, rfl, _, _, _, [], _, [], hW', trodAll_mk1 (shut_bool Tryd.underlying4 _), (trodAll_cons_mk (Below.trod laidOut (by kernel_rfl) (of_decide_eq_true (by kernel_rfl)) k0 bel lt0) (trodAll_cons_mk (Below.trod laidOut (by kernel_rfl) (of_decide_eq_true (by kernel_rfl)) k1 bel lt1) (trodAll_cons_mk (Below.trod laidOut (by kernel_rfl) (of_decide_eq_true (by kernel_rfl)) k2 bel lt2) (trodAll_cons_mk (Below.trod laidOut (by kernel_rfl) (of_decide_eq_true (by kernel_rfl)) k3 bel lt3) trodAll_mk0)))), rfl, bel.frame _, fun h => by cases h⟩

set_option maxRecDepth 100000 in
theorem lifted (os : Os) (started : os.Started) (H : Type) (enc : TypeId × Value → H) (F : Stop.Interp) :
    ReturnsInHanded {} Tryd.checked os 3 .any ((OpenSpec.ofChange Rows.schemaSpoiltSpec).preRow enc Tryd.prog Tryd.f3 Rows.schemaSpoiltRow.domain false Rows.schemaSpoiltRow.laid) (((OpenSpec.ofChange Rows.schemaSpoiltSpec).at F).post enc Tryd.prog Tryd.f3 false true false false) := by
  obtain ⟨places, hx⟩ := reads os enc
  refine returnsInHanded_of_row (C := Tryd.checked) (s := OpenSpec.ofChange Rows.schemaSpoiltSpec) own started (by kernel_rfl) Tryd.func3
    (witness_row_at (enc := enc) (C := Tryd.checked) false (laidWorld os) #[.slice none 0 0, .int .i64 0, .int .i64 0, .string ⟨#[]⟩] rfl (by kernel_rfl) (by kernel_rfl) (by kernel_rfl)
      (OpenSpec.preRow_of_cond 8 hx (by kernel_rfl) (fun k hk => by cases hk) (by kernel_rfl) (laid_met os))) ?_
  intro W base args ds gs before hval hW _ _ _ hL hsh _
  exact contract H enc W base args ds gs before hval hW hL hsh

theorem said : Rows.SchemaSpoiltSaid :=
  OpenClaim.holds_of_cond 3 Tryd.f3 rfl rfl rfl rfl rfl rfl rfl ⟨rfl, rfl, rfl, rfl, rfl⟩ rfl rfl rfl rfl rfl (by kernel_rfl) Tryd.func3 (by kernel_rfl)
    (of_decide_eq_true (by kernel_rfl)) (by unfold Func.isWrapper; first | (rw [if_pos (by decide +kernel)]; kernel_rfl) | (rw [if_neg (by decide +kernel)]; exact ⟨rfl, rfl⟩))
    (fun os started H enc _ F => by rw [OpenClaim.pre_eq_preRow]; exact lifted os started H enc F)

theorem plain (f : FuncId) (fn : Func) (hf : Tryd.pinned.checked.prog.funcNamed "querylab/querylablaw03.SchemaSpoilt" = some f) (hfn : Tryd.pinned.checked.prog.funcs[f]? = some fn) :
    false = Tryd.pinned.checked.prog.looks [] ∧ ∀ (j : Nat) t, fn.params[j]? = some t → Tryd.pinned.checked.prog.wantsStandIn t = false := by
  obtain rfl : f = 3 := Option.some.inj ((show Tryd.prog.funcNamed "querylab/querylablaw03.SchemaSpoilt" = some 3 by kernel_rfl).symm.trans hf) |>.symm
  obtain rfl : fn = Tryd.f3 := (Option.some.inj (Tryd.func3.symm.trans hfn)).symm
  refine ⟨by kernel_rfl, fun j t ht => ?_⟩
  rw [Tryd.params3] at ht
  have hm : t = 22 ∨ t = 3 ∨ t = 9 := by have := Array.mem_of_getElem? ht; simp at this; omega
  rcases hm with rfl | rfl | rfl
  · exact (show Tryd.prog.wantsStandIn 22 = false by kernel_rfl)
  · exact (show Tryd.prog.wantsStandIn 3 = false by kernel_rfl)
  · exact (show Tryd.prog.wantsStandIn 9 = false by kernel_rfl)

/-- The card. -/
theorem holds : Rows.SchemaSpoiltCardSaid :=
  Claim7.holds_tied_plain_at .later [] _ _ _ _ said (fun _ h => by cases h) (by kernel_rfl) (fun _ h => by cases h) schemaSpoilt_row_tie rfl ⟨rfl, rfl⟩ (by kernel_rfl) rfl plain (by kernel_rfl)
end Go.Proofs.YtmnbhdhgjbgidaaDoor.schemaSpoilt

/- A table under construction, and the schema of the tables that were made. -/
import Derived.Test.YtmnbhdhgjbgidaaDoorSchP
namespace Go.Proofs.YtmnbhdhgjbgidaaDoor
open Go.RowKit

theorem tzo {w w' : World} {b a B : Nat} {L : IL} {r : Option Nat} (h : TapeIn w b L a) (hg : w.grownBy w' r) (hB : b < B ∧ (0 < L.l.length → L.h.b < B)) (hr : ∀ c, r = some c → B ≤ c) : TapeIn w' b L a := by
  cases r with
  | none => exact tz2 h (hg.but (some w.heap.size)) h.low (Nat.le_refl _)
  | some c => exact tz2 h hg hB (hr c rfl)
theorem gbo {a b c : World} {r : Option Nat} {q : Option Nat} (h : a.grownBy b r) (k : b.grownBy c q) (hq : ∀ g, q = some g → a.heap.size ≤ g) : a.grownBy c r := h.andThen k (fun j e => .inl (hq j e))

/-- A table under construction, in the box cx; V is the world in which its round began. -/
structure TB (V z : World) (b : Nat) (L : IL) (a B cx : Nat) (t : Tab) : Prop where
  gb : V.grownBy z (some b)
  le : V.heap.size ≤ B
  ll : b < V.heap.size ∧ (0 < L.l.length → L.h.b < V.heap.size)
  tp : TapeIn z b L a
  ti : TI z B t
  bx : Box z cx #[.string t.name, .slice t.ch.ao t.cols.length t.ch.cap, .slice t.prim.h.ao t.prim.l.length t.prim.h.cap, .slice t.uh.ao t.uniqs.length t.uh.cap, .slice t.fh.ao t.fors.length t.fh.cap, .slice t.kh.ao t.checks.length t.kh.cap] 39
  cx : B ≤ cx
  nk : t.checks = [] ∧ t.kh = nilHd
section
variable {V z z' : World} {b a a' B cx g cap : Nat} {L : IL} {t : Tab}
theorem TB.next (h : TB V z b L a B cx t) (hg : z.grownBy z' (some b)) (ht : TapeIn z' b L a') : TB V z' b L a' B cx t :=
  ⟨h.gb.trans hg, h.le, h.ll, ht, h.ti.keepB hg (by have := h.le; have := h.ll; omega), h.bx.grown hg (by have := h.le; have := h.ll; have := h.cx; simp; omega), h.cx, h.nk⟩
theorem TB.below (h : TB V z b L a B cx t) (hb : Below z.heap.size z z') : TB V z' b L a B cx t := h.next (only_below hb _) (h.tp.mono hb)
theorem TB.alloc (h : TB V z b L a B cx t) (o : Obj) : TB V (z.alloc o) b L a B cx t := h.below (belA o)
theorem TB.sz (h : TB V z b L a B cx t) : B ≤ z.heap.size := by have := h.ti.pr.ge; have := h.ti.pr.lt; omega
theorem TB.cell (h : TB V z b L a B cx t) {j : Nat} {v : Value} (hv : (t.cells)[j]? = some v) : z.cell? ⟨cx, j, none⟩ = some v := h.bx.cell (by simpa using hv)
theorem TB.col {c : Col} (h : TB V z b L a B cx t)
    (ho : z'.ownsRow B 41 3 (.slice (some ⟨g, 0, none⟩) (t.cols.length + 1) cap) (t.cols.length + 1) (t.cols.flatMap Col.cells ++ Col.cells c)) (hg : z.grownBy z' (Value.slice t.ch.ao t.cols.length t.ch.cap).ownBlock) (hc : c.name.size ≤ 100 ∧ int64 c.typ) :
    TB V (z'.setCell ⟨cx, 1, none⟩ (.slice (some ⟨g, 0, none⟩) (t.cols.length + 1) cap)) b L a B cx { t with ch := ⟨some ⟨g, 0, none⟩, cap⟩, cols := t.cols ++ [c] } := by
  rw [Hd.ob_eq] at hg
  have hge : ∀ g, t.ch.ob = some g → B ≤ g := fun g e => (own_ob h.ti.oc e).1
  have hle := h.le
  have hll := h.ll
  have hcx := h.cx
  have hbx := h.bx.grown hg (fun e => own_box_ne h.ti.oc h.bx (by decide) e.symm)
  have hti := h.ti.col ho hg (fun x hx => by rw [h.nk.1] at hx; cases hx) hc
  refine ⟨gbo (gbo h.gb hg (fun g e => Nat.le_trans hle (hge g e))) (gb_set _ _ _ _) (fun g e => by injection e with e; omega), hle, hll, tzo (tzo h.tp hg hll (fun g e => Nat.le_trans hle (hge g e))) (gb_set _ _ _ _) hll (fun g e => by injection e with e; omega), ?_, ?_, hcx, h.nk⟩
  · exact hti.keep (gb_set _ _ _ _) (fun g e => by injection e with e; subst e; exact hti.off_box hbx (fun x hx => by rw [show x ∈ t.checks ↔ x ∈ ([] : List Ex) by rw [h.nk.1]] at hx; cases hx))
  · have := hbx.set 1 (.slice (some ⟨g, 0, none⟩) (t.cols.length + 1) cap)
    show Box _ cx #[.string t.name, .slice (some ⟨g, 0, none⟩) (t.cols ++ [c]).length cap, .slice t.prim.h.ao t.prim.l.length t.prim.h.cap, .slice t.uh.ao t.uniqs.length t.uh.cap, .slice t.fh.ao t.fors.length t.fh.cap, .slice t.kh.ao t.checks.length t.kh.cap] _
    rw [show (t.cols ++ [c]).length = t.cols.length + 1 by simp]
    exact this
theorem TB.unq {c : IL} (h : TB V z b L a B cx t)
    (ho : z'.ownsRow B 22 1 (.slice (some ⟨g, 0, none⟩) (t.uniqs.length + 1) cap) (t.uniqs.length + 1) (t.uniqs.flatMap IL.cells ++ IL.cells c)) (hg : z.grownBy z' (Value.slice t.uh.ao t.uniqs.length t.uh.cap).ownBlock) (hc : One z B c) :
    TB V (z'.setCell ⟨cx, 3, none⟩ (.slice (some ⟨g, 0, none⟩) (t.uniqs.length + 1) cap)) b L a B cx { t with uh := ⟨some ⟨g, 0, none⟩, cap⟩, uniqs := t.uniqs ++ [c] } := by
  rw [Hd.ob_eq] at hg
  have hge : ∀ g, t.uh.ob = some g → B ≤ g := fun g e => (own_ob h.ti.ou e).1
  have hle := h.le
  have hll := h.ll
  have hcx := h.cx
  have hbx := h.bx.grown hg (fun e => own_box_ne h.ti.ou h.bx (by decide) e.symm)
  have hti := h.ti.unq ho hg (fun x hx => by rw [h.nk.1] at hx; cases hx) hc
  refine ⟨gbo (gbo h.gb hg (fun g e => Nat.le_trans hle (hge g e))) (gb_set _ _ _ _) (fun g e => by injection e with e; omega), hle, hll, tzo (tzo h.tp hg hll (fun g e => Nat.le_trans hle (hge g e))) (gb_set _ _ _ _) hll (fun g e => by injection e with e; omega), ?_, ?_, hcx, h.nk⟩
  · exact hti.keep (gb_set _ _ _ _) (fun g e => by injection e with e; subst e; exact hti.off_box hbx (fun x hx => by rw [show x ∈ t.checks ↔ x ∈ ([] : List Ex) by rw [h.nk.1]] at hx; cases hx))
  · have := hbx.set 3 (.slice (some ⟨g, 0, none⟩) (t.uniqs.length + 1) cap)
    show Box _ cx #[.string t.name, .slice t.ch.ao t.cols.length t.ch.cap, .slice t.prim.h.ao t.prim.l.length t.prim.h.cap, .slice (some ⟨g, 0, none⟩) (t.uniqs ++ [c]).length cap, .slice t.fh.ao t.fors.length t.fh.cap, .slice t.kh.ao t.checks.length t.kh.cap] _
    rw [show (t.uniqs ++ [c]).length = t.uniqs.length + 1 by simp]
    exact this
theorem TB.frn {c : Frn} (h : TB V z b L a B cx t)
    (ho : z'.ownsRow B 43 2 (.slice (some ⟨g, 0, none⟩) (t.fors.length + 1) cap) (t.fors.length + 1) (t.fors.flatMap Frn.cells ++ Frn.cells c)) (hg : z.grownBy z' (Value.slice t.fh.ao t.fors.length t.fh.cap).ownBlock) (hc : One z B c.cols ∧ c.tab.size ≤ 100) :
    TB V (z'.setCell ⟨cx, 4, none⟩ (.slice (some ⟨g, 0, none⟩) (t.fors.length + 1) cap)) b L a B cx { t with fh := ⟨some ⟨g, 0, none⟩, cap⟩, fors := t.fors ++ [c] } := by
  rw [Hd.ob_eq] at hg
  have hge : ∀ g, t.fh.ob = some g → B ≤ g := fun g e => (own_ob h.ti.of e).1
  have hle := h.le
  have hll := h.ll
  have hcx := h.cx
  have hbx := h.bx.grown hg (fun e => own_box_ne h.ti.of h.bx (by decide) e.symm)
  have hti := h.ti.frn ho hg (fun x hx => by rw [h.nk.1] at hx; cases hx) hc
  refine ⟨gbo (gbo h.gb hg (fun g e => Nat.le_trans hle (hge g e))) (gb_set _ _ _ _) (fun g e => by injection e with e; omega), hle, hll, tzo (tzo h.tp hg hll (fun g e => Nat.le_trans hle (hge g e))) (gb_set _ _ _ _) hll (fun g e => by injection e with e; omega), ?_, ?_, hcx, h.nk⟩
  · exact hti.keep (gb_set _ _ _ _) (fun g e => by injection e with e; subst e; exact hti.off_box hbx (fun x hx => by rw [show x ∈ t.checks ↔ x ∈ ([] : List Ex) by rw [h.nk.1]] at hx; cases hx))
  · have := hbx.set 4 (.slice (some ⟨g, 0, none⟩) (t.fors.length + 1) cap)
    show Box _ cx #[.string t.name, .slice t.ch.ao t.cols.length t.ch.cap, .slice t.prim.h.ao t.prim.l.length t.prim.h.cap, .slice t.uh.ao t.uniqs.length t.uh.cap, .slice (some ⟨g, 0, none⟩) (t.fors ++ [c]).length cap, .slice t.kh.ao t.checks.length t.kh.cap] _
    rw [show (t.fors ++ [c]).length = t.fors.length + 1 by simp]
    exact this
end

theorem One.new (x : World) {B : Nat} {n : Int} (hB : B ≤ x.heap.size) (hn : int64 n) : One (x.alloc (.cells #[.int .i64 n] 3)) B ⟨⟨some ⟨x.heap.size, 0, none⟩, 1⟩, [n]⟩ := ⟨_, _, rfl, Box.new x _ _, hn, hB⟩
theorem One.below {z z' : World} {B : Nat} {x : IL} (h : One z B x) (hb : Below z.heap.size z z') : One z' B x := h.keep (only_below hb none) (fun g e => by cases e)
theorem One.keepB {z z' : World} {B b : Nat} {x : IL} (h : One z B x) (hg : z.grownBy z' (some b)) (hb : b < B) : One z' B x := h.keep hg (fun g e => by have := h.ge; injection e with e; omega)

/-- g is the block of one of a table's rows. -/
def RowBlk (t : Tab) (g : Nat) : Prop := t.ch.ob = some g ∨ t.uh.ob = some g ∨ t.fh.ob = some g ∨ t.kh.ob = some g
theorem TI.rowblk {z : World} {B g : Nat} {t : Tab} (h : TI z B t) (hg : RowBlk t g) : B ≤ g ∧ g < z.heap.size := by
  rcases hg with hg | hg | hg | hg
  · exact ⟨(own_ob h.oc hg).1, (own_ob h.oc hg).2.1⟩
  · exact ⟨(own_ob h.ou hg).1, (own_ob h.ou hg).2.1⟩
  · exact ⟨(own_ob h.of hg).1, (own_ob h.of hg).2.1⟩
  · exact ⟨(own_ob h.ok hg).1, (own_ob h.ok hg).2.1⟩
/-- No expression of a table's checks lies in the block of one of its rows. -/
def KD (t : Tab) : Prop := ∀ e ∈ t.checks, ∀ g, RowBlk t g → e.Off g
/-- What is known of a table that is done, besides where it lies. -/
structure TFin (t : Tab) : Prop where
  kd : KD t
  nu : t.uniqs = [] → t.uh = nilHd
  nc : 1 ≤ t.cols.length ∧ t.cols.length ≤ 8
  nl : t.uniqs.length ≤ 2 ∧ t.fors.length ≤ 4 ∧ t.checks.length ≤ 2

/-- A table that is done, in the box cx. -/
structure TD (V z : World) (b : Nat) (L : IL) (a B cx : Nat) (t : Tab) : Prop where
  gb : V.grownBy z (some b)
  le : V.heap.size ≤ B
  tp : TapeIn z b L a
  ti : TI z B t
  bx : Box z cx #[.string t.name, .slice t.ch.ao t.cols.length t.ch.cap, .slice t.prim.h.ao t.prim.l.length t.prim.h.cap, .slice t.uh.ao t.uniqs.length t.uh.cap, .slice t.fh.ao t.fors.length t.fh.cap, .slice t.kh.ao t.checks.length t.kh.cap] 39
  fin : TFin t
theorem TB.done {V z : World} {b a B cx : Nat} {L : IL} {t : Tab} (h : TB V z b L a B cx t) (hu : t.uniqs = [] → t.uh = nilHd) (hc : 1 ≤ t.cols.length ∧ t.cols.length ≤ 8) (hl : t.uniqs.length ≤ 2 ∧ t.fors.length ≤ 4) : TD V z b L a B cx t :=
  ⟨h.gb, h.le, h.tp, h.ti, h.bx, ⟨fun e he => (by rw [h.nk.1] at he; exact absurd he List.not_mem_nil), hu, hc, ⟨hl.1, hl.2, (by rw [h.nk.1]; decide)⟩⟩⟩
/-- The check is appended: from the world x, in which the expression e has been made out of z, over the literal's block. -/
theorem TB.chk {V z x z' : World} {b a a' B cx g cap : Nat} {L : IL} {t : Tab} {e : Ex} {o : Obj} (h : TB V z b L a B cx t) (hx : z.grownBy x (some b)) (htx : TapeIn x b L a') (he : e.In x ∧ e.Fresh z.heap.size ∧ e.size ≤ 21)
    (ho : z'.ownsRow B 45 6 (.slice (some ⟨g, 0, none⟩) (t.checks.length + 1) cap) (t.checks.length + 1) (t.checks.flatMap Ex.cells ++ Ex.cells e)) (hg : (x.alloc o).grownBy z' (Value.slice t.kh.ao t.checks.length t.kh.cap).ownBlock) (hgg : g = (x.alloc o).heap.size)
    (hu : t.uniqs = [] → t.uh = nilHd) (hc : 1 ≤ t.cols.length ∧ t.cols.length ≤ 8) (hl : t.uniqs.length ≤ 2 ∧ t.fors.length ≤ 4) :
    TD V (z'.setCell ⟨cx, 5, none⟩ (.slice (some ⟨g, 0, none⟩) (t.checks.length + 1) cap)) b L a' B cx { t with kh := ⟨some ⟨g, 0, none⟩, cap⟩, checks := t.checks ++ [e] } := by
  rw [Hd.ob_eq] at hg
  have h1 := (h.next hx htx).alloc o
  have hle := h.le
  have hll := h.ll
  have hcx := h.cx
  have hnk : t.kh.ob = none := by rw [h.nk.2]; rfl
  have hzB : B ≤ z.heap.size := by have := h.ti.pr.ge; have := h.ti.pr.lt; omega
  have hcz : cx < z.heap.size := h.bx.lt
  rw [hnk] at hg
  have hbx := h1.bx.grown hg (by simp)
  have hex : e.In (x.alloc o) := he.1.mono (belA o)
  have hti := h1.ti.chk ho (by rw [hnk]; exact hg) (fun y _ g hh => by rw [hnk] at hh; cases hh) ⟨hex, he.2.1.mono hzB, he.2.2⟩
  have hoff : ∀ y ∈ t.checks ++ [e], y.Off cx := fun y hy => by
    rw [h.nk.1, List.nil_append, List.mem_singleton] at hy
    subst hy
    exact he.2.1.off hcz
  refine ⟨gbo (gbo h1.gb hg (fun g e => by cases e)) (gb_set _ _ _ _) (fun g e => by injection e with e; omega), hle, tzo (tzo h1.tp hg hll (fun g e => by cases e)) (gb_set _ _ _ _) hll (fun g e => by injection e with e; omega), ?_, ?_, ?_⟩
  · exact hti.keep (gb_set _ _ _ _) (fun g e => by injection e with e; subst e; exact hti.off_box hbx hoff)
  · have := hbx.set 5 (.slice (some ⟨g, 0, none⟩) (t.checks.length + 1) cap)
    show Box _ cx #[.string t.name, .slice t.ch.ao t.cols.length t.ch.cap, .slice t.prim.h.ao t.prim.l.length t.prim.h.cap, .slice t.uh.ao t.uniqs.length t.uh.cap, .slice t.fh.ao t.fors.length t.fh.cap, .slice (some ⟨g, 0, none⟩) (t.checks ++ [e]).length cap] _
    rw [show (t.checks ++ [e]).length = t.checks.length + 1 by simp]
    exact this
  · refine ⟨fun y hy g' hb => ?_, hu, hc, hl.1, hl.2, by show (t.checks ++ [e]).length ≤ 2; rw [h.nk.1]; show (1 : Nat) ≤ 2; omega⟩
    have hy' : y ∈ t.checks ++ [e] := hy
    rw [h.nk.1, List.nil_append, List.mem_singleton] at hy'
    subst hy'
    rcases hb with hb | hb | hb | hb
    · exact he.2.1.off (own_ob h.ti.oc hb).2.1
    · exact he.2.1.off (own_ob h.ti.ou hb).2.1
    · exact he.2.1.off (own_ob h.ti.of hb).2.1
    · have : g = g' := by simpa [Hd.ob] using hb
      subst this
      exact hex.off (by rw [hgg]; exact Nat.le_refl _)

/-- No row of t lies in a block of t'. -/
def TDis (t t' : Tab) : Prop := ∀ g, RowBlk t g → TOff g t'
theorem TI.base {z : World} {B B' : Nat} {t : Tab} (h : TI z B t) (hb : B' ≤ B) : TI z B' t where
  oc := base_own h.oc hb
  ou := base_own h.ou hb
  of := base_own h.of hb
  ok := base_own h.ok hb
  nm := h.nm
  cs := h.cs
  pr := h.pr.base hb
  us := fun u hu => (h.us u hu).base hb
  fs := fun f hf => ⟨(h.fs f hf).1.base hb, (h.fs f hf).2⟩
  ks := fun k hk => ⟨(h.ks k hk).1, (h.ks k hk).2.1.mono hb, (h.ks k hk).2.2⟩

/-- The schema under construction: its result's box is block w.heap.size, its own box the next one. -/
structure SB (w z : World) (b : Nat) (L : IL) (a : Nat) (h : Hd) (ts : List Tab) : Prop where
  gb : w.grownBy z (some b)
  ll : b < w.heap.size ∧ (0 < L.l.length → L.h.b < w.heap.size)
  tp : TapeIn z b L a
  b0 : Box z w.heap.size #[.slice none 0 0] 28
  b1 : Box z (w.heap.size + 1) #[.slice h.ao ts.length h.cap] 28
  own : z.ownsRow (w.heap.size + 2) 39 6 (.slice h.ao ts.length h.cap) ts.length (ts.flatMap Tab.cells)
  tis : ∀ t ∈ ts, TI z (w.heap.size + 2) t ∧ TFin t
  off : ∀ t ∈ ts, ∀ g, h.ob = some g → TOff g t
  pw : ts.Pairwise fun t t' => TDis t t' ∧ TDis t' t
theorem SB.next {w z z' : World} {b a a' : Nat} {L : IL} {h : Hd} {ts : List Tab} (s : SB w z b L a h ts) (hg : z.grownBy z' (some b)) (ht : TapeIn z' b L a') : SB w z' b L a' h ts where
  gb := s.gb.trans hg
  ll := s.ll
  tp := ht
  b0 := s.b0.grown hg (by have := s.ll; simp; omega)
  b1 := s.b1.grown hg (by have := s.ll; simp; omega)
  own := own_keep s.own hg fun g e e' => by have := (own_ob s.own e').1; injection e with e; have := s.ll; omega
  tis := fun t ht => ⟨(s.tis t ht).1.keepB hg (by have := s.ll; omega), (s.tis t ht).2⟩
  off := s.off
  pw := s.pw
theorem SB.snoc {w V z z' : World} {b a a' B cx g cap : Nat} {L : IL} {h : Hd} {ts : List Tab} {t : Tab} {o : Obj} (s : SB w V b L a h ts) (d : TD V z b L a' B cx t)
    (ho : z'.ownsRow (w.heap.size + 2) 39 6 (.slice (some ⟨g, 0, none⟩) (ts.length + 1) cap) (ts.length + 1) (ts.flatMap Tab.cells ++ Tab.cells t)) (hg : (z.alloc o).grownBy z' (Value.slice h.ao ts.length h.cap).ownBlock)
    (hgg : (Value.slice h.ao ts.length h.cap).ownBlock = some g ∨ g = (z.alloc o).heap.size) :
    SB w (z'.setCell ⟨w.heap.size + 1, 0, none⟩ (.slice (some ⟨g, 0, none⟩) (ts.length + 1) cap)) b L a' ⟨some ⟨g, 0, none⟩, cap⟩ (ts ++ [t]) := by
  rw [Hd.ob_eq] at hg hgg
  have h1 : SB w (z.alloc o) b L a' h ts := s.next (d.gb.trans (only_below (belA o) _)) (d.tp.mono (belA o))
  have hVB := d.le
  have hll := s.ll
  have hVw : w.heap.size + 2 ≤ V.heap.size := by have := s.b1.lt; omega
  have hob : ∀ g, h.ob = some g → w.heap.size + 2 ≤ g ∧ g < V.heap.size := fun g e => ⟨(own_ob s.own e).1, (own_ob s.own e).2.1⟩
  have hz : V.heap.size ≤ z.heap.size := d.gb.size
  have hg2 : w.heap.size + 2 ≤ g := by
    rcases hgg with e | e
    · exact (hob g e).1
    · have : (z.alloc o).heap.size = z.heap.size + 1 := World.size_alloc _ _
      omega
  have ht1 : TI (z.alloc o) B t := d.ti.keepA o
  have hll2 : b < w.heap.size + 2 ∧ (0 < L.l.length → L.h.b < w.heap.size + 2) := ⟨by omega, fun hp => by have := hll.2 hp; omega⟩
  refine ⟨?_, hll, ?_, ?_, ?_, ?_, ?_, ?_, ?_⟩
  · exact gbo (gbo h1.gb hg (fun g e => by have := hob g e; omega)) (gb_set _ _ _ _) (fun g e => by injection e with e; omega)
  · exact tzo (tzo h1.tp hg hll2 (fun g e => (hob g e).1)) (gb_set _ _ _ _) (B := w.heap.size) hll (fun g e => by injection e with e; omega)
  · exact (h1.b0.grown hg (fun e => by have := hob _ e.symm; omega)).grown (gb_set _ _ _ _) (by simp)
  · have := (h1.b1.grown hg (fun e => by have := hob _ e.symm; omega)).set 0 (.slice (some ⟨g, 0, none⟩) (ts.length + 1) cap)
    rw [show (ts ++ [t]).length = ts.length + 1 by simp]
    exact this
  · rw [fm_snoc, List.length_append]
    exact own_keep (h := ⟨some ⟨g, 0, none⟩, cap⟩) ho (gb_set _ _ _ _) (fun g' e e' => by
      injection e with e
      have h3 : g = g' := by simpa [Hd.ob] using e'
      omega)
  · intro y hy
    have hset : ∀ {x : World}, TI x (w.heap.size + 2) y → TI (x.setCell ⟨w.heap.size + 1, 0, none⟩ (.slice (some ⟨g, 0, none⟩) (ts.length + 1) cap)) (w.heap.size + 2) y :=
      fun hx => hx.keep (gb_set _ _ _ _) (fun g' e => hx.off (.inl (by injection e with e; omega)))
    rcases List.mem_append.1 hy with hy | hy
    · exact ⟨hset ((h1.tis y hy).1.keep hg (fun g' e => s.off y hy g' e)), (s.tis y hy).2⟩
    · rw [List.mem_singleton] at hy
      subst hy
      refine ⟨hset ((ht1.keep hg (fun g' e => ht1.off (.inl (by have := (hob g' e).2; omega)))).base (by omega)), d.fin⟩
  · intro y hy g' e
    have h3 : g = g' := by simpa [Hd.ob] using e
    subst h3
    rcases List.mem_append.1 hy with hy | hy
    · rcases hgg with e | e
      · exact s.off y hy g e
      · exact (h1.tis y hy).1.off (.inr (by omega))
    · rw [List.mem_singleton] at hy
      subst hy
      rcases hgg with e | e
      · exact ht1.off (.inl (by have := (hob g e).2; omega))
      · exact ht1.off (.inr (by omega))
  · rw [List.pairwise_append]
    refine ⟨s.pw, List.pairwise_singleton _ _, fun x hx y hy => ?_⟩
    rw [List.mem_singleton] at hy
    subst hy
    exact ⟨fun g hg => ht1.off (.inl (by have := ((s.tis x hx).1.rowblk hg).2; omega)), fun g hg => (s.tis x hx).1.off (.inr (by have := (d.ti.rowblk hg).1; omega))⟩
/-- What the schema is in the end. -/
structure SchOut (w z : World) (b : Nat) (L : IL) (a : Nat) (h : Hd) (ts : List Tab) : Prop where
  gb : w.grownBy z (some b)
  tp : TapeIn z b L a
  own : z.ownsRow (w.heap.size + 2) 39 6 (.slice h.ao ts.length h.cap) ts.length (ts.flatMap Tab.cells)
  tis : ∀ t ∈ ts, TI z (w.heap.size + 2) t ∧ TFin t
  off : ∀ t ∈ ts, ∀ g, h.ob = some g → TOff g t
  pw : ts.Pairwise fun t t' => TDis t t' ∧ TDis t' t
theorem SB.out {w z : World} {b a : Nat} {L : IL} {h : Hd} {ts : List Tab} (s : SB w z b L a h ts) (v : Value) : SchOut w (z.setCell ⟨w.heap.size, 0, none⟩ v) b L a h ts where
  gb := gb_then s.gb (gb_set _ _ _ _) (Nat.le_refl _)
  tp := tz2 s.tp (gb_set _ _ _ _) s.ll (Nat.le_refl _)
  own := own_keep s.own (gb_set _ _ _ _) fun g e e' => by have := (own_ob s.own e').1; injection e with e; omega
  tis := fun t ht => ⟨(s.tis t ht).1.keep (gb_set _ _ _ _) (fun g e => (s.tis t ht).1.off (.inl (by injection e with e; omega))), (s.tis t ht).2⟩
  off := s.off
  pw := s.pw
/-- What made.Schema answers, at any tape. -/
def SchemaAt : Prop := ∀ (w : World) (b a : Nat) (L : IL), TapeIn w b L a → a ≤ 1000000 →
    Calls Tryd.prog 7 #[.pointer (some ⟨b, 0, none⟩)] w fun e w' => ∃ (h : Hd) (ts : List Tab), e = .returned (.agg #[.slice h.ao ts.length h.cap]) ∧ 1 ≤ ts.length ∧ ts.length ≤ 3 ∧ ∃ a' : Nat, a' ≤ a + 400 ∧ SchOut w w' b L a' h ts
end Go.Proofs.YtmnbhdhgjbgidaaDoor

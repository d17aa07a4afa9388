/- The order of tables: T holds the targets of each table. Plain lists. -/
import Derived.Test.YtmnbhdhgjbgidaaDoorKit
import Derived.Test.YtmnbhdhgjbgidaaDoorTarget
import Derived.Test.YtmnbhdhgjbgidaaDoorTypes
import Derived.OwnWalk
import Derived.Maps.OwnSet
import Derived.Laws.Cover3
namespace Go.Proofs.YtmnbhdhgjbgidaaDoor

/-- Table i is not taken, and all that it references are. -/
def rdy (T : List (List Nat)) (D : List Nat) (i : Nat) : Prop := i ∉ D ∧ ∀ (h : i < T.length), ∀ t ∈ T[i], t ∈ D
/-- i is the least table that is ready. -/
def isNext (T : List (List Nat)) (D : List Nat) (i : Nat) : Prop := i < T.length ∧ rdy T D i ∧ ∀ j, j < i → ¬ rdy T D j
def noNext (T : List (List Nat)) (D : List Nat) : Prop := ∀ j, j < T.length → ¬ rdy T D j

/-- D is what k rounds take. -/
inductive Took (T : List (List Nat)) : List Nat → Prop where
  | nil : Took T []
  | snoc {D : List Nat} {i : Nat} : Took T D → isNext T D i → Took T (D ++ [i])

theorem next_one {T : List (List Nat)} {D : List Nat} {i j : Nat} (hi : isNext T D i) (hj : isNext T D j) : i = j := by
  rcases Nat.lt_trichotomy i j with h | h | h
  · exact absurd hi.2.1 (hj.2.2 i h)
  · exact h
  · exact absurd hj.2.1 (hi.2.2 j h)
theorem next_no {T : List (List Nat)} {D : List Nat} {i : Nat} (hi : isNext T D i) (hn : noNext T D) : False := hn i hi.1 hi.2.1

theorem snoc_cases {α : Type} {D : List α} {i : α} {E : List α} (h : E = D ++ [i]) : E.length = D.length + 1 := by subst h; simp

/-- What is taken is told by how many are. -/
theorem took_one {T : List (List Nat)} {D : List Nat} (h : Took T D) : ∀ {E : List Nat}, Took T E → D.length = E.length → D = E := by
  induction h with
  | nil => intro E hE hl; exact (List.eq_nil_of_length_eq_zero hl.symm).symm
  | snoc hD hi ih =>
    intro E hE hl
    cases hE with
    | nil => simp at hl
    | snoc hE' hj =>
      have e := ih hE' (by simpa using hl)
      subst e
      rw [next_one hi hj]

/-- Two ends: both have run out of rounds, or both have no next table. -/
def Ends (T : List (List Nat)) (D : List Nat) (ok : Bool) : Prop := Took T D ∧ (if ok = true then D.length = T.length else D.length < T.length ∧ noNext T D)

theorem took_take {T : List (List Nat)} {D : List Nat} (h : Took T D) : ∀ k, k ≤ D.length → Took T (D.take k) := by
  induction h with
  | nil => intro k hk; have : k = 0 := by simpa using hk
           subst this; exact .nil
  | @snoc D i hD hi ih =>
    intro k hk
    by_cases e : k = D.length + 1
    · subst e
      rw [List.take_of_length_le (by simp)]
      exact .snoc hD hi
    · have hk' : k ≤ D.length := by simp at hk; omega
      rw [List.take_append_of_le_length hk']
      exact ih k hk'

theorem took_next {T : List (List Nat)} {D : List Nat} (h : Took T D) : ∀ k, k < D.length → ∃ i, isNext T (D.take k) i := by
  induction h with
  | nil => intro k hk; simp at hk
  | @snoc D i hD hi ih =>
    intro k hk
    by_cases e : k = D.length
    · subst e
      rw [List.take_append_of_le_length (Nat.le_refl _), List.take_length]
      exact ⟨i, hi⟩
    · have hk' : k < D.length := by simp at hk; omega
      rw [List.take_append_of_le_length (Nat.le_of_lt hk')]
      exact ih k hk'

/-- The two orders agree: in what they answer, and in whether they have all. -/
theorem ends_one {T : List (List Nat)} {D E : List Nat} {p q : Bool} (hD : Ends T D p) (hE : Ends T E q) : p = q ∧ D = E := by
  have key : ∀ {D E : List Nat} {p q : Bool}, Ends T D p → Ends T E q → D.length ≤ E.length → p = q ∧ D = E := by
    intro D E p q hD hE hle
    have hpre := took_take hE.1 D.length hle
    have e := took_one hD.1 hpre (by simp; omega)
    by_cases hl : D.length < E.length
    · obtain ⟨i, hi⟩ := took_next hE.1 D.length hl
      rw [← e] at hi
      cases p with
      | false => exact (next_no hi hD.2.2).elim
      | true =>
        have h1 : D.length = T.length := hD.2
        have h2 : E.length ≤ T.length := by cases q with
          | true => exact Nat.le_of_eq hE.2
          | false => exact Nat.le_of_lt hE.2.1
        omega
    · have hl' : D.length = E.length := by omega
      have e2 := took_one hD.1 hE.1 hl'
      subst e2
      refine ⟨?_, rfl⟩
      cases p <;> cases q <;> try rfl
      · have h1 : D.length < T.length := hD.2.1
        have h2 : D.length = T.length := hE.2
        omega
      · have h1 : D.length = T.length := hD.2
        have h2 : D.length < T.length := hE.2.1
        omega
  rcases Nat.le_total D.length E.length with h | h
  · exact key hD hE h
  · have := key hE hD h
    exact ⟨this.1.symm, this.2.symm⟩

end Go.Proofs.YtmnbhdhgjbgidaaDoor

/- The targets of a schema's tables, as the plain law of the order has them. -/
namespace Go.Proofs.YtmnbhdhgjbgidaaDoor
open Go.RowKit

/-- The table that a foreign key names. -/
def tnum (s : Sch) (b : ByteArray) : Nat := (s.tabs.findIdx? (named b)).getD 0
/-- For each table the tables that it references. -/
def tgts (s : Sch) : List (List Nat) := s.tabs.map fun t => t.fors.map fun f => tnum s f.tab
/-- Each foreign key of table i names a table. -/
def found (s : Sch) (i : Nat) : Prop := ∀ (h : i < s.tabs.length) k (hk : k < s.tabs[i].fors.length), fok (named (s.tabs[i].fors[k].tab)) s.tabs = true
def allFound (s : Sch) : Prop := ∀ i, found s i

theorem tgts_len (s : Sch) : (tgts s).length = s.tabs.length := by simp [tgts]
theorem tgts_at (s : Sch) {i : Nat} (hi : i < s.tabs.length) : (tgts s)[i]'(by rw [tgts_len]; exact hi) = s.tabs[i].fors.map fun f => tnum s f.tab := by simp [tgts]
theorem fi_tnum (s : Sch) (b : ByteArray) : fi (named b) s.tabs = ((tnum s b : Nat) : Int) := rfl
theorem tnum_lt {s : Sch} {b : ByteArray} (h : fok (named b) s.tabs = true) : tnum s b < s.tabs.length := by
  unfold fok at h
  unfold tnum
  obtain ⟨k, hk⟩ := Option.isSome_iff_exists.1 h
  rw [hk]
  exact (List.findIdx?_eq_some_iff_getElem.1 hk).1
theorem tgtI_at (s : Sch) {i k : Nat} (hi : i < s.tabs.length) (hk : k < s.tabs[i].fors.length) : tgtI s i k = ((tnum s s.tabs[i].fors[k].tab : Nat) : Int) := by
  unfold tgtI; rw [tgtN_hit s i k hi hk]; rfl
theorem tgtB_at (s : Sch) {i k : Nat} (hi : i < s.tabs.length) (hk : k < s.tabs[i].fors.length) : tgtB s i k = fok (named s.tabs[i].fors[k].tab) s.tabs := by
  unfold tgtB; rw [tgtN_hit s i k hi hk]
/-- A table is ready when it is not taken and each of its foreign keys' tables is. -/
theorem rdy_iff (s : Sch) (D : List Nat) {i : Nat} (hi : i < s.tabs.length) : rdy (tgts s) D i ↔ i ∉ D ∧ ∀ k (hk : k < s.tabs[i].fors.length), tnum s s.tabs[i].fors[k].tab ∈ D := by
  unfold rdy
  refine and_congr Iff.rfl ?_
  constructor
  · intro h k hk
    refine h (by rw [tgts_len]; exact hi) _ ?_
    rw [tgts_at s hi]
    exact List.mem_map.2 ⟨_, List.getElem_mem hk, rfl⟩
  · intro h h2 t ht
    rw [tgts_at s hi] at ht
    obtain ⟨f, hf, rfl⟩ := List.mem_map.1 ht
    obtain ⟨k, hk, rfl⟩ := List.getElem_of_mem hf
    exact h k hk

theorem took_lt {T : List (List Nat)} {D : List Nat} (h : Took T D) : ∀ i ∈ D, i < T.length := by
  induction h with
  | nil => intro i hi; cases hi
  | snoc hD hi ih =>
    intro j hj
    rcases List.mem_append.1 hj with h | h
    · exact ih j h
    · rw [List.mem_singleton.1 h]; exact hi.1

/-- For each table whether it is taken. -/
def bits (D : List Nat) (n : Nat) : List Value := (List.range n).map fun i => .bool (decide (i ∈ D))
theorem bits_len (D : List Nat) (n : Nat) : (bits D n).length = n := by simp [bits]
theorem bits_at (D : List Nat) {n i : Nat} (h : i < n) : (bits D n)[i]? = some (.bool (decide (i ∈ D))) := by simp [bits, h]
theorem bits_set (D : List Nat) {n i : Nat} (_h : i < n) : (bits D n).set i (.bool true) = bits (D ++ [i]) n := by
  apply List.ext_getElem
  · simp [bits]
  · intro j h1 h2
    rw [List.getElem_set]
    by_cases e : i = j
    · subst e; simp [bits]
    · rw [if_neg e]
      have e' : ¬ j = i := fun h => e h.symm
      simp [bits, e']

end Go.Proofs.YtmnbhdhgjbgidaaDoor

/- ref03.Order: what it answers, by the rounds of the plain law. -/
namespace Go.Proofs.YtmnbhdhgjbgidaaDoor
open Go.RowKit

theorem info_bool : (Tryd.prog.info? 4).map (fun i => (i.zero, i.size, i.bytes)) = some (some (.bool false), 1, 1) := by kernel_rfl

/-- What lies in the world between two rounds. -/
structure RO (w : World) (n g : Nat) (bx : Obj) (wr : World) (v : Value) (D : List Nat) : Prop where
  out : wr.ownsRow (w.heap.size + 1) 3 1 v D.length ((D.map Int.ofNat).flatMap icells)
  don : wr.ownsRow (w.heap.size + 1) 4 1 (.slice (some ⟨g, 0, none⟩) n n) n (bits D n)
  ne : v.ownBlock ≠ some g
  bw : Below (w.heap.size + 1) (w.alloc bx) wr
theorem made_bits (n : Nat) : (madeCells (Value.bool false).cells (n * 1)).toList = bits [] n := by
  simp [madeCells, bits, Value.cells]
  intro a _
  rw [Nat.mod_one]
  rfl

theorem grown_of_below {w w' : World} (h : Below w.heap.size w w') : w.grownBy w' none := ⟨h.os, h.tape, h.output, h.size, fun k hk _ => h.block k hk⟩
/-- Rows of different element types lie in different blocks. -/
theorem oown_ne {w : World} {b1 b2 n k c : Nat} {g : Nat} {v : Value} {xs ys : List Value} {e e' : TypeId} (hne : e ≠ e') (h1 : w.ownsRow b1 e 1 v n xs) (h2 : w.ownsRow b2 e' 1 (.slice (some ⟨g, 0, none⟩) k c) k ys) : v.ownBlock ≠ some g := by
  obtain ⟨-, ⟨rfl, -⟩ | ⟨g', cap, cur, rfl, -, hh, -⟩⟩ := h1
  · simp [Value.ownBlock]
  · obtain ⟨-, ⟨h, -⟩ | ⟨g2, cap2, cur2, h, -, hh2, -⟩⟩ := h2
    · cases h
    · cases h
      intro e1
      simp [Value.ownBlock] at e1
      subst e1
      rw [hh] at hh2
      cases hh2
      exact hne rfl

/-- A round's end: table m is marked and appended. -/
theorem ro_step {w wq wr w1 : World} {n g m : Nat} {bx : Obj} {v v' : Value} {D : List Nat} (h : RO w n g bx wq v D) (hb : Below wq.heap.size wq wr) (hm : m < n)
    (hown : w1.ownsRow (w.heap.size + 1) 3 1 v' (D.length + 1) ((D.map Int.ofNat).flatMap icells ++ [.int .i64 m]))
    (hg : ((wr.setCell ⟨g, m, none⟩ (.bool true)).alloc (.cells #[.int .i64 m] 3)).grownBy w1 v.ownBlock) : RO w n g bx w1 v' (D ++ [m]) := by
  have ho1 := h.out.kept (grown_of_below hb) (by cases v.ownBlock <;> simp)
  have hd1 := h.don.kept (grown_of_below hb) (.inr (by simp [Value.ownBlock]))
  obtain ⟨hd2, hg2⟩ := hd1.stored m (.bool true)
  rw [bits_set D hm] at hd2
  have hd3 := (hd2.alloc (.cells #[.int .i64 m] 3)).kept hg (.inr (fun e => h.ne e.symm))
  have hlt := h.don.lt g rfl
  have hlt1 := ho1.lt
  refine ⟨?_, hd3, oown_ne (by decide) hown hd3, ?_⟩
  · rw [List.length_append, List.map_append, List.flatMap_append]
    exact hown
  · refine (((h.bw.trans (hb.mono (by have := h.bw.size; simpa using this))).setCell (p := ⟨g, m, none⟩) hlt.1 _).alloc ?_ _).grown hg ?_ (fun k hk => (hlt1 k hk).1)
    · have := hg2.size; have := hb.size; simp at *; omega
    · have := hg2.size; have := hb.size; simp at *; omega

def slen : Value → Nat | .slice _ n _ => n | _ => 0
theorem new_set {w : World} {a : Addr} {x y : Value} {t : TypeId} : ∀ j u, [x][j]? = some u → ((w.setCell a y).alloc (.cells #[x] t)).cell? ((⟨w.heap.size, 0, none⟩ : Addr).add j) = some u := by
  intro j u h
  have := new_cells (w := w.setCell a y) (l := [x]) (t := t) j u h
  simpa using this
theorem own_len {w : World} {b n size : Nat} {e : TypeId} {v : Value} {xs : List Value} (h : w.ownsRow b e size v n xs) : slen v = n := by
  obtain ⟨-, ⟨rfl, h⟩ | ⟨g', cap, cur, rfl, -⟩⟩ := h
  · exact h.symm
  · rfl
/-- c: table k is not taken, and what its first q keys name is. -/
def Rd (s : Sch) (D : List Nat) (k q : Nat) (c : Bool) : Prop := c = true ↔ (k ∉ D ∧ ∀ (hk : k < s.tabs.length) j (hj : j < s.tabs[k].fors.length), j < q → tnum s s.tabs[k].fors[j].tab ∈ D)
theorem rdy_zero (s : Sch) (D : List Nat) (k : Nat) : Rd s D k 0 (!decide (k ∈ D)) := by simp [Rd]
theorem rdy_succ (s : Sch) (D : List Nat) {k q : Nat} (hk : k < s.tabs.length) (hq : q < s.tabs[k].fors.length) {c d : Bool} (h : Rd s D k q c)
    (hd : d = (c && decide (tnum s s.tabs[k].fors[q].tab ∈ D))) : Rd s D k (q + 1) d := by
  subst hd
  unfold Rd at *
  rw [Bool.and_eq_true, h, decide_eq_true_iff]
  constructor
  · rintro ⟨⟨h1, h2⟩, h3⟩
    refine ⟨h1, fun hk j hj hlt => ?_⟩
    by_cases e : j = q
    · subst e; exact h3
    · exact h2 hk j hj (by omega)
  · rintro ⟨h1, h2⟩
    exact ⟨⟨h1, fun hk j hj hlt => h2 hk j hj (by omega)⟩, h2 hk q hq (by omega)⟩
theorem rdy_end (s : Sch) (D : List Nat) {k q : Nat} (hk : k < s.tabs.length) (hq : ¬ q < s.tabs[k].fors.length) {c : Bool} (h : Rd s D k q c) : c = true ↔ rdy (tgts s) D k := by
  unfold Rd at h
  rw [h, rdy_iff s D hk]
  exact and_congr Iff.rfl ⟨fun h j hj => h hk j hj (by omega), fun h _ j hj _ => h j hj⟩
theorem no_succ {T : List (List Nat)} {D : List Nat} {k : Nat} (h : ∀ j, j < k → ¬ rdy T D j) (hk : ¬ rdy T D k) : ∀ j, j < k + 1 → ¬ rdy T D j := by
  intro j hj
  by_cases e : j = k
  · subst e; exact hk
  · exact h j (by omega)

set_option maxRecDepth 100000 in
set_option maxHeartbeats 2000000 in
theorem rorder_any (s : Sch) (w : World) (hin : s.In w) (hfew : s.tabs.length ≤ 10) :
    Calls Tryd.prog 29 #[.agg #[.slice s.th.ao s.tabs.length s.th.cap]] w fun e w' => ((e = .returned (.tuple #[.slice none 0 0, .int .i64 11]) ∧ ¬ allFound s) ∨ (allFound s ∧ ∃ D, (Ends (tgts s) D false ∧ e = .returned (.tuple #[.slice none 0 0, .int .i64 7])) ∨
        (Ends (tgts s) D true ∧ ∃ r : IL, r.l = D.map Int.ofNat ∧ r.In w' ∧ e = .returned (.tuple #[.slice r.h.ao r.l.length r.h.cap, .int .i64 0])))) ∧ Below w.heap.size w w' := by
  have hn := hin.rt.len
  have HIN := hide hin
  clear hin
  go_enter Tryd.func29, Tryd.ntmps29
  go_wp2
  go_loopw [4] (fun i wr => ∃ k : Nat, k ≤ s.tabs.length ∧ i = .int .i64 k ∧ (∀ j, j < k → found s j) ∧ Below (w.heap.size + 1) (w.alloc (.cells #[.slice s.th.ao s.tabs.length s.th.cap] 28)) wr) (fun i _ => s.tabs.length - (intOf i).toNat)
  case atStart => exact ⟨0, Nat.zero_le _, rfl, fun j h => absurd h (by omega), Below.refl _ _⟩
  case round =>
    obtain ⟨k, hk, rfl, hno, hbw0⟩ := hrel
    have HN := hide hno
    have HBW := hide hbw0
    have hx := box_cell (w := w) (c := #[.slice s.th.ao s.tabs.length s.th.cap]) (T := 28) (j := 0) (hbw0.mono (by simp)) rfl
    have hn1 : (k : Int) ≤ s.tabs.length := by omega
    clear hno hbw0
    by_cases hlt : k < s.tabs.length
    · go_wp2
      go_loopw [5] (fun i wr => ∃ m : Nat, m ≤ s.tabs[k].fors.length ∧ i = .int .i64 m ∧ (∀ j (hj : j < s.tabs[k].fors.length), j < m → fok (named s.tabs[k].fors[j].tab) s.tabs = true) ∧ Below (w.heap.size + 1) (w.alloc (.cells #[.slice s.th.ao s.tabs.length s.th.cap] 28)) wr) (fun i _ => s.tabs[k].fors.length - (intOf i).toNat)
      case atStart => exact ⟨0, Nat.zero_le _, rfl, fun j _ h => absurd h (by omega), HBW.out⟩
      case round =>
        obtain ⟨m, hm, rfl, hno2, hbw2⟩ := hrel
        have HN2 := hide hno2
        have HBW2 := hide hbw2
        have hy := box_cell (w := w) (c := #[.slice s.th.ao s.tabs.length s.th.cap]) (T := 28) (j := 0) (hbw2.mono (by simp)) rfl
        have hbA : Below w.heap.size w wr := (belA _).trans (hbw2.mono (by omega))
        have hin' := HIN.out.mono hbA
        have HIN' := hide hin'
        have hix := hin'.rt.ix hlt Tryd.underlying26 sz22
        have hbk := hin'.rt.blk hlt
        obtain ⟨c0, c1, c2, c3, c4, c5⟩ := tab_at hin'.rt hlt
        have hfl := (hin'.ts _ (List.getElem_mem hlt)).rf.len
        clear hno2 hbw2 hbA hin'
        by_cases hmt : m < s.tabs[k].fors.length
        · have hmi : (m : Int) < s.tabs[k].fors.length := by omega
          cases hq : fok (named s.tabs[k].fors[m].tab) s.tabs
          · have HQ := hide hq
            clear hq
            go_wp2_with (go_at_call 28; refine (rtarget_any s k m _ HIN'.out).mono ?_; rintro e v ⟨rfl, hb1⟩; rw [tgtB_at s hlt hmt, HQ.out]; have HV := hide hb1; clear hb1)
            go_ret2
            refine ⟨.inl ⟨rfl, fun h => ?_⟩, (belA _).trans ((HBW2.out.trans (HV.out.mono (by have := HBW2.out.size; simp at this; omega))).mono (by omega))⟩
            have := h k hlt m hmt
            rw [HQ.out] at this
            cases this
          · have HQ := hide hq
            clear hq
            go_wp2_with (go_at_call 28; refine (rtarget_any s k m _ HIN'.out).mono ?_; rintro e v ⟨rfl, hb1⟩; rw [tgtB_at s hlt hmt, HQ.out]; have HV := hide hb1; clear hb1)
            go_roundw
            case rel =>
              refine ⟨m + 1, by omega, by go_num, fun j hj h => ?_, HBW2.out.trans (HV.out.mono (by have := HBW2.out.size; simp at this; omega))⟩
              by_cases e : j = m
              · subst e; exact HQ.out
              · exact HN2.out j hj (by omega)
            case measure => simp [intOf]; omega
        · go_wp2
          go_roundw
          case rel =>
            refine ⟨k + 1, by omega, by go_num, fun j h => ?_, HBW2.out⟩
            by_cases e : j = k
            · subst e; intro h1 m' hm'; exact HN2.out m' hm' (by omega)
            · exact HN.out j (by omega)
          case measure => simp [intOf]; omega
    · obtain ⟨bi, hbi, hbz, hbs, hbb⟩ := info_parts info_bool
      have hws := HBW.out.size
      simp at hws
      go_wp2_with (at_make; refine wpList_make_full _ rfl _ _ 49 rfl (w.heap.size + 1) 4 bi (.bool false) 1 Tryd.underlying49 hbi hbz hbs _ _ _ _ s.tabs.length rfl rfl rfl rfl (by rw [hbb]; omega) (by unfold maxLen; omega) (by omega) ?_; intro w2 hown hgrow; have HO := hide hown; have HG := hide hgrow; clear hown hgrow)
      have HR := hide (show RO w s.tabs.length wr.heap.size (.cells #[.slice s.th.ao s.tabs.length s.th.cap] 28) w2 (.slice none 0 0) [] from ⟨World.ownsRow_nil _ _ _ _, made_bits _ ▸ HO.out, by simp [Value.ownBlock], HBW.out.grown HG.out (by omega) (fun b hb => by cases hb)⟩)
      have HAF := hide (show allFound s from fun i h => HN.out i (by omega) h)
      have HRT := hide (show w.heap.size + 1 ≤ wr.heap.size by omega)
      clear HN HBW hx hws HO HG hbi hbz hbs hbb
      generalize hg : wr.heap.size = g at *
      obtain ⟨i0, hi, hz0, hz1, hz2⟩ := info_parts info3
      have HI := hide (And.intro hi (And.intro hz0 (And.intro hz1 hz2)))
      clear hi hz0 hz1 hz2
      go_loopw [9] (fun v wq => ∃ D : List Nat, Took (tgts s) D ∧ D.length ≤ s.tabs.length ∧ RO w s.tabs.length g (.cells #[.slice s.th.ao s.tabs.length s.th.cap] 28) wq v D) (fun v _ => s.tabs.length - slen v)
      case atStart => exact ⟨[], .nil, Nat.zero_le _, HR.out⟩
      case round =>
        obtain ⟨D, hD, hDl, hro⟩ := hrel
        have HT := hide hD
        have HQ := hide hro
        clear hD hro
        have hx2 := box_cell (w := w) (c := #[.slice s.th.ao s.tabs.length s.th.cap]) (T := 28) (j := 0) (HQ.out.bw.mono (by simp)) rfl
        obtain ⟨hd, hv, -⟩ := own_row (size := 1) (cells := icells) (fun _ => rfl) (by decide) (by simpa using HQ.out.out)
        rw [List.length_map] at hv
        subst hv
        have HC := hide (show ∀ (j : Nat) (_ : j < s.tabs.length) (wx : World), Below wr.heap.size wr wx → wx.cell? ⟨g, j, none⟩ = some (.bool (decide (j ∈ D))) from fun j hj wx hb => by
          rw [hb.cell (p := ⟨g, j, none⟩) (HQ.out.don.lt g rfl).2, HQ.out.don.cellAt j (by omega), bits_at D hj])
        have HF := hide (show ∀ (j : Nat) (wx : World), Below wr.heap.size wr wx → wx.frozen? ⟨g, j, none⟩ = false from fun j wx hb => by
          rw [hb.frozen (p := ⟨g, j, none⟩) (HQ.out.don.lt g rfl).2, HQ.out.don.frozenAt j])
        have HX := hide (show ∀ (wx : World), Below wr.heap.size wr wx → wx.cell? ⟨w.heap.size, 0, none⟩ = some (.slice s.th.ao s.tabs.length s.th.cap) from fun wx hb => by
          rw [hb.cell (p := ⟨w.heap.size, 0, none⟩) (show w.heap.size < wr.heap.size by have := HQ.out.bw.size; simp at this; omega)]; exact hx2)
        have hbA : Below w.heap.size w wr := (belA _).trans (HQ.out.bw.mono (by omega))
        have HBA := hide hbA
        have HIN2 := hide (HIN.out.mono hbA)
        clear hbA
        obtain ⟨w0, hw0⟩ : ∃ x, x = wr := ⟨_, rfl⟩
        subst hw0
        have HS0 := hide (show w.heap.size + 1 ≤ w0.heap.size by have := HQ.out.bw.size; simpa using this)
        clear hx2
        by_cases hlt : D.length < s.tabs.length
        · have hn2 : (D.length : Int) < s.tabs.length := by omega
          have hx2 := HX.out _ (Below.refl _ _)
          go_wp2
          go_loopw [10, 11] (fun a i wx => ∃ k : Nat, k ≤ s.tabs.length ∧ i = .int .i64 k ∧ ((a = .int .i64 (-1) ∧ ∀ j, j < k → ¬ rdy (tgts s) D j) ∨ (∃ m : Nat, a = .int .i64 m ∧ isNext (tgts s) D m)) ∧ Below w0.heap.size w0 wx) (fun a i _ => 2 * (s.tabs.length - (intOf i).toNat))
          case atStart => exact ⟨0, Nat.zero_le _, rfl, .inl ⟨rfl, fun j h => absurd h (by omega)⟩, Below.refl _ _⟩
          case round =>
            obtain ⟨k, hk, rfl, hcase, hbw2⟩ := hrel
            have HB2 := hide hbw2
            have hx3 := HX.out _ hbw2
            clear hx2
            rcases hcase with ⟨rfl, hno⟩ | ⟨m, rfl, hnx⟩
            · have HNO := hide hno
              clear hno hbw2
              have hki : (k : Int) ≤ s.tabs.length := by omega
              by_cases hlk : k < s.tabs.length
              · have hlki : (k : Int) < s.tabs.length := by omega
                have hcell := HC.out k hlk _ HB2.out
                go_wp2
                go_loopw [12, 13] (fun b i wx => ∃ (c : Bool) (q : Nat), q ≤ s.tabs[k].fors.length ∧ b = .bool c ∧ i = .int .i64 q ∧ Rd s D k q c ∧ Below w0.heap.size w0 wx) (fun _ i _ => s.tabs[k].fors.length - (intOf i).toNat)
                case atStart => exact ⟨!decide (k ∈ D), 0, Nat.zero_le _, by simp, rfl, rdy_zero _ _ _, HB2.out⟩
                case round =>
                  obtain ⟨c, q, hq, rfl, rfl, hc, hbw4⟩ := hrel
                  have HB4 := hide hbw4
                  have HCC := hide hc
                  have hx4 := HX.out _ hbw4
                  have HIN4 := hide (HIN2.out.mono hbw4)
                  have hix := HIN4.out.rt.ix hlk Tryd.underlying26 sz22
                  have hbk := HIN4.out.rt.blk hlk
                  obtain ⟨c0, c1, c2, c3, c4, c5⟩ := tab_at HIN4.out.rt hlk
                  have hfl := (HIN4.out.ts _ (List.getElem_mem hlk)).rf.len
                  clear hbw4 hc hx3 hcell
                  by_cases hqt : q < s.tabs[k].fors.length
                  · have hqi : (q : Int) < s.tabs[k].fors.length := by omega
                    have hf : fok (named s.tabs[k].fors[q].tab) s.tabs = true := HAF.out k hlk q hqt
                    have htl := tnum_lt hf
                    have HTL := hide htl
                    have HT4 := hide (show ∀ wx, Below w0.heap.size w0 wx → wx.cell? ⟨g, tnum s s.tabs[k].fors[q].tab, none⟩ = some (.bool (decide (tnum s s.tabs[k].fors[q].tab ∈ D))) from fun wx hb => HC.out _ htl wx hb)
                    clear hf htl
                    have hti : ((tnum s s.tabs[k].fors[q].tab : Nat) : Int) < s.tabs.length := by have := HTL.out; omega
                    cases c
                    · go_wp2_with (go_at_call 28; refine (rtarget_any s k q _ HIN4.out).mono ?_; rintro e v ⟨rfl, hb1⟩; rw [tgtI_at s hlk hqt]; have HB5 := hide (bel_trans HB4.out hb1); clear hb1)
                      go_roundw
                      case rel => exact ⟨false, q + 1, by omega, rfl, by go_num, rdy_succ s D hlk hqt HCC.out (by simp), HB5.out⟩
                      case measure => simp [intOf]; omega
                    · go_wp2_with (go_at_call 28; refine (rtarget_any s k q _ HIN4.out).mono ?_; rintro e v ⟨rfl, hb1⟩; rw [tgtI_at s hlk hqt]; have HB5 := hide (bel_trans HB4.out hb1); clear hb1; have hc5 := HT4.out _ HB5.out)
                      go_roundw
                      case rel => exact ⟨decide (tnum s s.tabs[k].fors[q].tab ∈ D), q + 1, by omega, rfl, by go_num, rdy_succ s D hlk hqt HCC.out (by simp), HB5.out⟩
                      case measure => simp [intOf]; omega
                  · have hqi : ¬ (q : Int) < s.tabs[k].fors.length := by omega
                    cases c
                    · go_wp2
                      go_roundw
                      case rel => exact ⟨k + 1, by omega, by go_num, .inl ⟨rfl, no_succ HNO.out (fun h => by have := (rdy_end s D hlk hqt HCC.out).2 h; cases this)⟩, HB4.out⟩
                      case measure => simp [intOf]; omega
                    · go_wp2
                      go_roundw
                      case rel => exact ⟨k + 1, by omega, by go_num, .inr ⟨k, rfl, by rw [tgts_len]; exact hlk, (rdy_end s D hlk hqt HCC.out).1 rfl, HNO.out⟩, HB4.out⟩
                      case measure => simp [intOf]; omega
              · have hlki : ¬ (k : Int) < s.tabs.length := by omega
                go_wp2
                go_ret2
                refine ⟨.inr ⟨HAF.out, D, .inl ⟨⟨HT.out, ?_, fun j hj => HNO.out j (by rw [tgts_len] at hj; omega)⟩, rfl⟩⟩, HBA.out.trans (HB2.out.mono HBA.out.size)⟩
                rw [tgts_len]; exact hlt
            · have HNX := hide hnx
              clear hnx hbw2
              have hm1 := HNX.out.1
              rw [tgts_len] at hm1
              have hfz := HF.out m _ HB2.out
              have hcl := HC.out m hm1 _ HB2.out
              have HO2 := hide ((HQ.out.out.kept (grown_of_below HB2.out) (by cases (Value.slice hd.ao D.length hd.cap).ownBlock <;> simp)).kept ((HQ.out.don.kept (grown_of_below HB2.out) (.inr (by simp [Value.ownBlock]))).stored m (.bool true)).2 (.inr HQ.out.ne))
              have hbs : w.heap.size + 1 ≤ wr.heap.size := Nat.le_trans HS0.out HB2.out.size
              by_cases hlk : k < s.tabs.length
              · have hlki : (k : Int) < s.tabs.length := by omega
                go_wp2_with (at_builtin; refine wpList_append_own _ rfl _ _ 22 rfl (w.heap.size + 1) 3 i0 (.int .i64 0) 1 8 Tryd.underlying22 HI.out.1 HI.out.2.1 HI.out.2.2.1 HI.out.2.2.2 rfl (by decide) _ _ _ rfl (HO2.out.alloc _) ⟨wr.heap.size, 0, none⟩ 1 1 [.int .i64 m] rfl rfl new_set one_int (by unfold maxLen; omega) (by omega) (by simp; omega) ?_; intro v' w1 hown' hgrow _)
                have HR2 := hide (ro_step HQ.out HB2.out hm1 hown' hgrow)
                have HL2 := hide (own_len hown')
                clear hown' hgrow
                go_wp2
                go_roundw
                case rel => exact ⟨D ++ [m], .snoc HT.out HNX.out, by simp; omega, HR2.out⟩
                case measure => have h1 : slen (Value.slice hd.ao D.length hd.cap) = D.length := rfl
                                simp [HL2.out, h1]; omega
              · have hlki : ¬ (k : Int) < s.tabs.length := by omega
                go_wp2_with (at_builtin; refine wpList_append_own _ rfl _ _ 22 rfl (w.heap.size + 1) 3 i0 (.int .i64 0) 1 8 Tryd.underlying22 HI.out.1 HI.out.2.1 HI.out.2.2.1 HI.out.2.2.2 rfl (by decide) _ _ _ rfl (HO2.out.alloc _) ⟨wr.heap.size, 0, none⟩ 1 1 [.int .i64 m] rfl rfl new_set one_int (by unfold maxLen; omega) (by omega) (by simp; omega) ?_; intro v' w1 hown' hgrow _)
                have HR2 := hide (ro_step HQ.out HB2.out hm1 hown' hgrow)
                have HL2 := hide (own_len hown')
                clear hown' hgrow
                go_wp2
                go_roundw
                case rel => exact ⟨D ++ [m], .snoc HT.out HNX.out, by simp; omega, HR2.out⟩
                case measure => have h1 : slen (Value.slice hd.ao D.length hd.cap) = D.length := rfl
                                simp [HL2.out, h1]; omega
        · have hn2 : ¬ (D.length : Int) < s.tabs.length := by omega
          have hx2 := HX.out _ (Below.refl _ _)
          go_wp2
          go_ret2
          obtain ⟨r, hv, hr, hin2⟩ := il_mk (xs := D.map Int.ofNat) (by simpa using HQ.out.out) (fun n hn => by
            obtain ⟨i, hi, rfl⟩ := List.mem_map.1 hn
            have := took_lt HT.out i hi
            rw [tgts_len] at this
            have h1 : (Int.ofNat i) = (i : Int) := rfl
            rw [h1]
            exact ⟨by omega, by omega⟩)
          refine ⟨.inr ⟨HAF.out, D, .inr ⟨⟨HT.out, ?_⟩, r, hr, hin2, ?_⟩⟩, HBA.out⟩
          · rw [if_pos rfl, tgts_len]; omega
          · simp [← hv]

end Go.Proofs.YtmnbhdhgjbgidaaDoor

/- Maps of a slice of maps, as schema.Order keeps them: what they hold, as sets; the closure that asks for an empty map, and slices.IndexFunc over the slice. -/
namespace Go.Proofs.YtmnbhdhgjbgidaaDoor
open Go.RowKit

abbrev key (k : Nat) : Lit := .int .i64 (k : Int)

/-- Block b is a map of at most n entries whose keys are the numbers of S. -/
def MS (w : World) (n b : Nat) (S : Nat → Prop) : Prop :=
  ∃ D : DataW Unit, w.ownsMap Tryd.prog 3 (plainElem (H := Unit) Tryd.prog 4) b n D ∧ ∃ es, D = .map es ∧ (∀ p ∈ es, ∃ k, S k ∧ p.1 = key k) ∧ (∀ k, S k → Maps.has D (key k) = true)

theorem mem_ins {x p : Lit × DataW Unit} : ∀ {l : List (Lit × DataW Unit)}, p ∈ DataW.insert x l → p = x ∨ p ∈ l
  | [], h => by simp [DataW.insert] at h; exact .inl h
  | y :: r, h => by
    unfold DataW.insert at h
    split at h
    · rcases List.mem_cons.1 h with h | h
      · exact .inl h
      · exact .inr h
    · rcases List.mem_cons.1 h with h | h
      · exact .inr (by rw [h]; simp)
      · rcases mem_ins h with h | h
        · exact .inl h
        · exact .inr (List.mem_cons_of_mem _ h)
theorem key_inj {i j : Nat} (h : key i = key j) : i = j := by simp [key] at h; omega
theorem keylit (k : Nat) : WideAt.IsKeyLit (key k) := by simp [WideAt.IsKeyLit]
theorem ms_size {S : Nat → Prop} {D : DataW Unit} {es : List (Lit × DataW Unit)} (he : D = .map es) (h1 : ∀ p ∈ es, ∃ k, S k ∧ p.1 = key k) (h2 : ∀ k, S k → Maps.has D (key k) = true) :
    Maps.size D = 0 ↔ ∀ k, ¬ S k := by
  subst he
  rw [Maps.size_eq]
  constructor
  · intro h k hk
    have := h2 k hk
    rw [List.eq_nil_of_length_eq_zero h] at this
    simp [Maps.has_eq] at this
  · intro h
    cases es with
    | nil => rfl
    | cons p r => obtain ⟨k, hk, -⟩ := h1 p (by simp); exact absurd hk (h k)
theorem ms_put {w : World} {n b : Nat} {S : Nat → Prop} {D : DataW Unit} {es : List (Lit × DataW Unit)} (k : Nat) (d : DataW Unit) (h : w.ownsMap Tryd.prog 3 (plainElem (H := Unit) Tryd.prog 4) b n (D.put (key k) d)) (he : D = .map es) (h1 : ∀ p ∈ es, ∃ k, S k ∧ p.1 = key k)
    (h2 : ∀ k, S k → Maps.has D (key k) = true) : MS w n b (fun j => S j ∨ j = k) := by
  refine ⟨_, h, ?_⟩
  subst he
  refine ⟨_, rfl, fun p hp => ?_, fun j hj => ?_⟩
  · rcases mem_ins hp with rfl | hp
    · exact ⟨k, .inr rfl, rfl⟩
    · obtain ⟨j, hj, e⟩ := h1 p (List.mem_filter.1 hp).1
      exact ⟨j, .inl hj, e⟩
  · by_cases e : j = k
    · subst e; exact Maps.has_put_same ⟨_, rfl⟩ (keylit _) _
    · rw [Maps.has_put_other (fun h => e (key_inj h))]
      rcases hj with hj | hj
      · exact h2 j hj
      · exact absurd hj e
theorem ms_del {w : World} {n b : Nat} {S : Nat → Prop} {D : DataW Unit} {es : List (Lit × DataW Unit)} (k : Nat) (h : w.ownsMap Tryd.prog 3 (plainElem (H := Unit) Tryd.prog 4) b n (D.del (key k))) (he : D = .map es) (h1 : ∀ p ∈ es, ∃ k, S k ∧ p.1 = key k)
    (h2 : ∀ k, S k → Maps.has D (key k) = true) : MS w n b (fun j => S j ∧ j ≠ k) := by
  refine ⟨_, h, ?_⟩
  subst he
  refine ⟨_, rfl, fun p hp => ?_, fun j hj => ?_⟩
  · obtain ⟨j, hj, e⟩ := h1 p (List.mem_filter.1 hp).1
    refine ⟨j, ⟨hj, fun e2 => ?_⟩, e⟩
    have := (List.mem_filter.1 hp).2
    rw [e, e2, WideAt.sameKey_self (keylit _)] at this
    cases this
  · rw [Maps.has_del_other (fun h => hj.2 (key_inj h))]
    exact h2 j hj.1
theorem MS.congr {w : World} {n b : Nat} {S S' : Nat → Prop} (h : MS w n b S) (e : ∀ k, S k ↔ S' k) : MS w n b S' := by
  have : S = S' := funext fun k => propext (e k)
  rw [← this]; exact h
theorem MS.kept {w w' : World} {n b : Nat} {S : Nat → Prop} {row : Option Nat} (h : MS w n b S) (hg : w.grownBy w' row) (hne : some b ≠ row) : MS w' n b S := by
  obtain ⟨D, ho, r⟩ := h
  exact ⟨D, ho.kept hg hne, r⟩
theorem MS.mono {w : World} {n m b : Nat} {S : Nat → Prop} (h : MS w n b S) (hm : n ≤ m) : MS w m b S := by
  obtain ⟨D, ho, r⟩ := h
  exact ⟨D, ho.mono hm, r⟩
theorem MS.block {w : World} {n b : Nat} {S : Nat → Prop} (h : MS w n b S) : ∃ es clock, w.heap[b]? = some (.map es clock) := by
  obtain ⟨D, ⟨es, clock, hb, _⟩, r⟩ := h
  exact ⟨es, clock, hb⟩
theorem MS.lt {w : World} {n b : Nat} {S : Nat → Prop} (h : MS w n b S) : b < w.heap.size := by
  obtain ⟨D, ho, r⟩ := h
  exact ho.lt
theorem ms_made (w : World) : MS (w.alloc (.map #[] 0)) 0 w.heap.size (fun _ => False) :=
  ⟨_, World.ownsMap_made w _ _ _, [], rfl, fun p hp => by simp at hp, fun k hk => hk.elim⟩
/-- A row of cells does not lie in a map's block. -/
theorem own_not_map {w : World} {base k m b : Nat} {e : TypeId} {size : Nat} {v : Value} {xs : List Value} {S : Nat → Prop} (h : w.ownsRow base e size v k xs) (hm : MS w m b S) : v.ownBlock ≠ some b := by
  obtain ⟨es, clock, hb⟩ := hm.block
  obtain ⟨-, ⟨rfl, -⟩ | ⟨g', cap, cur, rfl, -, hh, -⟩⟩ := h
  · simp [Value.ownBlock]
  · intro e1
    simp [Value.ownBlock] at e1
    subst e1
    rw [hh] at hb
    cases hb

/-- What the closure asks of a map. -/
def emptyM (w : World) (o : Option Nat) (r : Bool) : Prop := match o with
  | none => r = false
  | some b => ∃ (n : Nat) (S : Nat → Prop), MS w n b S ∧ (r = true ↔ ∀ k, ¬ S k)

set_option maxRecDepth 100000 in
set_option maxHeartbeats 400000 in
theorem oclo_none (w : World) : Calls Tryd.prog 31 #[.map none] w fun e w' => e = .returned (.bool false) ∧ Below w.heap.size w w' := by
  have hnq := fun W : World => run_neq_map_nil (P := Tryd.prog) (w := W) 75 3 4 none Tryd.underlying75
  go_enter Tryd.func31, Tryd.ntmps31
  go_wp2
  go_ret
  exact ⟨rfl, Below.refl _ _⟩
set_option maxRecDepth 100000 in
set_option maxHeartbeats 400000 in
theorem oclo_some (w : World) (b n : Nat) (S : Nat → Prop) (r : Bool) (h : MS w n b S) (hr : r = true ↔ ∀ k, ¬ S k) : Calls Tryd.prog 31 #[.map (some b)] w fun e w' => e = .returned (.bool r) ∧ Below w.heap.size w w' := by
  obtain ⟨D, ho, es, he, h1, h2⟩ := h
  have hsz := ms_size he h1 h2
  rw [← hr] at hsz
  have HR := hide hsz
  clear hr hsz
  have hnq := fun W : World => run_neq_map_nil (P := Tryd.prog) (w := W) 75 3 4 (some b) Tryd.underlying75
  have hln := ho.len Tryd.underlying75 3
  go_enter Tryd.func31, Tryd.ntmps31
  go_wp2
  go_ret
  refine ⟨congrArg (fun x => Ending.returned (Value.bool x)) ?_, Below.refl _ _⟩
  subst he
  rw [Bool.eq_iff_iff, ← HR.out, beq_iff_eq]
  exact Int.natCast_eq_zero

theorem emptyM.mono {w w' : World} {o : Option Nat} {r : Bool} (h : emptyM w o r) (hb : Below w.heap.size w w') : emptyM w' o r := by
  cases o with
  | none => exact h
  | some b =>
    obtain ⟨n, S, hm, hr⟩ := h
    exact ⟨n, S, hm.kept (grown_of_below hb) (by simp), hr⟩

/-- The closure's own law, whatever the map. -/
theorem oclo_any (w : World) (o : Option Nat) (r : Bool) (h : emptyM w o r) : Calls Tryd.prog 31 #[.map o] w fun e w' => e = .returned (.bool r) ∧ Below w.heap.size w w' := by
  cases o with
  | none => have h2 : r = false := h
            subst h2
            exact oclo_none w
  | some b =>
    obtain ⟨n, S, hm, hr⟩ := h
    exact oclo_some w b n S r hm hr

theorem fx_range_hit {p : Nat → Bool} {n m : Nat} (hm : m < n) (hp : p m = true) (hn : ∀ j, j < m → p j = false) : fx p (List.range n) = m :=
  fx_hit (by simpa using hm) (by simpa using hp) (fun j hj h => by simpa using hn j h)
theorem fx_range_miss {p : Nat → Bool} {n : Nat} (hn : ∀ j, j < n → p j = false) : fx p (List.range n) = -1 :=
  fx_miss (fun j hj => by simpa using hn j (by simpa using hj))

set_option maxRecDepth 100000 in
set_option maxHeartbeats 400000 in
theorem oindex_any (w : World) (g n : Nat) (os : List (Option Nat)) (p : Nat → Bool) (hl : os.length = n) (hn : n ≤ 10) (hg : g < w.heap.size) (hc : ∀ j (hj : j < os.length), w.cell? ⟨g, j, none⟩ = some (.map os[j])) (hE : ∀ j (hj : j < os.length), emptyM w os[j] (p j)) :
    Calls Tryd.prog 30 #[.slice (some ⟨g, 0, none⟩) n n, .func (.func 31) #[] #[]] w
      fun e w' => e = .returned (.int .i64 (fx p (List.range n))) ∧ Below w.heap.size w w' := by
  have HC := hide hc
  have HE := hide hE
  clear hc hE
  go_enter Tryd.func30, Tryd.ntmps30
  go_wp2
  go_loopw [5, 8] (fun _ i wr => ∃ k : Nat, k ≤ n ∧ i = .int .i64 k ∧ (∀ j, j < k → p j = false) ∧ Below w.heap.size w wr) (fun _ i _ => n - (intOf i).toNat)
  case atStart => exact ⟨0, Nat.zero_le _, rfl, fun j h => absurd h (by omega), Below.refl _ _⟩
  case round =>
    obtain ⟨k, hk, rfl, hno, hbw⟩ := hrel
    have HN := hide hno
    have HB := hide hbw
    clear hno hbw
    by_cases hlt : k < n
    · have hko : k < os.length := by omega
      have hki : (k : Int) < n := by omega
      have hcell : wr.cell? ⟨g, k, none⟩ = some (.map os[k]) := by rw [HB.out.cell (p := ⟨g, k, none⟩) hg]; exact HC.out k hko
      have HM := hide ((HE.out k hko).mono HB.out)
      generalize os[k] = o at *
      cases hp : p k
      all_goals
        have HP := hide hp
        clear hp
        go_wp2_with (go_at_call 31; refine (oclo_any _ o _ HM.out).mono ?_; rintro e w1 ⟨rfl, hb1⟩; rw [HP.out])
      · go_roundw
        case rel =>
          refine ⟨k + 1, by omega, by go_num, fun j h => ?_, HB.out.trans (hb1.mono HB.out.size)⟩
          by_cases e : j = k
          · subst e; exact HP.out
          · exact HN.out j (by omega)
        case measure => simp [intOf]; omega
      · go_ret
        exact ⟨ret1 (fx_range_hit hlt HP.out (fun j h => HN.out j h)).symm, HB.out.trans (hb1.mono HB.out.size)⟩
    · have hki : ¬ (k : Int) < n := by omega
      go_wp2
      go_ret
      exact ⟨ret1 (fx_range_miss (fun j hj => HN.out j (by omega))).symm, HB.out⟩

end Go.Proofs.YtmnbhdhgjbgidaaDoor

/- What schema.Order keeps between two steps: a slice of maps, each with its set. -/
namespace Go.Proofs.YtmnbhdhgjbgidaaDoor
open Go.RowKit

/-- Block g is a row of n maps (or nil); each map's keys are its set; each has a block of its own. -/
structure BO (w : World) (n g : Nat) (bx : Obj) (wr : World) (os : List (Option Nat)) (S : Nat → Nat → Prop) : Prop where
  row : wr.ownsRow (w.heap.size + 1) 75 1 (.slice (some ⟨g, 0, none⟩) n n) n (os.map .map)
  len : os.length = n
  sets : ∀ (j b : Nat), os[j]? = some (some b) → w.heap.size + 1 ≤ b ∧ ∃ m, MS wr m b (S j)
  ap : ∀ (i j b : Nat), os[i]? = some (some b) → os[j]? = some (some b) → i = j
  bw : Below (w.heap.size + 1) (w.alloc bx) wr

variable {w wr w' : World} {n g k m b : Nat} {bx : Obj} {os : List (Option Nat)} {S S' : Nat → Nat → Prop}

theorem BO.sz (h : BO w n g bx wr os S) : w.heap.size + 1 ≤ wr.heap.size := by have := h.bw.size; simpa using this
theorem BO.lt (h : BO w n g bx wr os S) : w.heap.size + 1 ≤ g ∧ g < wr.heap.size := h.row.lt g rfl
theorem BO.cell (h : BO w n g bx wr os S) {j : Nat} (hj : j < os.length) : wr.cell? ⟨g, j, none⟩ = some (.map os[j]) := by
  rw [h.row.cellAt j (by have := h.len; omega)]
  simp [hj]
theorem BO.free (h : BO w n g bx wr os S) (j : Nat) : wr.frozen? ⟨g, j, none⟩ = false := h.row.frozenAt j
theorem BO.gb (h : BO w n g bx wr os S) {j : Nat} (hj : os[j]? = some (some b)) : some g ≠ some b := by
  obtain ⟨-, m, hm⟩ := h.sets j b hj
  exact own_not_map h.row hm

/-- Only new blocks. -/
theorem BO.below (h : BO w n g bx wr os S) (hb : Below wr.heap.size wr w') : BO w n g bx w' os S :=
  ⟨h.row.kept (grown_of_below hb) (.inr (by simp [Value.ownBlock])), h.len, fun j b hj => by
    obtain ⟨h1, m, hm⟩ := h.sets j b hj
    exact ⟨h1, m, hm.kept (grown_of_below hb) (by simp)⟩, h.ap, h.bw.trans (hb.mono h.sz)⟩

/-- One row of cells turns, which is not ours. -/
theorem BO.other (h : BO w n g bx wr os S) {v : Value} {e : TypeId} {q c : Nat} {xs : List Value} (hv : wr.ownsRow c e q v m xs) (hne : v.ownBlock ≠ some g) (hc : w.heap.size + 1 ≤ c) (hg : wr.grownBy w' v.ownBlock) : BO w n g bx w' os S :=
  ⟨h.row.kept hg (.inr (fun e => hne e.symm)), h.len, fun j b hj => by
    obtain ⟨h1, m, hm⟩ := h.sets j b hj
    exact ⟨h1, m, hm.kept hg (fun e => own_not_map hv hm e.symm)⟩, h.ap, h.bw.grown hg h.sz (fun i hi => Nat.le_trans hc (hv.lt i hi).1)⟩

/-- One map turns. -/
theorem BO.turn (h : BO w n g bx wr os S) (hg : wr.grownBy w' (some b)) (hk : os[k]? = some (some b)) (hm : MS w' m b (S' k)) (hS : ∀ j, j ≠ k → S' j = S j) : BO w n g bx w' os S' :=
  ⟨h.row.kept hg (.inr (h.gb hk)), h.len, fun j c hj => by
    by_cases e : j = k
    · subst e
      rw [hk] at hj
      cases hj
      exact ⟨(h.sets j b hk).1, m, hm⟩
    · obtain ⟨h1, m, hm⟩ := h.sets j c hj
      rw [hS j e]
      exact ⟨h1, m, hm.kept hg (fun e2 => by cases e2; exact e (h.ap j k b hj hk))⟩, h.ap, h.bw.grown hg h.sz (fun i hi => by cases hi; exact (h.sets k b hk).1)⟩

theorem set_at {α : Type} {l : List α} {k j : Nat} {x : α} (hk : k < l.length) : (l.set k x)[j]? = if j = k then some x else l[j]? := by
  rw [List.getElem?_set]
  by_cases e : k = j
  · subst e; simp [hk]
  · rw [if_neg e, if_neg (fun h => e h.symm)]

/-- A new map at place k. -/
theorem BO.made (h : BO w n g bx wr os S) (hkn : k < n) (hS : ∀ j, j ≠ k → S' j = S j) (hk : ∀ t, ¬ S' k t) :
    BO w n g bx ((wr.alloc (.map #[] 0)).setCell ⟨g, k, none⟩ (.map (some wr.heap.size))) (os.set k (some wr.heap.size)) S' ∧
    MS ((wr.alloc (.map #[] 0)).setCell ⟨g, k, none⟩ (.map (some wr.heap.size))) 0 wr.heap.size (S' k) := by
  have hb : Below wr.heap.size wr (wr.alloc (.map #[] 0)) := belA _
  have h1 := h.below hb
  obtain ⟨h2, h3⟩ := h1.row.stored k (.map (some wr.heap.size))
  have hlt := h.lt
  have hm : MS ((wr.alloc (.map #[] 0)).setCell ⟨g, k, none⟩ (.map (some wr.heap.size))) 0 wr.heap.size (S' k) :=
    ((ms_made wr).kept h3 (by intro e; cases e; omega)).congr (fun t => ⟨False.elim, fun h => hk t h⟩)
  have hko : k < os.length := by have := h.len; omega
  refine ⟨⟨by rw [List.map_set]; exact h2, by simpa using h.len, fun j c hj => ?_, fun i j c hi hj => ?_, h1.bw.setCell (p := ⟨g, k, none⟩) hlt.1 _⟩, hm⟩
  · rw [set_at hko] at hj
    by_cases e : j = k
    · subst e
      rw [if_pos rfl] at hj
      cases hj
      exact ⟨h.sz, 0, hm⟩
    · rw [if_neg e] at hj
      obtain ⟨q1, m, hm'⟩ := h.sets j c hj
      rw [hS j e]
      exact ⟨q1, m, (hm'.kept (grown_of_below hb) (by simp)).kept h3 (fun e2 => h.gb hj e2.symm)⟩
  · rw [set_at hko] at hi hj
    by_cases e : i = k
    · by_cases e2 : j = k
      · rw [e, e2]
      · rw [if_pos e] at hi
        rw [if_neg e2] at hj
        cases hi
        obtain ⟨-, m, hm'⟩ := h.sets j _ hj
        exact absurd hm'.lt (by omega)
    · by_cases e2 : j = k
      · rw [if_neg e] at hi
        rw [if_pos e2] at hj
        cases hj
        obtain ⟨-, m, hm'⟩ := h.sets i _ hi
        exact absurd hm'.lt (by omega)
      · rw [if_neg e] at hi
        rw [if_neg e2] at hj
        exact h.ap i j c hi hj

/-- The nil map at place k. -/
theorem BO.nil (h : BO w n g bx wr os S) (hkn : k < n) : BO w n g bx (wr.setCell ⟨g, k, none⟩ (.map none)) (os.set k none) S := by
  obtain ⟨h2, h3⟩ := h.row.stored k (.map none)
  have hlt := h.lt
  have hko : k < os.length := by have := h.len; omega
  have key : ∀ {j c : Nat}, (os.set k none)[j]? = some (some c) → os[j]? = some (some c) := by
    intro j c hj
    rw [set_at hko] at hj
    by_cases e : j = k
    · rw [if_pos e] at hj; cases hj
    · rw [if_neg e] at hj; exact hj
  refine ⟨by rw [List.map_set]; exact h2, by simpa using h.len, fun j c hj => ?_, fun i j c hi hj => h.ap i j c (key hi) (key hj), h.bw.setCell (p := ⟨g, k, none⟩) hlt.1 _⟩
  obtain ⟨q1, m, hm'⟩ := h.sets j c (key hj)
  exact ⟨q1, m, hm'.kept h3 (fun e2 => h.gb (key hj) e2.symm)⟩

end Go.Proofs.YtmnbhdhgjbgidaaDoor

/- The states of schema.Order: while the maps are filled, between two rounds, while a table is struck from the maps. -/
namespace Go.Proofs.YtmnbhdhgjbgidaaDoor
open Go.RowKit

theorem info_map : (Tryd.prog.info? 75).map (fun i => (i.zero, i.size, i.bytes)) = some (some (.map none), 1, 8) := by kernel_rfl
theorem made_maps (n : Nat) : (madeCells (Value.map none).cells (n * 1)).toList = (List.replicate n (none : Option Nat)).map .map := by
  rw [show (Value.map none).cells = #[Value.map none] from rfl, toList_madeCells_one]
  simp

/-- The first k tables have their maps. -/
structure P1 (s : Sch) (w : World) (g : Nat) (bx : Obj) (k : Nat) (wr : World) (os : List (Option Nat)) (S : Nat → Nat → Prop) : Prop where
  bo : BO w s.tabs.length g bx wr os S
  has : ∀ j, j < k → ∃ b, os[j]? = some (some b)
  no : ∀ j, k ≤ j → j < s.tabs.length → os[j]? = some none
  fnd : ∀ j, j < k → found s j
  sets : ∀ j, j < k → ∀ t, S j t ↔ ∃ (hj : j < s.tabs.length) (q : Nat) (hq : q < s.tabs[j].fors.length), tnum s s.tabs[j].fors[q].tab = t

/-- .. and of table k the first q keys are in its map, block b. -/
structure P2 (s : Sch) (w : World) (g : Nat) (bx : Obj) (k q : Nat) (wr : World) (b : Nat) (os : List (Option Nat)) (S : Nat → Nat → Prop) : Prop where
  bo : BO w s.tabs.length g bx wr os S
  has : ∀ j, j < k + 1 → ∃ b, os[j]? = some (some b)
  no : ∀ j, k + 1 ≤ j → j < s.tabs.length → os[j]? = some none
  fnd : ∀ j, j < k → found s j
  fndq : ∀ (hk : k < s.tabs.length) p (hp : p < s.tabs[k].fors.length), p < q → fok (named s.tabs[k].fors[p].tab) s.tabs = true
  sets : ∀ j, j < k → ∀ t, S j t ↔ ∃ (hj : j < s.tabs.length) (q : Nat) (hq : q < s.tabs[j].fors.length), tnum s s.tabs[j].fors[q].tab = t
  setk : ∀ t, S k t ↔ ∃ (hk : k < s.tabs.length) (p : Nat) (hp : p < s.tabs[k].fors.length), p < q ∧ tnum s s.tabs[k].fors[p].tab = t
  at' : os[k]? = some (some b)
  ms : MS wr q b (S k)

section
variable {s : Sch} {w wr w' : World} {g k q b : Nat} {bx : Obj} {os : List (Option Nat)} {S : Nat → Nat → Prop}
theorem P1.start (h : P1 s w g bx k wr os S) (hk : k < s.tabs.length) (x : Obj) :
    ∃ S', P2 s w g bx k 0 (((wr.alloc x).alloc (.map #[] 0)).setCell ⟨g, k, none⟩ (.map (some (wr.heap.size + 1)))) (wr.heap.size + 1) (os.set k (some (wr.heap.size + 1))) S' := by
  have e : (wr.alloc x).heap.size = wr.heap.size + 1 := by simp
  have hko : k < os.length := by have := h.bo.len; omega
  have h1 := (h.bo.below (belA x)).made (S' := fun j => if j = k then fun _ => False else S j) hk (fun j hj => by simp [hj]) (fun t => by simp)
  rw [e] at h1
  refine ⟨_, h1.1, fun j hj => ?_, fun j hj hn => ?_, h.fnd, fun _ p _ hp => absurd hp (by omega), fun j hj t => ?_, fun t => ?_, ?_, ?_⟩
  · rw [set_at hko]
    by_cases e2 : j = k
    · exact ⟨_, by rw [if_pos e2]⟩
    · rw [if_neg e2]; exact h.has j (by omega)
  · rw [set_at hko, if_neg (by omega)]
    exact h.no j (by omega) hn
  · rw [if_neg (by omega)]
    exact h.sets j hj t
  · simp
  · rw [set_at hko, if_pos rfl]
  · simpa using h1.2
theorem P2.below (h : P2 s w g bx k q wr b os S) (hb : Below wr.heap.size wr w') : P2 s w g bx k q w' b os S :=
  ⟨h.bo.below hb, h.has, h.no, h.fnd, h.fndq, h.sets, h.setk, h.at', h.ms.kept (grown_of_below hb) (by simp)⟩
theorem P2.step (h : P2 s w g bx k q wr b os S) (hk : k < s.tabs.length) (hq : q < s.tabs[k].fors.length) (hf : fok (named s.tabs[k].fors[q].tab) s.tabs = true) (hg : wr.grownBy w' (some b))
    (hm : MS w' (q + 1) b (fun j => S k j ∨ j = tnum s s.tabs[k].fors[q].tab)) : ∃ S', P2 s w g bx k (q + 1) w' b os S' := by
  refine ⟨fun j => if j = k then fun t => S k t ∨ t = tnum s s.tabs[k].fors[q].tab else S j, h.bo.turn hg h.at' (m := q + 1) (by simpa using hm) (fun j hj => by simp [hj]), h.has, h.no, h.fnd, fun hk p hp hlt => ?_, fun j hj t => ?_, fun t => ?_, h.at', by simpa using hm⟩
  · by_cases e : p = q
    · subst e; exact hf
    · exact h.fndq hk p hp (by omega)
  · simp only [if_neg (show j ≠ k by omega)]
    exact h.sets j hj t
  · simp only [if_pos]
    rw [h.setk]
    constructor
    · rintro (⟨hk, p, hp, h1, h2⟩ | h1)
      · exact ⟨hk, p, hp, by omega, h2⟩
      · exact ⟨hk, q, hq, by omega, h1.symm⟩
    · rintro ⟨hk, p, hp, h1, h2⟩
      by_cases e : p = q
      · subst e; exact .inr h2.symm
      · exact .inl ⟨hk, p, hp, by omega, h2⟩
theorem P2.done (h : P2 s w g bx k q wr b os S) (hk : k < s.tabs.length) (hq : ¬ q < s.tabs[k].fors.length) : P1 s w g bx (k + 1) wr os S := by
  refine ⟨h.bo, h.has, h.no, fun j hj => ?_, fun j hj t => ?_⟩
  · by_cases e : j = k
    · subst e; intro hk p hp; exact h.fndq hk p hp (by omega)
    · exact h.fnd j (by omega)
  · by_cases e : j = k
    · subst e
      rw [h.setk]
      exact ⟨fun ⟨hk, p, hp, _, h2⟩ => ⟨hk, p, hp, h2⟩, fun ⟨hk, p, hp, h2⟩ => ⟨hk, p, hp, by omega, h2⟩⟩
    · exact h.sets j (by omega) t
end

theorem tn_wf (n : Nat) (h : n ≤ 10) : (Lit.int .i64 (n : Int)).wf = true := WalkArith.wf_i64 (by omega)


/-- What table j references. -/
def refs (s : Sch) (j t : Nat) : Prop := ∃ (hj : j < s.tabs.length) (q : Nat) (hq : q < s.tabs[j].fors.length), tnum s s.tabs[j].fors[q].tab = t
theorem rdy_refs (s : Sch) (D : List Nat) {j : Nat} (hj : j < s.tabs.length) : rdy (tgts s) D j ↔ j ∉ D ∧ ∀ t, refs s j t → t ∈ D := by
  rw [rdy_iff s D hj]
  refine and_congr Iff.rfl ⟨fun h t ⟨_, q, hq, e⟩ => by rw [← e]; exact h q hq, fun h q hq => h _ ⟨hj, q, hq, rfl⟩⟩
theorem least {P : Nat → Prop} : ∀ n, (∀ j, j < n → ¬ P j) ∨ ∃ m, m < n ∧ P m ∧ ∀ j, j < m → ¬ P j
  | 0 => .inl (fun j h => absurd h (by omega))
  | n + 1 => by
    rcases least (P := P) n with h | ⟨m, h1, h2, h3⟩
    · by_cases hp : P n
      · exact .inr ⟨n, by omega, hp, h⟩
      · refine .inl (fun j hj => ?_)
        by_cases e : j = n
        · subst e; exact hp
        · exact h j (by omega)
    · exact .inr ⟨m, by omega, h2, h3⟩

/-- Between two rounds: D is taken. -/
structure OO (s : Sch) (w : World) (g : Nat) (bx : Obj) (wr : World) (v : Value) (D : List Nat) (os : List (Option Nat)) (S : Nat → Nat → Prop) : Prop where
  bo : BO w s.tabs.length g bx wr os S
  out : wr.ownsRow (w.heap.size + 1) 3 1 v D.length ((D.map Int.ofNat).flatMap icells)
  hD : ∀ j, j < s.tabs.length → j ∈ D → os[j]? = some none
  hN : ∀ j, j < s.tabs.length → j ∉ D → ∃ b, os[j]? = some (some b)
  sets : ∀ j, j < s.tabs.length → j ∉ D → ∀ t, S j t ↔ refs s j t ∧ t ∉ D
/-- In the round of table m: it is struck from the first p maps. -/
structure DL (s : Sch) (w : World) (g : Nat) (bx : Obj) (m p : Nat) (wr : World) (v : Value) (D : List Nat) (os : List (Option Nat)) (S : Nat → Nat → Prop) : Prop where
  bo : BO w s.tabs.length g bx wr os S
  out : wr.ownsRow (w.heap.size + 1) 3 1 v (D ++ [m]).length (((D ++ [m]).map Int.ofNat).flatMap icells)
  hD : ∀ j, j < s.tabs.length → j ∈ D ++ [m] → os[j]? = some none
  hN : ∀ j, j < s.tabs.length → j ∉ D ++ [m] → ∃ b, os[j]? = some (some b)
  sets : ∀ j, j < s.tabs.length → j ∉ D ++ [m] → ∀ t, S j t ↔ refs s j t ∧ t ∉ D ∧ (j < p → t ≠ m)

section
variable {s : Sch} {w wr w' : World} {g m p b : Nat} {bx : Obj} {os : List (Option Nat)} {S : Nat → Nat → Prop} {v v' : Value} {D : List Nat}
theorem P1.rounds (h : P1 s w g bx s.tabs.length wr os S) : OO s w g bx wr (.slice none 0 0) [] os S :=
  ⟨h.bo, World.ownsRow_nil _ _ _ _, fun j _ h => (by cases h), fun j hj _ => h.has j hj, fun j hj _ t => by rw [h.sets j hj t]; simp [refs]⟩
theorem OO.below (h : OO s w g bx wr v D os S) (hb : Below wr.heap.size wr w') : OO s w g bx w' v D os S :=
  ⟨h.bo.below hb, h.out.kept (grown_of_below hb) (by cases v.ownBlock <;> simp), h.hD, h.hN, h.sets⟩
theorem OO.os_len (h : OO s w g bx wr v D os S) : os.length = s.tabs.length := h.bo.len
theorem OO.empty (h : OO s w g bx wr v D os S) {f : Nat → Bool} (hf : ∀ j, f j = true ↔ rdy (tgts s) D j) : ∀ j (hj : j < os.length), emptyM wr os[j] (f j) := by
  intro j hj
  have hjn : j < s.tabs.length := by have := h.os_len; omega
  by_cases hd : j ∈ D
  · have h1 := h.hD j hjn hd
    rw [List.getElem?_eq_getElem hj] at h1
    rw [Option.some.inj h1]
    show f j = false
    cases e : f j
    · rfl
    · exact absurd hd ((hf j).1 e).1
  · obtain ⟨b, hb⟩ := h.hN j hjn hd
    obtain ⟨-, n, hm⟩ := h.bo.sets j b hb
    rw [List.getElem?_eq_getElem hj] at hb
    rw [Option.some.inj hb]
    refine ⟨n, _, hm, ?_⟩
    rw [hf, rdy_refs s D hjn]
    constructor
    · rintro ⟨_, h2⟩ t ht
      have := (h.sets j hjn hd t).1 ht
      exact this.2 (h2 t this.1)
    · intro h2
      refine ⟨hd, fun t ht => ?_⟩
      by_cases e : t ∈ D
      · exact e
      · exact absurd ((h.sets j hjn hd t).2 ⟨ht, e⟩) (h2 t)
theorem OO.ne (h : OO s w g bx wr v D os S) : v.ownBlock ≠ some g := oown_ne (by decide) h.out h.bo.row
/-- Behind the append. -/
theorem OO.app (h : OO s w g bx wr v D os S) {x : Obj} (hg : (wr.alloc x).grownBy w' v.ownBlock) : BO w s.tabs.length g bx w' os S :=
  (h.bo.below (belA x)).other (h.out.alloc x) h.ne (Nat.le_refl _) hg
/-- Behind the store of the nil map. -/
theorem OO.mark (h : OO s w g bx wr v D os S) {x : Obj} (hg : (wr.alloc x).grownBy w' v.ownBlock) (hm : m < s.tabs.length)
    (ho : w'.ownsRow (w.heap.size + 1) 3 1 v' (D.length + 1) ((D.map Int.ofNat).flatMap icells ++ [.int .i64 m])) :
    DL s w g bx m 0 (w'.setCell ⟨g, m, none⟩ (.map none)) v' D (os.set m none) S := by
  have h1 := h.app hg
  have hmo : m < os.length := by have := h.os_len; omega
  refine ⟨h1.nil hm, ?_, fun j hj hd => ?_, fun j hj hd => ?_, fun j hj hd t => ?_⟩
  · rw [List.length_append, List.map_append, List.flatMap_append]
    exact ho.kept (h1.row.stored m (.map none)).2 (.inr (oown_ne (by decide) ho h1.row))
  · rw [set_at hmo]
    by_cases e : j = m
    · rw [if_pos e]
    · rw [if_neg e]
      rcases List.mem_append.1 hd with hd | hd
      · exact h.hD j hj hd
      · exact absurd (List.mem_singleton.1 hd) e
  · have h2 : j ∉ D := fun h => hd (List.mem_append_left _ h)
    have h3 : j ≠ m := fun h => hd (List.mem_append_right _ (by rw [h]; simp))
    rw [set_at hmo, if_neg h3]
    exact h.hN j hj h2
  · rw [h.sets j hj (fun h => hd (List.mem_append_left _ h)) t]
    exact and_congr Iff.rfl ⟨fun h => ⟨h, fun h => absurd h (by omega)⟩, fun h => h.1⟩
theorem DL.skip (h : DL s w g bx m p wr v D os S) (hp : os[p]? = some none) : DL s w g bx m (p + 1) wr v D os S :=
  ⟨h.bo, h.out, h.hD, h.hN, fun j hj hd t => by
    have : j ≠ p := by
      rintro rfl
      obtain ⟨b, hb⟩ := h.hN j hj hd
      rw [hp] at hb
      cases hb
    rw [h.sets j hj hd t]
    exact and_congr Iff.rfl (and_congr Iff.rfl ⟨fun h1 h2 => h1 (by omega), fun h1 h2 => h1 (by omega)⟩)⟩
theorem DL.strike (h : DL s w g bx m p wr v D os S) (hpn : p < s.tabs.length) (hp : os[p]? = some (some b)) {n : Nat} (hg : wr.grownBy w' (some b)) (hm : MS w' n b (fun t => S p t ∧ t ≠ m)) : ∃ S', DL s w g bx m (p + 1) w' v D os S' := by
  obtain ⟨-, n0, hm0⟩ := h.bo.sets p b hp
  refine ⟨fun j => if j = p then fun t => S p t ∧ t ≠ m else S j, h.bo.turn hg hp (m := n) (by simpa using hm) (fun j hj => by simp [hj]), h.out.kept hg (.inr (own_not_map h.out hm0)), h.hD, h.hN, fun j hj hd t => ?_⟩
  by_cases e : j = p
  · subst e
    simp only [if_pos]
    rw [h.sets j hj hd t]
    constructor
    · rintro ⟨⟨h1, h2, _⟩, h3⟩; exact ⟨h1, h2, fun _ => h3⟩
    · rintro ⟨h1, h2, h3⟩; exact ⟨⟨h1, h2, fun h => absurd h (by omega)⟩, h3 (by omega)⟩
  · simp only [if_neg e]
    rw [h.sets j hj hd t]
    exact and_congr Iff.rfl (and_congr Iff.rfl ⟨fun h1 h2 => h1 (by omega), fun h1 h2 => h1 (by omega)⟩)
theorem DL.done (h : DL s w g bx m s.tabs.length wr v D os S) : OO s w g bx wr v (D ++ [m]) os S :=
  ⟨h.bo, h.out, h.hD, h.hN, fun j hj hd t => by
    rw [h.sets j hj hd t]
    refine and_congr Iff.rfl ⟨fun ⟨h1, h2⟩ h3 => ?_, fun h1 => ⟨fun h => h1 (List.mem_append_left _ h), fun _ h => h1 (List.mem_append_right _ (by rw [h]; simp))⟩⟩
    rcases List.mem_append.1 h3 with h3 | h3
    · exact h1 h3
    · exact h2 hj (List.mem_singleton.1 h3)⟩
theorem P2.cell {k q : Nat} (h : P2 s w g bx k q wr b os S) : wr.cell? ⟨g, k, none⟩ = some (.map (some b)) := by
  obtain ⟨hk, e⟩ := List.getElem?_eq_some_iff.1 h.at'
  rw [h.bo.cell hk, e]
theorem DL.cell (h : DL s w g bx m p wr v D os S) {o : Option Nat} (hp : os[p]? = some o) : wr.cell? ⟨g, p, none⟩ = some (.map o) := by
  obtain ⟨hk, e⟩ := List.getElem?_eq_some_iff.1 hp
  rw [h.bo.cell hk, e]
end

end Go.Proofs.YtmnbhdhgjbgidaaDoor

/- schema.Order: what it answers, by the rounds of the plain law. -/
namespace Go.Proofs.YtmnbhdhgjbgidaaDoor
open Go.RowKit

set_option maxRecDepth 100000 in
set_option maxHeartbeats 2000000 in
theorem oorder_any (s : Sch) (w : World) (hin : s.In w) (hfew : s.tabs.length ≤ 10) :
    Calls Tryd.prog 11 #[.agg #[.slice s.th.ao s.tabs.length s.th.cap]] w fun e w' => ((e = .returned (.tuple #[.slice none 0 0, .int .i64 11]) ∧ ¬ allFound s) ∨ (allFound s ∧ ∃ D, (Ends (tgts s) D false ∧ e = .returned (.tuple #[.slice none 0 0, .int .i64 7])) ∨
        (Ends (tgts s) D true ∧ ∃ r : IL, r.l = D.map Int.ofNat ∧ r.In w' ∧ e = .returned (.tuple #[.slice r.h.ao r.l.length r.h.cap, .int .i64 0])))) ∧ Below w.heap.size w w' := by
  have hn := hin.rt.len
  have hmm := @run_makeMap Tryd.prog
  have HIN := hide hin
  clear hin
  obtain ⟨i0, hi, hz0, hz1, hz2⟩ := info_parts info3
  have HI := hide (And.intro hi (And.intro hz0 (And.intro hz1 hz2)))
  clear hi hz0 hz1 hz2
  obtain ⟨bi, hbi, hbz, hbs, hbb⟩ := info_parts info_map
  go_enter Tryd.func11, Tryd.ntmps11
  go_wp2_with (at_make; refine wpList_make_full _ rfl _ _ 74 rfl (w.heap.size + 1) 75 bi (.map none) 1 Tryd.underlying74 hbi hbz hbs _ _ _ _ s.tabs.length rfl rfl rfl rfl (by rw [hbb]; omega) (by unfold maxLen; omega) (by simp) ?_; intro w2 hown hgrow; have HO := hide hown; have HG := hide hgrow; clear hown hgrow; have HBW := hide (show Below (w.heap.size + 1) (w.alloc (.cells #[.slice s.th.ao s.tabs.length s.th.cap] 28)) w2 from (Below.refl _ _).grown HG.out (by simp) (fun b hb => by cases hb)); have hx := box_cell (w := w) (c := #[.slice s.th.ao s.tabs.length s.th.cap]) (T := 28) (j := 0) (HBW.out.mono (by simp)) rfl)
  have HS := hide (show P1 s w (w.heap.size + 1) (.cells #[.slice s.th.ao s.tabs.length s.th.cap] 28) 0 w2 (List.replicate s.tabs.length none) (fun _ _ => False) from
    ⟨⟨by rw [← made_maps]; simpa using HO.out, by simp, fun j b hj => by simp [List.getElem?_replicate] at hj, fun i j b hi hj => by simp [List.getElem?_replicate] at hi, HBW.out⟩, fun j h => absurd h (by omega), fun j _ h => by simp [h], fun j h => absurd h (by omega), fun j h => absurd h (by omega)⟩)
  clear HO HG HBW hbi hbz hbs hbb hx
  go_loopw [22] (fun i wr => ∃ (k : Nat) (os : List (Option Nat)) (S : Nat → Nat → Prop), k ≤ s.tabs.length ∧ i = .int .i64 k ∧ P1 s w (w.heap.size + 1) (.cells #[.slice s.th.ao s.tabs.length s.th.cap] 28) k wr os S) (fun i _ => s.tabs.length - (intOf i).toNat)
  case atStart => exact ⟨0, _, _, Nat.zero_le _, rfl, HS.out⟩
  case round =>
    obtain ⟨k, os, S, hk, rfl, hp⟩ := hrel
    have HP := hide hp
    clear hp HS
    have hx := box_cell (w := w) (c := #[.slice s.th.ao s.tabs.length s.th.cap]) (T := 28) (j := 0) (HP.out.bo.bw.mono (by simp)) rfl
    have hki : (k : Int) ≤ s.tabs.length := by omega
    by_cases hlt : k < s.tabs.length
    · have hlti : (k : Int) < s.tabs.length := by omega
      have hbA : Below w.heap.size w wr := (belA _).trans (HP.out.bo.bw.mono (by omega))
      have HIN' := hide (HIN.out.mono hbA)
      have hix := HIN'.out.rt.ix hlt Tryd.underlying26 sz22
      have hbk := HIN'.out.rt.blk hlt
      obtain ⟨c0, c1, c2, c3, c4, c5⟩ := tab_at HIN'.out.rt hlt
      have hfl := (HIN'.out.ts _ (List.getElem_mem hlt)).rf.len
      have hsz := HP.out.bo.sz
      have hgl := HP.out.bo.lt.2
      have hfz := HP.out.bo.free k
      have hcl : wr.cell? ⟨w.heap.size + 1, k, none⟩ = some (.map none) := by
        have hko : k < os.length := by rw [HP.out.bo.len]; exact hlt
        have h1 := HP.out.no k (Nat.le_refl _) hlt
        rw [List.getElem?_eq_getElem hko] at h1
        rw [HP.out.bo.cell hko, Option.some.inj h1]
      have hq1 : ∀ x, ((wr.alloc x).alloc (.map #[] 0)).cell? ⟨w.heap.size + 1, k, none⟩ = some (.map none) := fun x => by
        rw [(belAA x (.map #[] 0)).cell (p := ⟨w.heap.size + 1, k, none⟩) hgl]; exact hcl
      have hq2 : ∀ x, ((wr.alloc x).alloc (.map #[] 0)).frozen? ⟨w.heap.size + 1, k, none⟩ = false := fun x => by
        rw [(belAA x (.map #[] 0)).frozen (p := ⟨w.heap.size + 1, k, none⟩) hgl]; exact hfz
      have hq3 : ∀ (c : Array Value) (T : TypeId) (v : Value) (j : Nat), ((((wr.alloc (.cells c T)).alloc (.map #[] 0)).setCell ⟨w.heap.size + 1, k, none⟩ v).cell? ⟨wr.heap.size, j, none⟩) = c[j]? := fun c T v j => by
        rw [cell_of_row _ wr.heap.size j c T (0, 0) (by
          rw [Below.heap_setCell _ _ _ _ (by show wr.heap.size ≠ w.heap.size + 1; omega), Below.heap_alloc _ _ _ (by simp)]
          exact heap_alloc_new wr _)]
      clear hbA
      go_wp2
      clear hq1 hq2 hq3 hcl hfz hgl hix c0 c1 c2 c3 c4 c5
      go_loopw [34] (fun i wx => ∃ (q b : Nat) (os : List (Option Nat)) (S : Nat → Nat → Prop), q ≤ s.tabs[k].fors.length ∧ i = .int .i64 q ∧ P2 s w (w.heap.size + 1) (.cells #[.slice s.th.ao s.tabs.length s.th.cap] 28) k q wx b os S) (fun i _ => s.tabs[k].fors.length - (intOf i).toNat)
      case atStart =>
        obtain ⟨S', hS'⟩ := HP.out.start hlt _
        exact ⟨0, _, _, S', Nat.zero_le _, rfl, hS'⟩
      case round =>
        clear HP HIN' hx hbk hsz
        obtain ⟨q, b, os, S, hq, rfl, hp⟩ := hrel
        have HP := hide hp
        clear hp
        have hx := box_cell (w := w) (c := #[.slice s.th.ao s.tabs.length s.th.cap]) (T := 28) (j := 0) (HP.out.bo.bw.mono (by simp)) rfl
        have hqi : (q : Int) ≤ s.tabs[k].fors.length := by omega
        by_cases hqt : q < s.tabs[k].fors.length
        · have hqti : (q : Int) < s.tabs[k].fors.length := by omega
          have hbA : Below w.heap.size w wr := (belA _).trans (HP.out.bo.bw.mono (by omega))
          have HIN' := hide (HIN.out.mono hbA)
          have hrf := (HIN'.out.ts _ (List.getElem_mem hlt)).rf
          have hfx := hrf.ix hqt Tryd.underlying36 sz61
          have hfb := hrf.blk hqt
          obtain ⟨f0, f1⟩ := frn_at hrf hqt
          clear hrf hbA
          have hx3 : ∀ y, (wr.alloc y).cell? ⟨w.heap.size, 0, none⟩ = some (.slice s.th.ao s.tabs.length s.th.cap) := fun y => by
            rw [(belA y).cell (p := ⟨w.heap.size, 0, none⟩) (show w.heap.size < wr.heap.size by have := HP.out.bo.sz; omega)]; exact hx
          cases hqf : fok (named s.tabs[k].fors[q].tab) s.tabs
          · have HF := hide hqf
            clear hqf
            go_wp2_with (go_at_call 22; refine (find_any s _ _ (HIN'.out.mono (belA _))).mono ?_; rintro e w5 ⟨rfl, hb1⟩; rw [HF.out, fi_tnum]; have HB5 := hide (bel_trans (belA _) hb1); clear hb1)
            go_ret2
            refine ⟨.inl ⟨rfl, fun h => ?_⟩, ((belA _).trans (HP.out.bo.bw.mono (by omega))).trans (HB5.out.mono (by have := HP.out.bo.sz; omega))⟩
            have := h k hlt q hqt
            rw [HF.out] at this
            cases this
          · have HF := hide hqf
            clear hqf
            go_wp2_with (first
              | (go_at_call 22; refine (find_any s _ _ (HIN'.out.mono (belA _))).mono ?_; rintro e w5 ⟨rfl, hb1⟩; rw [HF.out, fi_tnum]; have HP5 := hide (HP.out.below (bel_trans (belA _) hb1)); clear hb1; have hc9 := HP5.out.cell; obtain ⟨D5, hown5, hr5⟩ := HP5.out.ms)
              | (at_mapUpdate; refine wpList_mapUpdate_own _ rfl _ _ _ 75 rfl 3 4 (Maps.int_keyed Tryd.underlying3) Tryd.underlying75 (plainElem (H := Unit) Tryd.prog 4) b q D5 rfl hown5 (by unfold maxLen; omega) _ _ (key (tnum s s.tabs[k].fors[q].tab)) rfl rfl (Maps.keyOf_int_mk Tryd.underlying3 (tn_wf _ (by have := tnum_lt HF.out; omega))) _ [] (plainElem_bool Tryd.underlying4 true) ?_; intro w6 hown6 hg6))
            obtain ⟨es5, he5, h15, h25⟩ := hr5
            obtain ⟨S', hS'⟩ := HP5.out.step hlt hqt HF.out hg6 (ms_put _ _ hown6 he5 h15 h25)
            go_roundw
            case rel => exact ⟨q + 1, b, os, S', by omega, by go_num, hS'⟩
            case measure => simp [intOf]; omega
        · have hqti : ¬ (q : Int) < s.tabs[k].fors.length := by omega
          go_wp2
          go_roundw
          case rel => exact ⟨k + 1, os, S, by omega, by go_num, HP.out.done hlt hqt⟩
          case measure => simp [intOf]; omega
    · have hlti : ¬ (k : Int) < s.tabs.length := by omega
      have hkn : k = s.tabs.length := by omega
      subst hkn
      have HAF := hide (show allFound s from fun i h => HP.out.fnd i h h)
      have HO := hide HP.out.rounds
      clear HP
      go_wp2
      clear hx
      go_loopw [11, 57] (fun v i wx => ∃ (D : List Nat) (os : List (Option Nat)) (S : Nat → Nat → Prop), i = .int .i64 D.length ∧ D.length ≤ s.tabs.length ∧ Took (tgts s) D ∧ OO s w (w.heap.size + 1) (.cells #[.slice s.th.ao s.tabs.length s.th.cap] 28) wx v D os S) (fun _ i _ => s.tabs.length - (intOf i).toNat)
      case atStart => exact ⟨[], _, _, rfl, Nat.zero_le _, .nil, HO.out⟩
      case round =>
        clear HO
        obtain ⟨D, os, S, rfl, hDl, hT, ho⟩ := hrel
        have HT := hide hT
        have HO := hide ho
        clear hT ho
        by_cases hlt : D.length < s.tabs.length
        · have hlti : (D.length : Int) < s.tabs.length := by omega
          have HE := hide (HO.out.empty (f := fun j => @decide (rdy (tgts s) D j) (Classical.propDecidable _)) (fun j => by simp))
          have hgl := HO.out.bo.lt.2
          have HC := hide (fun j (hj : j < os.length) => HO.out.bo.cell hj)
          rcases least (P := rdy (tgts s) D) s.tabs.length with hno | ⟨m, hm, hr, hmin⟩
          · have HFX := hide (fx_range_miss (n := s.tabs.length) (p := fun j => @decide (rdy (tgts s) D j) (Classical.propDecidable _)) (fun j hj => by simpa using hno j hj))
            have HNO := hide hno
            clear hno
            go_wp2_with (go_at_call 30; refine (oindex_any _ _ _ os _ HO.out.os_len hfew hgl HC.out HE.out).mono ?_; rintro e w5 ⟨rfl, hb1⟩; rw [HFX.out]; have HO5 := hide (HO.out.below hb1); clear hb1)
            go_ret2
            refine ⟨.inr ⟨HAF.out, D, .inl ⟨⟨HT.out, ?_⟩, rfl⟩⟩, (belA _).trans (HO5.out.bo.bw.mono (by omega))⟩
            rw [if_neg (by simp), tgts_len]
            exact ⟨hlt, fun j hj => HNO.out j (by rw [tgts_len] at hj; exact hj)⟩
          · have HFX := hide (fx_range_hit (n := s.tabs.length) (p := fun j => @decide (rdy (tgts s) D j) (Classical.propDecidable _)) hm (by simpa using hr) (fun j hj => by simpa using hmin j hj))
            have HNX := hide (show isNext (tgts s) D m from ⟨by rw [tgts_len]; exact hm, hr, hmin⟩)
            clear hr hmin
            have hmi : (m : Int) < s.tabs.length := by omega
            have hdn := fun W : World => Maps.drop_nil (P := Tryd.prog) (w := W) (Maps.int_keyed Tryd.underlying3) Tryd.underlying75 (Maps.keyOf_int_mk Tryd.underlying3 (tn_wf m (by omega)))
            go_wp2_with (first
              | (go_at_call 30; refine (oindex_any _ _ _ os _ HO.out.os_len hfew hgl HC.out HE.out).mono ?_; rintro e w5 ⟨rfl, hb1⟩; rw [HFX.out]; have HO5 := hide (HO.out.below hb1); clear hb1; have hs5 := HO5.out.bo.sz)
              | (at_builtin; refine wpList_append_own _ rfl _ _ 22 rfl (w.heap.size + 1) 3 i0 (.int .i64 0) 1 8 Tryd.underlying22 HI.out.1 HI.out.2.1 HI.out.2.2.1 HI.out.2.2.2 rfl (by decide) _ _ _ rfl (HO5.out.out.alloc _) ⟨w5.heap.size, 0, none⟩ 1 1 [.int .i64 m] rfl rfl (new_cells (l := [_])) one_int (by unfold maxLen; omega) (by omega) (by simp; omega) ?_; intro v' w1 hown' hgrow _; have HB1 := hide (HO5.out.app hgrow); have HM := hide (HO5.out.mark hgrow hm hown'); clear hgrow hown'; have hf1 := HB1.out.free m; have hc1 := HB1.out.cell (j := m) (by rw [HO5.out.os_len]; exact hm)))
            clear hf1 hc1 hs5 HE HC HFX hgl HO5 HB1
            go_loopw [72] (fun i wx => ∃ (p : Nat) (os : List (Option Nat)) (S : Nat → Nat → Prop), i = .int .i64 p ∧ p ≤ s.tabs.length ∧ DL s w (w.heap.size + 1) (.cells #[.slice s.th.ao s.tabs.length s.th.cap] 28) m p wx v' D os S) (fun i _ => s.tabs.length - (intOf i).toNat)
            case atStart => exact ⟨0, _, _, rfl, Nat.zero_le _, HM.out⟩
            case round =>
              clear HM
              obtain ⟨p, os, S, rfl, hpl, hm2⟩ := hrel
              have HM := hide hm2
              clear hm2
              by_cases hpt : p < s.tabs.length
              · have hpi : (p : Int) < s.tabs.length := by omega
                have hpo : p < os.length := by rw [HM.out.bo.len]; exact hpt
                have hgl := HM.out.bo.lt.2
                cases hos : os[p] with
                | none =>
                  have HP0 := hide (show os[p]? = some none by rw [List.getElem?_eq_getElem hpo, hos])
                  clear hos
                  have hcell := HM.out.cell HP0.out
                  go_wp2
                  go_roundw
                  case rel => exact ⟨p + 1, os, S, by go_num, by omega, HM.out.skip HP0.out⟩
                  case measure => simp [intOf]; omega
                | some b =>
                  have HP0 := hide (show os[p]? = some (some b) by rw [List.getElem?_eq_getElem hpo, hos])
                  clear hos
                  have hcell := HM.out.cell HP0.out
                  obtain ⟨-, z, D5, hown5, hr5⟩ := HM.out.bo.sets p b HP0.out
                  go_wp2_with (at_delete; refine wpList_delete_own _ rfl _ _ 75 3 rfl 4 (Maps.int_keyed Tryd.underlying3) Tryd.underlying75 (plainElem (H := Unit) Tryd.prog 4) b z D5 rfl hown5 _ (key m) rfl (Maps.keyOf_int_mk Tryd.underlying3 (tn_wf m (by omega))) ?_; intro w6 hown6 hg6)
                  obtain ⟨es5, he5, h15, h25⟩ := hr5
                  obtain ⟨S', hS'⟩ := HM.out.strike hpt HP0.out hg6.grown (ms_del _ hown6 he5 h15 h25)
                  go_roundw
                  case rel => exact ⟨p + 1, os, S', by go_num, by omega, hS'⟩
                  case measure => simp [intOf]; omega
              · have hpi : ¬ (p : Int) < s.tabs.length := by omega
                have hpn : p = s.tabs.length := by omega
                go_wp2
                go_roundw
                case rel => exact ⟨D ++ [m], os, S, by simp, by simp; omega, .snoc HT.out HNX.out, by rw [hpn] at HM; exact HM.out.done⟩
                case measure => simp [intOf]; omega
        · have hlti : ¬ (D.length : Int) < s.tabs.length := by omega
          go_wp2
          go_ret2
          obtain ⟨r, hv, hr, hin2⟩ := il_mk (xs := D.map Int.ofNat) HO.out.out (fun n hn => by
            obtain ⟨i, hi, rfl⟩ := List.mem_map.1 hn
            have := took_lt HT.out i hi
            rw [tgts_len] at this
            have h1 : (Int.ofNat i) = (i : Int) := rfl
            rw [h1]
            exact ⟨by omega, by omega⟩)
          refine ⟨.inr ⟨HAF.out, D, .inr ⟨⟨HT.out, ?_⟩, r, hr, hin2, ?_⟩⟩, (belA _).trans (HO.out.bo.bw.mono (by omega))⟩
          · rw [if_pos rfl, tgts_len]; omega
          · simp [← hv]

end Go.Proofs.YtmnbhdhgjbgidaaDoor

/- What an order answers, as a relation. -/
namespace Go.Proofs.YtmnbhdhgjbgidaaDoor
open Go.RowKit

/-- What an order answers: the list and the error. -/
def ordOut (s : Sch) (l : List Int) (e : Int) : Prop := (¬ allFound s ∧ l = [] ∧ e = 11) ∨ (allFound s ∧ ∃ D, (Ends (tgts s) D false ∧ l = [] ∧ e = 7) ∨ (Ends (tgts s) D true ∧ l = D.map Int.ofNat ∧ e = 0))
theorem ord_one {s : Sch} {l l' : List Int} {e e' : Int} (h : ordOut s l e) (h' : ordOut s l' e') : l = l' ∧ e = e' := by
  rcases h with ⟨hn, rfl, rfl⟩ | ⟨ha, D, h⟩
  · rcases h' with ⟨_, rfl, rfl⟩ | ⟨ha, -⟩
    · exact ⟨rfl, rfl⟩
    · exact absurd ha hn
  · rcases h' with ⟨hn, -⟩ | ⟨_, D', h'⟩
    · exact absurd ha hn
    · rcases h with ⟨h1, rfl, rfl⟩ | ⟨h1, rfl, rfl⟩
      · rcases h' with ⟨h2, rfl, rfl⟩ | ⟨h2, rfl, rfl⟩
        · exact ⟨rfl, rfl⟩
        · cases (ends_one h1 h2).1
      · rcases h' with ⟨h2, rfl, rfl⟩ | ⟨h2, rfl, rfl⟩
        · cases (ends_one h1 h2).1
        · rw [(ends_one h1 h2).2]; exact ⟨rfl, rfl⟩
theorem ord_out {s : Sch} {w' : World} {e : Ending} (h : (e = .returned (.tuple #[.slice none 0 0, .int .i64 11]) ∧ ¬ allFound s) ∨ (allFound s ∧ ∃ D, (Ends (tgts s) D false ∧ e = .returned (.tuple #[.slice none 0 0, .int .i64 7])) ∨
        (Ends (tgts s) D true ∧ ∃ r : IL, r.l = D.map Int.ofNat ∧ r.In w' ∧ e = .returned (.tuple #[.slice r.h.ao r.l.length r.h.cap, .int .i64 0])))) :
    ∃ (r : IL) (x : Int), e = .returned (.tuple #[.slice r.h.ao r.l.length r.h.cap, .int .i64 x]) ∧ r.In w' ∧ ordOut s r.l x := by
  rcases h with ⟨rfl, hn⟩ | ⟨ha, D, ⟨h1, rfl⟩ | ⟨h1, r, h2, h3, rfl⟩⟩
  · exact ⟨⟨nilHd, []⟩, 11, rfl, ⟨Row.nil _ _ _, fun n h => by cases h⟩, .inl ⟨hn, rfl, rfl⟩⟩
  · exact ⟨⟨nilHd, []⟩, 7, rfl, ⟨Row.nil _ _ _, fun n h => by cases h⟩, .inr ⟨ha, D, .inl ⟨h1, rfl, rfl⟩⟩⟩
  · exact ⟨r, 0, rfl, h3, .inr ⟨ha, D, .inr ⟨h1, h2, rfl⟩⟩⟩

end Go.Proofs.YtmnbhdhgjbgidaaDoor

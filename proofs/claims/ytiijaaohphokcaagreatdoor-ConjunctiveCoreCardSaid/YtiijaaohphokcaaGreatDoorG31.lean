/- querylabfield.of: the columns with a type. -/
import Derived.Test.YtiijaaohphokcaaGreatDoorG30
namespace Go.Proofs.YtiijaaohphokcaaGreatDoor
open Go.RowKit

def OfPost (M : IL) (typ : Int) (w : World) (e : Ending) (w' : World) : Prop := ∃ (l : List Nat) (r : IL), e = .returned (.slice r.h.ao r.l.length r.h.cap) ∧ r.l = l.map Int.ofNat ∧ (∀ j ∈ l, ∃ h : j < M.l.length, M.l[j] = typ) ∧ r.In w' ∧ (0 < r.l.length → w.heap.size ≤ r.h.b) ∧ Below w.heap.size w w'
set_option maxRecDepth 100000 in
set_option maxHeartbeats 4000000 in
theorem of_any (M : IL) (typ : Int) (w : World) (hM : M.In w) (hs : M.l.length ≤ 1000) :
    Calls Tryz.prog 81 #[.slice M.h.ao M.l.length M.h.cap, .int .i64 typ] w (OfPost M typ w) := by
  have HM := hide hM
  have hmn := hM.1.len
  obtain ⟨i0, hi, hz0, hz1, hz2⟩ := info_parts info_int
  clear hM
  go_enter Tryz.func81, Tryz.ntmps81
  go_wp2
  go_loopw [5, 10] (fun v i wr => ∃ (k : Nat) (l : List Nat), k ≤ M.l.length ∧ i = .int .i64 k ∧ Hid (wr.ownsRow w.heap.size 3 1 v l.length (nats l)) ∧ Hid (Below w.heap.size w wr) ∧ Hid (∀ j ∈ l, ∃ h : j < M.l.length, M.l[j] = typ) ∧ Hid (l.length ≤ k)) (fun _ i _ => M.l.length - (intOf i).toNat)
  case atStart => exact ⟨0, [], Nat.zero_le _, rfl, World.ownsRow_nil _ _ _ _, Below.refl _ _, fun j h => absurd h List.not_mem_nil, Nat.le_refl _⟩
  case round =>
    obtain ⟨k, l, hk, rfl, HO, HB, HL, HLK⟩ := hrel
    by_cases hlt : k < M.l.length
    · have hr := (HM.out.1.mono HB.out)
      have hix := hr.ix hlt Tryz.underlying22 szil
      have c0 : wr.cell? ⟨M.h.b, M.h.o + k, none⟩ = some (.int .i64 (M.l[k]'hlt)) := int_at hr hlt
      have hbk := hr.blk hlt
      have HLT := hide hlt
      obtain ⟨x, hx⟩ : ∃ x, M.l[k]'hlt = x := ⟨_, rfl⟩
      have HX := hide hx
      rw [hx] at c0
      clear hx hr
      by_cases he : x = typ
      · have hb : (x == typ) = true := beq_iff_eq.2 he
        have HSN := hide (show ∀ j ∈ l ++ [k], ∃ h : j < M.l.length, M.l[j] = typ from fun j hj => by
          rcases List.mem_append.1 hj with hj | hj
          · exact HL.out j hj
          · rw [List.mem_singleton.1 hj]; exact ⟨HLT.out, HX.out.trans he⟩)
        have hll := HLK.out
        clear he
        go_wp2_with (at_builtin; refine wpList_append_own _ rfl _ _ 22 rfl w.heap.size 3 i0 (.int .i64 0) 1 8 Tryz.underlying22 hi hz0 hz1 hz2 rfl (by decide) _ _ _ rfl (HO.out.alloc _) ⟨wr.heap.size, 0, none⟩ 1 1 [.int .i64 (k : Nat)] rfl rfl ?c1 ?c2 ?c3 ?c4 ?c5 ?_)
        case c1 => exact new_cells (l := [_])
        case c2 => exact one_int
        case c3 => unfold maxLen; omega
        case c4 => omega
        case c5 => have := HB.out.size; simp; omega
        intro v' w1 hown' hgrow _
        have HO2 := hide (show w1.ownsRow w.heap.size 3 1 v' (l ++ [k]).length (nats (l ++ [k])) from by rw [nats_snoc, List.length_append]; exact hown')
        have HG := hide (grown1 HB.out HB.out.size hgrow (fun b hb => (HO.out.lt b hb).1))
        clear hown' hgrow hll
        go_wp2
        go_roundw
        case rel => exact ⟨k + 1, _, HLT.out, by go_num, HO2.out, HG.out, HSN.out, by rw [List.length_append]; exact Nat.add_le_add_right HLK.out 1⟩
        case measure => have := HLT.out; simp [intOf]; omega
      · have hb : (x == typ) = false := beq_eq_false_iff_ne.2 he
        clear he
        go_wp2
        go_roundw
        case rel => exact ⟨k + 1, l, HLT.out, by go_num, HO.out, HB.out, HL.out, Nat.le_succ_of_le HLK.out⟩
        case measure => have := HLT.out; simp [intOf]; omega
    · obtain ⟨r, hv, hr, hin, hb⟩ := own_nats HO.out (fun x hx => by obtain ⟨h, _⟩ := HL.out x hx; omega)
      have HR := hide hr
      have HI := hide hin
      have HBB := hide hb
      clear hr hin hb
      go_wp2
      go_ret
      exact ⟨l, r, congrArg Ending.returned hv, HR.out, HL.out, HI.out, HBB.out, HB.out⟩
end Go.Proofs.YtiijaaohphokcaaGreatDoor

/- querylabfield.slot. -/
namespace Go.Proofs.YtiijaaohphokcaaGreatDoor
open Go.RowKit

/-- The tape, and the list of types that lies in the cell pb. -/
structure TS (w0 : World) (B b : Nat) (L : IL) (a pb : Nat) (ts : List Int) (lv : Value) (z : World) : Prop where
  gb : w0.grownBy z (some b)
  le : w0.heap.size ≤ B
  ll : b < w0.heap.size ∧ (0 < L.l.length → L.h.b < w0.heap.size)
  tp : TapeIn z b L a
  bx : Box z pb #[lv] 22
  lo : B ≤ pb
  own : z.ownsRow B 3 1 lv ts.length (ts.flatMap icells)
  ty : ∀ t ∈ ts, t = 1 ∨ t = 3
section
variable {w0 z z' : World} {B b a a' pb : Nat} {L : IL} {ts : List Int} {lv : Value}
theorem TS.own_ne (h : TS w0 B b L a pb ts lv z) {c : Nat} {T : TypeId} (ht : TyAt z c T) (hne : 3 ≠ T) : lv.ownBlock ≠ some c := fun e => (TyAt.own h.own e).ne ht hne rfl
theorem TS.own_b (h : TS w0 B b L a pb ts lv z) : lv.ownBlock ≠ some b := fun e => by have := (h.own.lt b e).1; have := h.ll; have := h.le; omega
theorem TS.next (h : TS w0 B b L a pb ts lv z) (hg : z.grownBy z' (some b)) (ht : TapeIn z' b L a') : TS w0 B b L a' pb ts lv z' := by
  have h1 := h.ll; have h2 := h.le; have h3 := h.lo
  exact ⟨h.gb.trans hg, h.le, h.ll, ht, h.bx.grown hg (by intro e; injection e with e; omega), h.lo, h.own.kept hg (.inr h.own_b), h.ty⟩
theorem TS.below (h : TS w0 B b L a pb ts lv z) (hb : Below z.heap.size z z') : TS w0 B b L a pb ts lv z' := h.next (only_below hb _) (h.tp.mono hb)
theorem TS.other (h : TS w0 B b L a pb ts lv z) {c : Nat} (hg : z.grownBy z' (some c)) (hc : B ≤ c) (hp : pb ≠ c) (ho : lv.ownBlock ≠ some c) : TS w0 B b L a pb ts lv z' := by
  have h1 := h.ll; have h2 := h.le
  exact ⟨h.gb.andThen hg (fun j e => by injection e with e; left; omega), h.le, h.ll, tz2 h.tp hg h1 (by omega), h.bx.grown hg (by intro e; injection e with e; exact hp e), h.lo, h.own.kept hg (.inr ho), h.ty⟩
/-- The types as a list of integers. -/
theorem TS.il (h : TS w0 B b L a pb ts lv z) : ∃ hd : Hd, lv = .slice hd.ao ts.length hd.cap ∧ IL.In z ⟨hd, ts⟩ := by
  obtain ⟨hd, hv, hr⟩ := own_row (size := 1) (cells := icells) (fun _ => rfl) (by decide) h.own
  exact ⟨hd, hv, hr, fun n hn => by rcases h.ty n hn with rfl | rfl <;> (constructor <;> decide)⟩
theorem TS.il' (h : TS w0 B b L a pb ts lv z) {hd : Hd} (e : lv = .slice hd.ao ts.length hd.cap) : IL.In z ⟨hd, ts⟩ := by
  obtain ⟨⟨ao2, c2⟩, e2, hin⟩ := h.il
  obtain ⟨ao, c⟩ := hd
  rw [e] at e2
  injection e2 with e3 _ e4
  have e3 : ao = ao2 := e3
  have e4 : c = c2 := e4
  rw [e3, e4]
  exact hin
/-- A type is appended: the row has grown, then its header is stored. -/
theorem TS.push (h : TS w0 B b L a pb ts lv z) {t : Int} {v2 : Value} (ht : t = 1 ∨ t = 3) (hg : z.grownBy z' lv.ownBlock) (ho : z'.ownsRow B 3 1 v2 (ts.length + 1) (ts.flatMap icells ++ icells t)) : TS w0 B b L a pb (ts ++ [t]) v2 (z'.setCell ⟨pb, 0, none⟩ v2) := by
  have h1 := h.ll; have h2 := h.le; have h3 := h.lo
  have hob : ∀ j, lv.ownBlock = some j → B ≤ j := fun j e => (h.own.lt j e).1
  have hbx := h.bx.grown hg (fun e => h.own_ne (TyAt.box h.bx) (by decide) e.symm)
  have hs := gb_set z' pb 0 v2
  have htp : TapeIn z' b L a := by
    cases hlv : lv.ownBlock with
    | none => rw [hlv] at hg; exact h.tp.mono ⟨hg.os, hg.tape, hg.output, hg.size, fun i hi => hg.block i hi (by simp)⟩
    | some j => rw [hlv] at hg; exact tz2 h.tp hg h1 (by have := hob j hlv; omega)
  refine ⟨(h.gb.andThen hg (fun j e => .inl (Nat.le_trans h2 (hob j e)))).andThen hs (fun j e => by injection e with e; left; omega), h.le, h.ll, tz2 htp hs h1 (by omega), ?_, h.lo, ?_, fun t' ht' => ?_⟩
  · have := hbx.set 0 v2
    simpa only [List.setIfInBounds_toArray, List.set_cons_zero] using this
  · have e : (ts ++ [t]).flatMap icells = ts.flatMap icells ++ icells t := by rw [List.flatMap_append, List.flatMap_cons, List.flatMap_nil, List.append_nil]
    rw [e, List.length_append]
    exact ho.kept hs (.inr (fun e => (TyAt.own ho e).ne (TyAt.box hbx) (by decide) rfl))
  · rcases List.mem_append.1 ht' with ht' | ht'
    · exact h.ty t' ht'
    · rw [List.mem_singleton.1 ht']; exact ht
end
/-- Blocks that are none of the tape's, the list's are kept. -/
def KeptT (z z' : World) (b pb : Nat) (lv : Value) : Prop := ∀ g, g < z.heap.size → g ≠ b → g ≠ pb → lv.ownBlock ≠ some g → z'.heap[g]? = z.heap[g]?
def FreshV (z : World) (lv lv' : Value) : Prop := ∀ j, lv'.ownBlock = some j → lv.ownBlock = some j ∨ z.heap.size ≤ j
def SlotPost (w0 : World) (B b : Nat) (L : IL) (a pb : Nat) (ts : List Int) (lv : Value) (typ : Int) (z : World) (e : Ending) (w' : World) : Prop :=
  ∃ (t : Tm V) (ts' : List Int) (lv' : Value) (a' : Nat), e = .returned (.agg #[.int .i64 t.nr, .int .i64 t.val.kind, .int .i64 t.val.num, .string t.val.text]) ∧ TS w0 B b L a' pb ts' lv' w' ∧ a' ≤ a + 3 ∧ (ts' = ts ∨ (ts' = ts ++ [typ] ∧ t = .v ts.length)) ∧ SlotOk ts'.length (fun n => ts'.getD n 0) t typ ∧ t.wf ∧ KeptT z w' b pb lv ∧ z.heap.size ≤ w'.heap.size
theorem kept_gb {z z' : World} {b pb : Nat} {lv : Value} {row : Option Nat} (h : z.grownBy z' row) (hr : ∀ j, row = some j → j = b ∨ j = pb ∨ lv.ownBlock = some j ∨ z.heap.size ≤ j) : KeptT z z' b pb lv := fun g hg h1 h2 h3 => h.block g hg (fun e => by
  rcases hr g e.symm with h | h | h | h
  · exact h1 h
  · exact h2 h
  · exact h3 h
  · omega)
theorem KeptT.andThen {z y x : World} {b pb : Nat} {lv : Value} (h : KeptT z y b pb lv) (hs : z.heap.size ≤ y.heap.size) {row : Option Nat} (k : y.grownBy x row) (hr : ∀ j, row = some j → j = b ∨ j = pb ∨ lv.ownBlock = some j ∨ z.heap.size ≤ j) : KeptT z x b pb lv := fun g hg h1 h2 h3 => (k.block g (Nat.lt_of_lt_of_le hg hs) (fun e => by
  rcases hr g e.symm with h | h | h | h
  · exact h1 h
  · exact h2 h
  · exact h3 h
  · omega)).trans (h g hg h1 h2 h3)
end Go.Proofs.YtiijaaohphokcaaGreatDoor

/- (*querylabmade.Tape).Next, for any tape. -/
import Derived.Test.YtmnbhdhgjbgidaaDoorTypes
import Derived.Deep.QuietTactic
import Derived.BigQuiet
namespace Go.Proofs.YtmnbhdhgjbgidaaDoor
open Go.RowKit

/-- Block b is a tape: its list, and the number that is read next. -/
structure TapeIn (w : World) (b : Nat) (L : IL) (a : Nat) : Prop where
  lst : w.cell? ⟨b, 0, none⟩ = some (.slice L.h.ao L.l.length L.h.cap)
  pos : w.cell? ⟨b, 1, none⟩ = some (.int .i64 (a : Nat))
  fr : w.frozen? ⟨b, 1, none⟩ = false
  row : L.In w
  ne : 0 < L.l.length → L.h.b ≠ b
theorem TapeIn.lt {w : World} {b a : Nat} {L : IL} (h : TapeIn w b L a) : b < w.heap.size := World.block_lt_of_cell? w ⟨b, 0, none⟩ h.lst
theorem TapeIn.mono {w w' : World} {b a : Nat} {L : IL} (h : TapeIn w b L a) (hb : Below w.heap.size w w') : TapeIn w' b L a :=
  ⟨by rw [hb.cell (p := ⟨b, 0, none⟩) h.lt]; exact h.lst, by rw [hb.cell (p := ⟨b, 1, none⟩) h.lt]; exact h.pos, by rw [hb.frozen (p := ⟨b, 1, none⟩) h.lt]; exact h.fr, h.row.mono hb, h.ne⟩

/-- What a remainder is, and that it lies in its bounds. -/
def modn (x n : Int) : Int := if x.tmod n < 0 then x.tmod n + n else x.tmod n
theorem modn_ok {x n : Int} (hn : 1 ≤ n) : 0 ≤ modn x n ∧ modn x n < n := by
  have h1 := Int.tmod_lt_of_pos x (show 0 < n by omega)
  have h2 := Int.lt_tmod_of_pos x (show 0 < n by omega)
  unfold modn
  split <;> omega

theorem row_grown {α : Type} {w w' : World} {size b : Nat} {cells : α → List Value} {h : Hd} {xs : List α} (hr : Row w size cells h xs) (hg : w.grownBy w' (some b)) (hne : 0 < xs.length → h.b ≠ b) : Row w' size cells h xs := by
  obtain ⟨h1, h2, h3, h4⟩ := hr
  refine ⟨h1, h2, fun hp => ⟨(h3 hp).1, Nat.lt_of_lt_of_le (h3 hp).2 hg.size⟩, fun i hi j v hv => ?_⟩
  have hp : 0 < xs.length := by omega
  rw [World.cell?_of_block (w := w) (a := ⟨h.b, _, none⟩) (hg.block h.b (h3 hp).2 (by simpa using hne hp))]
  exact h4 i hi j v hv
/-- The world in which the tape has been read once more. -/
theorem tape_step {w : World} {b a : Nat} {L : IL} (h : TapeIn w b L a) (n : Nat) : TapeIn ((w.drewN n).setCell ⟨b, 1, none⟩ (.int .i64 ((a : Int) + 1))) b L (a + 1) ∧ w.grownBy ((w.drewN n).setCell ⟨b, 1, none⟩ (.int .i64 ((a : Int) + 1))) (some b) := by
  have hg : w.grownBy ((w.drewN n).setCell ⟨b, 1, none⟩ (.int .i64 ((a : Int) + 1))) (some b) :=
    ⟨rfl, rfl, rfl, by simp [World.drewN], fun k _ hk => Below.heap_setCell _ _ _ _ (fun e => hk (by rw [e]))⟩
  refine ⟨⟨?_, ?_, ?_, ⟨row_grown h.row.1 hg h.ne, h.row.2⟩, h.ne⟩, hg⟩
  · have h0 := h.lst
    simp [go_sem, h0]
  · have h1 := h.pos
    simp [go_sem, h1]
  · have h1 := h.fr
    simp [go_sem, h1]

/-- What the tape's next number is. -/
def IL.next (L : IL) (a : Nat) (n : Int) : Int := if h : a < L.l.length then modn L.l[a] n else 0
theorem IL.next_ok (L : IL) (a : Nat) {n : Int} (hn : 1 ≤ n) : 0 ≤ L.next a n ∧ L.next a n < n := by
  unfold IL.next
  split
  · exact modn_ok hn
  · omega

set_option maxRecDepth 100000 in
set_option maxHeartbeats 1000000 in
theorem next_any (w : World) (b a : Nat) (L : IL) (n : Int) (ht : TapeIn w b L a) (ha : a ≤ 4611686018427387904) (hn1 : 1 ≤ n) (hn : int64 n) :
    Calls Tryd.prog 10 #[.pointer (some ⟨b, 0, none⟩), .int .i64 n] w fun e w' => e = .returned (.int .i64 (L.next a n)) ∧ TapeIn w' b L (a + 1) ∧ w.grownBy w' (some b) := by
  have h0 := ht.lst
  have h1 := ht.pos
  have hf := ht.fr
  have hl := ht.row.1.len
  have HT := hide ht
  have hn2 := hn.2
  clear ht hn
  by_cases hlt : a < L.l.length
  · have hlti : (a : Int) < L.l.length := by omega
    have hix := IL.ix HT.out.row hlt
    have c0 := int_at HT.out.row.1 hlt
    have hr1 := Int.tmod_lt_of_pos L.l[a] (show 0 < n by omega)
    have hr2 := Int.lt_tmod_of_pos L.l[a] (show 0 < n by omega)
    have hnx : L.next a n = if L.l[a].tmod n < 0 then L.l[a].tmod n + n else L.l[a].tmod n := by simp [IL.next, hlt, modn]
    go_enter Tryd.func10, Tryd.ntmps10
    go_wp2
    go_quiet (fail)
    go_wp2
    go_quiet (fail)
    go_wp2
    · go_ret
      rename_i _ hlt0
      refine ⟨?_, tape_step HT.out _⟩
      rw [hnx, if_pos (by omega)]
      simp [go_sem]
    · go_ret
      rename_i hge0
      refine ⟨?_, tape_step HT.out _⟩
      rw [hnx, if_neg (by omega)]
      simp [go_sem]
  · have hlti : ¬ (a : Int) < L.l.length := by omega
    have hnx : L.next a n = 0 := by simp [IL.next, hlt]
    go_enter Tryd.func10, Tryd.ntmps10
    go_wp2
    go_quiet (fail)
    go_wp2
    go_ret
    refine ⟨?_, tape_step HT.out _⟩
    rw [hnx]
    simp [go_sem]

end Go.Proofs.YtmnbhdhgjbgidaaDoor

/- querylabfield's tape: Mod, Raw, N, Range at any tape. -/
import Derived.Test.YtlkhiihehaiinaaDoorFVal
import Derived.Deep.QuietTactic
import Derived.BigQuiet
import Derived.Deep.DeepCutAuto
namespace Go.Proofs.YtlkhiihehaiinaaDoor
open Go.RowKit

/-- Block b is a tape: its list, and the number that is read next. -/
structure TapeIn (w : World) (b : Nat) (L : IL) (a : Nat) : Prop where
  lst : w.cell? ⟨b, 0, none⟩ = some (.slice L.h.ao L.l.length L.h.cap)
  pos : w.cell? ⟨b, 1, none⟩ = some (.int .i64 (a : Nat))
  fr : w.frozen? ⟨b, 1, none⟩ = false
  row : L.In w
  ne : 0 < L.l.length → L.h.b ≠ b
theorem TapeIn.lt {w : World} {b a : Nat} {L : IL} (h : TapeIn w b L a) : b < w.heap.size := World.block_lt_of_cell? w ⟨b, 0, none⟩ h.lst
theorem TapeIn.mono {w w' : World} {b a : Nat} {L : IL} (h : TapeIn w b L a) (hb : Below w.heap.size w w') : TapeIn w' b L a :=
  ⟨by rw [hb.cell (p := ⟨b, 0, none⟩) h.lt]; exact h.lst, by rw [hb.cell (p := ⟨b, 1, none⟩) h.lt]; exact h.pos, by rw [hb.frozen (p := ⟨b, 1, none⟩) h.lt]; exact h.fr, h.row.mono hb, h.ne⟩

/-- What a remainder is, and that it lies in its bounds. -/
def modn (x n : Int) : Int := if x.tmod n < 0 then x.tmod n + n else x.tmod n
theorem modn_ok {x n : Int} (hn : 1 ≤ n) : 0 ≤ modn x n ∧ modn x n < n := by
  have h1 := Int.tmod_lt_of_pos x (show 0 < n by omega)
  have h2 := Int.lt_tmod_of_pos x (show 0 < n by omega)
  unfold modn
  split <;> omega

theorem row_grown {α : Type} {w w' : World} {size b : Nat} {cells : α → List Value} {h : Hd} {xs : List α} (hr : Row w size cells h xs) (hg : w.grownBy w' (some b)) (hne : 0 < xs.length → h.b ≠ b) : Row w' size cells h xs := by
  obtain ⟨h1, h2, h3, h4⟩ := hr
  refine ⟨h1, h2, fun hp => ⟨(h3 hp).1, Nat.lt_of_lt_of_le (h3 hp).2 hg.size⟩, fun i hi j v hv => ?_⟩
  have hp : 0 < xs.length := by omega
  rw [World.cell?_of_block (w := w) (a := ⟨h.b, _, none⟩) (hg.block h.b (h3 hp).2 (by simpa using hne hp))]
  exact h4 i hi j v hv
/-- The world in which the tape has been read once more. -/
theorem tape_step {w : World} {b a : Nat} {L : IL} (h : TapeIn w b L a) (n : Nat) : TapeIn ((w.drewN n).setCell ⟨b, 1, none⟩ (.int .i64 ((a : Int) + 1))) b L (a + 1) ∧ w.grownBy ((w.drewN n).setCell ⟨b, 1, none⟩ (.int .i64 ((a : Int) + 1))) (some b) := by
  have hg : w.grownBy ((w.drewN n).setCell ⟨b, 1, none⟩ (.int .i64 ((a : Int) + 1))) (some b) :=
    ⟨rfl, rfl, rfl, by simp [World.drewN], fun k _ hk => Below.heap_setCell _ _ _ _ (fun e => hk (by rw [e]))⟩
  refine ⟨⟨?_, ?_, ?_, ⟨row_grown h.row.1 hg h.ne, h.row.2⟩, h.ne⟩, hg⟩
  · have h0 := h.lst
    simp [go_sem, h0]
  · have h1 := h.pos
    simp [go_sem, h1]
  · have h1 := h.fr
    simp [go_sem, h1]


def rawAt (L : IL) (a : Nat) : Int := if h : a < L.l.length then L.l[a] else 0
def posAt (L : IL) (a : Nat) : Nat := if a < L.l.length then a + 1 else a
theorem rawAt_64 {w : World} {L : IL} (h : L.In w) (a : Nat) : int64 (rawAt L a) := by
  unfold rawAt
  split
  · exact h.2 _ (List.getElem_mem _)
  · constructor <;> decide
def fmod (x n : Int) : Int := if n < 1 then 0 else modn x n
set_option maxRecDepth 100000 in
set_option maxHeartbeats 1000000 in
theorem mod_any (x n : Int) (hn : int64 n) (w : World) : Calls Tryd.prog 62 #[.int .i64 x, .int .i64 n] w fun e w' => e = .returned (.int .i64 (fmod x n)) ∧ w' = w := by
  by_cases h1 : n < 1
  · have hf : fmod x n = 0 := if_pos h1
    rw [hf]
    go_enter Tryd.func62, Tryd.ntmps62
    go_wp2
    go_ret
    exact ⟨rfl, rfl⟩
  · have hf : fmod x n = modn x n := if_neg h1
    have hn2 := hn.2
    have hr1 := Int.tmod_lt_of_pos x (show 0 < n by omega)
    have hr2 := Int.lt_tmod_of_pos x (show 0 < n by omega)
    rw [hf]
    by_cases h2 : x.tmod n < 0
    · have hm : modn x n = x.tmod n + n := if_pos h2
      have hw : IntKind.i64.wrap (x.tmod n + n) = x.tmod n + n := by rw [IntKind.wrap_i64]; omega
      rw [hm]
      go_enter Tryd.func62, Tryd.ntmps62
      go_wp2
      go_ret
      exact ⟨by simp [go_sem], rfl⟩
    · have hm : modn x n = x.tmod n := if_neg h2
      rw [hm]
      go_enter Tryd.func62, Tryd.ntmps62
      go_wp2
      go_ret
      exact ⟨by simp [go_sem], rfl⟩
theorem TapeIn.draws {w : World} {b a : Nat} {L : IL} (h : TapeIn w b L a) (n : Nat) : TapeIn (w.drewN n) b L a := h.mono ⟨rfl, rfl, rfl, Nat.le_refl _, fun _ _ => rfl⟩
theorem grown_draws {w x : World} {b : Option Nat} (h : w.grownBy x b) (n : Nat) : w.grownBy (x.drewN n) b := ⟨h.os, h.tape, h.output, h.size, h.block⟩
set_option maxRecDepth 100000 in
set_option maxHeartbeats 2000000 in
theorem raw_any (w : World) (b a : Nat) (L : IL) (ht : TapeIn w b L a) (ha : a ≤ 4611686018427387904) :
    Calls Tryd.prog 63 #[.pointer (some ⟨b, 0, none⟩)] w fun e w' => e = .returned (.int .i64 (rawAt L a)) ∧ TapeIn w' b L (posAt L a) ∧ w.grownBy w' (some b) := by
  have h0 := ht.lst
  have h1 := ht.pos
  have hf := ht.fr
  have hl := ht.row.1.len
  have HT := hide ht
  clear ht
  by_cases hlt : a < L.l.length
  · have hlti : (a : Int) < L.l.length := by omega
    have hix := HT.out.row.1.ix hlt Tryd.underlying34 szil
    have c0 := int_at HT.out.row.1 hlt
    have hr : rawAt L a = L.l[a] := by unfold rawAt; rw [dif_pos hlt]
    have hp : posAt L a = a + 1 := if_pos hlt
    rw [hr, hp]
    obtain ⟨x, hx⟩ : ∃ x, L.l[a] = x := ⟨_, rfl⟩
    rw [hx] at c0 ⊢
    clear hr hp
    go_enter Tryd.func63, Tryd.ntmps63
    go_wp2
    go_quiet (fail)
    go_upto_region 4 with fail
    have HS := hide (tape_step HT.out nq)
    obtain ⟨X, hX⟩ : ∃ X, (w.drewN nq).setCell ⟨b, 1, none⟩ (.int .i64 ((a : Int) + 1)) = X := ⟨_, rfl⟩
    rw [hX] at HS ⊢
    have h0 := HS.out.1.lst
    have h1 := HS.out.1.pos
    have hix := HS.out.1.row.1.ix hlt Tryd.underlying34 szil
    have c0 := int_at HS.out.1.row.1 hlt
    rw [hx] at c0
    have hws : IntKind.i64.wrap (((a + 1 : Nat) : Int) - 1) = (a : Int) := by rw [IntKind.wrap_i64]; omega
    clear hX hx
    go_wp2
    go_quiet (fail)
    go_wp2
    go_ret
    exact ⟨rfl, HS.out.1.draws _, grown_draws HS.out.2 _⟩
  · have hlti : ¬ (a : Int) < L.l.length := by omega
    have hr : rawAt L a = 0 := by unfold rawAt; rw [dif_neg hlt]
    have hp : posAt L a = a := if_neg hlt
    rw [hr, hp]
    clear hr hp
    go_enter Tryd.func63, Tryd.ntmps63
    go_wp2
    go_quiet (fail)
    go_wp2
    go_ret
    exact ⟨rfl, HT.out.draws _, grown_draws (World.grownBy.refl _ _) _⟩
/-- What N answers. -/
def nAt (L : IL) (a : Nat) (n : Int) : Int := fmod (rawAt L a) n
theorem fmod_ok {x n : Int} (hn : 1 ≤ n) : 0 ≤ fmod x n ∧ fmod x n < n := by
  unfold fmod
  rw [if_neg (by omega)]
  exact modn_ok hn
set_option maxRecDepth 100000 in
set_option maxHeartbeats 2000000 in
theorem n_any (w : World) (b a : Nat) (L : IL) (n : Int) (ht : TapeIn w b L a) (ha : a ≤ 4611686018427387904) (hn : int64 n) :
    Calls Tryd.prog 41 #[.pointer (some ⟨b, 0, none⟩), .int .i64 n] w fun e w' => e = .returned (.int .i64 (nAt L a n)) ∧ TapeIn w' b L (posAt L a) ∧ w.grownBy w' (some b) := by
  have HT := hide ht
  clear ht
  go_enter Tryd.func41, Tryd.ntmps41
  go_wp2_with (first
    | (go_at_call 63; refine (raw_any _ b a L HT.out ha).mono ?_; rintro e w1 ⟨rfl, h1, h2⟩; have HT1 := hide h1; have HG1 := hide h2; clear h1 h2)
    | (go_at_call 62; refine (mod_any _ _ hn _).mono ?_; rintro e w2 ⟨rfl, rfl⟩))
  go_ret
  exact ⟨rfl, HT1.out, HG1.out⟩
set_option maxRecDepth 100000 in
set_option maxHeartbeats 2000000 in
theorem range_any (w : World) (b a : Nat) (L : IL) (lo hi : Int) (ht : TapeIn w b L a) (ha : a ≤ 4611686018427387904) (hlo : -1000000 ≤ lo ∧ lo ≤ hi ∧ hi ≤ 1000000) :
    Calls Tryd.prog 14 #[.pointer (some ⟨b, 0, none⟩), .int .i64 lo, .int .i64 hi] w fun e w' => e = .returned (.int .i64 (lo + nAt L a (hi - lo + 1))) ∧ TapeIn w' b L (posAt L a) ∧ w.grownBy w' (some b) := by
  have hn := fmod_ok (x := rawAt L a) (n := hi - lo + 1) (by omega)
  have hw1 : IntKind.i64.wrap (hi - lo) = hi - lo := by rw [IntKind.wrap_i64]; omega
  have hw2 : IntKind.i64.wrap (hi - lo + 1) = hi - lo + 1 := by rw [IntKind.wrap_i64]; omega
  have hw3 : IntKind.i64.wrap (lo + nAt L a (hi - lo + 1)) = lo + nAt L a (hi - lo + 1) := by unfold nAt; rw [IntKind.wrap_i64]; omega
  have HT := hide ht
  obtain ⟨m, hm⟩ : ∃ m, hi - lo + 1 = m := ⟨_, rfl⟩
  have hm64 : int64 m := by constructor <;> omega
  have hw2m : IntKind.i64.wrap (hi - lo + 1) = m := hw2.trans hm
  rw [hm] at hw3 ⊢
  clear ht hn hm hw2
  go_enter Tryd.func14, Tryd.ntmps14
  go_wp2_with (go_at_call 41; refine (n_any _ b a L m HT.out ha hm64).mono ?_; rintro e w1 ⟨rfl, h1, h2⟩; have HT1 := hide h1; have HG1 := hide h2; clear h1 h2)
  go_ret
  exact ⟨rfl, HT1.out, HG1.out⟩
end Go.Proofs.YtlkhiihehaiinaaDoor

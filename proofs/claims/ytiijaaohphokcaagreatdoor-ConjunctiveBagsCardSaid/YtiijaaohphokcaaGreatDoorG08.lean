/- querylabfield's tape: Mod, Raw, N, Range at any tape. -/
import Derived.Test.YtiijaaohphokcaaGreatDoorG05
import Derived.Test.YtiijaaohphokcaaGreatDoorCjCK
import Derived.Deep.QuietTactic
import Derived.BigQuiet
import Derived.Deep.DeepCutAuto
namespace Go.Proofs.YtiijaaohphokcaaGreatDoor
open Go.RowKit
structure TapeIn (w : World) (b : Nat) (L : IL) (a : Nat) : Prop where
  lst : w.cell? ⟨b, 0, none⟩ = some (.slice L.h.ao L.l.length L.h.cap)
  pos : w.cell? ⟨b, 1, none⟩ = some (.int .i64 (a : Nat))
  fr : w.frozen? ⟨b, 1, none⟩ = false
  row : L.In w
  ne : 0 < L.l.length → L.h.b ≠ b
theorem TapeIn.lt {w : World} {b a : Nat} {L : IL} (h : TapeIn w b L a) : b < w.heap.size := World.block_lt_of_cell? w ⟨b, 0, none⟩ h.lst
theorem TapeIn.mono {w w' : World} {b a : Nat} {L : IL} (h : TapeIn w b L a) (hb : Below w.heap.size w w') : TapeIn w' b L a :=
  ⟨by rw [hb.cell (p := ⟨b, 0, none⟩) h.lt]; exact h.lst, by rw [hb.cell (p := ⟨b, 1, none⟩) h.lt]; exact h.pos, by rw [hb.frozen (p := ⟨b, 1, none⟩) h.lt]; exact h.fr, h.row.mono hb, h.ne⟩
def modn (x n : Int) : Int := if x.tmod n < 0 then x.tmod n + n else x.tmod n
theorem modn_ok {x n : Int} (hn : 1 ≤ n) : 0 ≤ modn x n ∧ modn x n < n := by
  have h1 := Int.tmod_lt_of_pos x (show 0 < n by omega)
  have h2 := Int.lt_tmod_of_pos x (show 0 < n by omega)
  unfold modn
  split <;> omega
theorem row_grown {α : Type} {w w' : World} {size b : Nat} {cells : α → List Value} {h : Hd} {xs : List α} (hr : Row w size cells h xs) (hg : w.grownBy w' (some b)) (hne : 0 < xs.length → h.b ≠ b) : Row w' size cells h xs := by
  obtain ⟨h1, h2, h3, h4⟩ := hr
  refine ⟨h1, h2, fun hp => ⟨(h3 hp).1, Nat.lt_of_lt_of_le (h3 hp).2 hg.size⟩, fun i hi j v hv => ?_⟩
  have hp : 0 < xs.length := by omega
  rw [World.cell?_of_block (w := w) (a := ⟨h.b, _, none⟩) (hg.block h.b (h3 hp).2 (by simpa using hne hp))]
  exact h4 i hi j v hv
theorem tape_step {w : World} {b a : Nat} {L : IL} (h : TapeIn w b L a) (n : Nat) : TapeIn ((w.drewN n).setCell ⟨b, 1, none⟩ (.int .i64 ((a : Int) + 1))) b L (a + 1) ∧ w.grownBy ((w.drewN n).setCell ⟨b, 1, none⟩ (.int .i64 ((a : Int) + 1))) (some b) := by
  have hg : w.grownBy ((w.drewN n).setCell ⟨b, 1, none⟩ (.int .i64 ((a : Int) + 1))) (some b) :=
    ⟨rfl, rfl, rfl, by simp [World.drewN], fun k _ hk => Below.heap_setCell _ _ _ _ (fun e => hk (by rw [e]))⟩
  refine ⟨⟨?_, ?_, ?_, ⟨row_grown h.row.1 hg h.ne, h.row.2⟩, h.ne⟩, hg⟩
  · have h0 := h.lst
    simp [go_sem, h0]
  · have h1 := h.pos
    simp [go_sem, h1]
  · have h1 := h.fr
    simp [go_sem, h1]
def rawAt (L : IL) (a : Nat) : Int := if h : a < L.l.length then L.l[a] else 0
def posAt (L : IL) (a : Nat) : Nat := if a < L.l.length then a + 1 else a
def fmod (x n : Int) : Int := if n < 1 then 0 else modn x n
set_option maxRecDepth 100000 in
set_option maxHeartbeats 1000000 in
theorem mod_any (x n : Int) (hn : int64 n) (w : World) : Calls Tryz.prog 42 #[.int .i64 x, .int .i64 n] w fun e w' => e = .returned (.int .i64 (fmod x n)) ∧ w' = w := by
  by_cases h1 : n < 1
  · have hf : fmod x n = 0 := if_pos h1
    rw [hf]
    go_enter Tryz.func42, Tryz.ntmps42
    go_wp2
    go_ret
    exact ⟨rfl, rfl⟩
  · have hf : fmod x n = modn x n := if_neg h1
    have hn2 := hn.2
    have hr1 := Int.tmod_lt_of_pos x (show 0 < n by omega)
    have hr2 := Int.lt_tmod_of_pos x (show 0 < n by omega)
    rw [hf]
    by_cases h2 : x.tmod n < 0
    · have hm : modn x n = x.tmod n + n := if_pos h2
      have hw : IntKind.i64.wrap (x.tmod n + n) = x.tmod n + n := by rw [IntKind.wrap_i64]; omega
      rw [hm]
      go_enter Tryz.func42, Tryz.ntmps42
      go_wp2
      go_ret
      exact ⟨by simp [go_sem], rfl⟩
    · have hm : modn x n = x.tmod n := if_neg h2
      rw [hm]
      go_enter Tryz.func42, Tryz.ntmps42
      go_wp2
      go_ret
      exact ⟨by simp [go_sem], rfl⟩
theorem TapeIn.draws {w : World} {b a : Nat} {L : IL} (h : TapeIn w b L a) (n : Nat) : TapeIn (w.drewN n) b L a := h.mono ⟨rfl, rfl, rfl, Nat.le_refl _, fun _ _ => rfl⟩
theorem grown_draws {w x : World} {b : Option Nat} (h : w.grownBy x b) (n : Nat) : w.grownBy (x.drewN n) b := ⟨h.os, h.tape, h.output, h.size, h.block⟩
set_option maxRecDepth 100000 in
set_option maxHeartbeats 2000000 in
theorem raw_any (w : World) (b a : Nat) (L : IL) (ht : TapeIn w b L a) (ha : a ≤ 4611686018427387904) :
    Calls Tryz.prog 43 #[.pointer (some ⟨b, 0, none⟩)] w fun e w' => e = .returned (.int .i64 (rawAt L a)) ∧ TapeIn w' b L (posAt L a) ∧ w.grownBy w' (some b) := by
  have h0 := ht.lst
  have h1 := ht.pos
  have hf := ht.fr
  have hl := ht.row.1.len
  have HT := hide ht
  clear ht
  by_cases hlt : a < L.l.length
  · have hlti : (a : Int) < L.l.length := by omega
    have hix := HT.out.row.1.ix hlt Tryz.underlying22 szil
    have c0 := int_at HT.out.row.1 hlt
    have hr : rawAt L a = L.l[a] := by unfold rawAt; rw [dif_pos hlt]
    have hp : posAt L a = a + 1 := if_pos hlt
    rw [hr, hp]
    obtain ⟨x, hx⟩ : ∃ x, L.l[a] = x := ⟨_, rfl⟩
    rw [hx] at c0 ⊢
    clear hr hp
    go_enter Tryz.func43, Tryz.ntmps43
    go_wp2
    go_quiet (fail)
    go_upto_region 4 with fail
    have HS := hide (tape_step HT.out nq)
    obtain ⟨X, hX⟩ : ∃ X, (w.drewN nq).setCell ⟨b, 1, none⟩ (.int .i64 ((a : Int) + 1)) = X := ⟨_, rfl⟩
    rw [hX] at HS ⊢
    have h0 := HS.out.1.lst
    have h1 := HS.out.1.pos
    have hix := HS.out.1.row.1.ix hlt Tryz.underlying22 szil
    have c0 := int_at HS.out.1.row.1 hlt
    rw [hx] at c0
    have hws : IntKind.i64.wrap (((a + 1 : Nat) : Int) - 1) = (a : Int) := by rw [IntKind.wrap_i64]; omega
    clear hX hx
    go_wp2
    go_quiet (fail)
    go_wp2
    go_ret
    exact ⟨rfl, HS.out.1.draws _, grown_draws HS.out.2 _⟩
  · have hlti : ¬ (a : Int) < L.l.length := by omega
    have hr : rawAt L a = 0 := by unfold rawAt; rw [dif_neg hlt]
    have hp : posAt L a = a := if_neg hlt
    rw [hr, hp]
    clear hr hp
    go_enter Tryz.func43, Tryz.ntmps43
    go_wp2
    go_quiet (fail)
    go_wp2
    go_ret
    exact ⟨rfl, HT.out.draws _, grown_draws (World.grownBy.refl _ _) _⟩
def nAt (L : IL) (a : Nat) (n : Int) : Int := fmod (rawAt L a) n
theorem fmod_ok {x n : Int} (hn : 1 ≤ n) : 0 ≤ fmod x n ∧ fmod x n < n := by
  unfold fmod
  rw [if_neg (by omega)]
  exact modn_ok hn
set_option maxRecDepth 100000 in
set_option maxHeartbeats 2000000 in
theorem n_any (w : World) (b a : Nat) (L : IL) (n : Int) (ht : TapeIn w b L a) (ha : a ≤ 4611686018427387904) (hn : int64 n) :
    Calls Tryz.prog 10 #[.pointer (some ⟨b, 0, none⟩), .int .i64 n] w fun e w' => e = .returned (.int .i64 (nAt L a n)) ∧ TapeIn w' b L (posAt L a) ∧ w.grownBy w' (some b) := by
  have HT := hide ht
  clear ht
  go_enter Tryz.func10, Tryz.ntmps10
  go_wp2_with (first
    | (go_at_call 43; refine (raw_any _ b a L HT.out ha).mono ?_; rintro e w1 ⟨rfl, h1, h2⟩; have HT1 := hide h1; have HG1 := hide h2; clear h1 h2)
    | (go_at_call 42; refine (mod_any _ _ hn _).mono ?_; rintro e w2 ⟨rfl, rfl⟩))
  go_ret
  exact ⟨rfl, HT1.out, HG1.out⟩
set_option maxRecDepth 100000 in
set_option maxHeartbeats 2000000 in
theorem range_any (w : World) (b a : Nat) (L : IL) (lo hi : Int) (ht : TapeIn w b L a) (ha : a ≤ 4611686018427387904) (hlo : -1000000 ≤ lo ∧ lo ≤ hi ∧ hi ≤ 1000000) :
    Calls Tryz.prog 38 #[.pointer (some ⟨b, 0, none⟩), .int .i64 lo, .int .i64 hi] w fun e w' => e = .returned (.int .i64 (lo + nAt L a (hi - lo + 1))) ∧ TapeIn w' b L (posAt L a) ∧ w.grownBy w' (some b) := by
  have hn := fmod_ok (x := rawAt L a) (n := hi - lo + 1) (by omega)
  have hw1 : IntKind.i64.wrap (hi - lo) = hi - lo := by rw [IntKind.wrap_i64]; omega
  have hw2 : IntKind.i64.wrap (hi - lo + 1) = hi - lo + 1 := by rw [IntKind.wrap_i64]; omega
  have hw3 : IntKind.i64.wrap (lo + nAt L a (hi - lo + 1)) = lo + nAt L a (hi - lo + 1) := by unfold nAt; rw [IntKind.wrap_i64]; omega
  have HT := hide ht
  obtain ⟨m, hm⟩ : ∃ m, hi - lo + 1 = m := ⟨_, rfl⟩
  have hm64 : int64 m := by constructor <;> omega
  have hw2m : IntKind.i64.wrap (hi - lo + 1) = m := hw2.trans hm
  rw [hm] at hw3 ⊢
  clear ht hn hm hw2
  go_enter Tryz.func38, Tryz.ntmps38
  go_wp2_with (go_at_call 10; refine (n_any _ b a L m HT.out ha hm64).mono ?_; rintro e w1 ⟨rfl, h1, h2⟩; have HT1 := hide h1; have HG1 := hide h2; clear h1 h2)
  go_ret
  exact ⟨rfl, HT1.out, HG1.out⟩
end Go.Proofs.YtiijaaohphokcaaGreatDoor

/- querylabfield.New at any list. -/
namespace Go.Proofs.YtiijaaohphokcaaGreatDoor
open Go.RowKit
set_option maxRecDepth 100000 in
set_option maxHeartbeats 2000000 in
theorem fnew_any (L : IL) (w : World) (hL : L.In w) : Calls Tryz.prog 7 #[.slice L.h.ao L.l.length L.h.cap] w fun e w' => ∃ L' : IL, L'.l = L.l.take 2000 ∧ e = .returned (.pointer (some ⟨w.heap.size, 0, none⟩)) ∧ TapeIn w' w.heap.size L' 0 ∧ Below w.heap.size w w' := by
  have hl := hL.1.len
  have hcap := hL.1.2.1
  have hc := hL.1.1
  have hn : (min (L.l.length : Int) 2000).toNat = (L.l.take 2000).length := by rw [List.length_take]; omega
  have HIN := hide (show IL.In w ⟨L.h, L.l.take 2000⟩ from by
    obtain ⟨⟨h1, h2, h3, h4⟩, h5⟩ := hL
    refine ⟨⟨Nat.le_trans (by rw [List.length_take]; omega) h1, h2, fun hp => h3 (by rw [List.length_take] at hp; omega), fun i hi j v hv => ?_⟩, fun n hn => h5 n (List.mem_of_mem_take hn)⟩
    have hi2 : i < L.l.length := by rw [List.length_take] at hi; omega
    rw [List.getElem_take] at hv
    exact h4 i hi2 j v hv)
  have hlt : ∀ hp : 0 < L.l.length, L.h.b < w.heap.size := fun hp => hL.1.blk hp
  clear hL
  have hfin : ∀ W : World, W = w.alloc (.cells #[.slice L.h.ao (min (L.l.length : Int) 2000).toNat L.h.cap, .int .i64 0] 68) → TapeIn W w.heap.size ⟨L.h, L.l.take 2000⟩ 0 ∧ Below w.heap.size w W := by
    rintro W rfl
    have hb : Below w.heap.size w (w.alloc (.cells #[.slice L.h.ao (min (L.l.length : Int) 2000).toNat L.h.cap, .int .i64 0] 68)) := (Below.refl _ w).alloc (Nat.le_refl _) _
    refine ⟨⟨?_, ?_, ?_, HIN.out.mono hb, fun hp => ?_⟩, hb⟩
    · rw [World.cell?_alloc_at _ _ _ _ rfl, hn]; rfl
    · rw [World.cell?_alloc_at _ _ _ _ rfl]; rfl
    · exact World.frozen?_alloc_new w _ _ _
    · have := hlt (by rw [List.length_take] at hp; omega); show L.h.b ≠ w.heap.size; omega
  have HF := hide hfin
  clear hfin hn hlt
  by_cases h : L.l.length ≤ 2000
  · have h2 : (L.l.length : Int) ≤ 2000 := by omega
    go_enter Tryz.func7, Tryz.ntmps7
    go_wp2
    go_ret
    exact ⟨⟨L.h, L.l.take 2000⟩, rfl, rfl, HF.out _ (by first | rfl | (rw [show (min (L.l.length : Int) 2000).toNat = L.l.length by omega]) | (rw [show (min (L.l.length : Int) 2000).toNat = 2000 by omega]))⟩
  · have h2 : ¬ (L.l.length : Int) ≤ 2000 := by omega
    go_enter Tryz.func7, Tryz.ntmps7
    go_wp2
    go_ret
    exact ⟨⟨L.h, L.l.take 2000⟩, rfl, rfl, HF.out _ (by first | rfl | (rw [show (min (L.l.length : Int) 2000).toNat = L.l.length by omega]) | (rw [show (min (L.l.length : Int) 2000).toNat = 2000 by omega]))⟩
end Go.Proofs.YtiijaaohphokcaaGreatDoor

/- (*querylabfield.Tape).Pick at any list that is not the tape's own block. -/
namespace Go.Proofs.YtiijaaohphokcaaGreatDoor
open Go.RowKit
theorem il_grown {w w' : World} {M : IL} {b : Nat} (h : M.In w) (hg : w.grownBy w' (some b)) (hne : 0 < M.l.length → M.h.b ≠ b) : M.In w' := ⟨row_grown h.1 hg hne, h.2⟩
set_option maxRecDepth 100000 in
set_option maxHeartbeats 2000000 in
theorem pick_any (w : World) (b a : Nat) (L M : IL) (ht : TapeIn w b L a) (ha : a ≤ 4611686018427387904) (hM : M.In w) (hp : 0 < M.l.length) (hne : M.h.b ≠ b) :
    Calls Tryz.prog 39 #[.pointer (some ⟨b, 0, none⟩), .slice M.h.ao M.l.length M.h.cap] w fun e w' => (∃ k, ∃ h : k < M.l.length, (k : Int) = nAt L a M.l.length ∧ e = .returned (.int .i64 M.l[k])) ∧ TapeIn w' b L (posAt L a) ∧ w.grownBy w' (some b) := by
  have hl := hM.1.len
  have h64 : int64 (M.l.length : Int) := by constructor <;> omega
  have hn := fmod_ok (x := rawAt L a) (n := (M.l.length : Int)) (by omega)
  obtain ⟨k, hk, hkn⟩ : ∃ k : Nat, k < M.l.length ∧ nAt L a M.l.length = k := ⟨(nAt L a M.l.length).toNat, by unfold nAt; omega, by unfold nAt; omega⟩
  have HT := hide ht
  have HM := hide hM
  have HN := hide hkn
  obtain ⟨x, hx⟩ : ∃ x, M.l[k] = x := ⟨_, rfl⟩
  have HX := hide hx
  clear ht hM hn hkn hx
  go_enter Tryz.func39, Tryz.ntmps39
  go_wp2_with (go_at_call 10; refine (n_any _ b a L _ HT.out ha h64).mono ?_; rintro e w1 ⟨rfl, h1, h2⟩; rw [HN.out]; have HT1 := hide h1; have HG1 := hide h2; have HM1 := hide (il_grown HM.out h2 (fun _ => hne)); have hix := HM1.out.1.ix hk Tryz.underlying22 szil; have c0 := int_at HM1.out.1 hk; rw [HX.out] at c0; clear h1 h2)
  go_ret
  exact ⟨⟨k, hk, HN.out.symm, by rw [HX.out]; rfl⟩, HT1.out, HG1.out⟩
end Go.Proofs.YtiijaaohphokcaaGreatDoor

/- conjunctive.(*matcher).free. -/
namespace Go.Proofs.YtiijaaohphokcaaGreatDoor
open Go.RowKit
set_option maxRecDepth 100000 in
set_option maxHeartbeats 4000000 in
theorem free_any (w0 : World) (gm gs gu n : Nat) (lv : Value) (q r : Cq) (single : Bool) (σ σ' : Sb V) (us : Nat → Bool) (now : List Nat) (nl : IL) (w : World) (hM : MW w0 gm gs gu q r single σ' us n lv w) (hnl : nl.l = now.map Int.ofNat) (hin : nl.In w) (hne : 0 < nl.l.length → nl.h.b ≠ gs) (hv : ∀ v ∈ now, v < q.vars) (hbk : Back σ σ' now) :
    Calls Tryz.prog 128 #[.pointer (some ⟨gm, 0, none⟩), .slice nl.h.ao nl.l.length nl.h.cap] w fun e w' => e = .returned (.tuple #[]) ∧ MW w0 gm gs gu q r single σ us n lv w' ∧ w.grownBy w' (some gs) := by
  have hln := hin.1.len
  have HM := hide hM
  have HIN := hide hin
  have HNE := hide hne
  have HV := hide hv
  have HBK := hide hbk
  have HNL := hide hnl
  have hlen : nl.l.length = now.length := by rw [hnl, List.length_map]
  have HLEN := hide hlen
  clear hM hin hne hv hbk hnl hlen
  go_enter Tryz.func128, Tryz.ntmps128
  go_wp2
  go_loopw [8] (fun i wr => ∃ m : Nat, m ≤ nl.l.length ∧ i = .int .i64 m ∧ Hid (MW w0 gm gs gu q r single (fun y => if y ∈ now.take m then none else σ' y) us n lv wr) ∧ Hid (w.grownBy wr (some gs))) (fun i _ => nl.l.length - (intOf i).toNat)
  case atStart => exact ⟨0, Nat.zero_le _, rfl, hide (HM.out.congr (fun y => by simp)), hide (World.grownBy.refl _ _)⟩
  case round =>
  obtain ⟨m, hm, rfl, HW, HG⟩ := hrel
  by_cases hlt : m < nl.l.length
  · have hlti : (m : Int) < nl.l.length := by omega
    have hrow := row_grown HIN.out.1 HG.out HNE.out
    have hix := hrow.ix hlt Tryz.underlying22 szil
    have c0 := int_at hrow hlt
    have hmn : m < now.length := by have := HLEN.out; omega
    obtain ⟨v, hvv⟩ : ∃ v, now[m] = v := ⟨_, rfl⟩
    have HX := hide (show nl.l[m] = ((v : Nat) : Int) from by
      have h1 : nl.l[m]? = some ((v : Nat) : Int) := by rw [HNL.out, List.getElem?_map, List.getElem?_eq_getElem hmn, hvv]; rfl
      exact (List.getElem?_eq_some_iff.1 h1).2)
    rw [HX.out] at c0
    have hvq : v < q.vars := HV.out v (by rw [← hvv]; exact List.getElem_mem hmn)
    have HTK := hide (show now.take (m + 1) = now.take m ++ [v] from by rw [List.take_succ_eq_append_getElem hmn, hvv])
    have m7 := HW.out.box.cell (j := 7) rfl
    have hixs := index_ptr Tryz.underlying133 szptr gs q.vars q.vars v hvq
    have gf := HW.out.sf v
    obtain ⟨u, g0⟩ : ∃ u, wr.cell? ⟨gs, v, none⟩ = some u := by
      obtain ⟨h1, h2⟩ := HW.out.ptr v hvq
      cases hs : (if v ∈ now.take m then none else σ' v) with
      | none => exact ⟨_, h1 hs⟩
      | some t => obtain ⟨b, o, _, _, p3⟩ := h2 t hs; exact ⟨_, p3⟩
    have HS := hide (HW.out.setS hvq none (.pointer none) rfl)
    have HG2 := hide (HG.out.trans (gb_set wr gs v (.pointer none)))
    clear hrow hvv
    go_wp2
    go_roundw
    case rel => exact ⟨m + 1, by omega, by go_num, hide (HS.out.congr (fun y => by
      rw [HTK.out]
      by_cases e : y = v
      · subst e; rw [if_pos rfl, if_pos (by simp)]
      · rw [if_neg e]
        have : y ∈ now.take m ++ [v] ↔ y ∈ now.take m := by simp [e]
        simp only [this])), HG2⟩
    case measure => simp [intOf]; omega
  · have hlti : ¬ (m : Int) < nl.l.length := by omega
    have HF := hide (HW.out.congr (σ' := σ) (fun y => by rw [HBK.out y, show now.take m = now from List.take_of_length_le (by have := HLEN.out; omega)]))
    go_wp2
    go_end0
    exact ⟨rfl, HF.out, HG.out⟩
end Go.Proofs.YtiijaaohphokcaaGreatDoor

/- conjunctive.(*matcher).rest: the frame of the search. -/
namespace Go.Proofs.YtiijaaohphokcaaGreatDoor
open Go.RowKit
def Kept (w w' : World) (gm gs gu : Nat) (lv : Value) : Prop := w.heap.size ≤ w'.heap.size ∧ ∀ b, b < w.heap.size → b ≠ gm → b ≠ gs → b ≠ gu → lv.ownBlock ≠ some b → w'.heap[b]? = w.heap[b]?
def Fresh (w : World) (lv lv' : Value) : Prop := ∀ j, lv'.ownBlock = some j → lv.ownBlock = some j ∨ w.heap.size ≤ j
section
variable {w w1 w2 : World} {gm gs gu : Nat} {lv lv1 lv2 : Value}
theorem Kept.refl (w : World) (gm gs gu : Nat) (lv : Value) : Kept w w gm gs gu lv := ⟨Nat.le_refl _, fun _ _ _ _ _ _ => rfl⟩
theorem Fresh.refl (w : World) (lv : Value) : Fresh w lv lv := fun _ h => .inl h
theorem Fresh.trans (h : Fresh w lv lv1) (k : Fresh w1 lv1 lv2) (hs : w.heap.size ≤ w1.heap.size) : Fresh w lv lv2 := fun j hj => by
  rcases k j hj with h1 | h1
  · exact h j h1
  · exact .inr (by omega)
theorem Kept.trans (h : Kept w w1 gm gs gu lv) (k : Kept w1 w2 gm gs gu lv1) (hf : Fresh w lv lv1) : Kept w w2 gm gs gu lv := ⟨Nat.le_trans h.1 k.1, fun b hb h1 h2 h3 h4 => by
  rw [k.2 b (Nat.lt_of_lt_of_le hb h.1) h1 h2 h3 (fun e => by
    rcases hf b e with h5 | h5
    · exact h4 h5
    · omega)]
  exact h.2 b hb h1 h2 h3 h4⟩
theorem Kept.grown {row : Option Nat} (hg : w.grownBy w1 row) (hr : ∀ j, row = some j → j = gm ∨ j = gs ∨ j = gu ∨ lv.ownBlock = some j) : Kept w w1 gm gs gu lv := ⟨hg.size, fun b hb h1 h2 h3 h4 => hg.block b hb (fun e => by
  rcases hr b e.symm with h | h | h | h
  · exact h1 h
  · exact h2 h
  · exact h3 h
  · exact h4 h)⟩
theorem Kept.call (hb : Below w.heap.size w w1) : Kept w w1 gm gs gu lv := Kept.grown (only_below hb none) (fun _ e => by cases e)
theorem Kept.box {b : Nat} {cs : Array Value} {T : TypeId} (h : Kept w w1 gm gs gu lv) (hb : Box w b cs T) (h1 : b ≠ gm) (h2 : b ≠ gs) (h3 : b ≠ gu) (h4 : lv.ownBlock ≠ some b) : Box w1 b cs T := (h.2 b hb.lt h1 h2 h3 h4).trans hb
theorem Kept.il {x : IL} (h : Kept w w1 gm gs gu lv) (hx : x.In w) (hn : 0 < x.l.length → x.h.b ≠ gm ∧ x.h.b ≠ gs ∧ x.h.b ≠ gu ∧ lv.ownBlock ≠ some x.h.b) : x.In w1 := by
  obtain ⟨⟨h1, h2, h3, h4⟩, h5⟩ := hx
  refine ⟨⟨h1, h2, fun hp => ⟨(h3 hp).1, Nat.lt_of_lt_of_le (h3 hp).2 h.1⟩, fun i hi j v hv => ?_⟩, h5⟩
  have hp : 0 < x.l.length := by omega
  obtain ⟨n1, n2, n3, n4⟩ := hn hp
  rw [World.cell?_of_block (w := w) (a := ⟨x.h.b, _, none⟩) (h.2 x.h.b (h3 hp).2 n1 n2 n3 n4)]
  exact h4 i hi j v hv
theorem own_cut {base : Nat} {e : TypeId} {g n cap : Nat} {xs : List Value} (h : w.ownsRow base e 1 (.slice (some ⟨g, 0, none⟩) (n + 1) cap) (n + 1) xs) : w.ownsRow base e 1 (.slice (some ⟨g, 0, none⟩) n cap) n (xs.take n) := by
  obtain ⟨h1, h2⟩ := h
  rcases h2 with ⟨h2, _⟩ | ⟨g', cap', cur, hv, hb, hg, hn, hc, hs, ht⟩
  · cases h2
  · injection hv with e1 e2 e3
    injection e1 with e1
    injection e1 with e1 _
    subst e1 e3
    refine ⟨by rw [List.length_take]; omega, .inr ⟨g, cap, cur, rfl, hb, hg, by omega, hc, hs, ?_⟩⟩
    rw [← ht, List.take_take]
    congr 1
    omega
end
theorem own_cap {w : World} {base : Nat} {e : TypeId} {g n cap size : Nat} {xs : List Value} (h : w.ownsRow base e size (.slice (some ⟨g, 0, none⟩) n cap) n xs) : n ≤ cap := by
  rcases h.2 with ⟨h2, _⟩ | ⟨g', cap', cur, hv, hb, hg, hn, hc, hs, ht⟩
  · cases h2
  · injection hv with _ _ e3
    omega
theorem fits_congr {K : Type} {single : Bool} {tl : List (Lt K)} {σ : Sb K} {u1 u2 : Nat → Bool} {rem : List (Lt K)} (h : single = true → ∀ j, u1 j = u2 j) (hf : Fits single tl σ u1 rem) : Fits single tl σ u2 rem := by
  obtain ⟨f, c, h1, h2, h3⟩ := hf
  exact ⟨f, c, h1, h2, fun hs => by obtain ⟨g1, g2, g3⟩ := h3 hs; exact ⟨fun i hi => by rw [← h hs]; exact g1 i hi, g2, g3⟩⟩
def RestPost (w0 : World) (gm gs gu n : Nat) (lv : Value) (q r : Cq) (single : Bool) (σ : Sb V) (us : Nat → Bool) (w : World) (e : Ending) (w' : World) : Prop :=
  ∃ b : Bool, e = .returned (.bool b) ∧ Below w0.heap.size w0 w' ∧ (b = true → Fits single r.cj.lits σ us (q.cj.lits.drop n) ∧ ∃ u, w'.cell? ⟨gm, 9, none⟩ = some u) ∧
    (b = false → ¬ Fits single r.cj.lits σ us (q.cj.lits.drop n) ∧ ∃ us' lv', (single = true → ∀ j, us' j = us j) ∧ MW w0 gm gs gu q r single σ us' n lv' w' ∧ Kept w w' gm gs gu lv ∧ Fresh w lv lv')
def Fails (q r : Cq) (single : Bool) (σ : Sb V) (us : Nat → Bool) (n : Nat) (a : Lt V) (j : Nat) : Prop := ∀ b : Lt V, r.cj.lits[j]? = some b → (a.1 ≠ b.1 ∨ (single = true ∧ us j = true)) ∨ Bars single σ a.2 b.2 ∨ ∃ σ', Became single σ a.2 b.2 σ' ∧ ¬ Fits single r.cj.lits σ' (fun i => if i = j then true else us i) (q.cj.lits.drop (n + 1))
end Go.Proofs.YtiijaaohphokcaaGreatDoor

/- Equality and order of values and of rows of values; equality of lists of numbers by slices.Equal and ref04.ints. -/
import Derived.Test.YtmnbhdhgjbgidaaSameE
namespace Go.Proofs.Ytmnbhdhgjbgidaa
open Go.RowKit

theorem sz72 : (Try.prog.info? 72).map (·.size) = some 3 := by kernel_rfl
structure XV where
  kind : Int
  num : Int
  text : List UInt8
def V.er (v : V) : XV := ⟨v.kind, v.num, v.text.toList⟩
theorem ver_iff (a b : V) : a.er = b.er ↔ a.kind = b.kind ∧ a.num = b.num ∧ a.text.toList = b.text.toList := by unfold V.er; rw [XV.mk.injEq]
def VL.er (x : VL) : List XV := x.l.map V.er

set_option maxRecDepth 100000 in
set_option maxHeartbeats 800000 in
theorem veq_any (a b : VL) (w : World) (hra : a.In w) (hrb : b.In w) :
    Calls Try.prog 40 #[.slice a.h.ao a.l.length a.h.cap, .slice b.h.ao b.l.length b.h.cap] w fun e w' => e = .returned (.bool (eqb a.er b.er)) ∧ Below w.heap.size w w' := by
  have hna := hra.1.len
  have hnb := hrb.1.len
  by_cases hl : a.l.length = b.l.length
  · have hl' : (((a.l.length : Nat) : Int) != ((b.l.length : Nat) : Int)) = false := by simp [hl]
    have HL := hide hl
    clear hl
    go_enter Try.func40, Try.ntmps40
    go_wp2
    clear hl'
    go_loopw [13] (fun i wr => ∃ k : Nat, k ≤ a.l.length ∧ i = .int .i64 k ∧ (∀ j (ha : j < a.l.length) (hb : j < b.l.length), j < k → a.l[j].er = b.l[j].er) ∧ Below w.heap.size w wr) (fun i _ => a.l.length - (intOf i).toNat)
    case atStart => exact ⟨0, Nat.zero_le _, rfl, fun j _ _ h => absurd h (by omega), Below.refl _ _⟩
    case round =>
      obtain ⟨k, hk, rfl, hno, hbw⟩ := hrel
      have HN := hide hno
      have HB := hide hbw
      have ha' := hra.mono hbw
      have hb' := hrb.mono hbw
      clear hbw hno
      by_cases hlt : k < a.l.length
      · have hltb : k < b.l.length := by rw [← HL.out]; exact hlt
        have hix := ha'.1.ix hlt Try.underlying69 sz72
        have hjx := hb'.1.ix hltb Try.underlying69 sz72
        obtain ⟨c0, c1, c2⟩ := val_at ha'.1 hlt
        obtain ⟨d0, d1, d2⟩ := val_at hb'.1 hltb
        have HE := hide (ver_iff a.l[k] b.l[k])
        go_wp2
        refine region_tail 8 mixed (by kernel_rfl) ?_
        simp only [List.take_succ_cons, List.take_zero, List.drop_succ_cons, List.drop_zero]
        repeat still_step
        refine wpStill_nil ?_
        go_wp2
        · go_roundw
          case rel =>
            refine ⟨k + 1, by omega, by go_num, fun j hj hj2 h => ?_, HB.out.drew⟩
            by_cases e : j = k
            · subst e; exact HE.out.2 ⟨by assumption, by assumption, by assumption⟩
            · exact HN.out j hj hj2 (by omega)
          case measure => simp [intOf]; omega
        · go_ret
          exact ⟨retb (eqb_no (map_ne_at hlt hltb (fun e => absurd (HE.out.1 e).2.2 (by assumption)))).symm, HB.out.drew⟩
        · go_ret
          exact ⟨retb (eqb_no (map_ne_at hlt hltb (fun e => absurd (HE.out.1 e).2.1 (by assumption)))).symm, HB.out.drew⟩
        · go_ret
          exact ⟨retb (eqb_no (map_ne_at hlt hltb (fun e => absurd (HE.out.1 e).1 (by assumption)))).symm, HB.out.drew⟩
      · go_wp2
        go_ret
        exact ⟨retb (eqb_yes (map_eq_all HL.out (fun j h1 h2 => HN.out j h1 h2 (by omega)))).symm, HB.out⟩
  · have hl' : (((a.l.length : Nat) : Int) != ((b.l.length : Nat) : Int)) = true := by simp; omega
    have HL := hide hl
    clear hl
    go_enter Try.func40, Try.ntmps40
    go_wp2
    go_ret
    exact ⟨retb (eqb_no (map_ne_len HL.out)).symm, Below.refl _ _⟩

/-! ### ref01.Compare, CompareRows -/
def cmpV (a b : V) : Int :=
  if a.kind < b.kind then -1 else if b.kind < a.kind then 1 else if a.num < b.num then -1 else if b.num < a.num then 1
  else if Op.bytesLess a.text.toList b.text.toList = true then -1 else if (!Op.bytesLess a.text.toList b.text.toList && !(a.text.toList == b.text.toList)) = true then 1 else 0
theorem bytesLess_irrefl (l : List UInt8) : Op.bytesLess l l = false := by
  induction l with
  | nil => rfl
  | cons x l ih => simp [Op.bytesLess, ih]
theorem cmpV_zero (a b : V) : cmpV a b = 0 ↔ a.er = b.er := by
  rw [ver_iff]
  unfold cmpV
  constructor
  · intro h
    split at h
    · cases h
    split at h
    · cases h
    split at h
    · cases h
    split at h
    · cases h
    split at h
    · cases h
    split at h
    · cases h
    rename_i h5 h6
    refine ⟨by omega, by omega, ?_⟩
    simp only [Bool.not_eq_true] at h5
    rw [h5] at h6
    simpa using h6
  · rintro ⟨h1, h2, h3⟩
    rw [h1, h2, h3, bytesLess_irrefl]
    simp

set_option maxRecDepth 100000 in
set_option maxHeartbeats 800000 in
theorem cmp_any (a b : V) (w : World) :
    Calls Try.prog 63 #[.agg #[.int .i64 a.kind, .int .i64 a.num, .string a.text], .agg #[.int .i64 b.kind, .int .i64 b.num, .string b.text]] w fun e w' => e = .returned (.int .i64 (cmpV a b)) ∧ Below w.heap.size w w' := by
  by_cases h1 : a.kind < b.kind
  · have hr : cmpV a b = -1 := by unfold cmpV; rw [if_pos h1]
    have HR := hide hr
    clear hr
    go_enter Try.func63, Try.ntmps63
    go_wp2
    go_ret
    exact ⟨ret1 HR.out.symm, belAA _ _⟩
  by_cases h2 : b.kind < a.kind
  · have hr : cmpV a b = 1 := by unfold cmpV; rw [if_neg h1, if_pos h2]
    have HR := hide hr
    clear hr
    go_enter Try.func63, Try.ntmps63
    go_wp2
    go_ret
    exact ⟨ret1 HR.out.symm, belAA _ _⟩
  by_cases h3 : a.num < b.num
  · have hr : cmpV a b = -1 := by unfold cmpV; rw [if_neg h1, if_neg h2, if_pos h3]
    have HR := hide hr
    clear hr
    go_enter Try.func63, Try.ntmps63
    go_wp2
    go_ret
    exact ⟨ret1 HR.out.symm, belAA _ _⟩
  by_cases h4 : b.num < a.num
  · have hr : cmpV a b = 1 := by unfold cmpV; rw [if_neg h1, if_neg h2, if_neg h3, if_pos h4]
    have HR := hide hr
    clear hr
    go_enter Try.func63, Try.ntmps63
    go_wp2
    go_ret
    exact ⟨ret1 HR.out.symm, belAA _ _⟩
  by_cases h5 : Op.bytesLess a.text.toList b.text.toList = true
  · have hr : cmpV a b = -1 := by unfold cmpV; rw [if_neg h1, if_neg h2, if_neg h3, if_neg h4, if_pos h5]
    have HR := hide hr
    clear hr
    go_enter Try.func63, Try.ntmps63
    go_wp2
    go_ret
    exact ⟨ret1 HR.out.symm, belAA _ _⟩
  by_cases h6 : (a.text.toList == b.text.toList) = true
  · have hr : cmpV a b = 0 := by unfold cmpV; rw [if_neg h1, if_neg h2, if_neg h3, if_neg h4, if_neg h5, h6]; simp
    have h5' : Op.bytesLess a.text.toList b.text.toList = false := by simpa using h5
    have HR := hide hr
    clear hr h5
    go_enter Try.func63, Try.ntmps63
    go_wp2
    go_ret
    exact ⟨ret1 HR.out.symm, belAA _ _⟩
  · have h5' : Op.bytesLess a.text.toList b.text.toList = false := by simpa using h5
    have h6' : (a.text.toList == b.text.toList) = false := by simpa using h6
    have hr : cmpV a b = 1 := by unfold cmpV; rw [if_neg h1, if_neg h2, if_neg h3, if_neg h4, if_neg h5, h5', h6']; simp
    have HR := hide hr
    clear hr h5 h6
    go_enter Try.func63, Try.ntmps63
    go_wp2
    go_ret
    exact ⟨ret1 HR.out.symm, belAA _ _⟩

def cmpR : List V → List V → Int
  | [], [] => 0
  | [], _ :: _ => -1
  | _ :: _, [] => 1
  | a :: r, b :: s => if cmpV a b = 0 then cmpR r s else cmpV a b
theorem cmpR_zero : ∀ (a b : List V), cmpR a b = 0 ↔ a.map V.er = b.map V.er
  | [], [] => by simp [cmpR]
  | [], _ :: _ => by simp [cmpR]
  | _ :: _, [] => by simp [cmpR]
  | a :: r, b :: s => by
    unfold cmpR
    rw [List.map_cons, List.map_cons, List.cons.injEq, ← cmpV_zero, ← cmpR_zero r s]
    split
    · rename_i h; simp [h]
    · rename_i h; simp [h]
theorem cmpR_drop {a b : List V} {k : Nat} (ha : k < a.length) (hb : k < b.length) : cmpR (a.drop k) (b.drop k) = if cmpV a[k] b[k] = 0 then cmpR (a.drop (k + 1)) (b.drop (k + 1)) else cmpV a[k] b[k] := by
  rw [List.drop_eq_getElem_cons ha, List.drop_eq_getElem_cons hb, cmpR]
theorem cmpR_end {a b : List V} {k : Nat} (hka : k ≤ a.length) (hkb : k ≤ b.length) (h : a.length ≤ k ∨ b.length ≤ k) : cmpR (a.drop k) (b.drop k) = if a.length < b.length then -1 else if b.length < a.length then 1 else 0 := by
  rcases h with h | h
  · rw [List.drop_eq_nil_of_le h]
    by_cases hb : b.length ≤ k
    · rw [List.drop_eq_nil_of_le hb, if_neg (by omega), if_neg (by omega)]; rfl
    · rw [if_pos (by omega), List.drop_eq_getElem_cons (show k < b.length by omega)]; rfl
  · rw [List.drop_eq_nil_of_le h]
    by_cases ha : a.length ≤ k
    · rw [List.drop_eq_nil_of_le ha, if_neg (by omega), if_neg (by omega)]; rfl
    · rw [if_neg (by omega), if_pos (by omega), List.drop_eq_getElem_cons (show k < a.length by omega)]; rfl

set_option maxRecDepth 100000 in
set_option maxHeartbeats 800000 in
theorem cmpr_any (a b : VL) (w : World) (hra : a.In w) (hrb : b.In w) :
    Calls Try.prog 51 #[.slice a.h.ao a.l.length a.h.cap, .slice b.h.ao b.l.length b.h.cap] w fun e w' => e = .returned (.int .i64 (cmpR a.l b.l)) ∧ Below w.heap.size w w' := by
  have hna := hra.1.len
  have hnb := hrb.1.len
  go_enter Try.func51, Try.ntmps51
  go_wp2
  go_loopw [5] (fun i wr => ∃ k : Nat, k ≤ a.l.length ∧ k ≤ b.l.length ∧ i = .int .i64 k ∧ cmpR a.l b.l = cmpR (a.l.drop k) (b.l.drop k) ∧ Below w.heap.size w wr) (fun i _ => a.l.length - (intOf i).toNat)
  case atStart => exact ⟨0, Nat.zero_le _, Nat.zero_le _, rfl, rfl, Below.refl _ _⟩
  case round =>
    obtain ⟨k, hk, hk2, rfl, hno, hbw⟩ := hrel
    have HN := hide hno
    have HB := hide hbw
    have ha' := hra.mono hbw
    have hb' := hrb.mono hbw
    clear hbw hno
    by_cases hlt : k < a.l.length
    · by_cases hltb : k < b.l.length
      · have hix := ha'.1.ix hlt Try.underlying69 sz72
        have hjx := hb'.1.ix hltb Try.underlying69 sz72
        obtain ⟨c0, c1, c2⟩ := val_at ha'.1 hlt
        obtain ⟨d0, d1, d2⟩ := val_at hb'.1 hltb
        have HD := hide (cmpR_drop hlt hltb)
        obtain ⟨c, hc⟩ : ∃ c, c = cmpV a.l[k] b.l[k] := ⟨_, rfl⟩
        rw [← hc] at HD
        have HC := hide hc
        clear hc
        have hcq : c = 0 ∨ (c != 0) = true := by by_cases e : c = 0 <;> simp [e]
        rcases hcq with hc0 | hc0
        · subst hc0
          go_wp2
          refine region_tail 8 mixed (by kernel_rfl) ?_
          simp only [List.take_succ_cons, List.take_zero, List.drop_succ_cons, List.drop_zero]
          repeat still_step
          refine wpStill_nil ?_
          go_wp2_with (go_at_call 63; refine (cmp_any a.l[k] b.l[k] _).mono ?_; rintro r w1 ⟨rfl, hb1⟩; rw [← HC.out]; have HB1 := hide (bel_drew hb1); clear hb1)
          go_roundw
          case rel => exact ⟨k + 1, by omega, by omega, by go_num, by rw [HN.out, HD.out]; simp, HB.out.trans (HB1.out.mono HB.out.size)⟩
          case measure => simp [intOf]; omega
        · have HC0 := hide hc0
          go_wp2
          refine region_tail 8 mixed (by kernel_rfl) ?_
          simp only [List.take_succ_cons, List.take_zero, List.drop_succ_cons, List.drop_zero]
          repeat still_step
          refine wpStill_nil ?_
          go_wp2_with (go_at_call 63; refine (cmp_any a.l[k] b.l[k] _).mono ?_; rintro r w1 ⟨rfl, hb1⟩; rw [← HC.out]; have HB1 := hide (bel_drew hb1); clear hb1)
          go_ret
          exact ⟨ret1 (by rw [HN.out, HD.out, if_neg (by have := HC0.out; simpa using this)]), HB.out.trans (HB1.out.mono HB.out.size)⟩
      · have HE := hide (cmpR_end hk hk2 (.inr (by omega)))
        go_wp2
        go_ret
        exact ⟨ret1 (by rw [HN.out, HE.out, if_neg (by omega), if_pos (by omega)]), HB.out⟩
    · have HE := hide (cmpR_end hk hk2 (.inl (by omega)))
      by_cases h7 : a.l.length < b.l.length
      · go_wp2
        go_ret
        exact ⟨ret1 (by rw [HN.out, HE.out, if_pos h7]), HB.out⟩
      · go_wp2
        go_ret
        exact ⟨ret1 (by rw [HN.out, HE.out, if_neg h7, if_neg (by omega)]), HB.out⟩

end Go.Proofs.Ytmnbhdhgjbgidaa

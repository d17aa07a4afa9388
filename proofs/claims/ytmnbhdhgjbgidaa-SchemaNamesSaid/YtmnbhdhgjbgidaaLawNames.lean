/- law03.SchemaNames: the walk. -/
import Derived.Test.YtmnbhdhgjbgidaaNameRef
namespace Go.Proofs.Ytmnbhdhgjbgidaa
open Go.RowKit

theorem res_small : ∀ x ∈ resWords, x.size ≤ 20 := by decide +kernel
theorem res_not {x : ByteArray} (h : x ∈ resWords) : pb (IsName x) = false := pb_no fun h' => h'.new h
theorem a_not : ¬ (⟨#[97]⟩ : ByteArray) ∈ resWords := by
  intro h
  have h2 := mem_words.2 h
  exact absurd h2 (by decide +kernel)
theorem a_fst : lett ((97 : Int)) = true := by decide
theorem a_vch : vch ((97 : Int)) = true := by decide
theorem a_name : pb (IsName ⟨#[97]⟩) = true := pb_yes ⟨by decide, by decide, fun _ => a_fst, fun j h => by
  obtain rfl : j = 0 := by have : (⟨#[97]⟩ : ByteArray).size = 1 := rfl; omega
  exact a_vch, a_not⟩
theorem name_at {w0 w : World} (h0 : w0.ShapedOpen Try.prog) (hb : Below w0.heap.size w0 w) (s : ByteArray) (hs : s.size ≤ 9223372036854775807) :
    Calls Try.prog 24 #[.string s] w fun e w' => e = .returned (.bool (pb (IsName s))) ∧ w = w' :=
  name_any s w (h0.keptBut (hb.frame (fun _ => False)) (by simp)) hs

theorem lit_i64 {n : Int} (h : (Lit.int .i64 n).wf = true) : -9223372036854775808 ≤ n ∧ n ≤ 9223372036854775807 := by
  have h2 : (decide (IntKind.i64.min ≤ n) && decide (n ≤ IntKind.i64.max)) = true := h
  rw [Bool.and_eq_true, decide_eq_true_iff, decide_eq_true_iff] at h2
  exact h2

/-- The number that stands for n when n is not negative. -/
def nn (n : Int) : Int := if n < 0 then -(n + 1) else n
theorem nn_at {k : Nat} {m : Int} (h : (k : Int) = m) : ((k % 52 : Nat) : Int) = m.tmod 52 := by
  rw [← h, Int.tmod_eq_emod_of_nonneg (by omega)]
  omega

set_option maxRecDepth 100000 in
set_option maxHeartbeats 2000000 in
theorem names_walk (s : ByteArray) (n : Int) (w : World) (hsh : w.ShapedOpen Try.prog) (hs : s.size ≤ 9223372036854775807) (hn1 : -9223372036854775808 ≤ n) (hn2 : n ≤ 9223372036854775807) :
    Calls Try.prog 6 #[.string s, .int .i64 n] w fun e w' => e = .returned (.bool true) ∧ Below w.heap.size w w' := by
  have HSH := hide hsh
  clear hsh
  by_cases h100 : 100 < (s.size : Int)
  · go_enter Try.func6, Try.ntmps6
    go_wp2
    go_ret
    exact ⟨rfl, Below.refl _ _⟩
  obtain ⟨k, hk⟩ : ∃ k : Nat, (k : Int) = nn n := ⟨(nn n).toNat, by unfold nn; split <;> omega⟩
  have hkm : k % 52 < resWords.length := by rw [res_len]; omega
  obtain ⟨x, hx⟩ : ∃ x, x = resWords[k % 52] := ⟨_, rfl⟩
  have hxm : x ∈ resWords := by rw [hx]; exact List.getElem_mem hkm
  have HXS := hide (res_small x hxm)
  have HPX := hide (res_not hxm)
  have HXE := hide hx
  clear hx hxm
  have HYS := hide (show (x ++ ⟨#[95]⟩ : ByteArray).size ≤ 9223372036854775807 by
    have := HXS.out
    have h2 : (x ++ ⟨#[95]⟩ : ByteArray).size = x.size + 1 := by rw [ByteArray.size_append]; rfl
    omega)
  obtain ⟨p, hp⟩ : ∃ p, pb (IsName s) = p := ⟨_, rfl⟩
  obtain ⟨py, hpy⟩ : ∃ p, pb (IsName (x ++ ⟨#[95]⟩)) = p := ⟨_, rfl⟩
  have HP := hide hp
  have HPY := hide hpy
  clear hp hpy
  have hpp : (p == p) = true := by simp
  have hyy : (py == py) = true := by simp
  have hxz : ¬ 9223372036854775807 < x.size + 1 := by have := HXS.out; omega
  have hl52 : ((resWords.length : Nat) : Int) = 52 := by rw [res_len]; rfl
  by_cases hneg : n < 0
  · have HE := hide (show ((k % 52 : Nat) : Int) = -((n + 1).tmod 52) by rw [nn_at (m := -(n+1)) (by rw [hk]; unfold nn; rw [if_pos hneg]), Int.neg_tmod])
    clear hk
    go_enter Try.func6, Try.ntmps6
    go_wp2_with (first
      | (go_at_call 23; refine (reserved_any _).mono ?_; rintro e w1 ⟨⟨rh, rfl, hrow⟩, hb1⟩; have HB := hide hb1; have hix := hrow.ix hkm Try.underlying52 sz9; simp only [Nat.mul_one] at hix; rw [HE.out] at hix; have hc := str_at hrow hkm; rw [← HXE.out] at hc; clear hb1 hrow)
      | (go_at_call 24; first
          | (with_reducible refine (name_at HSH.out HB.out s hs).mono ?_; rintro e v ⟨rfl, rfl⟩; rw [HP.out])
          | (with_reducible refine (name_at HSH.out HB2.out x (by have := HXS.out; omega)).mono ?_; rintro e v ⟨rfl, rfl⟩; rw [HPX.out])
          | (with_reducible refine (name_at HSH.out HB2.out (x ++ ⟨#[95]⟩) HYS.out).mono ?_; rintro e v ⟨rfl, rfl⟩; rw [HPY.out])
          | (with_reducible refine (name_at HSH.out HB3.out ⟨#[97]⟩ (by decide)).mono ?_; rintro e v ⟨rfl, rfl⟩; rw [a_name]))
      | (go_at_call 25; first
          | (with_reducible refine (rname_any s _ hs).mono ?_; rintro e w2 ⟨rfl, hb2⟩; rw [HP.out]; have HB2 := hide (bel_trans HB.out hb2); clear hb2)
          | (with_reducible refine (rname_any (x ++ ⟨#[95]⟩) _ HYS.out).mono ?_; rintro e w3 ⟨rfl, hb3⟩; rw [HPY.out]; have HB3 := hide (bel_trans HB2.out hb3); clear hb3)))
    go_ret
    exact ⟨rfl, HB3.out⟩
  · have HE := hide (show ((k % 52 : Nat) : Int) = n % 52 by rw [← hk.trans (show nn n = n by unfold nn; rw [if_neg hneg])]; omega)
    clear hk
    go_enter Try.func6, Try.ntmps6
    go_wp2_with (first
      | (go_at_call 23; refine (reserved_any _).mono ?_; rintro e w1 ⟨⟨rh, rfl, hrow⟩, hb1⟩; have HB := hide hb1; have hix := hrow.ix hkm Try.underlying52 sz9; simp only [Nat.mul_one] at hix; rw [HE.out] at hix; have hc := str_at hrow hkm; rw [← HXE.out] at hc; clear hb1 hrow)
      | (go_at_call 24; first
          | (with_reducible refine (name_at HSH.out HB.out s hs).mono ?_; rintro e v ⟨rfl, rfl⟩; rw [HP.out])
          | (with_reducible refine (name_at HSH.out HB2.out x (by have := HXS.out; omega)).mono ?_; rintro e v ⟨rfl, rfl⟩; rw [HPX.out])
          | (with_reducible refine (name_at HSH.out HB2.out (x ++ ⟨#[95]⟩) HYS.out).mono ?_; rintro e v ⟨rfl, rfl⟩; rw [HPY.out])
          | (with_reducible refine (name_at HSH.out HB3.out ⟨#[97]⟩ (by decide)).mono ?_; rintro e v ⟨rfl, rfl⟩; rw [a_name]))
      | (go_at_call 25; first
          | (with_reducible refine (rname_any s _ hs).mono ?_; rintro e w2 ⟨rfl, hb2⟩; rw [HP.out]; have HB2 := hide (bel_trans HB.out hb2); clear hb2)
          | (with_reducible refine (rname_any (x ++ ⟨#[95]⟩) _ HYS.out).mono ?_; rintro e w3 ⟨rfl, hb3⟩; rw [HPY.out]; have HB3 := hide (bel_trans HB2.out hb3); clear hb3)))
    go_ret
    exact ⟨rfl, HB3.out⟩

end Go.Proofs.Ytmnbhdhgjbgidaa

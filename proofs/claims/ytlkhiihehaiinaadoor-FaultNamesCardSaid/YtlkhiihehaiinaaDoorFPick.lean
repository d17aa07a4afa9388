/- (*querylabfield.Tape).Pick at any list that is not the tape's own block. -/
import Derived.Test.YtlkhiihehaiinaaDoorFNew
namespace Go.Proofs.YtlkhiihehaiinaaDoor
open Go.RowKit

theorem il_grown {w w' : World} {M : IL} {b : Nat} (h : M.In w) (hg : w.grownBy w' (some b)) (hne : 0 < M.l.length → M.h.b ≠ b) : M.In w' := ⟨row_grown h.1 hg hne, h.2⟩
set_option maxRecDepth 100000 in
set_option maxHeartbeats 2000000 in
theorem pick_any (w : World) (b a : Nat) (L M : IL) (ht : TapeIn w b L a) (ha : a ≤ 4611686018427387904) (hM : M.In w) (hp : 0 < M.l.length) (hne : M.h.b ≠ b) :
    Calls Tryd.prog 44 #[.pointer (some ⟨b, 0, none⟩), .slice M.h.ao M.l.length M.h.cap] w fun e w' => (∃ k, ∃ h : k < M.l.length, (k : Int) = nAt L a M.l.length ∧ e = .returned (.int .i64 M.l[k])) ∧ TapeIn w' b L (posAt L a) ∧ w.grownBy w' (some b) := by
  have hl := hM.1.len
  have h64 : int64 (M.l.length : Int) := by constructor <;> omega
  have hn := fmod_ok (x := rawAt L a) (n := (M.l.length : Int)) (by omega)
  obtain ⟨k, hk, hkn⟩ : ∃ k : Nat, k < M.l.length ∧ nAt L a M.l.length = k := ⟨(nAt L a M.l.length).toNat, by unfold nAt; omega, by unfold nAt; omega⟩
  have HT := hide ht
  have HM := hide hM
  have HN := hide hkn
  obtain ⟨x, hx⟩ : ∃ x, M.l[k] = x := ⟨_, rfl⟩
  have HX := hide hx
  clear ht hM hn hkn hx
  go_enter Tryd.func44, Tryd.ntmps44
  go_wp2_with (go_at_call 41; refine (n_any _ b a L _ HT.out ha h64).mono ?_; rintro e w1 ⟨rfl, h1, h2⟩; rw [HN.out]; have HT1 := hide h1; have HG1 := hide h2; have HM1 := hide (il_grown HM.out h2 (fun _ => hne)); have hix := HM1.out.1.ix hk Tryd.underlying34 szil; have c0 := int_at HM1.out.1 hk; rw [HX.out] at c0; clear h1 h2)
  go_ret
  exact ⟨⟨k, hk, HN.out.symm, by rw [HX.out]; rfl⟩, HT1.out, HG1.out⟩
end Go.Proofs.YtlkhiihehaiinaaDoor

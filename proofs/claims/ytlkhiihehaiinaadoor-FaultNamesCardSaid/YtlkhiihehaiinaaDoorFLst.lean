/- querylablaw36.faults: a list of faults. -/
import Derived.Test.YtlkhiihehaiinaaDoorFPut
import Derived.Test.YtlkhiihehaiinaaDoorFPick
namespace Go.Proofs.YtlkhiihehaiinaaDoor
open Go.RowKit

/-- Ascending, from 1 to 180. -/
def FaultL (l : List Int) : Prop := l.Pairwise (· < ·) ∧ ∀ x ∈ l, 1 ≤ x ∧ x ≤ 180
theorem putL_mem : ∀ (l : List Int) (x y : Int), y ∈ putL l x → y = x ∨ y ∈ l
  | [], x, y, h => by simp [putL] at h; exact .inl h
  | a :: r, x, y, h => by
    unfold putL at h
    split at h
    · rcases List.mem_cons.1 h with rfl | h
      · exact .inr (by simp)
      · rcases putL_mem r x y h with h | h
        · exact .inl h
        · exact .inr (by simp [h])
    · split at h
      · exact .inr h
      · rcases List.mem_cons.1 h with rfl | h
        · exact .inl rfl
        · exact .inr h
theorem putL_pair : ∀ (l : List Int) (x : Int), l.Pairwise (· < ·) → (putL l x).Pairwise (· < ·)
  | [], x, _ => by simp [putL]
  | a :: r, x, h => by
    rw [List.pairwise_cons] at h
    unfold putL
    split
    · rename_i hax
      rw [List.pairwise_cons]
      refine ⟨fun y hy => ?_, putL_pair r x h.2⟩
      rcases putL_mem r x y hy with rfl | hy
      · exact hax
      · exact h.1 y hy
    · split
      · rw [List.pairwise_cons]; exact h
      · rw [List.pairwise_cons]
        refine ⟨fun y hy => ?_, by rw [List.pairwise_cons]; exact h⟩
        rcases List.mem_cons.1 hy with rfl | hy
        · omega
        · have := h.1 y hy; omega
theorem putL_len : ∀ (l : List Int) (x : Int), (putL l x).length ≤ l.length + 1
  | [], x => by simp [putL]
  | a :: r, x => by
    have := putL_len r x
    unfold putL
    split
    · simp only [List.length_cons]; omega
    · split <;> simp only [List.length_cons] <;> omega
theorem FaultL.put {l : List Int} {x : Int} (h : FaultL l) (hx : 1 ≤ x ∧ x ≤ 180) : FaultL (putL l x) := ⟨putL_pair l x h.1, fun y hy => by rcases putL_mem l x y hy with rfl | hy; exact hx; exact h.2 y hy⟩
theorem FaultL.valid {l : List Int} (h : FaultL l) : validB l = true := by
  refine validB_t (fun k hk => ⟨(h.2 _ (List.getElem_mem hk)).1, (h.2 _ (List.getElem_mem hk)).2, fun h0 => ?_⟩)
  exact List.pairwise_iff_getElem.1 h.1 (k - 1) k (by omega) hk (by omega)
theorem ILf.grown {n₀ b : Nat} {l : List Int} {v : Value} {w w' : World} (h : ILf n₀ l v w) (hg : w.grownBy w' (some b)) (hb : b < n₀) : ILf n₀ l v w' := by
  obtain ⟨r, h1, h2, h3, h4, h5⟩ := h
  exact ⟨r, h1, h2, il_grown h3 hg (fun hp => by have := h4 (by rw [← h2]; exact hp); omega), h4, h5⟩
theorem grown_below {x y z : World} {b : Nat} (h : Below x.heap.size x y) (hg : y.grownBy z (some b)) : x.grownBy z (some b) :=
  ⟨hg.os.trans h.os, hg.tape.trans h.tape, hg.output.trans h.output, Nat.le_trans h.size hg.size, fun k hk hne => (hg.block k (Nat.lt_of_lt_of_le hk h.size) hne).trans (h.block k hk)⟩
theorem below_grown2 {x y z : World} {b : Nat} (hg : x.grownBy y (some b)) (h : Below y.heap.size y z) : x.grownBy z (some b) :=
  ⟨h.os.trans hg.os, h.tape.trans hg.tape, h.output.trans hg.output, Nat.le_trans hg.size h.size, fun k hk hne => (h.block k (Nat.lt_of_lt_of_le hk hg.size)).trans (hg.block k hk hne)⟩
theorem grown_trans {x y z : World} {b : Nat} (h : x.grownBy y (some b)) (h2 : y.grownBy z (some b)) : x.grownBy z (some b) :=
  ⟨h2.os.trans h.os, h2.tape.trans h.tape, h2.output.trans h.output, Nat.le_trans h.size h2.size, fun k hk hne => (h2.block k (Nat.lt_of_lt_of_le hk h.size) hne).trans (h.block k hk hne)⟩
theorem pos_le (L : IL) (a : Nat) : a ≤ posAt L a ∧ posAt L a ≤ a + 1 := by unfold posAt; split <;> omega

set_option maxRecDepth 100000 in
set_option maxHeartbeats 2000000 in
theorem faults_any (w : World) (b a : Nat) (L : IL) (ht : TapeIn w b L a) (ha : a ≤ 1000000) (hb : b < w.heap.size) :
    Calls Tryd.prog 19 #[.pointer (some ⟨b, 0, none⟩)] w fun e w' => ∃ (v : Value) (l : List Int) (a' : Nat), e = .returned v ∧ ILf w.heap.size l v w' ∧ FaultL l ∧ l.length ≤ 40 ∧ TapeIn w' b L a' ∧ a' ≤ a + 41 ∧ w.grownBy w' (some b) := by
  have HT := hide ht
  clear ht
  go_enter Tryd.func19, Tryd.ntmps19
  have hlist : IL.In (w.alloc (.cells #[.int .i64 0, .int .i64 1, .int .i64 1, .int .i64 2, .int .i64 4, .int .i64 12, .int .i64 40] 3)) ⟨⟨some ⟨w.heap.size, 0, none⟩, 7⟩, [0, 1, 1, 2, 4, 12, 40]⟩ := by
    obtain ⟨r, h1, h2, h3⟩ := bs_il [0, 1, 1, 2, 4, 12, 40] w 3 (by decide) (ok64 _ rfl)
    obtain ⟨⟨ao, cap⟩, l⟩ := r
    dsimp only at h2
    subst h2
    injection h1 with e1 e2 e3
    subst e1 e3
    exact h3
  have HLI := hide hlist
  clear hlist
  have hcs : ∀ (k : Nat) (hk : k < [(0 : Int), 1, 1, 2, 4, 12, 40].length), ∃ c : Nat, c ≤ 40 ∧ [(0 : Int), 1, 1, 2, 4, 12, 40][k] = c := by
    intro k hk
    have hk7 : k < 7 := hk
    have h : k = 0 ∨ k = 1 ∨ k = 2 ∨ k = 3 ∨ k = 4 ∨ k = 5 ∨ k = 6 := by omega
    rcases h with rfl | rfl | rfl | rfl | rfl | rfl | rfl
    · exact ⟨0, by omega, rfl⟩
    · exact ⟨1, by omega, rfl⟩
    · exact ⟨1, by omega, rfl⟩
    · exact ⟨2, by omega, rfl⟩
    · exact ⟨4, by omega, rfl⟩
    · exact ⟨12, by omega, rfl⟩
    · exact ⟨40, by omega, rfl⟩
  have HCS := hide hcs
  clear hcs
  go_wp2_with (go_at_call 44; refine (pick_any _ b a L ⟨⟨some ⟨w.heap.size, 0, none⟩, 7⟩, [0, 1, 1, 2, 4, 12, 40]⟩ (HT.out.mono (belA _)) (by omega) HLI.out (by show 0 < 7; decide) (by show w.heap.size ≠ b; omega)).mono ?_; rintro e w1 ⟨⟨k, hk, hkn, rfl⟩, ht1, hg1⟩; obtain ⟨c, hc, hkc⟩ := HCS.out k hk; rw [hkc]; have HT1 := hide ht1; have HG1 := hide (grown_below (belA _) hg1); clear ht1 hg1 hkn hkc hk)
  have hpa := pos_le L a
  go_loopw [4, 3] (fun i v wr => ∃ (c : Nat) (u : Value) (l : List Int) (a' : Nat), u = v ∧ i = .int .i64 c ∧ (l.length + c ≤ 40 ∧ a' + c ≤ a + 41) ∧ Hid (ILf w.heap.size l u wr) ∧ Hid (FaultL l) ∧ Hid (TapeIn wr b L a') ∧ Hid (w.grownBy wr (some b))) (fun i _ _ => (intOf i).toNat)
  case atStart => exact ⟨c, _, [], _, rfl, rfl, ⟨by simp; omega, by omega⟩, hide ⟨⟨nilHd, []⟩, rfl, rfl, ⟨Row.nil _ _ _, fun n h => by cases h⟩, fun h => by simp at h, fun _ => rfl⟩, hide ⟨List.Pairwise.nil, fun x h => by cases h⟩, HT1, HG1⟩
  case round =>
    obtain ⟨c, u, l, a', rfl, rfl, ⟨hlc, hac⟩, HIL, HF, HTP, HGR⟩ := hrel
    by_cases hc0 : 0 < c
    · have hci : (0 : Int) < c := by omega
      have hw1 : IntKind.i64.wrap ((c : Int) - 1) = ((c - 1 : Nat) : Int) := by rw [IntKind.wrap_i64]; omega
      obtain ⟨r, hv, hrl, hrin, hrb, hrn⟩ := HIL.out
      subst hv hrl
      have HRIN := hide hrin
      have HRB := hide hrb
      have HRN := hide hrn
      obtain ⟨x, hx⟩ : ∃ x, (1 : Int) + nAt L a' (180 - 1 + 1) = x := ⟨_, rfl⟩
      have hx1 : 1 ≤ x ∧ x ≤ 180 := by
        have h := fmod_ok (x := rawAt L a') (n := 180 - 1 + 1) (by omega)
        rw [← hx]
        unfold nAt
        omega
      have HXV := hide hx
      have hwb : ∀ X : World, w.grownBy X (some b) → w.heap.size ≤ X.heap.size := fun X h => h.size
      have HWB := hide hwb
      have hpa2 := pos_le L a'
      clear hrin hrb hrn hx hwb
      go_wp2_with (first
        | (go_at_call 15; refine (rcount_any _).mono ?_; rintro e w2 ⟨rfl, hb2⟩; have HB2 := hide hb2; clear hb2)
        | (go_at_call 14; refine (range_any _ b a' L 1 180 (HTP.out.mono HB2.out) (by omega) (by omega)).mono ?_; rintro e w3 ⟨rfl, ht3, hg3⟩; rw [HXV.out]; have HT3 := hide ht3; have HG3 := hide (grown_below HB2.out hg3); clear ht3 hg3)
        | (go_at_call 45; refine (fput_any w.heap.size r x _ (il_grown HRIN.out HG3.out (fun hp => by have := HRB.out hp; omega)) HRN.out (by omega) (by constructor <;> omega) (by have h1 := HGR.out.size; have h2 := HG3.out.size; omega) HRB.out).mono ?_; rintro e w4 ⟨⟨v4, rfl, hv4⟩, hb4⟩; have HV4 := hide hv4; have HT4 := hide (HT3.out.mono hb4); have HG4 := hide (grown_trans HGR.out (below_grown2 HG3.out hb4)); clear hv4 hb4))
      have hpl := putL_len r.l x
      go_roundw
      case rel => exact ⟨c - 1, _, _, _, rfl, by go_num, ⟨by omega, by omega⟩, HV4, hide (HF.out.put hx1), HT4, HG4⟩
      case measure => simp [intOf]; omega
    · have hcn : ¬ (0 : Int) < c := by omega
      go_wp2
      go_ret
      exact ⟨u, rfl, l, HIL.out, HF.out, by omega, a', HTP.out, by omega, HGR.out⟩
end Go.Proofs.YtlkhiihehaiinaaDoor

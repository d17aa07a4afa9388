/- fault.switches: a map of texts that the call makes; which are in it. -/
import Derived.Test.YtlkhiihehaiinaaDoorGH
import Derived.Test.YtlkhiihehaiinaaDoorGA
import Derived.Test.YtlkhiihehaiinaaDoorGC
import Derived.Maps.OwnSet
import Derived.StringKeys
namespace Go.Proofs.YtlkhiihehaiinaaDoor
open Go.RowKit Go.Maps Go.WideShapes Go.MapKept Go.WideMaps

abbrev SK : Keyed Tryd.prog 9 := string_keyed Tryd.underlying9
set_option maxRecDepth 10000
/-- Block m is a map that holds the texts S with true, and no others; 'any': is there one? -/
def Texts (x : World) (m : Nat) (S : ByteArray → Bool) (any : Bool) : Prop :=
  ∃ (n : Nat) (D : DataW Unit), n ≤ 1000000 ∧ x.ownsMap Tryd.prog 9 (plainElem Tryd.prog 4) m n D ∧ (∀ s : ByteArray, D.atKey (.string s.data.toList) (.lit (.bool false)) = .lit (.bool (S s))) ∧ (Maps.size D = 0 ↔ any = false)
theorem Texts.lt {x : World} {m : Nat} {S : ByteArray → Bool} {any : Bool} (h : Texts x m S any) : m < x.heap.size := by obtain ⟨n, D, _, h, _⟩ := h; exact h.lt
theorem Texts.grown {x y : World} {m : Nat} {S : ByteArray → Bool} {any : Bool} {row : Option Nat} (h : Texts x m S any) (hg : x.grownBy y row) (hne : some m ≠ row) : Texts y m S any := by
  obtain ⟨n, D, h1, h2, h3⟩ := h
  exact ⟨n, D, h1, h2.kept hg hne, h3⟩
theorem Texts.below {x y : World} {m : Nat} {S : ByteArray → Bool} {any : Bool} (h : Texts x m S any) (hb : Below x.heap.size x y) : Texts y m S any := h.grown (only_below hb none) (by simp)
theorem Texts.new (w : World) : Texts (w.alloc (.map #[] 0)) w.heap.size (fun _ => false) false :=
  ⟨0, .map [], by omega, World.ownsMap_made _ _ _ _, fun _ => rfl, by simp [Maps.size]⟩
theorem zeroB (w : World) : (zeroValue 4).run Tryd.prog w = .ok (.bool false) w := by kernel_rfl
theorem plainB_inv {v : Value} {z : DataW Unit × List MemPlace} (h : plainElem Tryd.prog 4 v = some z) : ∃ b, v = .bool b ∧ z.1 = .lit (.bool b) := by
  have hu := Tryd.underlying4
  unfold plainElem at h
  generalize Tryd.prog.underlying 4 = u at h hu
  subst hu
  cases v <;> simp at h
  exact ⟨_, rfl, by rw [← h]⟩
theorem Texts.look {x : World} {m : Nat} {S : ByteArray → Bool} {any : Bool} (h : Texts x m S any) (s : ByteArray) (hs : s.size ≤ maxLen) : (Instr.lookup 71 (.map (some m)) (.string s) false).run Tryd.prog x = .ok (.bool (S s)) x := by
  obtain ⟨n, D, _, h2, h3, _⟩ := h
  obtain ⟨v, ps, hrun, hv⟩ := h2.lookup SK Tryd.underlying71 (zeroB x) (plainElem_bool Tryd.underlying4 false) (keyOf_string_mk Tryd.underlying9 hs)
  obtain ⟨b, rfl, hb⟩ := plainB_inv hv
  rw [h3] at hb
  injection hb with hb
  injection hb with hb
  rw [hb]
  exact hrun
theorem Texts.len {x : World} {m : Nat} {S : ByteArray → Bool} {any : Bool} (h : Texts x m S any) (ty : TypeId) : ∃ c : Nat, (Builtin.len_ #[71] ty #[.map (some m)]).run Tryd.prog x = .ok (.int .i64 c) x ∧ (c = 0 ↔ any = false) := by
  obtain ⟨n, D, _, h2, _, h4⟩ := h
  exact ⟨_, h2.len Tryd.underlying71 ty, h4⟩
theorem data_inj {s t : ByteArray} (h : s.data.toList = t.data.toList) : s = t := ByteArray.ext (Array.toList_inj.1 h)
/-- As Texts, with a bound on the number of stores. -/
def TextsN (x : World) (m n : Nat) (S : ByteArray → Bool) (any : Bool) : Prop :=
  ∃ (D : DataW Unit), x.ownsMap Tryd.prog 9 (plainElem Tryd.prog 4) m n D ∧ (∀ s : ByteArray, D.atKey (.string s.data.toList) (.lit (.bool false)) = .lit (.bool (S s))) ∧ (Maps.size D = 0 ↔ any = false)
theorem TextsN.texts {x : World} {m n : Nat} {S : ByteArray → Bool} {any : Bool} (h : TextsN x m n S any) (hn : n ≤ 1000000) : Texts x m S any := by obtain ⟨D, h⟩ := h; exact ⟨n, D, hn, h⟩
theorem TextsN.grown {x y : World} {m n : Nat} {S : ByteArray → Bool} {any : Bool} {row : Option Nat} (h : TextsN x m n S any) (hg : x.grownBy y row) (hne : some m ≠ row) : TextsN y m n S any := by
  obtain ⟨D, h2, h3⟩ := h
  exact ⟨D, h2.kept hg hne, h3⟩
theorem TextsN.below {x y : World} {m n : Nat} {S : ByteArray → Bool} {any : Bool} (h : TextsN x m n S any) (hb : Below x.heap.size x y) : TextsN y m n S any := h.grown (only_below hb none) (by simp)
theorem TextsN.more {x : World} {m n : Nat} {S : ByteArray → Bool} {any : Bool} (h : TextsN x m n S any) : TextsN x m (n + 1) S any := by obtain ⟨D, h2, h3⟩ := h; exact ⟨D, h2.mono (Nat.le_succ _), h3⟩
theorem TextsN.new (w : World) : TextsN (w.alloc (.map #[] 0)) w.heap.size 0 (fun _ => false) false := ⟨.map [], World.ownsMap_made _ _ _ _, fun _ => rfl, by simp [Maps.size]⟩
theorem TextsN.put {x : World} {m n : Nat} {S : ByteArray → Bool} {any : Bool} (h : TextsN x m n S any) (s : ByteArray) (hs : s.size ≤ maxLen) (hn : n < 1000000) :
    ∃ y, (Instr.mapUpdate 71 (.map (some m)) (.string s) (.bool true)).run Tryd.prog x = .ok () y ∧ TextsN y m (n + 1) (fun t => S t || decide (t = s)) true ∧ x.grownBy y (some m) := by
  obtain ⟨D, h2, h3, h4⟩ := h
  have hkey := keyOf_string_mk Tryd.underlying9 hs
  obtain ⟨y, hrun, hown, hg⟩ := h2.update SK Tryd.underlying71 (by unfold maxLen; omega) hkey (plainElem_bool Tryd.underlying4 true)
  refine ⟨y, hrun, ⟨_, hown, fun t => ?_, ?_⟩, hg⟩
  · by_cases ht : t = s
    · subst ht
      rw [Maps.atKey_put_same h2.isMap (SK.key hkey)]; simp
    · rw [Maps.atKey_put_other (fun e => ht (data_inj (by injection e))), h3]; simp [ht]
  · have := Maps.size_put (k := .string s.data.toList) (h2.tidy SK) (.lit (.bool true))
    rw [this]
    constructor
    · intro h
      split at h
      · rename_i hh
        -- the key is there: the size is not nought
        obtain ⟨es, rfl, hp⟩ := h2.tidy SK
        rw [Maps.has_eq] at hh
        rw [Maps.size_eq] at h
        rw [List.eq_nil_of_length_eq_zero h] at hh
        cases hh
      · omega
    · intro h; cases h
end Go.Proofs.YtlkhiihehaiinaaDoor

/- querylablaw36.faults: a list of faults. -/
namespace Go.Proofs.YtlkhiihehaiinaaDoor
open Go.RowKit

/-- Ascending, from 1 to 180. -/
def FaultL (l : List Int) : Prop := l.Pairwise (· < ·) ∧ ∀ x ∈ l, 1 ≤ x ∧ x ≤ 180
theorem putL_mem : ∀ (l : List Int) (x y : Int), y ∈ putL l x → y = x ∨ y ∈ l
  | [], x, y, h => by simp [putL] at h; exact .inl h
  | a :: r, x, y, h => by
    unfold putL at h
    split at h
    · rcases List.mem_cons.1 h with rfl | h
      · exact .inr (by simp)
      · rcases putL_mem r x y h with h | h
        · exact .inl h
        · exact .inr (by simp [h])
    · split at h
      · exact .inr h
      · rcases List.mem_cons.1 h with rfl | h
        · exact .inl rfl
        · exact .inr h
theorem putL_pair : ∀ (l : List Int) (x : Int), l.Pairwise (· < ·) → (putL l x).Pairwise (· < ·)
  | [], x, _ => by simp [putL]
  | a :: r, x, h => by
    rw [List.pairwise_cons] at h
    unfold putL
    split
    · rename_i hax
      rw [List.pairwise_cons]
      refine ⟨fun y hy => ?_, putL_pair r x h.2⟩
      rcases putL_mem r x y hy with rfl | hy
      · exact hax
      · exact h.1 y hy
    · split
      · rw [List.pairwise_cons]; exact h
      · rw [List.pairwise_cons]
        refine ⟨fun y hy => ?_, by rw [List.pairwise_cons]; exact h⟩
        rcases List.mem_cons.1 hy with rfl | hy
        · omega
        · have := h.1 y hy; omega
theorem putL_len : ∀ (l : List Int) (x : Int), (putL l x).length ≤ l.length + 1
  | [], x => by simp [putL]
  | a :: r, x => by
    have := putL_len r x
    unfold putL
    split
    · simp only [List.length_cons]; omega
    · split <;> simp only [List.length_cons] <;> omega
theorem FaultL.put {l : List Int} {x : Int} (h : FaultL l) (hx : 1 ≤ x ∧ x ≤ 180) : FaultL (putL l x) := ⟨putL_pair l x h.1, fun y hy => by rcases putL_mem l x y hy with rfl | hy; exact hx; exact h.2 y hy⟩
theorem FaultL.valid {l : List Int} (h : FaultL l) : validB l = true := by
  refine validB_t (fun k hk => ⟨(h.2 _ (List.getElem_mem hk)).1, (h.2 _ (List.getElem_mem hk)).2, fun h0 => ?_⟩)
  exact List.pairwise_iff_getElem.1 h.1 (k - 1) k (by omega) hk (by omega)
theorem ILf.grown {n₀ b : Nat} {l : List Int} {v : Value} {w w' : World} (h : ILf n₀ l v w) (hg : w.grownBy w' (some b)) (hb : b < n₀) : ILf n₀ l v w' := by
  obtain ⟨r, h1, h2, h3, h4, h5⟩ := h
  exact ⟨r, h1, h2, il_grown h3 hg (fun hp => by have := h4 (by rw [← h2]; exact hp); omega), h4, h5⟩
theorem grown_below {x y z : World} {b : Nat} (h : Below x.heap.size x y) (hg : y.grownBy z (some b)) : x.grownBy z (some b) :=
  ⟨hg.os.trans h.os, hg.tape.trans h.tape, hg.output.trans h.output, Nat.le_trans h.size hg.size, fun k hk hne => (hg.block k (Nat.lt_of_lt_of_le hk h.size) hne).trans (h.block k hk)⟩
theorem below_grown2 {x y z : World} {b : Nat} (hg : x.grownBy y (some b)) (h : Below y.heap.size y z) : x.grownBy z (some b) :=
  ⟨h.os.trans hg.os, h.tape.trans hg.tape, h.output.trans hg.output, Nat.le_trans hg.size h.size, fun k hk hne => (h.block k (Nat.lt_of_lt_of_le hk hg.size)).trans (hg.block k hk hne)⟩
theorem grown_trans {x y z : World} {b : Nat} (h : x.grownBy y (some b)) (h2 : y.grownBy z (some b)) : x.grownBy z (some b) :=
  ⟨h2.os.trans h.os, h2.tape.trans h.tape, h2.output.trans h.output, Nat.le_trans h.size h2.size, fun k hk hne => (h2.block k (Nat.lt_of_lt_of_le hk h.size) hne).trans (h.block k hk hne)⟩
theorem pos_le (L : IL) (a : Nat) : a ≤ posAt L a ∧ posAt L a ≤ a + 1 := by unfold posAt; split <;> omega

set_option maxRecDepth 100000 in
set_option maxHeartbeats 2000000 in
theorem faults_any (w : World) (b a : Nat) (L : IL) (ht : TapeIn w b L a) (ha : a ≤ 1000000) (hb : b < w.heap.size) :
    Calls Tryd.prog 19 #[.pointer (some ⟨b, 0, none⟩)] w fun e w' => ∃ (v : Value) (l : List Int) (a' : Nat), e = .returned v ∧ ILf w.heap.size l v w' ∧ FaultL l ∧ l.length ≤ 40 ∧ TapeIn w' b L a' ∧ a' ≤ a + 41 ∧ w.grownBy w' (some b) := by
  have HT := hide ht
  clear ht
  go_enter Tryd.func19, Tryd.ntmps19
  have hlist : IL.In (w.alloc (.cells #[.int .i64 0, .int .i64 1, .int .i64 1, .int .i64 2, .int .i64 4, .int .i64 12, .int .i64 40] 3)) ⟨⟨some ⟨w.heap.size, 0, none⟩, 7⟩, [0, 1, 1, 2, 4, 12, 40]⟩ := by
    obtain ⟨r, h1, h2, h3⟩ := bs_il [0, 1, 1, 2, 4, 12, 40] w 3 (by decide) (ok64 _ rfl)
    obtain ⟨⟨ao, cap⟩, l⟩ := r
    dsimp only at h2
    subst h2
    injection h1 with e1 e2 e3
    subst e1 e3
    exact h3
  have HLI := hide hlist
  clear hlist
  have hcs : ∀ (k : Nat) (hk : k < [(0 : Int), 1, 1, 2, 4, 12, 40].length), ∃ c : Nat, c ≤ 40 ∧ [(0 : Int), 1, 1, 2, 4, 12, 40][k] = c := by
    intro k hk
    have hk7 : k < 7 := hk
    have h : k = 0 ∨ k = 1 ∨ k = 2 ∨ k = 3 ∨ k = 4 ∨ k = 5 ∨ k = 6 := by omega
    rcases h with rfl | rfl | rfl | rfl | rfl | rfl | rfl
    · exact ⟨0, by omega, rfl⟩
    · exact ⟨1, by omega, rfl⟩
    · exact ⟨1, by omega, rfl⟩
    · exact ⟨2, by omega, rfl⟩
    · exact ⟨4, by omega, rfl⟩
    · exact ⟨12, by omega, rfl⟩
    · exact ⟨40, by omega, rfl⟩
  have HCS := hide hcs
  clear hcs
  go_wp2_with (go_at_call 44; refine (pick_any _ b a L ⟨⟨some ⟨w.heap.size, 0, none⟩, 7⟩, [0, 1, 1, 2, 4, 12, 40]⟩ (HT.out.mono (belA _)) (by omega) HLI.out (by show 0 < 7; decide) (by show w.heap.size ≠ b; omega)).mono ?_; rintro e w1 ⟨⟨k, hk, hkn, rfl⟩, ht1, hg1⟩; obtain ⟨c, hc, hkc⟩ := HCS.out k hk; rw [hkc]; have HT1 := hide ht1; have HG1 := hide (grown_below (belA _) hg1); clear ht1 hg1 hkn hkc hk)
  have hpa := pos_le L a
  go_loopw [4, 3] (fun i v wr => ∃ (c : Nat) (u : Value) (l : List Int) (a' : Nat), u = v ∧ i = .int .i64 c ∧ (l.length + c ≤ 40 ∧ a' + c ≤ a + 41) ∧ Hid (ILf w.heap.size l u wr) ∧ Hid (FaultL l) ∧ Hid (TapeIn wr b L a') ∧ Hid (w.grownBy wr (some b))) (fun i _ _ => (intOf i).toNat)
  case atStart => exact ⟨c, _, [], _, rfl, rfl, ⟨by simp; omega, by omega⟩, hide ⟨⟨nilHd, []⟩, rfl, rfl, ⟨Row.nil _ _ _, fun n h => by cases h⟩, fun h => by simp at h, fun _ => rfl⟩, hide ⟨List.Pairwise.nil, fun x h => by cases h⟩, HT1, HG1⟩
  case round =>
    obtain ⟨c, u, l, a', rfl, rfl, ⟨hlc, hac⟩, HIL, HF, HTP, HGR⟩ := hrel
    by_cases hc0 : 0 < c
    · have hci : (0 : Int) < c := by omega
      have hw1 : IntKind.i64.wrap ((c : Int) - 1) = ((c - 1 : Nat) : Int) := by rw [IntKind.wrap_i64]; omega
      obtain ⟨r, hv, hrl, hrin, hrb, hrn⟩ := HIL.out
      subst hv hrl
      have HRIN := hide hrin
      have HRB := hide hrb
      have HRN := hide hrn
      obtain ⟨x, hx⟩ : ∃ x, (1 : Int) + nAt L a' (180 - 1 + 1) = x := ⟨_, rfl⟩
      have hx1 : 1 ≤ x ∧ x ≤ 180 := by
        have h := fmod_ok (x := rawAt L a') (n := 180 - 1 + 1) (by omega)
        rw [← hx]
        unfold nAt
        omega
      have HXV := hide hx
      have hwb : ∀ X : World, w.grownBy X (some b) → w.heap.size ≤ X.heap.size := fun X h => h.size
      have HWB := hide hwb
      have hpa2 := pos_le L a'
      clear hrin hrb hrn hx hwb
      go_wp2_with (first
        | (go_at_call 15; refine (rcount_any _).mono ?_; rintro e w2 ⟨rfl, hb2⟩; have HB2 := hide hb2; clear hb2)
        | (go_at_call 14; refine (range_any _ b a' L 1 180 (HTP.out.mono HB2.out) (by omega) (by omega)).mono ?_; rintro e w3 ⟨rfl, ht3, hg3⟩; rw [HXV.out]; have HT3 := hide ht3; have HG3 := hide (grown_below HB2.out hg3); clear ht3 hg3)
        | (go_at_call 45; refine (fput_any w.heap.size r x _ (il_grown HRIN.out HG3.out (fun hp => by have := HRB.out hp; omega)) HRN.out (by omega) (by constructor <;> omega) (by have h1 := HGR.out.size; have h2 := HG3.out.size; omega) HRB.out).mono ?_; rintro e w4 ⟨⟨v4, rfl, hv4⟩, hb4⟩; have HV4 := hide hv4; have HT4 := hide (HT3.out.mono hb4); have HG4 := hide (grown_trans HGR.out (below_grown2 HG3.out hb4)); clear hv4 hb4))
      have hpl := putL_len r.l x
      go_roundw
      case rel => exact ⟨c - 1, _, _, _, rfl, by go_num, ⟨by omega, by omega⟩, HV4, hide (HF.out.put hx1), HT4, HG4⟩
      case measure => simp [intOf]; omega
    · have hcn : ¬ (0 : Int) < c := by omega
      go_wp2
      go_ret
      exact ⟨u, rfl, l, HIL.out, HF.out, by omega, a', HTP.out, by omega, HGR.out⟩
end Go.Proofs.YtlkhiihehaiinaaDoor

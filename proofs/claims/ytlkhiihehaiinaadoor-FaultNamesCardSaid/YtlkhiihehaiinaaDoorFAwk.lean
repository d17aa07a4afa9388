/- querylablaw36.awake: the example of the chapter. -/
import Derived.Test.YtlkhiihehaiinaaDoorFFev
import Derived.Deep.RegionLaw
namespace Go.Proofs.YtlkhiihehaiinaaDoor
open Go.RowKit

theorem mk_inj {a b : List UInt8} (h : mk a = mk b) : a = b := by have := congrArg (fun x => x.data.toList) h; simpa using this
theorem text_lit (k : Nat) (hk : k < 180) (t : List UInt8) (h : textsL[k]? = some t) : textAt ((k : Int) + 1) = mk t := by
  obtain ⟨t', h1, h2⟩ := text_at hk
  rw [h2, Option.some.inj (h1.symm.trans h)]
/-- The bits where one fault is on. -/
theorem wrong_one (k : Nat) (hk : k < 180) (t : List UInt8) (h : textsL[k]? = some t) (j : Nat) : wrongF (hitS [(k : Int) + 1]) j = (decide (6 ≤ j % 29) && decide (famW.getD (j / 29) [] ++ [32] ++ opsW.getD (j % 29 - 6) [] = t)) := by
  unfold wrongF hitS
  have e : ∀ s : List UInt8, decide (mk s = textAt ((k : Int) + 1)) = decide (s = t) := by
    intro s
    rw [text_lit k hk t h]
    by_cases hs : s = t
    · rw [hs]; simp
    · rw [decide_eq_false hs, decide_eq_false (fun h => hs (mk_inj h))]
  simp only [List.any_cons, List.any_nil, Bool.or_false]
  rw [decide_eq_true (show (1 : Int) ≤ (k : Int) + 1 ∧ (k : Int) + 1 ≤ 180 from ⟨by omega, by omega⟩), Bool.true_and, e]
theorem any_one (k : Nat) (hk : k < 180) : anyS [(k : Int) + 1] = true := by
  unfold anyS
  simp only [List.any_cons, List.any_nil, Bool.or_false]
  exact decide_eq_true ⟨by omega, by omega⟩

def numE : Ex := ⟨2, 0, 1, ⟨#[]⟩, 0, nilHd, []⟩
theorem numE_va (row : List V) : numE.va row = numV 1 := by
  rw [Ex.va_eq]
  show topV 2 1 _ 0 row [] = _
  unfold topV
  rw [if_neg (by simp [knownB, kidsOk]), if_pos rfl]
  rfl
theorem valid_num {n : Int} (h : inR n = true) : validV (numV n) = true := by simp [validV, numV, h]
theorem add_num {a b : Int} (ha : inR a = true) (hb : inR b = true) (hab : inR (a + b) = true) : arithV 6 (numV a) (numV b) = numV (a + b) := by
  unfold arithV
  rw [valid_num ha, valid_num hb, if_neg (by simp [numV]), if_pos (show (numV a).kind = 1 from rfl)]
  show (match numP 6 a b with | some n => if inR n then numV n else nulV | none => nulV) = _
  rw [show numP 6 a b = some (a + b) from rfl]
  dsimp only
  rw [hab, if_pos rfl]
theorem awake_val : invV (appV 6 [numV 1, numV 1]) = numV 3 := by
  have h1 : appV 6 [numV 1, numV 1] = numV 2 := by
    unfold appV topV
    rw [if_neg (by simp [knownB, kidsOk]), if_neg (by decide), if_neg (by decide), if_neg (by decide), if_neg (by decide), if_neg (by decide)]
    unfold applyV
    rw [if_pos (.inl (by decide))]
    exact add_num rfl rfl rfl
  rw [h1]
  unfold invV
  rw [if_neg (show ¬ (numV 2).kind = 2 by decide), if_pos (show (numV 2).kind = 1 from rfl)]
  exact add_num rfl rfl rfl
set_option maxRecDepth 100000 in
theorem num_any (n : Int) (w : World) : Calls Tryd.prog 39 #[.int .i64 n] w fun e w' => e = .returned (.agg #[.int .i64 2, .int .i64 0, .int .i64 n, .string ⟨#[]⟩, .int .i64 0, .slice none 0 0]) ∧ Below w.heap.size w w' := by
  go_enter Tryd.func39, Tryd.ntmps39
  go_wp2
  exact bodyPost_ret (v := .agg #[.int .i64 2, .int .i64 0, .int .i64 n, .string ⟨#[]⟩, .int .i64 0, .slice none 0 0]) (by simp [results, Tryd.results39, go_sem]) rfl ⟨rfl, belA _⟩
set_option maxRecDepth 100000 in
theorem do_any (op : Int) (h : Hd) (n : Nat) (w : World) : Calls Tryd.prog 38 #[.int .i64 op, .slice h.ao n h.cap] w fun e w' => e = .returned (.agg #[.int .i64 op, .int .i64 0, .int .i64 0, .string ⟨#[]⟩, .int .i64 0, .slice h.ao n h.cap]) ∧ Below w.heap.size w w' := by
  go_enter Tryd.func38, Tryd.ntmps38
  go_wp2
  exact bodyPost_ret (v := .agg #[.int .i64 op, .int .i64 0, .int .i64 0, .string ⟨#[]⟩, .int .i64 0, .slice h.ao n h.cap]) (by simp [results, Tryd.results38, go_sem]) rfl ⟨rfl, belA _⟩
set_option maxRecDepth 100000 in
theorem fint_any (n : Int) (w : World) : Calls Tryd.prog 6 #[.int .i64 n] w fun e w' => e = .returned (.agg #[.int .i64 1, .int .i64 n, .string ⟨#[]⟩]) ∧ Below w.heap.size w w' := by
  go_enter Tryd.func6, Tryd.ntmps6
  go_wp2
  exact bodyPost_ret (v := .agg #[.int .i64 1, .int .i64 n, .string ⟨#[]⟩]) (by simp [results, Tryd.results6, go_sem]) rfl ⟨rfl, belA _⟩

def t1L : List UInt8 := [105, 110, 118, 101, 114, 116, 101, 100, 32, 97, 100, 100]
def t134L : List UInt8 := [107, 105, 110, 100, 32, 108, 111, 111, 112, 32, 105, 110, 110, 101, 114]
def t169L : List UInt8 := [97, 103, 103, 114, 101, 103, 97, 116, 101, 32, 115, 111, 114, 116, 103, 114, 111, 117, 112, 32, 109, 97, 120]
theorem t1_at : textsL[0]? = some t1L := by kernel_rfl
theorem t134_at : textsL[133]? = some t134L := by kernel_rfl
theorem t169_at : textsL[168]? = some t169L := by kernel_rfl
theorem w1 (j : Nat) : wrongF (hitS [1]) j = (decide (6 ≤ j % 29) && decide (famW.getD (j / 29) [] ++ [32] ++ opsW.getD (j % 29 - 6) [] = t1L)) := wrong_one 0 (by omega) t1L t1_at j
/-- What awake wants of a world. -/
structure AW (w : World) : Prop where
  fw : FW w
  nn : NulAt w
  op : OpsAt w
theorem AW.below {w x : World} (h : AW w) (hb : Below w.heap.size w x) : AW x := ⟨h.fw.below hb, h.nn.mono hb, h.op.mono hb⟩
theorem num_in (w : World) : numE.In w := ⟨numE, ⟨i64_lit rfl, i64_lit rfl, i64_lit rfl, Nat.zero_le _, i64_lit rfl⟩, Row.nil _ _ _, fun k hk => by cases hk⟩
theorem num_low : numE.Low := ⟨numE, Nat.zero_le _, fun k hk => by cases hk⟩
set_option maxRecDepth 100000 in
theorem fev_awake (b1 b2 : Nat) (w : World) (h : AW w) (hl : IL.In w ⟨⟨some ⟨b1, 0, none⟩, 1⟩, [1]⟩) (hk : Row w 6 Ex.cells ⟨some ⟨b2, 0, none⟩, 2⟩ [numE, numE]) :
    Calls Tryd.prog 10 #[.slice (some ⟨b1, 0, none⟩) 1 1, .agg #[.int .i64 6, .int .i64 0, .int .i64 0, .string ⟨#[]⟩, .int .i64 0, .slice (some ⟨b2, 0, none⟩) 2 2], .slice none 0 0] w fun e w' => e = .returned (.agg #[.int .i64 1, .int .i64 3, .string ⟨#[]⟩]) ∧ Below w.heap.size w w' := by
  have hkids : ∀ k ∈ [numE, numE], k = numE := by intro k hk; simp at hk; exact hk
  have hv : invV (appV ((6 : Nat) : Int) ([numE, numE].map (Ex.va []))) = numV 3 := by
    rw [List.map_cons, List.map_cons, List.map_nil, numE_va]
    exact awake_val
  have hh := feval_inv ⟨⟨some ⟨b1, 0, none⟩, 1⟩, [1]⟩ 6 0 0 ⟨#[]⟩ 0 ⟨some ⟨b2, 0, none⟩, 2⟩ [numE, numE] ⟨nilHd, []⟩ w h.fw hl (by show 0 < 1; decide) (by show 1 ≤ 1000; decide) (any_one 0 (by omega))
    ⟨_, ⟨i64_lit rfl, i64_lit rfl, i64_lit rfl, Nat.zero_le _, i64_lit rfl⟩, hk, fun k hk => by rw [hkids k hk]; exact num_in w⟩ ⟨_, by show 2 ≤ 1000000; decide, fun k hk => by rw [hkids k hk]; exact num_low⟩ ⟨Row.nil _ _ _, fun v hv => by cases hv⟩ h.nn h.op
    (by omega) rfl (fun k hk => by rw [hkids k hk]; rfl) (by rw [w1]; kernel_rfl) (by rw [w1]; kernel_rfl) (by rw [w1]; kernel_rfl) (by rw [w1]; kernel_rfl) (by rw [w1]; kernel_rfl)
  dsimp only at hh
  rw [hv] at hh
  exact hh
theorem tx1 : textAt 1 = (⟨#[105, 110, 118, 101, 114, 116, 101, 100, 32, 97, 100, 100]⟩ : ByteArray) := text_lit 0 (by omega) t1L t1_at
theorem tx134 : textAt 134 = (⟨#[107, 105, 110, 100, 32, 108, 111, 111, 112, 32, 105, 110, 110, 101, 114]⟩ : ByteArray) := text_lit 133 (by omega) t134L t134_at
theorem tx169 : textAt 169 = (⟨#[97, 103, 103, 114, 101, 103, 97, 116, 101, 32, 115, 111, 114, 116, 103, 114, 111, 117, 112, 32, 109, 97, 120]⟩ : ByteArray) := text_lit 168 (by omega) t169L t169_at
set_option maxRecDepth 100000 in
set_option maxHeartbeats 4000000 in
theorem awake_any (w : World) (h : AW w) : Calls Tryd.prog 12 #[] w fun e w' => e = .returned (.bool true) ∧ Below w.heap.size w w' := by
  have HW := hide h
  clear h
  have hl := new_il (w := w) [1] (by decide) (ok64 _ rfl)
  have HL := hide hl
  have HB0 := hide (belA (w := w) (.cells #[.int .i64 1] 3))
  clear hl
  go_enter Tryd.func12, Tryd.ntmps12
  go_wp2_with (first
    | (go_at_call 39; refine (num_any 1 _).mono ?_; rintro e x1 ⟨rfl, hb⟩; have HB1 := hide (HB0.out.trans (hb.mono HB0.out.size)); have HL1 := hide (HL.out.mono hb); clear hb HB0 HL)
    | (go_at_call 39; refine (num_any 1 _).mono ?_; rintro e x2 ⟨rfl, hb⟩; have HB2 := hide (HB1.out.trans (hb.mono HB1.out.size)); have HL2 := hide (HL1.out.mono hb); clear hb HB1 HL1)
    | (go_at_call 38; refine (do_any 6 ⟨some ⟨x2.heap.size, 0, none⟩, 2⟩ 2 _).mono ?_; rintro e x3 ⟨rfl, hb⟩; have HB3 := hide ((HB2.out.trans ((belA _).mono HB2.out.size)).trans (hb.mono (HB2.out.trans ((belA _).mono HB2.out.size)).size)); have HL3 := hide ((HL2.out.mono (belA _)).mono hb); have HK3 := hide ((new_row (cells := Ex.cells) (size := 6) (xs := [numE, numE]) (w := x2) (T := 31) (fun _ => rfl) (by show 2 ≤ maxLen; decide)).mono hb); clear hb)
    | (go_at_call 10; refine (fev_awake _ _ _ (HW.out.below HB3.out) HL3.out HK3.out).mono ?_; rintro e x4 ⟨rfl, hb⟩; have HB4 := hide (HB3.out.trans (hb.mono HB3.out.size)); clear hb))
  obtain ⟨X, hX⟩ : ∃ X, x4.alloc (.cells #[.int .i64 1, .int .i64 3, .string ⟨#[]⟩] 24) = X := ⟨_, rfl⟩
  have HBX := hide (show Below w.heap.size w X from by rw [← hX]; exact HB4.out.trans ((belA _).mono HB4.out.size))
  have hy0 : ∀ w' : World, Below X.heap.size X w' → w'.cell? ⟨x4.heap.size, 0, none⟩ = some (.int .i64 1) := fun w' h => by rw [← hX] at h; exact ((Box.new _ _ _).below h).cell (j := 0) rfl
  have hy1 : ∀ w' : World, Below X.heap.size X w' → w'.cell? ⟨x4.heap.size, 1, none⟩ = some (.int .i64 3) := fun w' h => by rw [← hX] at h; exact ((Box.new _ _ _).below h).cell (j := 1) rfl
  have hy2 : ∀ w' : World, Below X.heap.size X w' → w'.cell? ⟨x4.heap.size, 2, none⟩ = some (.string ⟨#[]⟩) := fun w' h => by rw [← hX] at h; exact ((Box.new _ _ _).below h).cell (j := 2) rfl
  have HFW := hide (fun (Y : World) (h : Below X.heap.size X Y) => (HW.out.fw.below HBX.out).below h)
  have HT1 := hide (show ∀ Y, Below X.heap.size X Y → Calls Tryd.prog 16 #[.int .i64 1] Y fun e w' => e = .returned (.string ⟨#[105, 110, 118, 101, 114, 116, 101, 100, 32, 97, 100, 100]⟩) ∧ Below Y.heap.size Y w' from fun Y h => by have hh := ftext_any 1 ⟨by decide, by decide⟩ Y (HFW.out Y h); rwa [tx1] at hh)
  have HT134 := hide (show ∀ Y, Below X.heap.size X Y → Calls Tryd.prog 16 #[.int .i64 134] Y fun e w' => e = .returned (.string ⟨#[107, 105, 110, 100, 32, 108, 111, 111, 112, 32, 105, 110, 110, 101, 114]⟩) ∧ Below Y.heap.size Y w' from fun Y h => by have hh := ftext_any 134 ⟨by decide, by decide⟩ Y (HFW.out Y h); rwa [tx134] at hh)
  have HT169 := hide (show ∀ Y, Below X.heap.size X Y → Calls Tryd.prog 16 #[.int .i64 169] Y fun e w' => e = .returned (.string ⟨#[97, 103, 103, 114, 101, 103, 97, 116, 101, 32, 115, 111, 114, 116, 103, 114, 111, 117, 112, 32, 109, 97, 120]⟩) ∧ Below Y.heap.size Y w' from fun Y h => by have hh := ftext_any 169 ⟨by decide, by decide⟩ Y (HFW.out Y h); rwa [tx169] at hh)
  have HCT := hide (fun Y (h : Below X.heap.size X Y) => count_any Y (HFW.out Y h))
  rw [hX]
  clear hX
  go_region_held3 (fun w' => Below X.heap.size X w') ((first | exact (Below.refl _ _).drew | exact bel_trans (by assumption) (by assumption))) (first
    | (go_at_call 6; with_reducible refine (fint_any 3 _).mono ?_; rintro e y1 ⟨rfl, hb1⟩)
    | (go_at_call 16; refine (HT1.out _ (by assumption)).mono ?_; rintro e y2 ⟨rfl, hb2⟩; clear HT1)
    | (go_at_call 16; refine (HT134.out _ (by assumption)).mono ?_; rintro e y3 ⟨rfl, hb3⟩; clear HT134)
    | (go_at_call 16; refine (HT169.out _ (by assumption)).mono ?_; rintro e y4 ⟨rfl, hb4⟩; clear HT169)
    | (go_at_call 40; refine (HCT.out _ (by assumption)).mono ?_; rintro e y5 ⟨rfl, hb5⟩))
  go_wp2
  go_ret
  exact ⟨rfl, HBX.out.trans ((show Below X.heap.size X y5 by assumption).mono HBX.out.size)⟩
end Go.Proofs.YtlkhiihehaiinaaDoor

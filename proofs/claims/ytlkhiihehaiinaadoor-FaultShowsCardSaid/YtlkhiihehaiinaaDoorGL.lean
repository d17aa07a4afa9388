/- querylablaw36.awake: the example of the chapter. -/
import Derived.Test.YtlkhiihehaiinaaDoorGK
import Derived.Test.YtlkhiihehaiinaaDoorGJ
import Derived.Test.YtlkhiihehaiinaaDoorFAppK
import Derived.Deep.RegionLaw
namespace Go.Proofs.YtlkhiihehaiinaaDoor
open Go.RowKit

theorem mk_inj {a b : List UInt8} (h : mk a = mk b) : a = b := by have := congrArg (fun x => x.data.toList) h; simpa using this
theorem text_lit (k : Nat) (hk : k < 180) (t : List UInt8) (h : textsL[k]? = some t) : textAt ((k : Int) + 1) = mk t := by
  obtain ⟨t', h1, h2⟩ := text_at hk
  rw [h2, Option.some.inj (h1.symm.trans h)]
/-- The bits where one fault is on. -/
theorem wrong_one (k : Nat) (hk : k < 180) (t : List UInt8) (h : textsL[k]? = some t) (j : Nat) : wrongF (hitS [(k : Int) + 1]) j = (decide (6 ≤ j % 29) && decide (famW.getD (j / 29) [] ++ [32] ++ opsW.getD (j % 29 - 6) [] = t)) := by
  unfold wrongF hitS
  have e : ∀ s : List UInt8, decide (mk s = textAt ((k : Int) + 1)) = decide (s = t) := by
    intro s
    rw [text_lit k hk t h]
    by_cases hs : s = t
    · rw [hs]; simp
    · rw [decide_eq_false hs, decide_eq_false (fun h => hs (mk_inj h))]
  simp only [List.any_cons, List.any_nil, Bool.or_false]
  rw [decide_eq_true (show (1 : Int) ≤ (k : Int) + 1 ∧ (k : Int) + 1 ≤ 180 from ⟨by omega, by omega⟩), Bool.true_and, e]
theorem any_one (k : Nat) (hk : k < 180) : anyS [(k : Int) + 1] = true := by
  unfold anyS
  simp only [List.any_cons, List.any_nil, Bool.or_false]
  exact decide_eq_true ⟨by omega, by omega⟩

def numE : Ex := ⟨2, 0, 1, ⟨#[]⟩, 0, nilHd, []⟩
theorem numE_va (row : List V) : numE.va row = numV 1 := by
  rw [Ex.va_eq]
  show topV 2 1 _ 0 row [] = _
  unfold topV
  rw [if_neg (by simp [knownB, kidsOk]), if_pos rfl]
  rfl
theorem valid_num {n : Int} (h : inR n = true) : validV (numV n) = true := by simp [validV, numV, h]
theorem add_num {a b : Int} (ha : inR a = true) (hb : inR b = true) (hab : inR (a + b) = true) : arithV 6 (numV a) (numV b) = numV (a + b) := by
  unfold arithV
  rw [valid_num ha, valid_num hb, if_neg (by simp [numV]), if_pos (show (numV a).kind = 1 from rfl)]
  show (match numP 6 a b with | some n => if inR n then numV n else nulV | none => nulV) = _
  rw [show numP 6 a b = some (a + b) from rfl]
  dsimp only
  rw [hab, if_pos rfl]
theorem awake_val : invV (appV 6 [numV 1, numV 1]) = numV 3 := by
  have h1 : appV 6 [numV 1, numV 1] = numV 2 := by
    unfold appV topV
    rw [if_neg (by simp [knownB, kidsOk]), if_neg (by decide), if_neg (by decide), if_neg (by decide), if_neg (by decide), if_neg (by decide)]
    unfold applyV
    rw [if_pos (.inl (by decide))]
    exact add_num rfl rfl rfl
  rw [h1]
  unfold invV
  rw [if_neg (show ¬ (numV 2).kind = 2 by decide), if_pos (show (numV 2).kind = 1 from rfl)]
  exact add_num rfl rfl rfl
set_option maxRecDepth 100000 in
theorem num_any (n : Int) (w : World) : Calls Tryd.prog 39 #[.int .i64 n] w fun e w' => e = .returned (.agg #[.int .i64 2, .int .i64 0, .int .i64 n, .string ⟨#[]⟩, .int .i64 0, .slice none 0 0]) ∧ Below w.heap.size w w' := by
  go_enter Tryd.func39, Tryd.ntmps39
  go_wp2
  exact bodyPost_ret (v := .agg #[.int .i64 2, .int .i64 0, .int .i64 n, .string ⟨#[]⟩, .int .i64 0, .slice none 0 0]) (by simp [results, Tryd.results39, go_sem]) rfl ⟨rfl, belA _⟩
set_option maxRecDepth 100000 in
theorem do_any (op : Int) (h : Hd) (n : Nat) (w : World) : Calls Tryd.prog 38 #[.int .i64 op, .slice h.ao n h.cap] w fun e w' => e = .returned (.agg #[.int .i64 op, .int .i64 0, .int .i64 0, .string ⟨#[]⟩, .int .i64 0, .slice h.ao n h.cap]) ∧ Below w.heap.size w w' := by
  go_enter Tryd.func38, Tryd.ntmps38
  go_wp2
  exact bodyPost_ret (v := .agg #[.int .i64 op, .int .i64 0, .int .i64 0, .string ⟨#[]⟩, .int .i64 0, .slice h.ao n h.cap]) (by simp [results, Tryd.results38, go_sem]) rfl ⟨rfl, belA _⟩
set_option maxRecDepth 100000 in
theorem fint_any (n : Int) (w : World) : Calls Tryd.prog 6 #[.int .i64 n] w fun e w' => e = .returned (.agg #[.int .i64 1, .int .i64 n, .string ⟨#[]⟩]) ∧ Below w.heap.size w w' := by
  go_enter Tryd.func6, Tryd.ntmps6
  go_wp2
  exact bodyPost_ret (v := .agg #[.int .i64 1, .int .i64 n, .string ⟨#[]⟩]) (by simp [results, Tryd.results6, go_sem]) rfl ⟨rfl, belA _⟩

def t1L : List UInt8 := [105, 110, 118, 101, 114, 116, 101, 100, 32, 97, 100, 100]
def t134L : List UInt8 := [107, 105, 110, 100, 32, 108, 111, 111, 112, 32, 105, 110, 110, 101, 114]
def t169L : List UInt8 := [97, 103, 103, 114, 101, 103, 97, 116, 101, 32, 115, 111, 114, 116, 103, 114, 111, 117, 112, 32, 109, 97, 120]
theorem t1_at : textsL[0]? = some t1L := by kernel_rfl
theorem t134_at : textsL[133]? = some t134L := by kernel_rfl
theorem t169_at : textsL[168]? = some t169L := by kernel_rfl
theorem w1 (j : Nat) : wrongF (hitS [1]) j = (decide (6 ≤ j % 29) && decide (famW.getD (j / 29) [] ++ [32] ++ opsW.getD (j % 29 - 6) [] = t1L)) := wrong_one 0 (by omega) t1L t1_at j
/-- What awake wants of a world. -/
structure AW (w : World) : Prop where
  fw : FW w
  nn : NulAt w
  op : OpsAt w
theorem AW.below {w x : World} (h : AW w) (hb : Below w.heap.size w x) : AW x := ⟨h.fw.below hb, h.nn.mono hb, h.op.mono hb⟩
theorem num_in (w : World) : numE.In w := ⟨numE, ⟨i64_lit rfl, i64_lit rfl, i64_lit rfl, Nat.zero_le _, i64_lit rfl⟩, Row.nil _ _ _, fun k hk => by cases hk⟩
theorem num_low : numE.Low := ⟨numE, Nat.zero_le _, fun k hk => by cases hk⟩
set_option maxRecDepth 100000 in
theorem fev_awake (b1 b2 : Nat) (w : World) (h : AW w) (hl : IL.In w ⟨⟨some ⟨b1, 0, none⟩, 1⟩, [1]⟩) (hk : Row w 6 Ex.cells ⟨some ⟨b2, 0, none⟩, 2⟩ [numE, numE]) :
    Calls Tryd.prog 10 #[.slice (some ⟨b1, 0, none⟩) 1 1, .agg #[.int .i64 6, .int .i64 0, .int .i64 0, .string ⟨#[]⟩, .int .i64 0, .slice (some ⟨b2, 0, none⟩) 2 2], .slice none 0 0] w fun e w' => e = .returned (.agg #[.int .i64 1, .int .i64 3, .string ⟨#[]⟩]) ∧ Below w.heap.size w w' := by
  have hkids : ∀ k ∈ [numE, numE], k = numE := by intro k hk; simp at hk; exact hk
  have hv : invV (appV ((6 : Nat) : Int) ([numE, numE].map (Ex.va []))) = numV 3 := by
    rw [List.map_cons, List.map_cons, List.map_nil, numE_va]
    exact awake_val
  have hh := feval_inv ⟨⟨some ⟨b1, 0, none⟩, 1⟩, [1]⟩ 6 0 0 ⟨#[]⟩ 0 ⟨some ⟨b2, 0, none⟩, 2⟩ [numE, numE] ⟨nilHd, []⟩ w h.fw hl (by show 0 < 1; decide) (by show 1 ≤ 1000; decide) (any_one 0 (by omega))
    ⟨_, ⟨i64_lit rfl, i64_lit rfl, i64_lit rfl, Nat.zero_le _, i64_lit rfl⟩, hk, fun k hk => by rw [hkids k hk]; exact num_in w⟩ ⟨_, by show 2 ≤ 1000000; decide, fun k hk => by rw [hkids k hk]; exact num_low⟩ ⟨Row.nil _ _ _, fun v hv => by cases hv⟩ h.nn h.op
    (by omega) rfl (fun k hk => by rw [hkids k hk]; rfl) (by rw [w1]; kernel_rfl) (by rw [w1]; kernel_rfl) (by rw [w1]; kernel_rfl) (by rw [w1]; kernel_rfl) (by rw [w1]; kernel_rfl)
  dsimp only at hh
  rw [hv] at hh
  exact hh
theorem tx1 : textAt 1 = (⟨#[105, 110, 118, 101, 114, 116, 101, 100, 32, 97, 100, 100]⟩ : ByteArray) := text_lit 0 (by omega) t1L t1_at
theorem tx134 : textAt 134 = (⟨#[107, 105, 110, 100, 32, 108, 111, 111, 112, 32, 105, 110, 110, 101, 114]⟩ : ByteArray) := text_lit 133 (by omega) t134L t134_at
theorem tx169 : textAt 169 = (⟨#[97, 103, 103, 114, 101, 103, 97, 116, 101, 32, 115, 111, 114, 116, 103, 114, 111, 117, 112, 32, 109, 97, 120]⟩ : ByteArray) := text_lit 168 (by omega) t169L t169_at
set_option maxRecDepth 100000 in
set_option maxHeartbeats 4000000 in
theorem awake_any (w : World) (h : AW w) : Calls Tryd.prog 12 #[] w fun e w' => e = .returned (.bool true) ∧ Below w.heap.size w w' := by
  have HW := hide h
  clear h
  have hl := new_il (w := w) [1] (by decide) (ok64 _ rfl)
  have HL := hide hl
  have HB0 := hide (belA (w := w) (.cells #[.int .i64 1] 3))
  clear hl
  go_enter Tryd.func12, Tryd.ntmps12
  go_wp2_with (first
    | (go_at_call 39; refine (num_any 1 _).mono ?_; rintro e x1 ⟨rfl, hb⟩; have HB1 := hide (HB0.out.trans (hb.mono HB0.out.size)); have HL1 := hide (HL.out.mono hb); clear hb HB0 HL)
    | (go_at_call 39; refine (num_any 1 _).mono ?_; rintro e x2 ⟨rfl, hb⟩; have HB2 := hide (HB1.out.trans (hb.mono HB1.out.size)); have HL2 := hide (HL1.out.mono hb); clear hb HB1 HL1)
    | (go_at_call 38; refine (do_any 6 ⟨some ⟨x2.heap.size, 0, none⟩, 2⟩ 2 _).mono ?_; rintro e x3 ⟨rfl, hb⟩; have HB3 := hide ((HB2.out.trans ((belA _).mono HB2.out.size)).trans (hb.mono (HB2.out.trans ((belA _).mono HB2.out.size)).size)); have HL3 := hide ((HL2.out.mono (belA _)).mono hb); have HK3 := hide ((new_row (cells := Ex.cells) (size := 6) (xs := [numE, numE]) (w := x2) (T := 31) (fun _ => rfl) (by show 2 ≤ maxLen; decide)).mono hb); clear hb)
    | (go_at_call 10; refine (fev_awake _ _ _ (HW.out.below HB3.out) HL3.out HK3.out).mono ?_; rintro e x4 ⟨rfl, hb⟩; have HB4 := hide (HB3.out.trans (hb.mono HB3.out.size)); clear hb))
  obtain ⟨X, hX⟩ : ∃ X, x4.alloc (.cells #[.int .i64 1, .int .i64 3, .string ⟨#[]⟩] 24) = X := ⟨_, rfl⟩
  have HBX := hide (show Below w.heap.size w X from by rw [← hX]; exact HB4.out.trans ((belA _).mono HB4.out.size))
  have hy0 : ∀ w' : World, Below X.heap.size X w' → w'.cell? ⟨x4.heap.size, 0, none⟩ = some (.int .i64 1) := fun w' h => by rw [← hX] at h; exact ((Box.new _ _ _).below h).cell (j := 0) rfl
  have hy1 : ∀ w' : World, Below X.heap.size X w' → w'.cell? ⟨x4.heap.size, 1, none⟩ = some (.int .i64 3) := fun w' h => by rw [← hX] at h; exact ((Box.new _ _ _).below h).cell (j := 1) rfl
  have hy2 : ∀ w' : World, Below X.heap.size X w' → w'.cell? ⟨x4.heap.size, 2, none⟩ = some (.string ⟨#[]⟩) := fun w' h => by rw [← hX] at h; exact ((Box.new _ _ _).below h).cell (j := 2) rfl
  have HFW := hide (fun (Y : World) (h : Below X.heap.size X Y) => (HW.out.fw.below HBX.out).below h)
  have HT1 := hide (show ∀ Y, Below X.heap.size X Y → Calls Tryd.prog 16 #[.int .i64 1] Y fun e w' => e = .returned (.string ⟨#[105, 110, 118, 101, 114, 116, 101, 100, 32, 97, 100, 100]⟩) ∧ Below Y.heap.size Y w' from fun Y h => by have hh := ftext_any 1 ⟨by decide, by decide⟩ Y (HFW.out Y h); rwa [tx1] at hh)
  have HT134 := hide (show ∀ Y, Below X.heap.size X Y → Calls Tryd.prog 16 #[.int .i64 134] Y fun e w' => e = .returned (.string ⟨#[107, 105, 110, 100, 32, 108, 111, 111, 112, 32, 105, 110, 110, 101, 114]⟩) ∧ Below Y.heap.size Y w' from fun Y h => by have hh := ftext_any 134 ⟨by decide, by decide⟩ Y (HFW.out Y h); rwa [tx134] at hh)
  have HT169 := hide (show ∀ Y, Below X.heap.size X Y → Calls Tryd.prog 16 #[.int .i64 169] Y fun e w' => e = .returned (.string ⟨#[97, 103, 103, 114, 101, 103, 97, 116, 101, 32, 115, 111, 114, 116, 103, 114, 111, 117, 112, 32, 109, 97, 120]⟩) ∧ Below Y.heap.size Y w' from fun Y h => by have hh := ftext_any 169 ⟨by decide, by decide⟩ Y (HFW.out Y h); rwa [tx169] at hh)
  have HCT := hide (fun Y (h : Below X.heap.size X Y) => count_any Y (HFW.out Y h))
  rw [hX]
  clear hX
  go_region_held3 (fun w' => Below X.heap.size X w') ((first | exact (Below.refl _ _).drew | exact bel_trans (by assumption) (by assumption))) (first
    | (go_at_call 6; with_reducible refine (fint_any 3 _).mono ?_; rintro e y1 ⟨rfl, hb1⟩)
    | (go_at_call 16; refine (HT1.out _ (by assumption)).mono ?_; rintro e y2 ⟨rfl, hb2⟩; clear HT1)
    | (go_at_call 16; refine (HT134.out _ (by assumption)).mono ?_; rintro e y3 ⟨rfl, hb3⟩; clear HT134)
    | (go_at_call 16; refine (HT169.out _ (by assumption)).mono ?_; rintro e y4 ⟨rfl, hb4⟩; clear HT169)
    | (go_at_call 40; refine (HCT.out _ (by assumption)).mono ?_; rintro e y5 ⟨rfl, hb5⟩))
  go_wp2
  go_ret
  exact ⟨rfl, HBX.out.trans ((show Below X.heap.size X y5 by assumption).mono HBX.out.size)⟩
end Go.Proofs.YtlkhiihehaiinaaDoor

/- fault.word, fault.replacement. -/
namespace Go.Proofs.YtlkhiihehaiinaaDoor
open Go.RowKit

def corB : List UInt8 := [97, 100, 100, 32, 115, 117, 98, 32, 109, 117, 108, 32, 100, 105, 118, 32, 109, 111, 100, 32, 101, 113, 32, 110, 101, 32, 108, 116, 32, 108, 101, 32, 103, 116, 32, 103, 101, 32, 115, 97, 109, 101, 32, 97, 110, 100, 32, 111, 114]
def wroB : List UInt8 := [115, 117, 98, 32, 97, 100, 100, 32, 97, 100, 100, 32, 109, 111, 100, 32, 100, 105, 118, 32, 115, 97, 109, 101, 32, 108, 116, 32, 108, 101, 32, 108, 116, 32, 103, 101, 32, 103, 116, 32, 101, 113, 32, 111, 114, 32, 97, 110, 100]
def corW : List (List UInt8) := [[97, 100, 100], [115, 117, 98], [109, 117, 108], [100, 105, 118], [109, 111, 100], [101, 113], [110, 101], [108, 116], [108, 101], [103, 116], [103, 101], [115, 97, 109, 101], [97, 110, 100], [111, 114]]
def wroW : List (List UInt8) := [[115, 117, 98], [97, 100, 100], [97, 100, 100], [109, 111, 100], [100, 105, 118], [115, 97, 109, 101], [108, 116], [108, 101], [108, 116], [103, 101], [103, 116], [101, 113], [111, 114], [97, 110, 100]]
theorem cor_fields : Lib.fields corB = corW := by kernel_rfl
theorem wro_fields : Lib.fields wroB = wroW := by kernel_rfl
theorem fields_p (p : List UInt8) (L : List (List UInt8)) (hL : Lib.fields p = L) (hp : p.length ≤ 200) (ha : p.all (fun b => b.toNat < 128) = true) (w : World) (h : FW w) : Calls Tryd.prog 48 #[.string (mk p)] w fun e w' => e = .returned (.slice (some ⟨w.heap.size, 0, none⟩) L.length L.length) ∧ Strs w' w.heap.size L ∧ Below w.heap.size w w' := by
  refine (fields_mk p w h.tab hp ha).mono ?_
  rintro e x ⟨rfl, rfl⟩
  rw [hL]
  exact ⟨rfl, Strs.new _ _, belA _⟩
theorem index_p (g c : Nat) (L : List (List UInt8)) (t : ByteArray) (w : World) (h : Strs w g L) (hn : L.length ≤ 1000) : Calls Tryd.prog 43 #[.slice (some ⟨g, 0, none⟩) L.length c, .string t] w fun e w' => e = .returned (.int .i64 (Lib.idxOfS (L.map mk) t)) ∧ Below w.heap.size w w' := by
  refine (Tryd.slices_Index_string g 0 L.length c (L.map mk) t w (by simp) (by omega) (fun j hj => ?_)).mono ?_
  · rw [List.length_map] at hj
    rw [Nat.zero_add, List.getD_eq_getElem?_getD, List.getElem?_map, List.getElem?_eq_getElem hj]
    exact h.2 j _ (List.getElem?_eq_getElem hj)
  · rintro e x ⟨rfl, rfl⟩
    refine ⟨?_, Below.refl _ _⟩
    rw [List.take_of_length_le (by simp)]
set_option maxRecDepth 100000 in
set_option maxHeartbeats 1000000 in
theorem word_any (p : List UInt8) (L : List (List UInt8)) (hL : Lib.fields p = L) (hp : p.length ≤ 200) (ha : p.all (fun b => b.toNat < 128) = true) (hn : L.length ≤ 1000) (f : Int) (hf : f = 0 ∨ f = 6) (k : Nat) (t : List UInt8) (hk : L[k]? = some t) (w : World) (h : FW w) :
    Calls Tryd.prog 72 #[.string (mk p), .int .i64 f, .int .i64 (f + k)] w fun e w' => e = .returned (.string (mk t)) ∧ Below w.heap.size w w' := by
  have HF := hide (fields_p p L hL hp ha w h)
  have hkl : k < L.length := (List.getElem?_eq_some_iff.1 hk).1
  have h1 : ¬ f + (k : Int) < f := by omega
  have h2 : IntKind.i64.wrap (f + (k : Int) - f) = k := by rw [IntKind.wrap_i64]; omega
  have h3 : (k : Int) < L.length := by omega
  have h4 : ¬ (L.length : Int) ≤ k := by omega
  obtain ⟨n, hnn⟩ : ∃ n, f + (k : Int) = n := ⟨_, rfl⟩
  rw [hnn] at h1 h2 ⊢
  obtain ⟨tb, htb⟩ : ∃ tb, mk t = tb := ⟨_, rfl⟩
  rw [htb]
  have HT := hide htb
  have HK := hide hk
  clear hL hp ha hk h hf hnn htb
  go_enter Tryd.func72, Tryd.ntmps72
  go_wp2_with (go_at_call 48; refine HF.out.mono ?_; rintro e x ⟨rfl, hs, hb⟩; have hc := hs.2 k _ HK.out; rw [HT.out] at hc; have HB := hide hb; clear hb hs)
  go_ret
  exact ⟨rfl, HB.out⟩
theorem idx_lt {L : List (List UInt8)} {x : ByteArray} {r : Nat} (h : Lib.idxOfS (L.map mk) x = r) (hn : L.length < 1000) : r < 1000 := by
  have := (idxOfS_lo (L.map mk) x).2
  rw [h, List.length_map] at this
  omega
set_option maxRecDepth 100000 in
set_option maxHeartbeats 1000000 in
theorem repl_any (k i r : Nat) (t1 t2 : List UInt8) (h1 : opsW[k]? = some t1) (h2 : Lib.idxOfS (corW.map mk) (mk t1) = i) (h3 : wroW[i]? = some t2) (h4 : Lib.idxOfS (opsW.map mk) (mk t2) = r) (w : World) (h : FW w) : Calls Tryd.prog 51 #[.int .i64 (6 + (k : Int))] w fun e w' => e = .returned (.int .i64 (6 + (r : Int))) ∧ Below w.heap.size w w' := by
  have HW := hide h
  have H1 := hide h1
  have H2 := hide h2
  have H3 := hide h3
  have H4 := hide h4
  have hr : r < 1000 := idx_lt h4 (by decide)
  clear h h1 h2 h3 h4
  have HFC := hide (fun W hW => fields_p corB corW cor_fields (by decide) (by decide) W hW)
  have HFO := hide (fun W hW => fields_p opsB opsW ops_fields (by decide) (by decide) W hW)
  have HWO := hide (fun W hW => word_any opsB opsW ops_fields (by decide) (by decide) (by decide) 6 (.inr rfl) k t1 H1.out W hW)
  have HWW := hide (fun W hW => by have h := word_any wroB wroW wro_fields (by decide) (by decide) (by decide) 0 (.inl rfl) i t2 H3.out W hW; rw [Int.zero_add] at h; exact h)
  have hw : IntKind.i64.wrap (6 + (r : Int)) = 6 + r := by rw [IntKind.wrap_i64]; omega
  go_enter Tryd.func51, Tryd.ntmps51
  go_wp2_with (first
    | (go_at_call 48; refine (HFC.out _ HW.out).mono ?_; rintro e x1 ⟨rfl, hs, hb⟩; clear HFC; have HS1 := hide hs; have HB1 := hide hb; clear hs hb)
    | (go_at_call 72; refine (HWO.out _ (HW.out.below HB1.out)).mono ?_; rintro e x2 ⟨rfl, hb⟩; clear HWO; have HS2 := hide (HS1.out.below hb); have HB2 := hide (bel_trans HB1.out (hb.mono (Nat.le_refl _))); clear hb HS1)
    | (go_at_call 43; refine (index_p _ _ corW _ _ HS2.out (by decide)).mono ?_; rintro e x3 ⟨rfl, hb⟩; rw [H2.out]; have HB3 := hide (bel_trans HB2.out (hb.mono (Nat.le_refl _))); clear hb HS2)
    | (go_at_call 48; refine (HFO.out _ (HW.out.below HB3.out)).mono ?_; rintro e x4 ⟨rfl, hs, hb⟩; clear HFO; have HS4 := hide hs; have HB4 := hide (bel_trans HB3.out (hb.mono (Nat.le_refl _))); clear hs hb)
    | (go_at_call 72; refine (HWW.out _ (HW.out.below HB4.out)).mono ?_; rintro e x5 ⟨rfl, hb⟩; clear HWW; have HS5 := hide (HS4.out.below hb); have HB5 := hide (bel_trans HB4.out (hb.mono (Nat.le_refl _))); clear hb HS4)
    | (go_at_call 43; refine (index_p _ _ opsW _ _ HS5.out (by decide)).mono ?_; rintro e x6 ⟨rfl, hb⟩; rw [H4.out]; have HB6 := hide (bel_trans HB5.out (hb.mono (Nat.le_refl _))); clear hb HS5))
  go_ret
  exact ⟨rfl, HB6.out⟩
end Go.Proofs.YtlkhiihehaiinaaDoor

/- slices.IndexFunc, ContainsFunc over values with fault's closures; fault.zero. -/
namespace Go.Proofs.YtlkhiihehaiinaaDoor
open Go.RowKit

def fxV (p : V → Bool) : List V → Int
  | [] => -1
  | a :: l => if p a then 0 else if fxV p l < 0 then -1 else fxV p l + 1
theorem fxV_lo (p : V → Bool) : ∀ l : List V, -1 ≤ fxV p l ∧ fxV p l < l.length
  | [] => ⟨by simp [fxV], by simp [fxV]⟩
  | a :: l => by
    have ih := fxV_lo p l
    unfold fxV
    rw [List.length_cons]
    split
    · omega
    · split <;> omega
theorem fxV_hit {p : V → Bool} : ∀ {l : List V} {k : Nat} (hk : k < l.length), p l[k] = true → (∀ j (hj : j < l.length), j < k → p l[j] = false) → fxV p l = k
  | [], k, hk, _, _ => absurd hk (by simp)
  | a :: l, 0, _, hp, _ => by
    have : p a = true := hp
    simp [fxV, this]
  | a :: l, k + 1, hk, hp, hn => by
    have h0 : p a = false := hn 0 (by simp) (by omega)
    have ih := fxV_hit (p := p) (l := l) (k := k) (by simpa using hk) (by simpa using hp) (fun j hj h => by have := hn (j + 1) (by simpa using hj) (by omega); simpa using this)
    unfold fxV
    rw [h0, ih]
    rw [if_neg (by decide), if_neg (by omega)]
    omega
theorem fxV_miss {p : V → Bool} : ∀ {l : List V}, (∀ j (hj : j < l.length), p l[j] = false) → fxV p l = -1
  | [], _ => rfl
  | a :: l, hn => by
    have h0 : p a = false := hn 0 (by simp)
    have ih := fxV_miss (p := p) (l := l) (fun j hj => by have := hn (j + 1) (by simpa using hj); simpa using this)
    unfold fxV
    rw [h0, ih]
    rfl
theorem fxV_any (p : V → Bool) (l : List V) : decide (0 ≤ fxV p l) = l.any p := by
  by_cases h : ∃ k, ∃ hk : k < l.length, p l[k] = true
  · have hx : l.any p = true := by
      obtain ⟨k, hk, hp⟩ := h
      exact List.any_eq_true.2 ⟨l[k], List.getElem_mem hk, hp⟩
    rw [hx]
    apply decide_eq_true
    induction l with
    | nil => simp at hx
    | cons a l ih =>
      unfold fxV
      split
      · omega
      · rename_i ha
        have h2 : l.any p = true := by simpa [ha] using hx
        have h3 := ih (by obtain ⟨x, hx1, hx2⟩ := List.any_eq_true.1 h2; obtain ⟨k, hk, rfl⟩ := List.getElem_of_mem hx1; exact ⟨k, hk, hx2⟩) h2
        rw [if_neg (by omega)]
        omega
  · have hn : ∀ j (hj : j < l.length), p l[j] = false := fun j hj => by
      cases hp : p l[j] with
      | false => rfl
      | true => exact absurd ⟨j, hj, hp⟩ h
    rw [fxV_miss hn]
    have : l.any p = false := by
      rw [List.any_eq_false]
      intro x hx
      obtain ⟨k, hk, rfl⟩ := List.getElem_of_mem hx
      rw [hn k hk]; decide
    rw [this]
    decide
def isN (a : V) : Bool := a.kind == 0
def noN (a : V) : Bool := a.kind != 0

set_option maxRecDepth 100000 in
theorem isnclo_any (a : V) (w : World) : Calls Tryd.prog 52 #[.agg #[.int .i64 a.kind, .int .i64 a.num, .string a.text]] w fun e w' => e = .returned (.bool (isN a)) ∧ Below w.heap.size w w' := by
  go_enter Tryd.func52, Tryd.ntmps52
  go_wp2
  go_ret
  exact ⟨rfl, belA _⟩
set_option maxRecDepth 100000 in
set_option maxHeartbeats 1000000 in
theorem isnidx_any (q : VL) (w : World) (hin : q.In w) :
    Calls Tryd.prog 73 #[.slice q.h.ao q.l.length q.h.cap, .func (.func 52) #[] #[]] w
      fun e w' => e = .returned (.int .i64 (fxV isN q.l)) ∧ Below w.heap.size w w' := by
  have hn := hin.1.len
  have HQ := hide hin
  clear hin
  go_enter Tryd.func73, Tryd.ntmps73
  go_wp2
  go_loopw [5, 8] (fun _ i wr => ∃ k : Nat, k ≤ q.l.length ∧ i = .int .i64 k ∧ (∀ j (hj : j < q.l.length), j < k → isN q.l[j] = false) ∧ Below w.heap.size w wr) (fun _ i _ => q.l.length - (intOf i).toNat)
  case atStart => exact ⟨0, Nat.zero_le _, rfl, fun j _ h => absurd h (by omega), Below.refl _ _⟩
  case round =>
    obtain ⟨k, hk, rfl, hno, hbw⟩ := hrel
    have HN := hide hno
    have HB := hide hbw
    have hin' := HQ.out.mono hbw
    clear hno hbw
    by_cases hlt : k < q.l.length
    · have hlti : (k : Int) < q.l.length := by omega
      have hix := hin'.1.ix hlt Tryd.underlying28 szval
      obtain ⟨c0, c1, c2⟩ := val_at hin'.1 hlt
      have hbb := hin'.1.blk (by omega)
      obtain ⟨a, ha⟩ : ∃ a, q.l[k] = a := ⟨_, rfl⟩
      have HA := hide ha
      rw [ha] at c0 c1 c2
      clear ha hin'
      cases hp : isN a
      all_goals
        have HP := hide hp
        clear hp
        go_wp2_with (go_at_call 52; refine (isnclo_any a _).mono ?_; rintro e w1 ⟨rfl, hb1⟩; rw [HP.out])
      · go_roundw
        case rel =>
          refine ⟨k + 1, by omega, by go_num, fun j hj h => ?_, HB.out.trans (hb1.mono HB.out.size)⟩
          by_cases e : j = k
          · subst e; rw [HA.out]; exact HP.out
          · exact HN.out j hj (by omega)
        case measure => simp [intOf]; omega
      · go_ret
        exact ⟨ret1 (fxV_hit hlt (by rw [HA.out]; exact HP.out) (fun j hj h => HN.out j hj h)).symm, HB.out.trans (hb1.mono HB.out.size)⟩
    · have hlti : ¬ (k : Int) < q.l.length := by omega
      go_wp2
      go_ret
      exact ⟨ret1 (fxV_miss (fun j hj => HN.out j hj (by omega))).symm, HB.out⟩

set_option maxRecDepth 100000 in
theorem nonclo_any (a : V) (w : World) : Calls Tryd.prog 74 #[.agg #[.int .i64 a.kind, .int .i64 a.num, .string a.text]] w fun e w' => e = .returned (.bool (noN a)) ∧ Below w.heap.size w w' := by
  go_enter Tryd.func74, Tryd.ntmps74
  go_wp2
  go_ret
  exact ⟨rfl, belA _⟩
set_option maxRecDepth 100000 in
set_option maxHeartbeats 1000000 in
theorem nonidx_any (q : VL) (w : World) (hin : q.In w) :
    Calls Tryd.prog 73 #[.slice q.h.ao q.l.length q.h.cap, .func (.func 74) #[] #[]] w
      fun e w' => e = .returned (.int .i64 (fxV noN q.l)) ∧ Below w.heap.size w w' := by
  have hn := hin.1.len
  have HQ := hide hin
  clear hin
  go_enter Tryd.func73, Tryd.ntmps73
  go_wp2
  go_loopw [5, 8] (fun _ i wr => ∃ k : Nat, k ≤ q.l.length ∧ i = .int .i64 k ∧ (∀ j (hj : j < q.l.length), j < k → noN q.l[j] = false) ∧ Below w.heap.size w wr) (fun _ i _ => q.l.length - (intOf i).toNat)
  case atStart => exact ⟨0, Nat.zero_le _, rfl, fun j _ h => absurd h (by omega), Below.refl _ _⟩
  case round =>
    obtain ⟨k, hk, rfl, hno, hbw⟩ := hrel
    have HN := hide hno
    have HB := hide hbw
    have hin' := HQ.out.mono hbw
    clear hno hbw
    by_cases hlt : k < q.l.length
    · have hlti : (k : Int) < q.l.length := by omega
      have hix := hin'.1.ix hlt Tryd.underlying28 szval
      obtain ⟨c0, c1, c2⟩ := val_at hin'.1 hlt
      have hbb := hin'.1.blk (by omega)
      obtain ⟨a, ha⟩ : ∃ a, q.l[k] = a := ⟨_, rfl⟩
      have HA := hide ha
      rw [ha] at c0 c1 c2
      clear ha hin'
      cases hp : noN a
      all_goals
        have HP := hide hp
        clear hp
        go_wp2_with (go_at_call 74; refine (nonclo_any a _).mono ?_; rintro e w1 ⟨rfl, hb1⟩; rw [HP.out])
      · go_roundw
        case rel =>
          refine ⟨k + 1, by omega, by go_num, fun j hj h => ?_, HB.out.trans (hb1.mono HB.out.size)⟩
          by_cases e : j = k
          · subst e; rw [HA.out]; exact HP.out
          · exact HN.out j hj (by omega)
        case measure => simp [intOf]; omega
      · go_ret
        exact ⟨ret1 (fxV_hit hlt (by rw [HA.out]; exact HP.out) (fun j hj h => HN.out j hj h)).symm, HB.out.trans (hb1.mono HB.out.size)⟩
    · have hlti : ¬ (k : Int) < q.l.length := by omega
      go_wp2
      go_ret
      exact ⟨ret1 (fxV_miss (fun j hj => HN.out j hj (by omega))).symm, HB.out⟩

set_option maxRecDepth 100000 in
theorem isncont_any (q : VL) (w : World) (hin : q.In w) :
    Calls Tryd.prog 55 #[.slice q.h.ao q.l.length q.h.cap, .func (.func 52) #[] #[]] w
      fun e w' => e = .returned (.bool (q.l.any isN)) ∧ Below w.heap.size w w' := by
  have HA := hide (fxV_any isN q.l)
  go_enter Tryd.func55, Tryd.ntmps55
  go_wp2_with (go_at_call 73; refine (isnidx_any q _ hin).mono ?_; rintro e w1 ⟨rfl, hb1⟩)
  go_ret
  exact ⟨by rw [← HA.out]; rfl, hb1⟩
end Go.Proofs.YtlkhiihehaiinaaDoor

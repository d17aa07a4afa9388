/- querylablaw36.FaultNames holds. -/
import Derived.Test.YtlkhiihehaiinaaDoorFAwk
import Derived.Test.YtlkhiihehaiinaaDoorFLst
namespace Go.Proofs.YtlkhiihehaiinaaDoor
open Go.RowKit

theorem texts_apart : ((List.range 180).all fun i => (List.range i).all fun j => !(textsL.getD j [] == textsL.getD i [])) = true := by kernel_rfl
theorem back_at {k : Nat} (hk : k < 180) : findAt (textAt ((k : Int) + 1)) + 1 = (k : Int) + 1 := by
  refine fnd_some hk (fun j hj e => ?_) rfl
  obtain ⟨t, ht, he⟩ := text_at hk
  obtain ⟨s, hs, hse⟩ := text_at (k := j) (by omega)
  have h1 := List.all_eq_true.1 (List.all_eq_true.1 texts_apart k (List.mem_range.2 hk)) j (List.mem_range.2 hj)
  rw [List.getD_eq_getElem?_getD, List.getD_eq_getElem?_getD, hs, ht] at h1
  rw [he, hse] at e
  rw [mk_inj e] at h1
  simp at h1

/-- Strings that lie in a block. -/
def StrB (x : World) (g : Nat) (l : List ByteArray) : Prop := g < x.heap.size ∧ ∀ j s, l[j]? = some s → x.cell? ⟨g, j, none⟩ = some (.string s)
theorem StrB.below {x y : World} {g : Nat} {l : List ByteArray} (h : StrB x g l) (hb : Below x.heap.size x y) : StrB y g l := ⟨Nat.lt_of_lt_of_le h.1 hb.size, fun j s hj => by rw [hb.cell (p := ⟨g, j, none⟩) h.1]; exact h.2 j s hj⟩
theorem StrB.new (w : World) (l : List ByteArray) : StrB (w.alloc (.cells (l.map Value.string).toArray 9)) w.heap.size l := ⟨by simp, fun j s hj => by
  rw [World.cell?_alloc_at _ _ _ _ rfl, List.getElem?_toArray, List.getElem?_map, hj]; rfl⟩
theorem bgrown {w x y : World} (h : Below w.heap.size w x) (hg : x.grownBy y (some w.heap.size)) : Below w.heap.size w y := h.grown hg h.size (fun k hk => by injection hk with hk; omega)
theorem bmore {w x y : World} (h : Below w.heap.size w x) (hb : Below x.heap.size x y) : Below w.heap.size w y := bel_trans h (hb.mono (Nat.le_refl _))

theorem il_grownO {w w' : World} {r : Option Nat} {x : IL} (h : x.In w) (hg : w.grownBy w' r) (hne : 0 < x.l.length → ∀ g, r = some g → x.h.b ≠ g) : x.In w' := by
  cases r with
  | none => exact ⟨row_grown h.1 (hg.but (some w.heap.size)) (fun hp => by have := h.1.blk hp; omega), h.2⟩
  | some g => exact ⟨row_grown h.1 hg (fun hp => hne hp g rfl), h.2⟩
theorem wpList_append_il {w : World} {ops : Array Oper} {rest : List Oper} {o : Oper} {a : Act} {Q : Exit → Act → World → Prop} (hgd : o.guard = none) (s x : Operand)
    (ho : o.op = .call { callee := .builtin .append, args := #[s, x], argTypes := #[34, 34] }) (i0 : TypeInfo) (hi : Tryd.prog.info? 3 = some i0) (hz0 : i0.zero = some (.int .i64 0)) (hz1 : i0.size = 1) (hz2 : i0.bytes = 8)
    (base : Nat) (v : Value) (n : Nat) (xs : List Int) (hs : a.eval s = v) (hown : w.ownsRow base 3 1 v n (xs.flatMap icells)) (r : IL) (hx : a.eval x = .slice r.h.ao r.l.length r.h.cap) (hr : r.In w) (hrn : r.l = [] → r.h = nilHd)
    (hsz : n + r.l.length ≤ 100000) (hbase : base ≤ w.heap.size) (h : ∀ v' w', w'.ownsRow base 3 1 v' (n + r.l.length) ((xs ++ r.l).flatMap icells) → w.grownBy w' v.ownBlock → wpList Tryd.prog ops Q rest (a.put o.dst v') w') : wpList Tryd.prog ops Q (o :: rest) a w := by
  obtain ⟨⟨ao, cap⟩, l⟩ := r
  cases l with
  | nil =>
    have h0 := hrn rfl
    injection h0 with h1 h2
    subst h1 h2
    refine wpList_append_zero hgd s x 34 ho base 3 i0 1 Tryd.underlying34 hi v n _ hs hown none 0 hx (h v w ?_ ⟨rfl, rfl, rfl, Nat.le_refl _, fun _ _ _ => rfl⟩)
    simpa using hown
  | cons y l =>
    have h0 := (hr.1.2.2.1 (by simp)).1
    dsimp only at h0
    obtain ⟨ad, had⟩ : ∃ ad : Addr, ao = some ad := ⟨_, h0⟩
    subst had
    injection h0 with h0
    dsimp only at hx hsz h
    rw [h0] at hx hr
    refine wpList_append_own w hgd s x 34 ho base 3 i0 (.int .i64 0) 1 8 Tryd.underlying34 hi hz0 hz1 hz2 rfl (by decide) v n _ hs hown _ (y :: l).length cap ((y :: l).flatMap icells) hx (by rw [icells_len]; omega) (il_cells2 hr) (icells_one _) (by unfold maxLen; omega) (by omega) hbase ?_
    intro v' w' h1 h2 _
    exact h v' w' (by rw [List.flatMap_append]; exact h1) h2

set_option maxRecDepth 100000 in
set_option maxHeartbeats 8000000 in
theorem names_walk (t l : IL) (id : Int) (text : ByteArray) (w : World) (ht : t.In w) (hl : l.In w) (hid : int64 id) (hw : AW w) : Calls Tryd.prog 4 #[.slice t.h.ao t.l.length t.h.cap, .slice l.h.ao l.l.length l.h.cap, .int .i64 id, .string text] w fun e w' => e = .returned (.bool true) ∧ Below w.heap.size w w' := by
  obtain ⟨i0, hi, hz0, hz1, hz2⟩ := info_parts info3
  have HI := hide (And.intro hi (And.intro hz0 (And.intro hz1 hz2)))
  clear hi hz0 hz1 hz2
  have hln := hl.1.len
  have HT := hide ht
  have HL := hide hl
  have HW := hide hw
  have HID := hide hid
  clear ht hl hw hid
  by_cases h4 : (400 : Int) < l.l.length
  · go_enter Tryd.func4, Tryd.ntmps4
    go_wp2_with (go_at_call 12; refine (awake_any _ HW.out).mono ?_; rintro e x ⟨rfl, hb⟩)
    go_ret
    exact ⟨rfl, hb⟩
  by_cases h1 : (100 : Int) < text.size
  · go_enter Tryd.func4, Tryd.ntmps4
    go_wp2_with (go_at_call 12; refine (awake_any _ HW.out).mono ?_; rintro e x ⟨rfl, hb⟩)
    go_ret
    exact ⟨rfl, hb⟩
  have hts : text.size ≤ 100 := by omega
  have hl400 : l.l.length ≤ 400 := by omega
  go_enter Tryd.func4, Tryd.ntmps4
  go_wp2_with (first
    | (go_at_call 13; refine (fnew_any t _ HT.out).mono ?_; rintro e x1 ⟨L, hL, rfl, htp, hb⟩; have HB1 := hide hb; have HT1 := hide htp; have hkk := fmod_ok (x := rawAt L 0) (n := 180 - 1 + 1) (by omega); obtain ⟨kk, hk180, hkkv⟩ : ∃ kk : Nat, kk < 180 ∧ (1 : Int) + nAt L 0 (180 - 1 + 1) = (kk : Int) + 1 := ⟨(nAt L 0 (180 - 1 + 1)).toNat, by unfold nAt; omega, by unfold nAt; omega⟩; have HKK := hide hkkv; clear hb htp hL hkk hkkv)
    | (go_at_call 15; refine (rcount_any _).mono ?_; rintro e x2 ⟨rfl, hb⟩; have HB2 := hide (bmore HB1.out hb); have HT2 := hide (HT1.out.mono hb); clear hb HB1 HT1)
    | (go_at_call 14; refine (range_any _ w.heap.size 0 L 1 180 HT2.out (by omega) (by omega)).mono ?_; rintro e x3 ⟨rfl, ht3, hg3⟩; rw [HKK.out]; have HB3 := hide (bgrown HB2.out hg3); have HT3 := hide ht3; clear ht3 hg3 HB2 HT2)
    | (go_at_call 15; refine (rcount_any _).mono ?_; rintro e x4 ⟨rfl, hb⟩; have HB4 := hide (bmore HB3.out hb); have HT4 := hide (HT3.out.mono hb); clear hb HB3 HT3))
  have hpa := pos_le L 0
  have HI0 := hide (show IL.In (x4.alloc (.cells #[.int .i64 id, .int .i64 ((kk : Int) + 1), .int .i64 0, .int .i64 181] 3)) ⟨⟨some ⟨x4.heap.size, 0, none⟩, 4⟩, [id, (kk : Int) + 1, 0, 181]⟩ from
    new_il [id, (kk : Int) + 1, 0, 181] (by show 4 ≤ maxLen; decide) (by intro n hn; simp at hn; rcases hn with rfl | rfl | rfl | rfl; exact HID.out; exact ⟨by omega, by omega⟩; exact i64_lit rfl; exact i64_lit rfl))
  have HB5 := hide (bmore HB4.out (belA (.cells #[.int .i64 id, .int .i64 ((kk : Int) + 1), .int .i64 0, .int .i64 181] 3)))
  have HT5 := hide (HT4.out.mono (belA (.cells #[.int .i64 id, .int .i64 ((kk : Int) + 1), .int .i64 0, .int .i64 181] 3)))
  clear HB4 HT4
  generalize x4.heap.size = B1 at *
  go_loopw [43] (fun i wr => ∃ j : Nat, j ≤ 4 ∧ i = .int .i64 j ∧ Hid (Below w.heap.size w wr) ∧ Hid (TapeIn wr w.heap.size L (posAt L 0)) ∧ Hid (IL.In wr ⟨⟨some ⟨B1, 0, none⟩, 4⟩, [id, (kk : Int) + 1, 0, 181]⟩)) (fun i _ => 4 - (intOf i).toNat)
  case atStart => exact ⟨0, by omega, rfl, HB5, HT5, HI0⟩
  case round =>
    clear HB5 HT5 HI0
    obtain ⟨j, hj, rfl, HB, HTP, HIL⟩ := hrel
    by_cases hlt : j < 4
    · have hji : (j : Int) < 4 := by omega
      have hix : ∀ W, (Instr.indexAt 34 (.slice (some ⟨B1, 0, none⟩) 4 4) (.int .i64 j)).run Tryd.prog W = .ok (.pointer (some ⟨B1, j, none⟩)) W := fun W => by simpa [Hd.b, Hd.o] using HIL.out.1.ix (i := j) hlt Tryd.underlying34 szil W
      have c0 := int_at HIL.out.1 (i := j) hlt
      obtain ⟨x, hx⟩ : ∃ x, ([id, (kk : Int) + 1, 0, 181] : List Int)[j]'hlt = x := ⟨_, rfl⟩
      have hx64 : int64 x := by rw [← hx]; exact HIL.out.2 _ (List.getElem_mem _)
      have c1 : wr.cell? ⟨B1, j, none⟩ = some (.int .i64 x) := by rw [← hx]; simpa [Hd.b, Hd.o] using c0
      clear c0 hx
      have HX := hide hx64
      clear hx64
      go_wp2_with (first
        | (go_at_call 16; refine (ftext_any x HX.out _ (HW.out.fw.below HB.out)).mono ?_; rintro e y1 ⟨rfl, hb⟩; have HB1 := hide (bmore HB.out hb); have HT1 := hide (HTP.out.mono hb); have HI1 := hide (HIL.out.mono hb); clear hb)
        | (go_at_call 5; refine (rtext_any x HX.out _).mono ?_; rintro e y2 ⟨rfl, hb⟩; have HB2 := hide (bmore HB1.out hb); have HT2 := hide (HT1.out.mono hb); have HI2 := hide (HI1.out.mono hb); clear hb))
      go_roundw
      case rel => exact ⟨j + 1, by omega, by go_num, HB2, HT2, HI2⟩
      case measure => simp [intOf]; omega
    · have hji : ¬ (j : Int) < 4 := by omega
      clear HIL
      obtain ⟨tk, htk⟩ : ∃ tk, textAt ((kk : Int) + 1) = tk := ⟨_, rfl⟩
      have HRT := hide (fun W => by have h := rtext_any ((kk : Int) + 1) ⟨by omega, by omega⟩ W; rw [htk] at h; exact h)
      have HFT := hide (fun W (h : FW W) => by have h := ftext_any ((kk : Int) + 1) ⟨by omega, by omega⟩ W h; rw [htk] at h; exact h)
      have HBK := hide (by have h := back_at hk180; rw [htk] at h; exact h : findAt tk + 1 = (kk : Int) + 1)
      have htks : ¬ 9223372036854775807 < tk.size + 1 := by have := text_short (n := (kk : Int) + 1) ⟨by omega, by omega⟩; rw [htk] at this; omega
      clear htk
      go_wp2_with (first
        | (go_at_call 5; refine (HRT.out _).mono ?_; rintro e y1 ⟨rfl, hb⟩; have HB1 := hide (bmore HB.out hb); have HT1 := hide (HTP.out.mono hb); clear hb HB HTP)
        | (go_at_call 5; refine (HRT.out _).mono ?_; rintro e y2 ⟨rfl, hb⟩; have HB2 := hide (bmore HB1.out hb); have HT2 := hide (HT1.out.mono hb); clear hb HB1 HT1))
      have HS3 := hide (StrB.new y2 [text, tk, tk ++ ⟨#[32]⟩, ⟨#[]⟩])
      have HB3 := hide (bmore HB2.out (belA (.cells #[.string text, .string tk, .string (tk ++ ⟨#[32]⟩), .string ⟨#[]⟩] 9)))
      have HT3 := hide (HT2.out.mono (belA (.cells #[.string text, .string tk, .string (tk ++ ⟨#[32]⟩), .string ⟨#[]⟩] 9)))
      clear HB2 HT2
      generalize y2.heap.size = B2 at *
      go_loopw [61] (fun i wr => ∃ j : Nat, j ≤ 4 ∧ i = .int .i64 j ∧ Hid (Below w.heap.size w wr) ∧ Hid (TapeIn wr w.heap.size L (posAt L 0)) ∧ Hid (StrB wr B2 [text, tk, tk ++ ⟨#[32]⟩, ⟨#[]⟩])) (fun i _ => 4 - (intOf i).toNat)
      case atStart => exact ⟨0, by omega, rfl, HB3, HT3, HS3⟩
      case round =>
        clear HB3 HT3 HS3
        obtain ⟨j, hj, rfl, HB, HTP, HSB⟩ := hrel
        by_cases hlt : j < 4
        · have hji : (j : Int) < 4 := by omega
          obtain ⟨st, hst⟩ : ∃ st, ([text, tk, tk ++ ⟨#[32]⟩, ⟨#[]⟩] : List ByteArray)[j]? = some st := ⟨_, List.getElem?_eq_getElem hlt⟩
          have c0 := HSB.out.2 j st hst
          have hbl := HSB.out.1
          clear hst
          go_wp2_with (first
            | (go_at_call 17; refine (ffind_any st _ (HW.out.fw.below HB.out)).mono ?_; rintro e y3 ⟨rfl, hb⟩; have HB1 := hide (bmore HB.out hb); have HT1 := hide (HTP.out.mono hb); have HS1 := hide (HSB.out.below hb); clear hb)
            | (go_at_call 18; refine (rfind_any st _).mono ?_; rintro e y4 ⟨rfl, hb⟩; have HB2 := hide (bmore HB1.out hb); have HT2 := hide (HT1.out.mono hb); have HS2 := hide (HS1.out.below hb); clear hb))
          go_roundw
          case rel => exact ⟨j + 1, by omega, by go_num, HB2, HT2, HS2⟩
          case measure => simp [intOf]; omega
        · have hji : ¬ (j : Int) < 4 := by omega
          clear HSB
          go_wp2_with (first
            | (go_at_call 16; refine (HFT.out _ (HW.out.fw.below HB.out)).mono ?_; rintro e z1 ⟨rfl, hb⟩; have HB1 := hide (bmore HB.out hb); have HT1 := hide (HTP.out.mono hb); clear hb)
            | (go_at_call 17; refine (ffind_any tk _ (HW.out.fw.below HB1.out)).mono ?_; rintro e z2 ⟨rfl, hb⟩; rw [HBK.out]; have HB2 := hide (bmore HB1.out hb); have HT2 := hide (HT1.out.mono hb); clear hb)
            | (go_at_call 19; refine (faults_any _ w.heap.size (posAt L 0) L HT2.out (by omega) HT2.out.lt).mono ?_; rintro e z3 ⟨v3, on, a3, rfl, hil, hfl, hon, ht3, ha3, hg3⟩; obtain ⟨r, hv3, hrl, hrin, hrb, hrn⟩ := hil; subst hv3 hrl; have HB3 := hide (bgrown HB2.out hg3); have HT3 := hide ht3; have HR := hide hrin; have HRB := hide hrb; have HRN := hide hrn; have HFL := hide hfl; have hz3 := hg3.size; clear hrin hrb hrn hfl ht3 hg3)
            | (at_builtin; first
               | (refine wpList_append_il rfl _ _ rfl i0 HI.out.1 HI.out.2.1 HI.out.2.2.1 HI.out.2.2.2 z3.heap.size (.slice (some ⟨z3.heap.size, 0, none⟩) 0 0) 0 [] rfl ⟨rfl, .inr ⟨z3.heap.size, 0, #[], rfl, Nat.le_refl _, heap_alloc_new z3 _, Nat.le_refl _, by decide, rfl, rfl⟩⟩ r rfl (HR.out.mono (belA _)) HRN.out (by omega) (by simp) ?_; intro v4 z4 hown4 hg4; have hb4 := ((belA (.cells #[] 3)).mono (Nat.le_refl z3.heap.size)).grown hg4 (by simp) (fun k hk => by have hk2 : some z3.heap.size = some k := hk; injection hk2 with hk3; omega); have HB4 := hide (bmore HB3.out hb4); have HT4 := hide (HT3.out.mono hb4); have HR4 := hide (HR.out.mono hb4); have HO4 := hide hown4; have hz4 := hb4.size; clear hb4 hown4 hg4 HT3)
               | (refine wpList_append_own _ rfl _ _ 34 rfl z3.heap.size 3 i0 (.int .i64 0) 1 8 Tryd.underlying34 HI.out.1 HI.out.2.1 HI.out.2.2.1 HI.out.2.2.2 rfl (by decide) _ _ _ rfl (HO5.out.alloc _) ⟨z5.heap.size, 0, none⟩ 1 1 [.int .i64 mv] rfl rfl (new_cells (l := [_])) one_int (by unfold maxLen; omega) (by omega) (by simp; omega) ?_; intro v6 z6 hown6 hg6 _; have hb6 : Below z3.heap.size z5 z6 := ((belA (.cells #[.int .i64 mv] 3)).mono hz5).grown hg6 (by simp; omega) (fun k hk => (HO5.out.lt _ hk).1); have HB6 := hide (HB5.out.trans (hb6.mono HB3.out.size)); have HR6 := hide (il_grownO (HR5.out.mono (belA (.cells #[.int .i64 mv] 3))) hg6 (fun hp g hk => by have h1 := (HO5.out.lt _ hk).1; have h2 := HR.out.1.blk hp; omega)); have HO6 := hide hown6; clear hown6 hg6 hb6))
            | (go_at_call 14; refine (range_any _ w.heap.size (a3) L 0 181 HT4.out (by omega) (by omega)).mono ?_; rintro e z5 ⟨rfl, ht5, hg5⟩; have hmok := fmod_ok (x := rawAt L (a3)) (n := 181 - 0 + 1) (by omega); obtain ⟨mv, hmv⟩ : ∃ mv : Int, 0 + nAt L (a3) (181 - 0 + 1) = mv := ⟨_, rfl⟩; have HM := hide (show int64 mv from by rw [← hmv]; unfold nAt; unfold int64; omega); rw [hmv]; have HB5 := hide (bgrown HB4.out hg5); have HR5 := hide (il_grown HR4.out hg5 (fun hp => by have := HRB.out hp; have := HT2.out.lt; omega)); have HO5 := hide (HO4.out.kept hg5 (.inr (fun e => by have := (HO4.out.lt _ e).1; have := HT2.out.lt; omega))); have hz5 := Nat.le_trans hz4 hg5.size; have hz5r : z3.heap.size ≤ z5.heap.size := hz5; clear ht5 hg5 hmok hmv HT4 HR4))
          obtain ⟨rm, hv6, hrm, hrmin⟩ := ilis_own (l := r.l ++ [mv]) (by have := HO6.out; rw [List.flatMap_append]; exact this) (by intro n hn; rcases List.mem_append.1 hn with h | h; exact HR5.out.2 n h; simp at h; subst h; exact HM.out)
          subst hv6
          have HRM := hide hrmin
          clear hrm hrmin HO6 HO5 HT2 HRB HRN HM
          have HLI := hide (HL.out.mono HB6.out)
          have HWI := hide (HW.out.below HB6.out)
          obtain ⟨bl, hbl⟩ : ∃ bl, validB l.l = bl := ⟨_, rfl⟩
          obtain ⟨bm, hbm⟩ : ∃ bm, validB rm.l = bm := ⟨_, rfl⟩
          have HV1 := hide (fun (W : World) (h : Below z6.heap.size z6 W) => by have := fvalid_any l W (HLI.out.mono h) (HWI.out.below h).fw; rw [hbl] at this; exact this)
          have HV2 := hide (fun (W : World) (h : Below z6.heap.size z6 W) => by have := rvalid_any l W (HLI.out.mono h); rw [hbl] at this; exact this)
          have HV3 := hide (fun (W : World) (h : Below z6.heap.size z6 W) => by have := fvalid_any r W (HR6.out.mono h) (HWI.out.below h).fw; rw [HFL.out.valid] at this; exact this)
          have HV4 := hide (fun (W : World) (h : Below z6.heap.size z6 W) => by have := fvalid_any rm W (HRM.out.mono h) (HWI.out.below h).fw; rw [hbm] at this; exact this)
          have HV5 := hide (fun (W : World) (h : Below z6.heap.size z6 W) => by have := rvalid_any rm W (HRM.out.mono h); rw [hbm] at this; exact this)
          have HB0 := hide (Below.refl z6.heap.size z6)
          clear hbl hbm
          go_wp2_with (first
            | (go_at_call 20; refine (HV1.out _ HB0.out).mono ?_; rintro e q1 ⟨rfl, hb⟩; have HQ1 := hide (bel_trans HB0.out hb); clear hb HV1)
            | (go_at_call 21; refine (HV2.out _ HQ1.out).mono ?_; rintro e q2 ⟨rfl, hb⟩; have HQ2 := hide (bel_trans HQ1.out hb); clear hb HV2)
            | (go_at_call 20; refine (HV3.out _ HQ2.out).mono ?_; rintro e q3 ⟨rfl, hb⟩; have HQ3 := hide (bel_trans HQ2.out hb); clear hb HV3)
            | (go_at_call 20; refine (HV4.out _ HQ3.out).mono ?_; rintro e q4 ⟨rfl, hb⟩; have HQ4 := hide (bel_trans HQ3.out hb); clear hb HV4)
            | (go_at_call 21; refine (HV5.out _ HQ4.out).mono ?_; rintro e q5 ⟨rfl, hb⟩; have HQ5 := hide (bel_trans HQ4.out hb); clear hb HV5)
            | (go_at_call 12; refine (awake_any _ (HWI.out.below HQ5.out)).mono ?_; rintro e q6 ⟨rfl, hb⟩))
          go_ret
          exact ⟨rfl, bmore (bmore HB6.out HQ5.out) hb⟩
end Go.Proofs.YtlkhiihehaiinaaDoor

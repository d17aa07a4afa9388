/- fault.on at any list that is not empty. -/
import Derived.Test.YtlkhiihehaiinaaDoorFOn
namespace Go.Proofs.YtlkhiihehaiinaaDoor
open Go.RowKit

theorem texts_strs {x : World} {g : Nat} (h : ∀ j s, (textsL.map mk)[j]? = some s → x.cell? ⟨g, j, none⟩ = some (.string s)) (hg : g < x.heap.size) : Strs x g textsL := ⟨hg, fun j s hj => h j _ (by rw [List.getElem?_map, hj]; rfl)⟩
theorem text_at {k : Nat} (hk : k < 180) : ∃ t, textsL[k]? = some t ∧ textAt ((k : Int) + 1) = mk t := by
  have hkl : k < textsL.length := by rw [texts_len]; exact hk
  refine ⟨_, List.getElem?_eq_getElem hkl, ?_⟩
  unfold textAt
  rw [if_pos (by omega), show ((k : Int) + 1 - 1).toNat = k by omega, List.getD_eq_getElem?_getD, List.getElem?_eq_getElem hkl]
  rfl
theorem tx_inv {g : Nat} {w x : World} {m n : Nat} {F : Nat → Bool} {l : List Int} {a : Int} (h : OnR w x g m n F (hitS l) (anyS l)) (hn : ¬ (1 ≤ a ∧ a ≤ 180)) : OnR w x g m (n + 1) F (hitS (l ++ [a])) (anyS (l ++ [a])) := by
  have e1 : hitS (l ++ [a]) = hitS l := by rw [hitS_snoc]; funext s; rw [decide_eq_false hn, Bool.false_and, Bool.or_false]
  have e2 : anyS (l ++ [a]) = anyS l := by rw [anyS_snoc, decide_eq_false hn, Bool.or_false]
  rw [e1, e2]
  exact ⟨h.bel, h.sw, h.tx.more, h.gm, h.lo⟩

set_option maxRecDepth 100000 in
theorem fields_fam (w : World) (h : FW w) : Calls Tryd.prog 48 #[.string (mk famB)] w fun e w' => e = .returned (.slice (some ⟨w.heap.size, 0, none⟩) 5 5) ∧ Strs w' w.heap.size famW ∧ Below w.heap.size w w' := by
  refine (fields_mk famB w h.tab (by decide) (by decide)).mono ?_
  rintro e x ⟨rfl, rfl⟩
  rw [fam_fields]
  exact ⟨rfl, Strs.new _ _, belA _⟩
set_option maxRecDepth 100000 in
theorem fields_ops (w : World) (h : FW w) : Calls Tryd.prog 48 #[.string (mk opsB)] w fun e w' => e = .returned (.slice (some ⟨w.heap.size, 0, none⟩) 23 23) ∧ Strs w' w.heap.size opsW ∧ Below w.heap.size w w' := by
  refine (fields_mk opsB w h.tab (by decide) (by decide)).mono ?_
  rintro e x ⟨rfl, rfl⟩
  rw [ops_fields]
  exact ⟨rfl, Strs.new _ _, belA _⟩
/-- In the second loop. -/
structure OnQ (w x : World) (g m : Nat) (F : Nat → Bool) (S : ByteArray → Bool) (any : Bool) : Prop where
  bel : Below w.heap.size w x
  sw : Sw x g m F
  tx : Texts x m S any
  gm : g ≠ m
  lo : w.heap.size ≤ g ∧ w.heap.size ≤ m
theorem OnQ.call {w x y : World} {g m : Nat} {F : Nat → Bool} {S : ByteArray → Bool} {any : Bool} (h : OnQ w x g m F S any) (hb : Below x.heap.size x y) : OnQ w y g m F S any := ⟨bel_trans h.bel (hb.mono (Nat.le_refl _)), h.sw.below hb, h.tx.below hb, h.gm, h.lo⟩
theorem OnQ.set {w x y : World} {g m : Nat} {F G : Nat → Bool} {S : ByteArray → Bool} {any : Bool} (h : OnQ w x g m F S any) (hs : Sw y g m G) (hg : x.grownBy y (some g)) : OnQ w y g m G S any :=
  ⟨h.bel.grown hg h.bel.size (fun j hj => by injection hj with hj; have := h.lo.1; omega), hs, h.tx.grown hg (by simp; exact fun e => h.gm e.symm), h.gm, h.lo⟩
theorem ix_fam (g f : Nat) (hf : f < 5) : ∀ U, (Instr.indexAt 73 (.pointer (some ⟨g, 1, none⟩)) (.int .i64 f)).run Tryd.prog U = .ok (.pointer (some ⟨g, 1 + f * 29, none⟩)) U := by
  intro U
  have h1 : Tryd.prog.arrayLen 73 = 5 := by kernel_rfl
  have h2 : Tryd.prog.elem 73 = 72 := by kernel_rfl
  have h3 : (Tryd.prog.info? 72).map (·.size) = some 29 := by kernel_rfl
  obtain ⟨j, hj, hsz⟩ := Option.map_eq_some_iff.1 h3
  have h := run_indexAt_array (P := Tryd.prog) U 73 ⟨g, 1, none⟩ .i64 f (by rw [h1, h2]; kernel_rfl)
  rw [h, h1, h2, if_pos ⟨by omega, by omega⟩]
  simp [sizeOf, typeInfo, hj, hsz, Addr.add_lit]
theorem ix_op (g o r : Nat) (hr : r < 29) : ∀ U, (Instr.indexAt 72 (.pointer (some ⟨g, o, none⟩)) (.int .i64 r)).run Tryd.prog U = .ok (.pointer (some ⟨g, o + r, none⟩)) U := by
  intro U
  have h1 : Tryd.prog.arrayLen 72 = 29 := by kernel_rfl
  have h2 : Tryd.prog.elem 72 = 4 := by kernel_rfl
  have h3 : (Tryd.prog.info? 4).map (·.size) = some 1 := by kernel_rfl
  obtain ⟨j, hj, hsz⟩ := Option.map_eq_some_iff.1 h3
  have h := run_indexAt_array (P := Tryd.prog) U 72 ⟨g, o, none⟩ .i64 r (by rw [h1, h2]; kernel_rfl)
  rw [h, h1, h2, if_pos ⟨by omega, by omega⟩]
  simp [sizeOf, typeInfo, hj, hsz, Addr.add_lit]

set_option maxRecDepth 100000 in
set_option maxHeartbeats 8000000 in
theorem on_any (l : IL) (w : World) (hl : l.In w) (h0 : 0 < l.l.length) (hsm : l.l.length ≤ 1000) (hw : FW w) : Calls Tryd.prog 26 #[.slice l.h.ao l.l.length l.h.cap] w fun e w' => (∃ g m, e = .returned (.pointer (some ⟨g, 0, none⟩)) ∧ Sw w' g m (wrongF (hitS l.l)) ∧ Texts w' m (hitS l.l) (anyS l.l)) ∧ Below w.heap.size w w' := by
  have hmm := @run_makeMap Tryd.prog
  have hlen2 : ((l.l.length : Int) == 0) = false := beq_eq_false_iff_ne.2 (by omega)
  have hsz := hl.1.len
  have HL := hide hl
  have HW := hide hw
  have HB0 := hide (belAA (w := w) (.map #[] 0) (.cells (Tryd.zeroCells75.setIfInBounds 0 (.map (some w.heap.size))) 75))
  have HR0 := hide (show OnR w ((w.alloc (.map #[] 0)).alloc (.cells (Tryd.zeroCells75.setIfInBounds 0 (.map (some w.heap.size))) 75)) (w.heap.size + 1) w.heap.size 0 (fun _ => false) (hitS []) (anyS []) from
    ⟨belAA _ _, by have h := Sw.new (w.alloc (.map #[] 0)) w.heap.size; simpa only [World.size_alloc] using h, (TextsN.new w).below (belA _), by omega, by omega, by omega⟩)
  clear hl hw
  go_enter Tryd.func26, Tryd.ntmps26
  go_wp2_with (go_at_call 42; refine (texts_any _ (HW.out.below HB0.out).sh (HW.out.below HB0.out).tab).mono ?_; rintro e x1 ⟨gt, ct, rfl, hg, hc, hb⟩; have HR1 := hide (HR0.out.call hb); have HST := hide (texts_strs hc (World.block_lt_of_cell? x1 ⟨gt, 0, none⟩ (hc 0 _ (by rw [texts_get 0 (by omega)])))); have hgt : w.heap.size + 1 < gt := (by simp at hg; omega); clear hc hb)
  generalize Tryd.zeroCells75.setIfInBounds 0 (.map (some w.heap.size)) = zc at *
  go_loopw [21] (fun i wr => ∃ k : Nat, k ≤ l.l.length ∧ i = .int .i64 k ∧ Hid (OnR w wr (w.heap.size + 1) w.heap.size k (fun _ => false) (hitS (l.l.take k)) (anyS (l.l.take k))) ∧ Hid (Strs wr gt textsL)) (fun i _ => l.l.length - (intOf i).toNat)
  case atStart => exact ⟨0, Nat.zero_le _, rfl, HR1, HST⟩
  case round =>
    clear HR1 HST HR0
    obtain ⟨k, hk, rfl, HR, HST⟩ := hrel
    by_cases hlt : k < l.l.length
    · have hlti : (k : Int) < l.l.length := by omega
      have HIN := hide (HL.out.mono HR.out.bel)
      have hix := HIN.out.1.ix hlt Tryd.underlying34 szil
      have c0 := int_at HIN.out.1 hlt
      have hbk := HIN.out.1.blk hlt
      obtain ⟨n, hnn⟩ : ∃ n, l.l[k] = n := ⟨_, rfl⟩
      rw [hnn] at c0
      have HTK := hide (show l.l.take (k + 1) = l.l.take k ++ [n] from by rw [take_snoc _ hlt, hnn])
      clear hnn
      by_cases h1 : n < 1
      · have HR2 := hide (tx_inv HR.out (a := n) (by omega))
        go_wp2
        go_roundw
        case rel => exact ⟨k + 1, by omega, by go_num, hide (by rw [HTK.out]; exact HR2.out), HST⟩
        case measure => simp [intOf]; omega
      by_cases h2 : (180 : Int) < n
      · have HR2 := hide (tx_inv HR.out (a := n) (by omega))
        go_wp2
        go_roundw
        case rel => exact ⟨k + 1, by omega, by go_num, hide (by rw [HTK.out]; exact HR2.out), HST⟩
        case measure => simp [intOf]; omega
      · obtain ⟨q, hq, rfl⟩ : ∃ q : Nat, q < 180 ∧ n = (q : Int) + 1 := ⟨(n - 1).toNat, by omega, by omega⟩
        obtain ⟨t, ht, hte⟩ := text_at hq
        have hcell := HST.out.2 q t ht
        have hgl := HST.out.1
        have hts := text_short (n := (q : Int) + 1) ⟨by omega, by omega⟩
        rw [hte] at hts
        have HTE := hide hte
        have hkm : k < 1000000 := by omega
        obtain ⟨tx, htx⟩ : ∃ tx, mk t = tx := ⟨_, rfl⟩
        rw [htx] at hcell hts HTE
        clear ht hte htx h1 h2
        go_wp2
        clear hix c0 hbk
        refine on_reg9 (g := w.heap.size + 1) (m := w.heap.size) (gt := gt) (ct := ct) (k := q) (n := k) (tx := tx) hq (by omega) (by unfold maxLen; omega) hkm (by omega) hgl hcell (hide HR.out.sw) (hide HR.out.tx) ?hc ?hend
        case hc => rfl
        case hend =>
          intro y hty hsy hgy
          have HR2 := hide (show OnR w y (w.heap.size + 1) w.heap.size (k + 1) (fun _ => false) (hitS (l.l.take (k + 1))) (anyS (l.l.take (k + 1))) from by
            rw [HTK.out, hitS_snoc, anyS_snoc, decide_eq_true (show (1 : Int) ≤ (q : Int) + 1 ∧ (q : Int) + 1 ≤ 180 from ⟨by omega, by omega⟩)]
            simp only [Bool.true_and, Bool.or_true, HTE.out]
            exact ⟨HR.out.bel.grown hgy HR.out.bel.size (fun j hj => by injection hj with hj; omega), hsy, hty, HR.out.gm, HR.out.lo⟩)
          have HST2 := hide (HST.out.grown hgy (by omega))
          clear hty hsy hgy hcell
          go_wp2
          go_roundw
          case rel => exact ⟨k + 1, by omega, by go_num, HR2, HST2⟩
          case measure => simp [intOf]; omega
    · have hke : k = l.l.length := by omega
      have HR2 := hide (show OnR w wr (w.heap.size + 1) w.heap.size k (fun _ => false) (hitS l.l) (anyS l.l) from by have h := HR.out; rw [hke, List.take_length] at h; rw [hke]; exact h)
      have hlti : ¬ (k : Int) < l.l.length := by omega
      have hkm : k ≤ 1000000 := by omega
      have HQ := hide (show OnQ w wr (w.heap.size + 1) w.heap.size (bitsTo (hitS l.l) (0 * 29)) (hitS l.l) (anyS l.l) from ⟨HR2.out.bel, HR2.out.sw.congr (fun j _ => by unfold bitsTo; rw [decide_eq_false (by omega), Bool.false_and]), HR2.out.tx.texts hkm, HR2.out.gm, HR2.out.lo⟩)
      clear HR HR2 HST hgt
      go_wp2_with (go_at_call 48; refine (fields_fam _ (HW.out.below HQ.out.bel)).mono ?_; rintro e x2 ⟨rfl, hst, hb⟩; have HQ2 := hide (HQ.out.call hb); have HS2 := hide hst; have hl2 := hb.size; clear hst hb)
      have hg2 := HQ.out.sw.lt
      have hm2 := HQ.out.tx.lt
      generalize wr.heap.size = b2 at *
      go_loopw [45] (fun i wr => ∃ f : Nat, f ≤ 5 ∧ i = .int .i64 f ∧ Hid (OnQ w wr (w.heap.size + 1) w.heap.size (bitsTo (hitS l.l) (f * 29)) (hitS l.l) (anyS l.l)) ∧ Hid (Strs wr b2 famW)) (fun i _ => 5 - (intOf i).toNat)
      case atStart => exact ⟨0, by omega, rfl, HQ2, HS2⟩
      case round =>
        clear HQ HQ2 HS2
        obtain ⟨f, hf, rfl, HQ, HSF⟩ := hrel
        by_cases hf5 : f < 5
        · have hfi : (f : Int) < 5 := by omega
          obtain ⟨fw, hfw⟩ : ∃ x, famW[f]? = some x := ⟨_, List.getElem?_eq_getElem (show f < famW.length from hf5)⟩
          have cf := HSF.out.2 f fw hfw
          have hbl := HSF.out.1
          have hfl : fw.length ≤ 20 := of_decide_eq_true (List.all_eq_true.1 words_short.1 fw (List.mem_of_getElem? hfw))
          have HFW := hide hfw
          clear hfw
          go_wp2_with (go_at_call 48; refine (fields_ops _ (HW.out.below HQ.out.bel)).mono ?_; rintro e x3 ⟨rfl, hst, hb⟩; have HQ3 := hide (HQ.out.call hb); have HS3 := hide (HSF.out.below hb); have HO3 := hide hst; clear hst hb)
          have hl3 := HQ3.out.sw.lt
          have hbo := HO3.out.1
          generalize wr.heap.size = b3 at *
          go_loopw [52] (fun i wr => ∃ q : Nat, q ≤ 23 ∧ i = .int .i64 q ∧ Hid (OnQ w wr (w.heap.size + 1) w.heap.size (bitsTo (hitS l.l) (f * 29 + (6 + q))) (hitS l.l) (anyS l.l)) ∧ Hid (Strs wr b2 famW) ∧ Hid (Strs wr b3 opsW)) (fun i _ => 23 - (intOf i).toNat)
          case atStart => exact ⟨0, by omega, rfl, hide (by show OnQ _ _ _ _ (bitsTo _ (f * 29 + 6)) _ _; rw [bits_row]; exact HQ3.out), HS3, HO3⟩
          case round =>
            clear HQ3 HS3 HO3
            obtain ⟨q, hq, rfl, HQ4, HS4, HO4⟩ := hrel
            by_cases hq23 : q < 23
            · have hqi : (q : Int) < 23 := by omega
              obtain ⟨ow, how⟩ : ∃ x, opsW[q]? = some x := ⟨_, List.getElem?_eq_getElem (show q < opsW.length from hq23)⟩
              have co := HO4.out.2 q ow how
              have hbl4 := HO4.out.1
              have hol : ow.length ≤ 20 := of_decide_eq_true (List.all_eq_true.1 words_short.2 ow (List.mem_of_getElem? how))
              have HOW := hide how
              clear how
              obtain ⟨fv, hfv⟩ : ∃ x, mk fw = x := ⟨_, rfl⟩
              obtain ⟨wv, hwv⟩ : ∃ x, mk ow = x := ⟨_, rfl⟩
              rw [hwv] at co
              have hf1 : fv.size ≤ 20 := by rw [← hfv, mk_size]; exact hfl
              have hw1 : wv.size ≤ 20 := by rw [← hwv, mk_size]; exact hol
              have HTX := hide (show fv ++ ⟨#[32]⟩ ++ wv = mk (fw ++ [32] ++ ow) from by rw [← mk_app, ← mk_app, hfv, hwv])
              have hts : (mk (fw ++ [32] ++ ow)).size ≤ maxLen := by rw [mk_size]; simp; unfold maxLen; omega
              obtain ⟨tx, htx⟩ : ∃ tx, mk (fw ++ [32] ++ ow) = tx := ⟨_, rfl⟩
              have HB := hide (bits_step (hitS l.l) f q hq23 HFW.out HOW.out (6 + q) rfl)
              rw [htx] at HTX hts HB
              rw [hfv]
              clear hfv hwv htx
              go_wp2
              clear co
              refine on_reg17 (g := w.heap.size + 1) (m := w.heap.size) (f := f) (q := q) (r := 6 + q) (fv := fv) (wv := wv) (tx := tx) hf5 (by omega) (hide rfl) (by omega) (by omega) hts (by omega) (by omega) HTX (hide HQ4.out.sw) (hide HQ4.out.tx) (ix_fam _ f hf5) (ix_op _ _ (6 + q) (by omega)) ?hc ?hend
              case hc => rfl
              case hend =>
                intro y hsy hgy
                have HQ5 := hide (HQ4.out.set hsy hgy)
                rw [HB.out] at HQ5
                have HS5 := hide (HS4.out.grown hgy (by omega))
                have HO5 := hide (HO4.out.grown hgy (by omega))
                clear hsy hgy
                go_wp2
                go_roundw
                case rel => exact ⟨q + 1, by omega, by go_num, HQ5, HS5, HO5⟩
                case measure => simp [intOf]; omega
            · have hqe : q = 23 := by omega
              have HQ5 := hide (show OnQ w wr (w.heap.size + 1) w.heap.size (bitsTo (hitS l.l) ((f + 1) * 29)) (hitS l.l) (anyS l.l) from by have h := HQ4.out; rw [hqe, show f * 29 + (6 + 23) = (f + 1) * 29 by omega] at h; exact h)
              have hqi : ¬ (q : Int) < 23 := by omega
              clear hqe
              go_wp2
              go_roundw
              case rel => exact ⟨f + 1, by omega, by go_num, HQ5, HS4⟩
              case measure => simp [intOf]; omega
        · have hfe : f = 5 := by omega
          have HF := hide (show Sw wr (w.heap.size + 1) w.heap.size (wrongF (hitS l.l)) ∧ Texts wr w.heap.size (hitS l.l) (anyS l.l) from ⟨HQ.out.sw.congr (fun j hj => by unfold bitsTo; rw [decide_eq_true (by omega), Bool.true_and]), HQ.out.tx⟩)
          have hfi : ¬ (f : Int) < 5 := by omega
          go_wp2
          go_ret
          exact ⟨⟨_, rfl, _, HF.out⟩, HQ.out.bel⟩
end Go.Proofs.YtlkhiihehaiinaaDoor

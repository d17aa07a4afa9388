/- ref36.Text: it answers the program's texts. -/
import Derived.Test.YtlkhiihehaiinaaDoorFSec
import Derived.LoopTactic
import Derived.Deep.RegionHeld3
namespace Go.Proofs.YtlkhiihehaiinaaDoor
open Go.RowKit

structure FT.Ok (t : FT) : Prop where
  f1 : 1 ≤ t.first ∧ t.first + t.cnt ≤ 181
  p1 : 1 ≤ t.parts ∧ t.parts ≤ 6
  l1 : t.places.length ≤ 40 ∧ t.name.length ≤ 40
  all : ∀ k, k < t.cnt → k / t.parts.toNat < t.places.length ∧ (if t.first < 74 then 6 ≤ t.place k ∧ t.place k < 29 else 1 ≤ t.place k ∧ t.place k < 16) ∧ secOk t.name (k % t.parts.toNat) = true ∧ textsL[(t.first - 1).toNat + k]? = some (t.text k) ∧ (t.word k).length ≤ 40
theorem fam_at {t : FT} (h : t ∈ famTs) : t.Ok := by
  have h1 := List.all_eq_true.1 fam_ok t h
  unfold FT.ok at h1
  simp only [Bool.and_eq_true, List.all_eq_true, List.mem_range] at h1
  obtain ⟨⟨⟨h1, h2⟩, h3⟩, h4⟩ := h1
  refine ⟨of_decide_eq_true h1, of_decide_eq_true h2, of_decide_eq_true h3, fun k hk => ?_⟩
  obtain ⟨⟨⟨⟨a, b⟩, c⟩, d⟩, e⟩ := h4 k hk
  refine ⟨of_decide_eq_true a, ?_, c, by simpa using d, of_decide_eq_true e⟩
  by_cases h7 : t.first < 74
  · rw [if_pos h7] at b ⊢; exact of_decide_eq_true b
  · rw [if_neg h7] at b ⊢; exact of_decide_eq_true b
theorem text_in {t : FT} (ht : t ∈ famTs) {k : Nat} (hk : k < t.cnt) : textAt (t.first + k) = mk (t.text k) := by
  have h := fam_at ht
  have h1 := (h.all k hk).2.2.2.1
  have h2 := h.f1
  unfold textAt
  rw [if_pos (by omega), show (t.first + k - 1).toNat = (t.first - 1).toNat + k by omega, List.getD_eq_getElem?_getD, h1]
  rfl
theorem text_out {id : Int} (h : ∀ t ∈ famTs, ¬ (t.first ≤ id ∧ id < t.first + t.cnt)) : textAt id = ⟨#[]⟩ := by
  unfold textAt
  refine if_neg (fun hi => ?_)
  have h1 := List.all_eq_true.1 fam_cover (id - 1).toNat (List.mem_range.2 (by omega))
  obtain ⟨t, ht, h2⟩ := List.any_eq_true.1 h1
  have h3 := of_decide_eq_true h2
  exact h t ht ⟨by omega, by omega⟩
theorem fm_at {w : World} {h : Hd} {i : Nat} {xs : List Fm} (hr : Row w 4 Fm.cells h xs) (hi : i < xs.length) : w.cell? ⟨h.b, h.o + i * 4, none⟩ = some (.string xs[i].nm) ∧ w.cell? ⟨h.b, h.o + i * 4 + 1, none⟩ = some (.int .i64 xs[i].first) ∧ w.cell? ⟨h.b, h.o + i * 4 + 2, none⟩ = some (.slice xs[i].pl.h.ao xs[i].pl.l.length xs[i].pl.h.cap) ∧ w.cell? ⟨h.b, h.o + i * 4 + 3, none⟩ = some (.int .i64 xs[i].parts) :=
  ⟨hr.2.2.2 i hi 0 _ rfl, hr.2.2.2 i hi 1 _ rfl, hr.2.2.2 i hi 2 _ rfl, hr.2.2.2 i hi 3 _ rfl⟩
theorem szfam : (Tryd.prog.info? 51).map (·.size) = some 4 := by kernel_rfl
theorem szstr1 : (Tryd.prog.info? 9).map (·.size) = some 1 := by kernel_rfl

theorem sec_len (nm : List UInt8) (k : Nat) : (secP nm k).length ≤ 50 := by
  have hW : ∀ (W : List (List UInt8)), (W.all fun l => decide (l.length ≤ 40)) = true → (W.getD k []).length ≤ 40 := by
    intro W h
    rw [List.getD_eq_getElem?_getD]
    cases hk : W[k]? with
    | none => simp
    | some x => exact of_decide_eq_true (List.all_eq_true.1 h x (List.mem_of_getElem? hk))
  have h1 := hW kindW (by decide)
  have h2 := hW aggW (by decide)
  have h3 := hW appW (by decide)
  unfold secP
  split
  · rw [List.length_cons]; omega
  split
  · rw [List.length_cons]; omega
  split
  · rw [List.length_cons]; omega
  simp
set_option maxRecDepth 100000 in
set_option maxHeartbeats 4000000 in
theorem rtext_any (id : Int) (hid : int64 id) (w : World) : Calls Tryd.prog 5 #[.int .i64 id] w fun e w' => e = .returned (.string (textAt id)) ∧ Below w.heap.size w w' := by
  go_enter Tryd.func5, Tryd.ntmps5
  go_wp2_with (go_at_call 22; refine (families_any _).mono ?_; rintro e x ⟨⟨v, rfl, hv⟩, hb⟩; obtain ⟨g, fs, hvv, hrow, hfin, hall⟩ := hv; have hvv2 : v = .slice (some ⟨g, 0, none⟩) 19 19 := hvv; clear hvv; subst hvv2; have HRW := hide hrow; have HFIN := hide hfin; have HALL := hide hall; have HB := hide hb; clear hrow hfin hall hb)
  go_loopw [10] (fun i wr => ∃ k : Nat, k ≤ 19 ∧ i = .int .i64 k ∧ Hid (∀ j, j < k → ∀ t, famTs[j]? = some t → ¬ (t.first ≤ id ∧ id < t.first + t.cnt)) ∧ Hid (Below x.heap.size x wr)) (fun i _ => 19 - (intOf i).toNat)
  case atStart => exact ⟨0, by omega, rfl, hide (fun j h => absurd h (by omega)), hide (Below.refl _ _)⟩
  case round =>
    obtain ⟨k, hk, rfl, HO, HBW⟩ := hrel
    by_cases hlt : k < 19
    · have hlti : (k : Int) < 19 := by omega
      have hlen : fs.length = 19 := by have := HALL.out.len; exact this
      have hkl : k < fs.length := by omega
      obtain ⟨t, ht⟩ : ∃ t, famTs[k]? = some t := ⟨_, List.getElem?_eq_getElem (show k < famTs.length from hlt)⟩
      have hmem : t ∈ famTs := List.mem_of_getElem? ht
      have his : fmIs fs[k] t := by
        have h1 := HALL.out.get k hkl (show k < famTs.length from hlt)
        have h2 : famTs[k]'(show k < famTs.length from hlt) = t := by
          have := List.getElem?_eq_getElem (show k < famTs.length from hlt)
          rw [this] at ht; injection ht
        rw [h2] at h1; exact h1
      have hrw := HRW.out.mono HBW.out
      obtain ⟨c0, c1, c2, c3⟩ := fm_at hrw hkl
      have hbb : g < wr.heap.size := hrw.blk hkl
      simp only [Hd.b, Hd.o, Option.getD_some, Nat.zero_add] at c0 c1 c2 c3
      have hix : ∀ U, (Instr.indexAt 48 (.slice (some ⟨g, 0, none⟩) 19 19) (.int .i64 k)).run Tryd.prog U = .ok (.pointer (some ⟨g, k * 4, none⟩)) U := by
        intro U
        have h := hrw.ix hkl Tryd.underlying48 szfam
        rw [hlen] at h
        have h2 := h U
        simp only [Hd.b, Hd.o, Option.getD_some, Nat.zero_add] at h2
        exact h2
      have hpin := (HFIN.out _ (List.getElem_mem hkl)).mono HBW.out
      have hok := fam_at hmem
      obtain ⟨e0, e1, e2, e3⟩ := his
      generalize fs[k] = f at *
      obtain ⟨fn, ff, fp, fq⟩ := f
      obtain ⟨tn, tf, tl, tp⟩ := t
      dsimp only at e0 e1 e2 e3 c0 c1 c2 c3 hpin
      subst e0 e1 e3
      have hB : x.heap.size ≤ wr.heap.size := HBW.out.size
      clear hrw
      have o1 := hok.f1
      have o2 := hok.p1
      have o3 := hok.l1
      have HK := hide hok
      obtain ⟨c, hc⟩ : ∃ c, FT.cnt (tn, ff, tl, fq) = c := ⟨_, rfl⟩
      rw [hc] at o1
      dsimp only [FT.first, FT.parts, FT.places, FT.name] at o1 o2 o3
      have hmul : IntKind.i64.wrap ((fp.l.length : Int) * fq) = (c : Int) := by
        have h1 : (c : Int) = (fp.l.length : Int) * fq := by
          rw [← hc, e2]
          show ((tl.length * fq.toNat : Nat) : Int) = _
          rw [Int.natCast_mul, Int.toNat_of_nonneg (by omega)]
        rw [← h1, IntKind.wrap_i64]; omega
      have HC := hide hc
      have HE2 := hide e2
      have HMEM := hide hmem
      have HT := hide ht
      clear hok hc e2 hmem ht hkl hlen
      obtain ⟨K, hK⟩ : ∃ K, IntKind.i64.wrap (id - ff) = K := ⟨_, rfl⟩
      by_cases hin : ff ≤ id ∧ id < ff + c
      · obtain ⟨n, hn, hnc⟩ : ∃ n : Nat, id = ff + n ∧ n < c := ⟨(id - ff).toNat, by omega, by omega⟩
        have hKn : K = n := by rw [← hK, IntKind.wrap_i64]; omega
        subst hKn
        have hn0 : ¬ (n : Int) < 0 := by omega
        have hcn : ¬ (c : Int) ≤ n := by omega
        have HN := hide hn
        clear hn hin
        have hall := HK.out.all n (by rw [HC.out]; exact hnc)
        obtain ⟨q, hq⟩ : ∃ q, n / fq.toNat = q := ⟨_, rfl⟩
        obtain ⟨r, hr⟩ : ∃ r, n % fq.toNat = r := ⟨_, rfl⟩
        dsimp only [FT.first, FT.parts, FT.places, FT.name] at hall
        rw [hq, hr] at hall
        obtain ⟨hql, hpl, hsec, htx, hwl⟩ := hall
        have hqi : (n : Int) / fq = (q : Int) := by rw [← hq, Int.natCast_ediv, Int.toNat_of_nonneg (by omega)]
        have hri : (n : Int).tmod fq = (r : Int) := by rw [Int.tmod_eq_emod_of_nonneg (by omega), ← hr, Int.natCast_emod, Int.toNat_of_nonneg (by omega)]
        have hri2 : (n : Int) % fq = (r : Int) := by rw [← hr, Int.natCast_emod, Int.toNat_of_nonneg (by omega)]
        have hql2 : q < fp.l.length := by rw [HE2.out]; exact hql
        obtain ⟨p, hp⟩ : ∃ p, fp.l[q] = p := ⟨_, rfl⟩
        have hpl2 : FT.place (tn, ff, tl, fq) n = p := by
          unfold FT.place
          show tl.getD (n / fq.toNat) 0 = p
          rw [hq, List.getD_eq_getElem?_getD, ← HE2.out, List.getElem?_eq_getElem hql2, hp]; rfl
        rw [hpl2] at hpl
        have hpin2 := hpin.mono (belA (.cells #[.string (mk tn), .int .i64 ff, .slice fp.h.ao fp.l.length fp.h.cap, .int .i64 fq] 51))
        have hixp := hpin2.1.ix hql2 Tryd.underlying34 szil
        have cp := int_at hpin2.1 hql2
        rw [hp] at cp
        have hbp := hpin2.1.blk hql2
        have HTX := hide htx
        have HR := hide hr
        have hfq : ¬ fq = 0 := by omega
        clear hr
        have HSEC := hide hsec
        have HWL := hide hwl
        have HPL := hide hpl2
        clear htx hsec hwl hpl2 hpin2 hpin
        go_wp2
        go_quiet (fail)
        obtain ⟨Z, hZ⟩ : ∃ Z, (wr.alloc (.cells #[.string (mk tn), .int .i64 ff, .slice fp.h.ao fp.l.length fp.h.cap, .int .i64 fq] 51)).drewN nq = Z := ⟨_, rfl⟩
        rw [hZ]
        have HBZ := hide (show Below x.heap.size x Z from by rw [← hZ]; exact below_drewN (HBW.out.trans ((belA _).mono HBW.out.size)) _)
        have hzs : wr.heap.size < Z.heap.size := by rw [← hZ]; show wr.heap.size < (wr.alloc _).heap.size; simp
        have b0 : Z.cell? ⟨wr.heap.size, 0, none⟩ = some (.string (mk tn)) := by rw [← hZ]; show (wr.alloc _).cell? _ = _; rw [World.cell?_alloc_at _ _ _ _ rfl]; rfl
        have b1 : Z.cell? ⟨wr.heap.size, 1, none⟩ = some (.int .i64 ff) := by rw [← hZ]; show (wr.alloc _).cell? _ = _; rw [World.cell?_alloc_at _ _ _ _ rfl]; rfl
        have b3 : Z.cell? ⟨wr.heap.size, 3, none⟩ = some (.int .i64 fq) := by rw [← hZ]; show (wr.alloc _).cell? _ = _; rw [World.cell?_alloc_at _ _ _ _ rfl]; rfl
        have HSC := hide (show ∀ W, Calls Tryd.prog 25 #[.string (mk tn), .int .i64 r] W fun e w' => e = .returned (.string (mk (secP tn r))) ∧ Below W.heap.size W w' from fun W => second_any tn r W HSEC.out)
        obtain ⟨sv, hsv⟩ : ∃ sv, mk (secP tn r) = sv := ⟨_, rfl⟩
        obtain ⟨av, hav⟩ : ∃ av, mk tn = av := ⟨_, rfl⟩
        have hss : sv.size ≤ 100 := by
          rw [← hsv, mk_size]
          have h1 := sec_len tn r; omega
        have has : av.size ≤ 100 := by rw [← hav, mk_size]; omega
        rw [hsv, hav] at HSC
        have HSV := hide hsv
        have HAV := hide hav
        rw [hav] at b0
        rw [hav]
        clear hZ c0 c1 c2 c3 cp hix hixp hbp hbb hsv hav
        by_cases h74 : ff < 74
        · rw [if_pos h74] at hpl
          obtain ⟨m, hm, rfl⟩ : ∃ m : Nat, m < 23 ∧ p = (m : Int) + 6 := ⟨(p - 6).toNat, by omega, by omega⟩
          have hwm : IntKind.i64.wrap ((m : Int) + 6 - 6) = (m : Int) := by rw [IntKind.wrap_i64]; omega
          obtain ⟨y, hy⟩ : ∃ y, opsW[m]? = some y := ⟨_, List.getElem?_eq_getElem hm⟩
          have HWORD := hide (show FT.word (tn, ff, tl, fq) n = y by
            unfold FT.word
            rw [HPL.out]
            show (if ff < 74 then opsW.getD ((m : Int) + 6 - 6).toNat [] else pwsW.getD ((m : Int) + 6 - 1).toNat []) = y
            rw [if_pos h74, show ((m : Int) + 6 - 6).toNat = m by omega, List.getD_eq_getElem?_getD, hy]; rfl)
          have HY := hide hy
          clear hy hpl
          have hmi : (m : Int) < 23 := by omega
          go_wp2_with (go_at_call 23; refine (operations_any _).mono ?_; rintro e x3 ⟨rfl, hcs, hb3⟩; have cm := hcs m y HY.out; have HX3 := hide hb3; clear hcs hb3)
          have hy0 : ∀ w' : World, Below x3.heap.size x3 w' → w'.cell? ⟨wr.heap.size, 0, none⟩ = some (.string av) := fun w' h => by rw [h.cell (p := ⟨wr.heap.size, 0, none⟩) (by have := HX3.out.size; show wr.heap.size < _; omega), HX3.out.cell (p := ⟨wr.heap.size, 0, none⟩) hzs]; exact b0
          have hy3 : ∀ w' : World, Below x3.heap.size x3 w' → w'.cell? ⟨wr.heap.size, 3, none⟩ = some (.int .i64 fq) := fun w' h => by rw [h.cell (p := ⟨wr.heap.size, 3, none⟩) (by have := HX3.out.size; show wr.heap.size < _; omega), HX3.out.cell (p := ⟨wr.heap.size, 3, none⟩) hzs]; exact b3
          have hbs : (mk y).size ≤ 100 := by have := HWL.out; rw [HWORD.out] at this; rw [mk_size]; omega
          obtain ⟨bv, hbv⟩ : ∃ bv, mk y = bv := ⟨_, rfl⟩
          rw [hbv] at hbs ⊢
          have HBV := hide hbv
          have z1 : ¬ 9223372036854775807 < av.size + 1 := by omega
          have z2 : ¬ 9223372036854775807 < av.size + 1 + bv.size := by omega
          have z3 : ¬ 9223372036854775807 < av.size + 1 + bv.size + sv.size := by omega
          clear b0 b1 b3 cm hbv
          go_region_held3 (fun w' => Below x3.heap.size x3 w') ((first | exact (Below.refl _ _).drew | exact bel_trans (by assumption) (by assumption))) (first | (go_at_call 25; with_reducible refine (HSC.out _).mono ?_; rintro e x4 ⟨rfl, hb4⟩))
          have HX4 := hide (show Below x3.heap.size x3 x4 by assumption)
          have HTT := hide (show av ++ mk [32] ++ bv ++ sv = textAt id from by
            rw [HN.out]
            refine Eq.trans ?_ (text_in HMEM.out (k := n) (by rw [HC.out]; exact hnc)).symm
            unfold FT.text
            rw [HWORD.out]
            show _ = mk (tn ++ [32] ++ y ++ secP tn (n % fq.toNat))
            rw [HR.out, ← mk_app, ← mk_app, ← mk_app, HAV.out, HBV.out, HSV.out])
          go_wp2
          go_ret
          exact ⟨by rw [← HTT.out]; rfl, HB.out.trans ((HBZ.out.trans ((bel_trans HX3.out HX4.out).mono HBZ.out.size)).mono HB.out.size)⟩
        · rw [if_neg h74] at hpl
          obtain ⟨m, hm, rfl⟩ : ∃ m : Nat, m < 15 ∧ p = (m : Int) + 1 := ⟨(p - 1).toNat, by omega, by omega⟩
          have hwm : IntKind.i64.wrap ((m : Int) + 1 - 1) = (m : Int) := by rw [IntKind.wrap_i64]; omega
          obtain ⟨y, hy⟩ : ∃ y, pwsW[m]? = some y := ⟨_, List.getElem?_eq_getElem hm⟩
          have HWORD := hide (show FT.word (tn, ff, tl, fq) n = y by
            unfold FT.word
            rw [HPL.out]
            show (if ff < 74 then opsW.getD ((m : Int) + 1 - 6).toNat [] else pwsW.getD ((m : Int) + 1 - 1).toNat []) = y
            rw [if_neg h74, show ((m : Int) + 1 - 1).toNat = m by omega, List.getD_eq_getElem?_getD, hy]; rfl)
          have HY := hide hy
          clear hy hpl
          have hmi : (m : Int) < 15 := by omega
          go_wp2_with (go_at_call 24; refine (operators_any _).mono ?_; rintro e x3 ⟨rfl, hcs, hb3⟩; have cm := hcs m y HY.out; have HX3 := hide hb3; clear hcs hb3)
          have hy0 : ∀ w' : World, Below x3.heap.size x3 w' → w'.cell? ⟨wr.heap.size, 0, none⟩ = some (.string av) := fun w' h => by rw [h.cell (p := ⟨wr.heap.size, 0, none⟩) (by have := HX3.out.size; show wr.heap.size < _; omega), HX3.out.cell (p := ⟨wr.heap.size, 0, none⟩) hzs]; exact b0
          have hy3 : ∀ w' : World, Below x3.heap.size x3 w' → w'.cell? ⟨wr.heap.size, 3, none⟩ = some (.int .i64 fq) := fun w' h => by rw [h.cell (p := ⟨wr.heap.size, 3, none⟩) (by have := HX3.out.size; show wr.heap.size < _; omega), HX3.out.cell (p := ⟨wr.heap.size, 3, none⟩) hzs]; exact b3
          have hbs : (mk y).size ≤ 100 := by have := HWL.out; rw [HWORD.out] at this; rw [mk_size]; omega
          obtain ⟨bv, hbv⟩ : ∃ bv, mk y = bv := ⟨_, rfl⟩
          rw [hbv] at hbs ⊢
          have HBV := hide hbv
          have z1 : ¬ 9223372036854775807 < av.size + 1 := by omega
          have z2 : ¬ 9223372036854775807 < av.size + 1 + bv.size := by omega
          have z3 : ¬ 9223372036854775807 < av.size + 1 + bv.size + sv.size := by omega
          clear b0 b1 b3 cm hbv
          go_region_held3 (fun w' => Below x3.heap.size x3 w') ((first | exact (Below.refl _ _).drew | exact bel_trans (by assumption) (by assumption))) (first | (go_at_call 25; with_reducible refine (HSC.out _).mono ?_; rintro e x4 ⟨rfl, hb4⟩))
          have HX4 := hide (show Below x3.heap.size x3 x4 by assumption)
          have HTT := hide (show av ++ mk [32] ++ bv ++ sv = textAt id from by
            rw [HN.out]
            refine Eq.trans ?_ (text_in HMEM.out (k := n) (by rw [HC.out]; exact hnc)).symm
            unfold FT.text
            rw [HWORD.out]
            show _ = mk (tn ++ [32] ++ y ++ secP tn (n % fq.toNat))
            rw [HR.out, ← mk_app, ← mk_app, ← mk_app, HAV.out, HBV.out, HSV.out])
          go_wp2
          go_ret
          exact ⟨by rw [← HTT.out]; rfl, HB.out.trans ((HBZ.out.trans ((bel_trans HX3.out HX4.out).mono HBZ.out.size)).mono HB.out.size)⟩
      · have HNO := hide hin
        by_cases hK0 : K < 0
        · clear hmul hin
          go_wp2
          go_roundw
          case rel => exact ⟨k + 1, by omega, by go_num, hide (fun j hj t ht2 => if e : j = k then (by subst e; have h1 := HT.out; rw [ht2] at h1; injection h1 with h1; subst h1; rw [HC.out]; exact HNO.out) else HO.out j (by omega) t ht2), hide (HBW.out.trans ((belA _).mono HBW.out.size))⟩
          case measure => simp [intOf]; omega
        · have hKc : (c : Int) ≤ K := by
            rw [IntKind.wrap_i64] at hK; have := hid; unfold int64 at this; omega
          clear hin
          go_wp2
          go_roundw
          case rel => exact ⟨k + 1, by omega, by go_num, hide (fun j hj t ht2 => if e : j = k then (by subst e; have h1 := HT.out; rw [ht2] at h1; injection h1 with h1; subst h1; rw [HC.out]; exact HNO.out) else HO.out j (by omega) t ht2), hide (HBW.out.trans ((belA _).mono HBW.out.size))⟩
          case measure => simp [intOf]; omega
    · have hke : k = 19 := by omega
      have hT := hide (text_out (id := id) (fun t ht => by
        obtain ⟨j, hj⟩ := List.mem_iff_getElem?.1 ht
        have hj2 : j < 19 := (List.getElem?_eq_some_iff.1 hj).1
        exact HO.out j (by omega) t hj))
      have hlti : ¬ (k : Int) < 19 := by omega
      go_wp2
      go_ret
      exact ⟨by rw [hT.out]; rfl, HB.out.trans (HBW.out.mono HB.out.size)⟩
end Go.Proofs.YtlkhiihehaiinaaDoor

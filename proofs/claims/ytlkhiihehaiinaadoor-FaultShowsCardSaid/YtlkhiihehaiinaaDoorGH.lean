/- ref36.second; the texts of the families as plain lists: the reference's are the program's. -/
import Derived.Test.YtlkhiihehaiinaaDoorFFamK
import Derived.Test.YtlkhiihehaiinaaDoorGC
import Derived.LoopTactic
import Derived.Deep.RegionHeld3
namespace Go.Proofs.YtlkhiihehaiinaaDoor
open Go.RowKit

def kindN : List UInt8 := [107, 105, 110, 100]
def aggN : List UInt8 := [97, 103, 103, 114, 101, 103, 97, 116, 101]
def appN : List UInt8 := [97, 112, 112, 101, 110, 100]
def kindW : List (List UInt8) := [[105, 110, 110, 101, 114], [108, 101, 102, 116], [114, 105, 103, 104, 116], [102, 117, 108, 108], [115, 101, 109, 105], [97, 110, 116, 105]]
def aggW : List (List UInt8) := [[114, 111, 119, 115], [99, 111, 117, 110, 116], [100, 105, 115, 116, 105, 110, 99, 116], [115, 117, 109], [109, 105, 110], [109, 97, 120]]
def appW : List (List UInt8) := [[49], [50]]
/-- The second parts of a family, each with its blank. -/
def secP (nm : List UInt8) (k : Nat) : List UInt8 := if nm = kindN then 32 :: kindW.getD k [] else if nm = aggN then 32 :: aggW.getD k [] else if nm = appN then 32 :: appW.getD k [] else []
def secOk (nm : List UInt8) (k : Nat) : Bool := if nm = kindN then k < 6 else if nm = aggN then k < 6 else if nm = appN then k < 2 else true

theorem mk_list (a : List UInt8) : (mk a).toList = a := by simp [ByteArray.toList_eq]
theorem mk_beq (a b : List UInt8) (h : a ≠ b) : ((mk a).toList == b) = false := by rw [beq_eq_false_iff_ne, mk_list]; exact h
theorem cells_new {w : World} {T : TypeId} {l : List (List UInt8)} {k : Nat} {x : List UInt8} (h : l[k]? = some x) : (w.alloc (.cells (l.map fun l => Value.string (mk l)).toArray T)).cell? ⟨w.heap.size, k, none⟩ = some (.string (mk x)) := by
  rw [World.cell?_alloc_at _ _ _ _ rfl, List.getElem?_toArray, List.getElem?_map, h]
  rfl

set_option maxRecDepth 100000 in
set_option maxHeartbeats 1000000 in
theorem second_any (nm : List UInt8) (k : Nat) (w : World) (h : secOk nm k = true) : Calls Tryd.prog 25 #[.string (mk nm), .int .i64 k] w fun e w' => e = .returned (.string (mk (secP nm k))) ∧ Below w.heap.size w w' := by
  by_cases h1 : nm = kindN
  · subst h1
    have hk : k < 6 := by simpa [secOk, kindN, aggN, appN] using h
    obtain ⟨x, hx⟩ : ∃ x, kindW[k]? = some x := ⟨_, List.getElem?_eq_getElem hk⟩
    have hr : secP kindN k = [32] ++ x := by unfold secP; rw [if_pos rfl, List.getD_eq_getElem?_getD, hx]; rfl
    have hc : (w.alloc (.cells #[.string (mk [105, 110, 110, 101, 114]), .string (mk [108, 101, 102, 116]), .string (mk [114, 105, 103, 104, 116]), .string (mk [102, 117, 108, 108]), .string (mk [115, 101, 109, 105]), .string (mk [97, 110, 116, 105])] 9)).cell? ⟨w.heap.size, k, none⟩ = some (.string (mk x)) := cells_new (l := kindW) hx
    have hki : (k : Int) < 6 := by omega
    have hsz : x.length ≤ 100 := by
      have hm := List.mem_of_getElem? hx
      have : kindW.all (fun l => decide (l.length ≤ 100)) = true := by decide
      exact of_decide_eq_true (List.all_eq_true.1 this x hm)
    rw [hr, ← mk_app]
    obtain ⟨y, hy⟩ : ∃ y, mk x = y := ⟨_, rfl⟩
    have hys : y.size ≤ 100 := by rw [← hy, mk_size]; exact hsz
    rw [hy] at hc ⊢
    clear hy hr hx h hsz
    go_enter Tryd.func25, Tryd.ntmps25
    go_wp2
    go_ret
    exact ⟨rfl, belA _⟩
  by_cases h2 : nm = aggN
  · subst h2
    have hk : k < 6 := by simpa [secOk, kindN, aggN, appN] using h
    obtain ⟨x, hx⟩ : ∃ x, aggW[k]? = some x := ⟨_, List.getElem?_eq_getElem hk⟩
    have hr : secP aggN k = [32] ++ x := by unfold secP; rw [if_neg (by decide)]; rw [if_pos rfl, List.getD_eq_getElem?_getD, hx]; rfl
    have hc : (w.alloc (.cells #[.string (mk [114, 111, 119, 115]), .string (mk [99, 111, 117, 110, 116]), .string (mk [100, 105, 115, 116, 105, 110, 99, 116]), .string (mk [115, 117, 109]), .string (mk [109, 105, 110]), .string (mk [109, 97, 120])] 9)).cell? ⟨w.heap.size, k, none⟩ = some (.string (mk x)) := cells_new (l := aggW) hx
    have hki : (k : Int) < 6 := by omega
    have hsz : x.length ≤ 100 := by
      have hm := List.mem_of_getElem? hx
      have : aggW.all (fun l => decide (l.length ≤ 100)) = true := by decide
      exact of_decide_eq_true (List.all_eq_true.1 this x hm)
    rw [hr, ← mk_app]
    obtain ⟨y, hy⟩ : ∃ y, mk x = y := ⟨_, rfl⟩
    have hys : y.size ≤ 100 := by rw [← hy, mk_size]; exact hsz
    rw [hy] at hc ⊢
    clear hy hr hx h hsz
    go_enter Tryd.func25, Tryd.ntmps25
    go_wp2
    go_ret
    exact ⟨rfl, belA _⟩
  by_cases h3 : nm = appN
  · subst h3
    have hk : k < 2 := by simpa [secOk, kindN, aggN, appN] using h
    obtain ⟨x, hx⟩ : ∃ x, appW[k]? = some x := ⟨_, List.getElem?_eq_getElem hk⟩
    have hr : secP appN k = [32] ++ x := by unfold secP; rw [if_neg (by decide)]; rw [if_neg (by decide)]; rw [if_pos rfl, List.getD_eq_getElem?_getD, hx]; rfl
    have hc : (w.alloc (.cells #[.string (mk [49]), .string (mk [50])] 9)).cell? ⟨w.heap.size, k, none⟩ = some (.string (mk x)) := cells_new (l := appW) hx
    have hki : (k : Int) < 2 := by omega
    have hsz : x.length ≤ 100 := by
      have hm := List.mem_of_getElem? hx
      have : appW.all (fun l => decide (l.length ≤ 100)) = true := by decide
      exact of_decide_eq_true (List.all_eq_true.1 this x hm)
    rw [hr, ← mk_app]
    obtain ⟨y, hy⟩ : ∃ y, mk x = y := ⟨_, rfl⟩
    have hys : y.size ≤ 100 := by rw [← hy, mk_size]; exact hsz
    rw [hy] at hc ⊢
    clear hy hr hx h hsz
    go_enter Tryd.func25, Tryd.ntmps25
    go_wp2
    go_ret
    exact ⟨rfl, belA _⟩
  have hr : secP nm k = [] := by unfold secP; rw [if_neg h1, if_neg h2, if_neg h3]
  have b1 := mk_beq _ _ h1
  have b2 := mk_beq _ _ h2
  have b3 := mk_beq _ _ h3
  obtain ⟨z, hz⟩ : ∃ z, mk nm = z := ⟨_, rfl⟩
  rw [hz] at b1 b2 b3 ⊢
  rw [hr]
  clear hr h hz h1 h2 h3
  unfold kindN at b1
  unfold aggN at b2
  unfold appN at b3
  go_enter Tryd.func25, Tryd.ntmps25
  go_wp2
  go_ret
  exact ⟨rfl, Below.refl _ _⟩

/-! ### The texts -/
abbrev FT.name (t : FT) : List UInt8 := t.1
abbrev FT.first (t : FT) : Int := t.2.1
abbrev FT.places (t : FT) : List Int := t.2.2.1
abbrev FT.parts (t : FT) : Int := t.2.2.2
def FT.cnt (t : FT) : Nat := t.places.length * t.parts.toNat
def FT.place (t : FT) (k : Nat) : Int := t.places.getD (k / t.parts.toNat) 0
def FT.word (t : FT) (k : Nat) : List UInt8 := if t.first < 74 then opsW.getD (t.place k - 6).toNat [] else pwsW.getD (t.place k - 1).toNat []
def FT.text (t : FT) (k : Nat) : List UInt8 := t.name ++ [32] ++ t.word k ++ secP t.name (k % t.parts.toNat)
def FT.ok (t : FT) : Bool := decide (1 ≤ t.first ∧ t.first + t.cnt ≤ 181) && decide (1 ≤ t.parts ∧ t.parts ≤ 6) && decide (t.places.length ≤ 40 ∧ t.name.length ≤ 40) &&
  (List.range t.cnt).all fun k => decide (k / t.parts.toNat < t.places.length) && (if t.first < 74 then decide (6 ≤ t.place k ∧ t.place k < 29) else decide (1 ≤ t.place k ∧ t.place k < 16)) && secOk t.name (k % t.parts.toNat) && textsL[(t.first - 1).toNat + k]? == some (t.text k) && decide ((t.word k).length ≤ 40)
theorem fam_ok : famTs.all FT.ok = true := by kernel_rfl
theorem fam_cover : (List.range 180).all (fun n => famTs.any fun t => decide (t.first ≤ (n : Int) + 1 ∧ (n : Int) + 1 < t.first + t.cnt)) = true := by kernel_rfl
end Go.Proofs.YtlkhiihehaiinaaDoor

/- ref36.Text: it answers the program's texts. -/
namespace Go.Proofs.YtlkhiihehaiinaaDoor
open Go.RowKit

structure FT.Ok (t : FT) : Prop where
  f1 : 1 ≤ t.first ∧ t.first + t.cnt ≤ 181
  p1 : 1 ≤ t.parts ∧ t.parts ≤ 6
  l1 : t.places.length ≤ 40 ∧ t.name.length ≤ 40
  all : ∀ k, k < t.cnt → k / t.parts.toNat < t.places.length ∧ (if t.first < 74 then 6 ≤ t.place k ∧ t.place k < 29 else 1 ≤ t.place k ∧ t.place k < 16) ∧ secOk t.name (k % t.parts.toNat) = true ∧ textsL[(t.first - 1).toNat + k]? = some (t.text k) ∧ (t.word k).length ≤ 40
theorem fam_at {t : FT} (h : t ∈ famTs) : t.Ok := by
  have h1 := List.all_eq_true.1 fam_ok t h
  unfold FT.ok at h1
  simp only [Bool.and_eq_true, List.all_eq_true, List.mem_range] at h1
  obtain ⟨⟨⟨h1, h2⟩, h3⟩, h4⟩ := h1
  refine ⟨of_decide_eq_true h1, of_decide_eq_true h2, of_decide_eq_true h3, fun k hk => ?_⟩
  obtain ⟨⟨⟨⟨a, b⟩, c⟩, d⟩, e⟩ := h4 k hk
  refine ⟨of_decide_eq_true a, ?_, c, by simpa using d, of_decide_eq_true e⟩
  by_cases h7 : t.first < 74
  · rw [if_pos h7] at b ⊢; exact of_decide_eq_true b
  · rw [if_neg h7] at b ⊢; exact of_decide_eq_true b
theorem text_in {t : FT} (ht : t ∈ famTs) {k : Nat} (hk : k < t.cnt) : textAt (t.first + k) = mk (t.text k) := by
  have h := fam_at ht
  have h1 := (h.all k hk).2.2.2.1
  have h2 := h.f1
  unfold textAt
  rw [if_pos (by omega), show (t.first + k - 1).toNat = (t.first - 1).toNat + k by omega, List.getD_eq_getElem?_getD, h1]
  rfl
theorem text_out {id : Int} (h : ∀ t ∈ famTs, ¬ (t.first ≤ id ∧ id < t.first + t.cnt)) : textAt id = ⟨#[]⟩ := by
  unfold textAt
  refine if_neg (fun hi => ?_)
  have h1 := List.all_eq_true.1 fam_cover (id - 1).toNat (List.mem_range.2 (by omega))
  obtain ⟨t, ht, h2⟩ := List.any_eq_true.1 h1
  have h3 := of_decide_eq_true h2
  exact h t ht ⟨by omega, by omega⟩
theorem fm_at {w : World} {h : Hd} {i : Nat} {xs : List Fm} (hr : Row w 4 Fm.cells h xs) (hi : i < xs.length) : w.cell? ⟨h.b, h.o + i * 4, none⟩ = some (.string xs[i].nm) ∧ w.cell? ⟨h.b, h.o + i * 4 + 1, none⟩ = some (.int .i64 xs[i].first) ∧ w.cell? ⟨h.b, h.o + i * 4 + 2, none⟩ = some (.slice xs[i].pl.h.ao xs[i].pl.l.length xs[i].pl.h.cap) ∧ w.cell? ⟨h.b, h.o + i * 4 + 3, none⟩ = some (.int .i64 xs[i].parts) :=
  ⟨hr.2.2.2 i hi 0 _ rfl, hr.2.2.2 i hi 1 _ rfl, hr.2.2.2 i hi 2 _ rfl, hr.2.2.2 i hi 3 _ rfl⟩
theorem szfam : (Tryd.prog.info? 51).map (·.size) = some 4 := by kernel_rfl
theorem szstr1 : (Tryd.prog.info? 9).map (·.size) = some 1 := by kernel_rfl

theorem sec_len (nm : List UInt8) (k : Nat) : (secP nm k).length ≤ 50 := by
  have hW : ∀ (W : List (List UInt8)), (W.all fun l => decide (l.length ≤ 40)) = true → (W.getD k []).length ≤ 40 := by
    intro W h
    rw [List.getD_eq_getElem?_getD]
    cases hk : W[k]? with
    | none => simp
    | some x => exact of_decide_eq_true (List.all_eq_true.1 h x (List.mem_of_getElem? hk))
  have h1 := hW kindW (by decide)
  have h2 := hW aggW (by decide)
  have h3 := hW appW (by decide)
  unfold secP
  split
  · rw [List.length_cons]; omega
  split
  · rw [List.length_cons]; omega
  split
  · rw [List.length_cons]; omega
  simp
set_option maxRecDepth 100000 in
set_option maxHeartbeats 4000000 in
theorem rtext_any (id : Int) (hid : int64 id) (w : World) : Calls Tryd.prog 5 #[.int .i64 id] w fun e w' => e = .returned (.string (textAt id)) ∧ Below w.heap.size w w' := by
  go_enter Tryd.func5, Tryd.ntmps5
  go_wp2_with (go_at_call 22; refine (families_any _).mono ?_; rintro e x ⟨⟨v, rfl, hv⟩, hb⟩; obtain ⟨g, fs, hvv, hrow, hfin, hall⟩ := hv; have hvv2 : v = .slice (some ⟨g, 0, none⟩) 19 19 := hvv; clear hvv; subst hvv2; have HRW := hide hrow; have HFIN := hide hfin; have HALL := hide hall; have HB := hide hb; clear hrow hfin hall hb)
  go_loopw [10] (fun i wr => ∃ k : Nat, k ≤ 19 ∧ i = .int .i64 k ∧ Hid (∀ j, j < k → ∀ t, famTs[j]? = some t → ¬ (t.first ≤ id ∧ id < t.first + t.cnt)) ∧ Hid (Below x.heap.size x wr)) (fun i _ => 19 - (intOf i).toNat)
  case atStart => exact ⟨0, by omega, rfl, hide (fun j h => absurd h (by omega)), hide (Below.refl _ _)⟩
  case round =>
    obtain ⟨k, hk, rfl, HO, HBW⟩ := hrel
    by_cases hlt : k < 19
    · have hlti : (k : Int) < 19 := by omega
      have hlen : fs.length = 19 := by have := HALL.out.len; exact this
      have hkl : k < fs.length := by omega
      obtain ⟨t, ht⟩ : ∃ t, famTs[k]? = some t := ⟨_, List.getElem?_eq_getElem (show k < famTs.length from hlt)⟩
      have hmem : t ∈ famTs := List.mem_of_getElem? ht
      have his : fmIs fs[k] t := by
        have h1 := HALL.out.get k hkl (show k < famTs.length from hlt)
        have h2 : famTs[k]'(show k < famTs.length from hlt) = t := by
          have := List.getElem?_eq_getElem (show k < famTs.length from hlt)
          rw [this] at ht; injection ht
        rw [h2] at h1; exact h1
      have hrw := HRW.out.mono HBW.out
      obtain ⟨c0, c1, c2, c3⟩ := fm_at hrw hkl
      have hbb : g < wr.heap.size := hrw.blk hkl
      simp only [Hd.b, Hd.o, Option.getD_some, Nat.zero_add] at c0 c1 c2 c3
      have hix : ∀ U, (Instr.indexAt 48 (.slice (some ⟨g, 0, none⟩) 19 19) (.int .i64 k)).run Tryd.prog U = .ok (.pointer (some ⟨g, k * 4, none⟩)) U := by
        intro U
        have h := hrw.ix hkl Tryd.underlying48 szfam
        rw [hlen] at h
        have h2 := h U
        simp only [Hd.b, Hd.o, Option.getD_some, Nat.zero_add] at h2
        exact h2
      have hpin := (HFIN.out _ (List.getElem_mem hkl)).mono HBW.out
      have hok := fam_at hmem
      obtain ⟨e0, e1, e2, e3⟩ := his
      generalize fs[k] = f at *
      obtain ⟨fn, ff, fp, fq⟩ := f
      obtain ⟨tn, tf, tl, tp⟩ := t
      dsimp only at e0 e1 e2 e3 c0 c1 c2 c3 hpin
      subst e0 e1 e3
      have hB : x.heap.size ≤ wr.heap.size := HBW.out.size
      clear hrw
      have o1 := hok.f1
      have o2 := hok.p1
      have o3 := hok.l1
      have HK := hide hok
      obtain ⟨c, hc⟩ : ∃ c, FT.cnt (tn, ff, tl, fq) = c := ⟨_, rfl⟩
      rw [hc] at o1
      dsimp only [FT.first, FT.parts, FT.places, FT.name] at o1 o2 o3
      have hmul : IntKind.i64.wrap ((fp.l.length : Int) * fq) = (c : Int) := by
        have h1 : (c : Int) = (fp.l.length : Int) * fq := by
          rw [← hc, e2]
          show ((tl.length * fq.toNat : Nat) : Int) = _
          rw [Int.natCast_mul, Int.toNat_of_nonneg (by omega)]
        rw [← h1, IntKind.wrap_i64]; omega
      have HC := hide hc
      have HE2 := hide e2
      have HMEM := hide hmem
      have HT := hide ht
      clear hok hc e2 hmem ht hkl hlen
      obtain ⟨K, hK⟩ : ∃ K, IntKind.i64.wrap (id - ff) = K := ⟨_, rfl⟩
      by_cases hin : ff ≤ id ∧ id < ff + c
      · obtain ⟨n, hn, hnc⟩ : ∃ n : Nat, id = ff + n ∧ n < c := ⟨(id - ff).toNat, by omega, by omega⟩
        have hKn : K = n := by rw [← hK, IntKind.wrap_i64]; omega
        subst hKn
        have hn0 : ¬ (n : Int) < 0 := by omega
        have hcn : ¬ (c : Int) ≤ n := by omega
        have HN := hide hn
        clear hn hin
        have hall := HK.out.all n (by rw [HC.out]; exact hnc)
        obtain ⟨q, hq⟩ : ∃ q, n / fq.toNat = q := ⟨_, rfl⟩
        obtain ⟨r, hr⟩ : ∃ r, n % fq.toNat = r := ⟨_, rfl⟩
        dsimp only [FT.first, FT.parts, FT.places, FT.name] at hall
        rw [hq, hr] at hall
        obtain ⟨hql, hpl, hsec, htx, hwl⟩ := hall
        have hqi : (n : Int) / fq = (q : Int) := by rw [← hq, Int.natCast_ediv, Int.toNat_of_nonneg (by omega)]
        have hri : (n : Int).tmod fq = (r : Int) := by rw [Int.tmod_eq_emod_of_nonneg (by omega), ← hr, Int.natCast_emod, Int.toNat_of_nonneg (by omega)]
        have hri2 : (n : Int) % fq = (r : Int) := by rw [← hr, Int.natCast_emod, Int.toNat_of_nonneg (by omega)]
        have hql2 : q < fp.l.length := by rw [HE2.out]; exact hql
        obtain ⟨p, hp⟩ : ∃ p, fp.l[q] = p := ⟨_, rfl⟩
        have hpl2 : FT.place (tn, ff, tl, fq) n = p := by
          unfold FT.place
          show tl.getD (n / fq.toNat) 0 = p
          rw [hq, List.getD_eq_getElem?_getD, ← HE2.out, List.getElem?_eq_getElem hql2, hp]; rfl
        rw [hpl2] at hpl
        have hpin2 := hpin.mono (belA (.cells #[.string (mk tn), .int .i64 ff, .slice fp.h.ao fp.l.length fp.h.cap, .int .i64 fq] 51))
        have hixp := hpin2.1.ix hql2 Tryd.underlying34 szil
        have cp := int_at hpin2.1 hql2
        rw [hp] at cp
        have hbp := hpin2.1.blk hql2
        have HTX := hide htx
        have HR := hide hr
        have hfq : ¬ fq = 0 := by omega
        clear hr
        have HSEC := hide hsec
        have HWL := hide hwl
        have HPL := hide hpl2
        clear htx hsec hwl hpl2 hpin2 hpin
        go_wp2
        go_quiet (fail)
        obtain ⟨Z, hZ⟩ : ∃ Z, (wr.alloc (.cells #[.string (mk tn), .int .i64 ff, .slice fp.h.ao fp.l.length fp.h.cap, .int .i64 fq] 51)).drewN nq = Z := ⟨_, rfl⟩
        rw [hZ]
        have HBZ := hide (show Below x.heap.size x Z from by rw [← hZ]; exact below_drewN (HBW.out.trans ((belA _).mono HBW.out.size)) _)
        have hzs : wr.heap.size < Z.heap.size := by rw [← hZ]; show wr.heap.size < (wr.alloc _).heap.size; simp
        have b0 : Z.cell? ⟨wr.heap.size, 0, none⟩ = some (.string (mk tn)) := by rw [← hZ]; show (wr.alloc _).cell? _ = _; rw [World.cell?_alloc_at _ _ _ _ rfl]; rfl
        have b1 : Z.cell? ⟨wr.heap.size, 1, none⟩ = some (.int .i64 ff) := by rw [← hZ]; show (wr.alloc _).cell? _ = _; rw [World.cell?_alloc_at _ _ _ _ rfl]; rfl
        have b3 : Z.cell? ⟨wr.heap.size, 3, none⟩ = some (.int .i64 fq) := by rw [← hZ]; show (wr.alloc _).cell? _ = _; rw [World.cell?_alloc_at _ _ _ _ rfl]; rfl
        have HSC := hide (show ∀ W, Calls Tryd.prog 25 #[.string (mk tn), .int .i64 r] W fun e w' => e = .returned (.string (mk (secP tn r))) ∧ Below W.heap.size W w' from fun W => second_any tn r W HSEC.out)
        obtain ⟨sv, hsv⟩ : ∃ sv, mk (secP tn r) = sv := ⟨_, rfl⟩
        obtain ⟨av, hav⟩ : ∃ av, mk tn = av := ⟨_, rfl⟩
        have hss : sv.size ≤ 100 := by
          rw [← hsv, mk_size]
          have h1 := sec_len tn r; omega
        have has : av.size ≤ 100 := by rw [← hav, mk_size]; omega
        rw [hsv, hav] at HSC
        have HSV := hide hsv
        have HAV := hide hav
        rw [hav] at b0
        rw [hav]
        clear hZ c0 c1 c2 c3 cp hix hixp hbp hbb hsv hav
        by_cases h74 : ff < 74
        · rw [if_pos h74] at hpl
          obtain ⟨m, hm, rfl⟩ : ∃ m : Nat, m < 23 ∧ p = (m : Int) + 6 := ⟨(p - 6).toNat, by omega, by omega⟩
          have hwm : IntKind.i64.wrap ((m : Int) + 6 - 6) = (m : Int) := by rw [IntKind.wrap_i64]; omega
          obtain ⟨y, hy⟩ : ∃ y, opsW[m]? = some y := ⟨_, List.getElem?_eq_getElem hm⟩
          have HWORD := hide (show FT.word (tn, ff, tl, fq) n = y by
            unfold FT.word
            rw [HPL.out]
            show (if ff < 74 then opsW.getD ((m : Int) + 6 - 6).toNat [] else pwsW.getD ((m : Int) + 6 - 1).toNat []) = y
            rw [if_pos h74, show ((m : Int) + 6 - 6).toNat = m by omega, List.getD_eq_getElem?_getD, hy]; rfl)
          have HY := hide hy
          clear hy hpl
          have hmi : (m : Int) < 23 := by omega
          go_wp2_with (go_at_call 23; refine (operations_any _).mono ?_; rintro e x3 ⟨rfl, hcs, hb3⟩; have cm := hcs m y HY.out; have HX3 := hide hb3; clear hcs hb3)
          have hy0 : ∀ w' : World, Below x3.heap.size x3 w' → w'.cell? ⟨wr.heap.size, 0, none⟩ = some (.string av) := fun w' h => by rw [h.cell (p := ⟨wr.heap.size, 0, none⟩) (by have := HX3.out.size; show wr.heap.size < _; omega), HX3.out.cell (p := ⟨wr.heap.size, 0, none⟩) hzs]; exact b0
          have hy3 : ∀ w' : World, Below x3.heap.size x3 w' → w'.cell? ⟨wr.heap.size, 3, none⟩ = some (.int .i64 fq) := fun w' h => by rw [h.cell (p := ⟨wr.heap.size, 3, none⟩) (by have := HX3.out.size; show wr.heap.size < _; omega), HX3.out.cell (p := ⟨wr.heap.size, 3, none⟩) hzs]; exact b3
          have hbs : (mk y).size ≤ 100 := by have := HWL.out; rw [HWORD.out] at this; rw [mk_size]; omega
          obtain ⟨bv, hbv⟩ : ∃ bv, mk y = bv := ⟨_, rfl⟩
          rw [hbv] at hbs ⊢
          have HBV := hide hbv
          have z1 : ¬ 9223372036854775807 < av.size + 1 := by omega
          have z2 : ¬ 9223372036854775807 < av.size + 1 + bv.size := by omega
          have z3 : ¬ 9223372036854775807 < av.size + 1 + bv.size + sv.size := by omega
          clear b0 b1 b3 cm hbv
          go_region_held3 (fun w' => Below x3.heap.size x3 w') ((first | exact (Below.refl _ _).drew | exact bel_trans (by assumption) (by assumption))) (first | (go_at_call 25; with_reducible refine (HSC.out _).mono ?_; rintro e x4 ⟨rfl, hb4⟩))
          have HX4 := hide (show Below x3.heap.size x3 x4 by assumption)
          have HTT := hide (show av ++ mk [32] ++ bv ++ sv = textAt id from by
            rw [HN.out]
            refine Eq.trans ?_ (text_in HMEM.out (k := n) (by rw [HC.out]; exact hnc)).symm
            unfold FT.text
            rw [HWORD.out]
            show _ = mk (tn ++ [32] ++ y ++ secP tn (n % fq.toNat))
            rw [HR.out, ← mk_app, ← mk_app, ← mk_app, HAV.out, HBV.out, HSV.out])
          go_wp2
          go_ret
          exact ⟨by rw [← HTT.out]; rfl, HB.out.trans ((HBZ.out.trans ((bel_trans HX3.out HX4.out).mono HBZ.out.size)).mono HB.out.size)⟩
        · rw [if_neg h74] at hpl
          obtain ⟨m, hm, rfl⟩ : ∃ m : Nat, m < 15 ∧ p = (m : Int) + 1 := ⟨(p - 1).toNat, by omega, by omega⟩
          have hwm : IntKind.i64.wrap ((m : Int) + 1 - 1) = (m : Int) := by rw [IntKind.wrap_i64]; omega
          obtain ⟨y, hy⟩ : ∃ y, pwsW[m]? = some y := ⟨_, List.getElem?_eq_getElem hm⟩
          have HWORD := hide (show FT.word (tn, ff, tl, fq) n = y by
            unfold FT.word
            rw [HPL.out]
            show (if ff < 74 then opsW.getD ((m : Int) + 1 - 6).toNat [] else pwsW.getD ((m : Int) + 1 - 1).toNat []) = y
            rw [if_neg h74, show ((m : Int) + 1 - 1).toNat = m by omega, List.getD_eq_getElem?_getD, hy]; rfl)
          have HY := hide hy
          clear hy hpl
          have hmi : (m : Int) < 15 := by omega
          go_wp2_with (go_at_call 24; refine (operators_any _).mono ?_; rintro e x3 ⟨rfl, hcs, hb3⟩; have cm := hcs m y HY.out; have HX3 := hide hb3; clear hcs hb3)
          have hy0 : ∀ w' : World, Below x3.heap.size x3 w' → w'.cell? ⟨wr.heap.size, 0, none⟩ = some (.string av) := fun w' h => by rw [h.cell (p := ⟨wr.heap.size, 0, none⟩) (by have := HX3.out.size; show wr.heap.size < _; omega), HX3.out.cell (p := ⟨wr.heap.size, 0, none⟩) hzs]; exact b0
          have hy3 : ∀ w' : World, Below x3.heap.size x3 w' → w'.cell? ⟨wr.heap.size, 3, none⟩ = some (.int .i64 fq) := fun w' h => by rw [h.cell (p := ⟨wr.heap.size, 3, none⟩) (by have := HX3.out.size; show wr.heap.size < _; omega), HX3.out.cell (p := ⟨wr.heap.size, 3, none⟩) hzs]; exact b3
          have hbs : (mk y).size ≤ 100 := by have := HWL.out; rw [HWORD.out] at this; rw [mk_size]; omega
          obtain ⟨bv, hbv⟩ : ∃ bv, mk y = bv := ⟨_, rfl⟩
          rw [hbv] at hbs ⊢
          have HBV := hide hbv
          have z1 : ¬ 9223372036854775807 < av.size + 1 := by omega
          have z2 : ¬ 9223372036854775807 < av.size + 1 + bv.size := by omega
          have z3 : ¬ 9223372036854775807 < av.size + 1 + bv.size + sv.size := by omega
          clear b0 b1 b3 cm hbv
          go_region_held3 (fun w' => Below x3.heap.size x3 w') ((first | exact (Below.refl _ _).drew | exact bel_trans (by assumption) (by assumption))) (first | (go_at_call 25; with_reducible refine (HSC.out _).mono ?_; rintro e x4 ⟨rfl, hb4⟩))
          have HX4 := hide (show Below x3.heap.size x3 x4 by assumption)
          have HTT := hide (show av ++ mk [32] ++ bv ++ sv = textAt id from by
            rw [HN.out]
            refine Eq.trans ?_ (text_in HMEM.out (k := n) (by rw [HC.out]; exact hnc)).symm
            unfold FT.text
            rw [HWORD.out]
            show _ = mk (tn ++ [32] ++ y ++ secP tn (n % fq.toNat))
            rw [HR.out, ← mk_app, ← mk_app, ← mk_app, HAV.out, HBV.out, HSV.out])
          go_wp2
          go_ret
          exact ⟨by rw [← HTT.out]; rfl, HB.out.trans ((HBZ.out.trans ((bel_trans HX3.out HX4.out).mono HBZ.out.size)).mono HB.out.size)⟩
      · have HNO := hide hin
        by_cases hK0 : K < 0
        · clear hmul hin
          go_wp2
          go_roundw
          case rel => exact ⟨k + 1, by omega, by go_num, hide (fun j hj t ht2 => if e : j = k then (by subst e; have h1 := HT.out; rw [ht2] at h1; injection h1 with h1; subst h1; rw [HC.out]; exact HNO.out) else HO.out j (by omega) t ht2), hide (HBW.out.trans ((belA _).mono HBW.out.size))⟩
          case measure => simp [intOf]; omega
        · have hKc : (c : Int) ≤ K := by
            rw [IntKind.wrap_i64] at hK; have := hid; unfold int64 at this; omega
          clear hin
          go_wp2
          go_roundw
          case rel => exact ⟨k + 1, by omega, by go_num, hide (fun j hj t ht2 => if e : j = k then (by subst e; have h1 := HT.out; rw [ht2] at h1; injection h1 with h1; subst h1; rw [HC.out]; exact HNO.out) else HO.out j (by omega) t ht2), hide (HBW.out.trans ((belA _).mono HBW.out.size))⟩
          case measure => simp [intOf]; omega
    · have hke : k = 19 := by omega
      have hT := hide (text_out (id := id) (fun t ht => by
        obtain ⟨j, hj⟩ := List.mem_iff_getElem?.1 ht
        have hj2 : j < 19 := (List.getElem?_eq_some_iff.1 hj).1
        exact HO.out j (by omega) t hj))
      have hlti : ¬ (k : Int) < 19 := by omega
      go_wp2
      go_ret
      exact ⟨by rw [hT.out]; rfl, HB.out.trans (HBW.out.mono HB.out.size)⟩
end Go.Proofs.YtlkhiihehaiinaaDoor

/- ref36.Find: it answers as fault.Find does. -/
namespace Go.Proofs.YtlkhiihehaiinaaDoor
open Go.RowKit

/-- The k-th text is t for no k below n. -/
theorem idx_none (l : List ByteArray) (t : ByteArray) : ∀ (i : Nat), (∀ x ∈ l, x ≠ t) → Lib.idxFromS l t i = -1 := by
  induction l with
  | nil => intro i _; rfl
  | cons a r ih =>
    intro i h
    unfold Lib.idxFromS
    rw [if_neg (h a (List.mem_cons_self ..))]
    exact ih _ (fun x hx => h x (List.mem_cons_of_mem _ hx))
theorem idx_some (l : List ByteArray) (t : ByteArray) : ∀ (i k : Nat), (∀ j, j < k → l[j]? ≠ some t) → l[k]? = some t → Lib.idxFromS l t i = (i + k : Nat) := by
  induction l with
  | nil => intro i k _ h; cases h
  | cons a r ih =>
    intro i k h1 h2
    unfold Lib.idxFromS
    cases k with
    | zero => rw [if_pos (by simpa using h2)]; simp
    | succ k =>
      rw [if_neg (fun e => h1 0 (by omega) (by simp [e]))]
      rw [ih (i + 1) k (fun j hj => by have := h1 (j + 1) (by omega); simpa using this) (by simpa using h2)]
      congr 1; omega
theorem texts_get (k : Nat) (hk : k < 180) : (textsL.map mk)[k]? = some (textAt ((k : Int) + 1)) := by
  have hkl : k < textsL.length := by rw [texts_len]; exact hk
  rw [List.getElem?_map, List.getElem?_eq_getElem hkl]
  unfold textAt
  rw [if_pos (by omega), show ((k : Int) + 1 - 1).toNat = k by omega, List.getD_eq_getElem?_getD, List.getElem?_eq_getElem hkl]
  rfl
theorem fnd_none {t : ByteArray} (h : ∀ k : Nat, k < 180 → textAt ((k : Int) + 1) ≠ t) : findAt t + 1 = 0 := by
  unfold findAt Lib.idxOfS
  rw [idx_none]
  · rfl
  · intro x hx e
    obtain ⟨k, hk⟩ := List.mem_iff_getElem?.1 hx
    have hl : k < 180 := by have := (List.getElem?_eq_some_iff.1 hk).1; rwa [List.length_map, texts_len] at this
    rw [texts_get k hl] at hk
    injection hk with hk
    exact h k hl (hk.trans e)
theorem fnd_some {t : ByteArray} {k : Nat} (hk : k < 180) (h : ∀ j : Nat, j < k → textAt ((j : Int) + 1) ≠ t) (h2 : textAt ((k : Int) + 1) = t) : findAt t + 1 = (k : Int) + 1 := by
  unfold findAt Lib.idxOfS
  rw [idx_some (textsL.map mk) t 0 k (fun j hj e => by rw [texts_get j (by omega)] at e; injection e with e; exact h j hj e) (by rw [texts_get k hk, h2])]
  omega

set_option maxRecDepth 100000 in
set_option maxHeartbeats 2000000 in
theorem rfind_any (t : ByteArray) (w : World) : Calls Tryd.prog 18 #[.string t] w fun e w' => e = .returned (.tuple #[.int .i64 (findAt t + 1), .bool (decide (0 < findAt t + 1))]) ∧ Below w.heap.size w w' := by
  go_enter Tryd.func18, Tryd.ntmps18
  go_wp2
  go_loopw [4] (fun i wr => ∃ k : Nat, k ≤ 180 ∧ i = .int .i64 (k + 1) ∧ Hid (∀ j : Nat, j < k → textAt ((j : Int) + 1) ≠ t) ∧ Hid (Below w.heap.size w wr)) (fun i _ => 181 - (intOf i).toNat)
  case atStart => exact ⟨0, by omega, rfl, hide (fun j h => absurd h (by omega)), hide (Below.refl _ _)⟩
  case round =>
    obtain ⟨k, hk, rfl, HO, HB⟩ := hrel
    have hw1 : IntKind.i64.wrap ((k : Int) + 1 + 1) = ((k + 1 : Nat) : Int) + 1 := by rw [IntKind.wrap_i64]; omega
    by_cases hlt : k < 180
    · have hle : (k : Int) + 1 ≤ 180 := by omega
      have hid : int64 ((k : Int) + 1) := by constructor <;> omega
      obtain ⟨y, hy⟩ : ∃ y, textAt ((k : Int) + 1) = y := ⟨_, rfl⟩
      have HT := hide (show ∀ W, Calls Tryd.prog 5 #[.int .i64 ((k : Int) + 1)] W fun e w' => e = .returned (.string y) ∧ Below W.heap.size W w' from fun W => by have := rtext_any _ hid W; rwa [hy] at this)
      by_cases hyt : y = t
      · have HF := hide (fnd_some hlt HO.out (hy.trans hyt))
        have hb : (y.toList == t.toList) = true := by rw [hyt]; simp
        clear hy hyt
        go_wp2_with (first
          | (go_at_call 15; refine (rcount_any _).mono ?_; rintro e w2 ⟨rfl, hb2⟩; have HB2 := hide (HB.out.trans (hb2.mono HB.out.size)); clear hb2)
          | (go_at_call 5; refine (HT.out _).mono ?_; rintro e w3 ⟨rfl, hb3⟩; have HB3 := hide (HB2.out.trans (hb3.mono HB2.out.size)); clear hb3))
        go_ret2
        exact ⟨ret2 ⟨HF.out.symm, by rw [HF.out]; exact (decide_eq_true (by omega)).symm⟩, HB3.out⟩
      · have HN := hide (show ∀ j : Nat, j < k + 1 → textAt ((j : Int) + 1) ≠ t from fun j hj => if e : j = k then (by subst e; rw [hy]; exact hyt) else HO.out j (by omega))
        have hb : (y.toList == t.toList) = false := by rw [beq_eq_false_iff_ne]; intro e; exact hyt (ByteArray.ext (by have h := e; rw [ByteArray.toList_eq, ByteArray.toList_eq] at h; exact Array.toList_inj.1 h))
        clear hy hyt
        go_wp2_with (first
          | (go_at_call 15; refine (rcount_any _).mono ?_; rintro e w2 ⟨rfl, hb2⟩; have HB2 := hide (HB.out.trans (hb2.mono HB.out.size)); clear hb2)
          | (go_at_call 5; refine (HT.out _).mono ?_; rintro e w3 ⟨rfl, hb3⟩; have HB3 := hide (HB2.out.trans (hb3.mono HB2.out.size)); clear hb3))
        go_roundw
        case rel => exact ⟨k + 1, by omega, by go_num, HN, HB3⟩
        case measure => simp [intOf]; omega
    · have hke : k = 180 := by omega
      have HF := hide (fnd_none (t := t) (fun j hj => HO.out j (by omega)))
      have hle : ¬ (k : Int) + 1 ≤ 180 := by omega
      go_wp2_with (first
        | (go_at_call 15; refine (rcount_any _).mono ?_; rintro e w2 ⟨rfl, hb2⟩; have HB2 := hide (HB.out.trans (hb2.mono HB.out.size)); clear hb2))
      go_ret2
      exact ⟨ret2 ⟨HF.out.symm, by rw [HF.out]; exact (decide_eq_false (by omega)).symm⟩, HB2.out⟩
end Go.Proofs.YtlkhiihehaiinaaDoor

/- querylabfield.Put: ascending numbers with one more. -/
namespace Go
open Go.RowKit
theorem run_append_zero {P : Program} {w : World} (base : Nat) (t ty e : TypeId) (i : TypeInfo) (size : Nat) (ht : P.underlying t = some (.slice e)) (hi : P.info? e = some i)
    (v : Value) (n : Nat) (xs : List Value) (hown : w.ownsRow base e size v n xs) (ao : Option Addr) (c : Nat) : (Builtin.append_ #[t, t] ty #[v, .slice ao 0 c]).run P w = .ok v w := by
  rcases hown.2 with ⟨rfl, rfl⟩ | ⟨g, cap, cur, rfl, _, _, hnc, _⟩
  · cases ao <;> simp [Builtin.append_, run_underlying ht, sizeOf, typeInfo, hi, Builtin.lenOf, Builtin.firstCells, loadCells, loadCellsFrom]
  · cases ao <;> simp [Builtin.append_, run_underlying ht, sizeOf, typeInfo, hi, Builtin.lenOf, Builtin.firstCells, loadCells, loadCellsFrom, hnc, storeCells]
theorem wpList_append_zero {P : Program} {w : World} {ops : Array Oper} {rest : List Oper} {o : Oper} {a : Act} {Q : Exit → Act → World → Prop} (hgd : o.guard = none) (s x : Operand) (t : TypeId)
    (ho : o.op = .call { callee := .builtin .append, args := #[s, x], argTypes := #[t, t] })
    (base : Nat) (e : TypeId) (i : TypeInfo) (size : Nat) (ht : P.underlying t = some (.slice e)) (hi : P.info? e = some i)
    (v : Value) (n : Nat) (xs : List Value) (hs : a.eval s = v) (hown : w.ownsRow base e size v n xs) (ao : Option Addr) (c : Nat) (hx : a.eval x = .slice ao 0 c)
    (h : wpList P ops Q rest (a.put o.dst v) w) : wpList P ops Q (o :: rest) a w := by
  refine wpList_plain hgd fun K hK => ?_
  have hrun := run_append_zero (P := P) (w := w) base t o.type e i size ht hi v n xs hown ao c
  unfold Oper.wp
  simp [execOp, ho, resolve, invoke, builtin, hs, hx, hrun, Result.andThen]
  exact hK _ _ h
end Go
namespace Go.Proofs.YtlkhiihehaiinaaDoor
open Go.RowKit

/-- l with x where it belongs. -/
def putL : List Int → Int → List Int
  | [], x => [x]
  | a :: r, x => if a < x then a :: putL r x else if a = x then a :: r else x :: a :: r
theorem putL_at : ∀ (l : List Int) (x : Int) (k : Nat), k ≤ l.length → (∀ j (hj : j < l.length), j < k → l[j] < x) → (∀ h : k < l.length, x ≤ l[k]) → putL l x = if h : k < l.length then (if l[k] = x then l else l.take k ++ [x] ++ l.drop k) else l ++ [x]
  | [], x, k, _, _, _ => by simp [putL]
  | a :: r, x, 0, _, h1, h2 => by
    have h3 : x ≤ a := h2 (by simp)
    have h4 : ¬ a < x := by omega
    simp [putL, h4]
  | a :: r, x, k + 1, hk, h1, h2 => by
    have h3 : a < x := h1 0 (by simp) (by omega)
    have ih := putL_at r x k (by simpa using hk) (fun j hj hjk => h1 (j + 1) (by simpa using hj) (by omega)) (fun h => h2 (by simpa using h))
    unfold putL
    rw [if_pos h3, ih]
    by_cases hkl : k < r.length
    · rw [dif_pos hkl, dif_pos (by simpa using hkl)]
      by_cases he : r[k] = x
      · rw [if_pos he, if_pos (by simpa using he)]
      · rw [if_neg he, if_neg (by simpa using he)]; simp
    · rw [dif_neg hkl, dif_neg (by simpa using hkl)]; simp
theorem int_cells {l : List Int} {w : World} {b o : Nat} (h : ∀ j (hj : j < l.length), w.cell? ⟨b, o + j, none⟩ = some (.int .i64 l[j])) : ∀ j u, (l.flatMap icells)[j]? = some u → w.cell? ⟨b, o + j, none⟩ = some u := by
  intro j u hu
  obtain ⟨hj, rfl⟩ := icells_at _ _ _ hu
  exact h j hj
theorem ilis_own {W : World} {base : Nat} {v : Value} {n : Nat} {l : List Int} (h : W.ownsRow base 3 1 v n (l.flatMap icells)) (hl : ∀ x ∈ l, int64 x) : ILis l v W := il_mk h hl
/-- A list of numbers that lies at or behind block n₀. -/
def ILf (n₀ : Nat) (l : List Int) (v : Value) (w : World) : Prop := ∃ r : IL, v = .slice r.h.ao r.l.length r.h.cap ∧ r.l = l ∧ r.In w ∧ (0 < l.length → n₀ ≤ r.h.b) ∧ (l = [] → r.h = nilHd)
theorem ilf_own {W : World} {base n₀ : Nat} {v : Value} {n : Nat} {l : List Int} (h : W.ownsRow base 3 1 v n (l.flatMap icells)) (hl : ∀ x ∈ l, int64 x) (hb : n₀ ≤ base) (hne : 0 < l.length) : ILf n₀ l v W := by
  obtain ⟨r, hv, hr, hin⟩ := ilis_own h hl
  refine ⟨r, hv, hr, hin, fun _ => ?_, fun e => by rw [e] at hne; simp at hne⟩
  rcases h.2 with ⟨rfl, h0⟩ | ⟨g, cap, cur, rfl, hg, _⟩
  · have h1 := h.1
    rw [icells_len] at h1
    omega
  · injection hv with h1 h2 h3
    show n₀ ≤ (r.h.ao.getD ⟨0, 0, none⟩).block
    rw [← h1]
    exact Nat.le_trans hb hg
theorem ILf.mono {n₀ : Nat} {l : List Int} {v : Value} {w w' : World} (h : ILf n₀ l v w) (hb : Below w.heap.size w w') : ILf n₀ l v w' := by
  obtain ⟨r, h1, h2, h3, h4⟩ := h
  exact ⟨r, h1, h2, h3.mono hb, h4⟩
theorem own_new1 {w : World} {x : Int} : (w.alloc (.cells #[.int .i64 x] 3)).ownsRow w.heap.size 3 1 (.slice (some ⟨w.heap.size, 0, none⟩) 1 1) 1 [.int .i64 x] :=
  ⟨rfl, .inr ⟨w.heap.size, 1, #[.int .i64 x], rfl, Nat.le_refl _, heap_alloc_new w _, Nat.le_refl _, by decide, rfl, rfl⟩⟩

set_option maxRecDepth 100000 in
set_option maxHeartbeats 2000000 in
theorem fput_nil (n₀ : Nat) (x : Int) (w : World) (hx : int64 x) (hn0 : n₀ ≤ w.heap.size) : Calls Tryd.prog 45 #[.slice none 0 0, .int .i64 x] w fun e w' => (∃ v, e = .returned v ∧ ILf n₀ [x] v w') ∧ Below w.heap.size w w' := by
  obtain ⟨i0, hi, hz0, hz1, hz2⟩ := info_parts info3
  have HI := hide (And.intro hi (And.intro hz0 (And.intro hz1 hz2)))
  have HX := hide hx
  clear hi hz0 hz1 hz2 hx
  go_enter Tryd.func45, Tryd.ntmps45
  go_wp2
  go_loopw [5] (fun i wr => i = .int .i64 0 ∧ Hid (Below w.heap.size w wr)) (fun _ _ => 0)
  case atStart => exact ⟨rfl, hide (Below.refl _ _)⟩
  case round =>
    obtain ⟨rfl, HB⟩ := hrel
    go_wp2_with (at_builtin; first
      | refine wpList_append_zero rfl _ _ 34 rfl wr.heap.size 3 i0 1 Tryd.underlying34 HI.out.1 _ _ _ rfl own_new1 none 0 rfl ?_
      | (refine wpList_append_own _ rfl _ _ 34 rfl w.heap.size 3 i0 (.int .i64 0) 1 8 Tryd.underlying34 HI.out.1 HI.out.2.1 HI.out.2.2.1 HI.out.2.2.2 rfl (by decide) _ _ _ rfl (World.ownsRow_nil _ _ _ _) ⟨wr.heap.size, 0, none⟩ 1 1 [.int .i64 x] rfl rfl (new_cells (l := [_])) one_int (by decide) (by decide) (by have := HB.out.size; simp; omega) ?_; intro v' w1 hown' hgrow _; have HO := hide hown'; have HG := hide hgrow; clear hown' hgrow))
    have HF := hide (show ILf n₀ [x] v' w1 from ilf_own (l := [x]) HO.out (by intro n hn; simp at hn; subst hn; exact HX.out) hn0 (by simp))
    have HB2 := hide (grown1 HB.out HB.out.size HG.out (fun k h => by cases h))
    go_ret
    exact ⟨⟨_, rfl, HF.out⟩, HB2.out⟩

theorem il_take {w : World} {h : Hd} {l : List Int} (hM : IL.In w ⟨h, l⟩) (k : Nat) : IL.In w ⟨h, l.take k⟩ := by
  obtain ⟨⟨h1, h2, h3, h4⟩, h5⟩ := hM
  dsimp only at h1 h2 h3 h4 h5
  refine ⟨⟨Nat.le_trans (by show (l.take k).length ≤ l.length; rw [List.length_take]; omega) h1, h2, fun hp => h3 (by have hp2 : 0 < (l.take k).length := hp; rw [List.length_take] at hp2; omega), fun i hi j v hv => ?_⟩, fun n hn => h5 n (List.mem_of_mem_take hn)⟩
  have hi1 : i < (l.take k).length := hi
  have hi2 : i < l.length := by rw [List.length_take] at hi1; omega
  dsimp only at hv
  rw [List.getElem_take] at hv
  exact h4 i hi2 j v hv
theorem il_drop {w : World} {b o cap : Nat} {l : List Int} (hM : IL.In w ⟨⟨some ⟨b, o, none⟩, cap⟩, l⟩) {k : Nat} (hk : k ≤ l.length) : IL.In w ⟨⟨some ⟨b, o + k, none⟩, cap - k⟩, l.drop k⟩ := by
  obtain ⟨⟨h1, h2, h3, h4⟩, h5⟩ := hM
  dsimp only at h1 h2 h3 h4 h5
  refine ⟨⟨by show (l.drop k).length ≤ cap - k; rw [List.length_drop]; omega, by show cap - k ≤ maxLen; omega, fun hp => ⟨rfl, (h3 (by have hp2 : 0 < (l.drop k).length := hp; rw [List.length_drop] at hp2; omega)).2⟩, fun i hi j v hv => ?_⟩, fun n hn => h5 n (List.mem_of_mem_drop hn)⟩
  have hi1 : i < (l.drop k).length := hi
  have hi2 : k + i < l.length := by rw [List.length_drop] at hi1; omega
  have hj : j < 1 := (List.getElem?_eq_some_iff.1 hv).1
  have e : j = 0 := by omega
  subst e
  dsimp only at hv
  rw [List.getElem_drop] at hv
  have h6 := h4 (k + i) hi2 0 v hv
  have h7 : w.cell? ⟨b, o + (k + i) * 1 + 0, none⟩ = some v := h6
  show w.cell? ⟨b, o + k + i * 1 + 0, none⟩ = some v
  rw [← h7]
  congr 2
  omega
theorem put_tail {w1 : World} {base m : Nat} {v1 : Value} {x : Int} {l : List Int} {h : Hd} {W : World} (hown : w1.ownsRow base 3 1 v1 (1 + m) ([.int .i64 x] ++ l.flatMap icells)) (hx : int64 x) (hl : IL.In W ⟨h, l⟩) : ∃ g1 cap1, v1 = .slice (some ⟨g1, 0, none⟩) (m + 1) cap1 ∧ Hid (IL.In w1 ⟨⟨some ⟨g1, 0, none⟩, cap1⟩, x :: l⟩) := by
  rw [Nat.add_comm] at hown
  obtain ⟨r, hv, hr, hin⟩ := ilis_own (l := x :: l) hown (by intro n hn; rcases List.mem_cons.1 hn with rfl | hn; exact hx; exact hl.2 n hn)
  obtain ⟨g', cap', rfl⟩ := ownsRow_succ hown
  obtain ⟨⟨ao, cap⟩, rl⟩ := r
  dsimp only at hr hv
  subst hr
  injection hv with h1 h2 h3
  subst h1 h3
  exact ⟨g', cap', rfl, hide hin⟩
theorem il_cells2 {w : World} {b o cap : Nat} {l : List Int} (h : IL.In w ⟨⟨some ⟨b, o, none⟩, cap⟩, l⟩) : ∀ j u, (l.flatMap icells)[j]? = some u → w.cell? ((⟨b, o, none⟩ : Addr).add j) = some u := il_cells h

set_option maxRecDepth 100000 in
set_option maxHeartbeats 4000000 in
theorem fput_some (n₀ b o cap : Nat) (l : List Int) (x : Int) (w : World) (hM : IL.In w ⟨⟨some ⟨b, o, none⟩, cap⟩, l⟩) (h0 : 0 < l.length) (hl : l.length ≤ 1000) (hx : int64 x) (hn0 : n₀ ≤ w.heap.size) (hb0 : n₀ ≤ b) :
    Calls Tryd.prog 45 #[.slice (some ⟨b, o, none⟩) l.length cap, .int .i64 x] w fun e w' => (∃ v, e = .returned v ∧ ILf n₀ (putL l x) v w') ∧ Below w.heap.size w w' := by
  obtain ⟨i0, hi, hz0, hz1, hz2⟩ := info_parts info3
  have HI := hide (And.intro hi (And.intro hz0 (And.intro hz1 hz2)))
  have HX := hide hx
  have HM := hide hM
  have hcap : l.length ≤ cap := hM.1.1
  clear hi hz0 hz1 hz2 hx hM
  go_enter Tryd.func45, Tryd.ntmps45
  go_wp2
  go_loopw [5] (fun i wr => ∃ k : Nat, k ≤ l.length ∧ i = .int .i64 k ∧ Hid (∀ j (hj : j < l.length), j < k → l[j] < x) ∧ Hid (Below w.heap.size w wr)) (fun i _ => l.length - (intOf i).toNat)
  case atStart => exact ⟨0, by omega, rfl, hide (fun j _ h => absurd h (by omega)), hide (Below.refl _ _)⟩
  case round =>
    obtain ⟨k, hk, rfl, HO, HB⟩ := hrel
    have HIN := hide (HM.out.mono HB.out)
    have hcapi : (l.length : Int) ≤ cap := by omega
    have hki : (k : Int) ≤ l.length := by omega
    have hkc : (k : Int) ≤ cap := by omega
    by_cases hlt : k < l.length
    · have hlti : (k : Int) < l.length := by omega
      have hix : ∀ W, (Instr.indexAt 34 (.slice (some ⟨b, o, none⟩) l.length cap) (.int .i64 k)).run Tryd.prog W = .ok (.pointer (some ⟨b, o + k, none⟩)) W := fun W => by simpa [Hd.b, Hd.o] using HIN.out.1.ix hlt Tryd.underlying34 szil W
      have c0 : wr.cell? ⟨b, o + k, none⟩ = some (.int .i64 l[k]) := int_at HIN.out.1 hlt
      obtain ⟨y, hy⟩ : ∃ y, l[k] = y := ⟨_, rfl⟩
      rw [hy] at c0
      have HY := hide hy
      clear hy
      by_cases hyx : y < x
      · have hw1 : IntKind.i64.wrap ((k : Int) + 1) = ((k + 1 : Nat) : Int) := by rw [IntKind.wrap_i64]; omega
        go_wp2
        go_roundw
        case rel => exact ⟨k + 1, by omega, by go_num, hide (fun j hj h => if e : j = k then (by subst e; rw [HY.out]; exact hyx) else HO.out j hj (by omega)), HB⟩
        case measure => simp [intOf]; omega
      · have HPA := hide (putL_at l x k hk HO.out (fun h => by rw [HY.out]; omega))
        by_cases hye : y = x
        · subst hye
          have HF := hide (show ILf n₀ (putL l y) (.slice (some ⟨b, o, none⟩) l.length cap) wr from by
            rw [HPA.out, dif_pos hlt, if_pos HY.out]; exact ⟨⟨⟨some ⟨b, o, none⟩, cap⟩, l⟩, rfl, rfl, HIN.out, fun _ => hb0, fun e => by rw [e] at h0; simp at h0⟩)
          go_wp2
          go_ret
          exact ⟨⟨_, rfl, HF.out⟩, HB.out⟩
        · have HPE := hide (show putL l x = l.take k ++ [x] ++ l.drop k from by rw [HPA.out, dif_pos hlt, if_neg (fun e => hye (HY.out.symm.trans e))])
          have hxy : (y == x) = false := beq_eq_false_iff_ne.2 hye
          clear HPA
          have hmul : l.length - k + 1 ≤ 1001 := by omega
          go_wp2_with (at_builtin; first
            | (refine wpList_append_grows _ rfl _ _ 34 rfl 3 i0 (.int .i64 0) 1 8 Tryd.underlying34 HI.out.1 HI.out.2.1 HI.out.2.2.1 HI.out.2.2.2 rfl (by decide) (some ⟨wr.heap.size, 0, none⟩) 1 1 [.int .i64 x] rfl (by simp) rfl ?a1 ⟨b, o + k, none⟩ (l.length - k) (cap - k) ((l.drop k).flatMap icells) rfl ?a2 ?a3 (icells_one _) ?a4 ?a5 ?a6 ?_
               case a1 => (rintro _ ⟨rfl⟩; exact new_cells (l := [_]))
               case a2 => rw [icells_len, List.length_drop]; omega
               case a3 => exact il_cells2 (il_drop (HIN.out.mono (belA _)) hk)
               case a4 => omega
               case a5 => unfold maxLen; omega
               case a6 => omega
               intro v1 w1 hown1 hgr1
               have HG1 := hide (HB.out.trans (((belA _).trans ((below_grown hgr1).mono (by simp))).mono HB.out.size))
               obtain ⟨g1, cap1, hv1, HO1⟩ : ∃ g1 cap1, v1 = .slice (some ⟨g1, 0, none⟩) (l.length - k + 1) cap1 ∧ Hid (IL.In w1 ⟨⟨some ⟨g1, 0, none⟩, cap1⟩, x :: l.drop k⟩) := put_tail hown1 HX.out (il_drop HIN.out hk)
               subst hv1
               clear hown1 hgr1)
            | (refine wpList_append_grows _ rfl _ _ 34 rfl 3 i0 (.int .i64 0) 1 8 Tryd.underlying34 HI.out.1 HI.out.2.1 HI.out.2.2.1 HI.out.2.2.2 rfl (by decide) (some ⟨b, o, none⟩) k k ((l.take k).flatMap icells) rfl (by simp) ?b0 ?b1 ⟨g1, 0, none⟩ (l.length - k + 1) cap1 ((x :: l.drop k).flatMap icells) rfl ?b2 ?b3 (icells_one _) ?b4 ?b5 ?b6 ?_
               case b0 => rw [icells_len, List.length_take]; omega
               case b1 => (rintro _ ⟨rfl⟩; exact il_cells2 (il_take (HM.out.mono HG1.out) k))
               case b2 => rw [icells_len, List.length_cons, List.length_drop]; omega
               case b3 => exact il_cells2 HO1.out
               case b4 => omega
               case b5 => unfold maxLen; omega
               case b6 => omega
               intro v2 w2 hown2 hgr2
               have HG2 := hide (HG1.out.trans ((below_grown hgr2).mono HG1.out.size))
               have HO2 := hide hown2
               clear hown2 hgr2))
          have HF := hide (show ILf n₀ (putL l x) v2 w2 from by
            rw [HPE.out]
            refine ilf_own (base := w1.heap.size) (n := k + (l.length - k + 1)) (l := l.take k ++ [x] ++ l.drop k) ?_ ?_ (by have := HG1.out.size; omega) (by simp only [List.length_append, List.length_cons]; omega)
            · have := HO2.out
              rw [← List.flatMap_append] at this
              rw [List.append_assoc]; exact this
            · intro n hn
              rcases List.mem_append.1 hn with h | h
              · rcases List.mem_append.1 h with h | h
                · exact HM.out.2 n (List.mem_of_mem_take h)
                · simp at h; subst h; exact HX.out
              · exact HM.out.2 n (List.mem_of_mem_drop h))
          go_ret
          exact ⟨⟨_, rfl, HF.out⟩, HG2.out⟩
    · have hke : k = l.length := by omega
      subst hke
      have hlti : ¬ (l.length : Int) < l.length := by omega
      have HPE := hide (show putL l x = l ++ [x] from by rw [putL_at l x l.length (Nat.le_refl _) HO.out (fun h => absurd h (by omega)), dif_neg hlt])
      go_wp2_with (at_builtin; first
        | (refine wpList_append_zero rfl _ _ 34 rfl wr.heap.size 3 i0 1 Tryd.underlying34 HI.out.1 _ _ _ rfl own_new1 (some ⟨b, o + l.length, none⟩) (cap - l.length) (by first | rfl | (simp; done)) ?_)
        | (refine wpList_append_grows _ rfl _ _ 34 rfl 3 i0 (.int .i64 0) 1 8 Tryd.underlying34 HI.out.1 HI.out.2.1 HI.out.2.2.1 HI.out.2.2.2 rfl (by decide) (some ⟨b, o, none⟩) l.length l.length (l.flatMap icells) rfl (by simp) ?b0 ?b1 ⟨wr.heap.size, 0, none⟩ 1 1 [.int .i64 x] rfl rfl ?b3 one_int ?b4 ?b5 ?b6 ?_
           case b0 => rw [icells_len]; omega
           case b1 => (rintro _ ⟨rfl⟩; exact il_cells2 (HIN.out.mono (belA _)))
           case b3 => exact new_cells (l := [_])
           case b4 => omega
           case b5 => unfold maxLen; omega
           case b6 => omega
           intro v2 w2 hown2 hgr2
           have HG2 := hide (HB.out.trans (((belA _).trans ((below_grown hgr2).mono (by simp))).mono HB.out.size))
           have HO2 := hide hown2
           clear hown2 hgr2))
      all_goals
        have HF := hide (show ILf n₀ (putL l x) v2 w2 from by
          rw [HPE.out]
          refine ilf_own (n := l.length + 1) (l := l ++ [x]) (by rw [flat_snoc]; exact HO2.out) ?_ (by have := HB.out.size; simp; omega) (by simp)
          intro n hn
          rcases List.mem_append.1 hn with h | h
          · exact HM.out.2 n h
          · simp at h; subst h; exact HX.out)
        go_ret
        exact ⟨⟨_, rfl, HF.out⟩, HG2.out⟩
/-- At any list whose header is nil if it is empty. -/
theorem fput_any (n₀ : Nat) (M : IL) (x : Int) (w : World) (hM : M.In w) (hn : M.l = [] → M.h = nilHd) (hl : M.l.length ≤ 1000) (hx : int64 x) (hn0 : n₀ ≤ w.heap.size) (hb0 : 0 < M.l.length → n₀ ≤ M.h.b) :
    Calls Tryd.prog 45 #[.slice M.h.ao M.l.length M.h.cap, .int .i64 x] w fun e w' => (∃ v, e = .returned v ∧ ILf n₀ (putL M.l x) v w') ∧ Below w.heap.size w w' := by
  obtain ⟨⟨ao, cap⟩, l⟩ := M
  cases l with
  | nil =>
    have h := hn rfl
    injection h with h1 h2
    subst h1 h2
    exact fput_nil n₀ x w hx hn0
  | cons a r =>
    have h := (hM.1.2.2.1 (by simp)).1
    dsimp only at h
    obtain ⟨ad, had⟩ : ∃ ad : Addr, ao = some ad := ⟨_, h⟩
    subst had
    injection h with h
    have hb2 := hb0 (by simp)
    rw [h]
    rw [h] at hM
    exact fput_some n₀ _ _ cap (a :: r) x w hM (by simp) hl hx hn0 hb2
end Go.Proofs.YtlkhiihehaiinaaDoor

/- querylablaw36.FaultShows holds. -/
import Derived.Test.YtlkhiihehaiinaaDoorGO
import Derived.Test.YtlkhiihehaiinaaDoorGP
import Derived.Test.YtlkhiihehaiinaaDoorGH
import Derived.Test.YtlkhiihehaiinaaDoorFSRgK
import Derived.Deep.CutBlock
import Derived.Deep.DeepCutAuto
import Derived.Deep.RegionHeld3
namespace Go.Proofs.YtlkhiihehaiinaaDoor
open Go.RowKit

theorem opsW_plain : (opsW.all fun t => t.all fun c => c != 32) = true := by kernel_rfl
theorem famW_le : (famW.all fun t => decide (t.length ≤ 20)) = true := by kernel_rfl
theorem opsW_le : (opsW.all fun t => decide (t.length ≤ 20)) = true := by kernel_rfl
theorem opsW_mem {o : Nat} (h6 : 6 ≤ o) (h28 : o ≤ 28) : opsW.getD (o - 6) [] ∈ opsW := by
  rw [List.getD_eq_getElem?_getD, List.getElem?_eq_getElem (show o - 6 < opsW.length from by show o - 6 < 23; omega)]
  exact List.getElem_mem _
theorem famW_mem {f : Nat} (hf : f < 5) : famW.getD f [] ∈ famW := by
  rw [List.getD_eq_getElem?_getD, List.getElem?_eq_getElem (show f < famW.length from hf)]
  exact List.getElem_mem _
/-- A word of two parts: where its second begins. -/
theorem word_sp {F W : List UInt8} {wd : ByteArray} (h : wd = mk (F ++ [32] ++ W)) : wd.size = F.length + 1 + W.length ∧ ∀ (hb : F.length < wd.size), (((wd[F.length]'hb).toNat : Int) != 32) = false := by
  subst h
  have hs : (mk (F ++ [32] ++ W)).size = F.length + 1 + W.length := by simp [ByteArray.size]; omega
  refine ⟨hs, fun hb => ?_⟩
  have e : (mk (F ++ [32] ++ W))[F.length]'hb = 32 := by
    show (F ++ [32] ++ W).toArray[F.length]'_ = 32
    simp
  rw [e]
  rfl
theorem word_in {F W : List UInt8} {wd : ByteArray} (h : wd = mk (F ++ [32] ++ W)) (hW : (W.all fun c => c != 32) = true) {b : Nat} (hb : b < wd.size) (hF : F.length < b) : (((wd[b]'hb).toNat : Int) != 32) = true := by
  have hs := (word_sp h).1
  subst h
  have hi : b - F.length - 1 < W.length := by omega
  have e : (mk (F ++ [32] ++ W))[b]'hb = W[b - F.length - 1] := by
    show (F ++ [32] ++ W).toArray[b]'_ = _
    rw [List.getElem_toArray, List.getElem_append_right (by simp; omega)]
    congr 1
    simp
    omega
  rw [e]
  have h1 := List.all_eq_true.1 hW _ (List.getElem_mem hi)
  rw [bne_iff_ne] at h1 ⊢
  intro h2
  apply h1
  apply UInt8.toNat_inj.1
  show _ = 32
  omega

theorem ftab_inv0 : ((List.range 23).all fun k => ftab.getD k (9, 9) == (0, k + 6)) = true := by kernel_rfl
theorem ftab_inv {p : Nat} (h6 : 6 ≤ p) (h28 : p ≤ 28) : ftab[p - 6]? = some (0, p) := by
  have h1 := List.all_eq_true.1 ftab_inv0 (p - 6) (List.mem_range.2 (by omega))
  have hl : p - 6 < ftab.length := by show p - 6 < 73; omega
  rw [List.getD_eq_getElem?_getD, List.getElem?_eq_getElem hl, Option.getD_some, beq_iff_eq] at h1
  rw [List.getElem?_eq_getElem hl, h1, Nat.sub_add_cancel h6]
def invB : List UInt8 := [105, 110, 118, 101, 114, 116, 101, 100, 32]
theorem inv_text {p : Nat} (h6 : 6 ≤ p) (h28 : p ≤ 28) : textAt ((p : Int) - 5) = mk (invB ++ opsW.getD (p - 6) []) := by
  have h := text_lit (p - 6) (by omega) _ (ftab_text (ftab_inv h6 h28))
  rw [show ((p - 6 : Nat) : Int) + 1 = (p : Int) - 5 by omega] at h
  exact h
theorem ext_mk (A B : List UInt8) (n : Nat) (hn : n = A.length) : ((mk (A ++ B)).extract n (mk (A ++ B)).size).data.toList = B := by
  subst hn
  simp [ByteArray.size]
theorem opsW_apart : ((List.range 23).all fun i => (List.range i).all fun j => !(opsW.getD j [] == opsW.getD i [])) = true := by kernel_rfl
theorem text_ne {p o : Nat} {F : List UInt8} {tp wd : ByteArray} (h6 : 6 ≤ p) (hpo : p ≤ o) (h28 : o ≤ 28) (htp : tp = mk (invB ++ opsW.getD (p - 6) [])) (hwd : wd = mk (F ++ [32] ++ opsW.getD (o - 6) [])) (a : Nat) (ha : a = F.length + 1) :
    (!((tp.extract 9 tp.size).toList == (wd.extract a wd.size).toList)) = (p != o) := by
  rw [ByteArray.toList_eq, ByteArray.toList_eq, htp, hwd, ext_mk _ _ _ (by rfl), ext_mk _ _ _ (by simp [ha])]
  by_cases h : p = o
  · subst h; simp
  · have h1 := List.all_eq_true.1 (List.all_eq_true.1 opsW_apart (o - 6) (List.mem_range.2 (by omega))) (p - 6) (List.mem_range.2 (by omega))
    rw [h1]
    symm
    exact bne_iff_ne.2 h
def pw8 (k : Nat) : Nat := 8 ^ k
theorem pw8_mul {k : Nat} (hk : k ≤ 2) : IntKind.i64.wrap ((pw8 k : Int) * 8) = (pw8 (k + 1) : Nat) := by
  have hc : k = 0 ∨ k = 1 ∨ k = 2 := by omega
  rcases hc with rfl | rfl | rfl <;> rfl
theorem pw8_le {k : Nat} (hk : k ≤ 3) : pw8 k ≤ 512 := by
  have hc : k = 0 ∨ k = 1 ∨ k = 2 ∨ k = 3 := by omega
  rcases hc with rfl | rfl | rfl | rfl <;> decide
theorem tm_nat (m n : Nat) (_ : 0 < n) : (m : Int).tmod n = ((m % n : Nat) : Int) := by rw [Int.tmod_eq_emod_of_nonneg (by omega)]; omega
theorem td_nat (m n : Nat) (_ : 0 < n) : (m : Int).tdiv n = ((m / n : Nat) : Int) := by rw [Int.tdiv_eq_ediv_of_nonneg (by omega)]; omega
theorem vals8_wf : ∀ v ∈ vals8, v.wf := by
  intro v hv
  simp only [vals8, List.mem_cons, List.not_mem_nil, or_false] at hv
  rcases hv with rfl | rfl | rfl | rfl | rfl | rfl | rfl | rfl <;> exact ⟨i64_lit rfl, i64_lit rfl, by decide⟩
theorem v8_at {W : World} {b8 i : Nat} (h : VL.In W ⟨⟨some ⟨b8, 0, none⟩, 8⟩, vals8⟩) (hi : i < 8) :
    b8 < W.heap.size ∧ ∃ p, (∀ U, (Instr.indexAt 28 (.slice (some ⟨b8, 0, none⟩) 8 8) (.int .i64 i)).run Tryd.prog U = .ok (.pointer (some ⟨b8, p, none⟩)) U) ∧
      W.cell? ⟨b8, p, none⟩ = some (.int .i64 (vals8.getD i nulV).kind) ∧ W.cell? ⟨b8, p + 1, none⟩ = some (.int .i64 (vals8.getD i nulV).num) ∧ W.cell? ⟨b8, p + 2, none⟩ = some (.string (vals8.getD i nulV).text) := by
  have hl : i < vals8.length := hi
  have e : vals8.getD i nulV = vals8[i] := getD_of hl rfl
  rw [e]
  exact ⟨h.1.blk (i := i) hl, _, h.1.ix hl Tryd.underlying28 szval, val_at h.1 hl⟩
theorem row3 {W : World} {b n : Nat} {v0 v1 v2 : V} (hn : n ≤ 3) (hb : Box W b #[.int .i64 v0.kind, .int .i64 v0.num, .string v0.text, .int .i64 v1.kind, .int .i64 v1.num, .string v1.text, .int .i64 v2.kind, .int .i64 v2.num, .string v2.text] 24) (h0 : v0.wf) (h1 : v1.wf) (h2 : v2.wf) : VL.In W ⟨⟨some ⟨b, 0, none⟩, 3⟩, [v0, v1, v2].take n⟩ := by
  refine ⟨⟨by show ([v0, v1, v2].take n).length ≤ 3; rw [List.length_take]; exact Nat.min_le_right _ _, (by decide : 3 ≤ maxLen), fun _ => ⟨rfl, hb.lt⟩, fun i hi j v hv => ?_⟩, fun v hv => ?_⟩
  · have hi3 : i < 3 := by have : i < ([v0, v1, v2].take n).length := hi; rw [List.length_take] at this; exact Nat.lt_of_lt_of_le this (Nat.min_le_right _ _)
    have hj : j < 3 := (List.getElem?_eq_some_iff.1 hv).1
    dsimp only at hv
    rw [List.getElem_take] at hv
    have hci : i = 0 ∨ i = 1 ∨ i = 2 := by omega
    have hcj : j = 0 ∨ j = 1 ∨ j = 2 := by omega
    rcases hci with rfl | rfl | rfl <;> rcases hcj with rfl | rfl | rfl <;> exact hb.cell hv
  · have := List.mem_of_mem_take hv
    simp only [List.mem_cons, List.not_mem_nil, or_false] at this
    rcases this with rfl | rfl | rfl <;> assumption
theorem vals8_get (i : Nat) : (vals8.getD i nulV).wf := getD_wf vals8_wf i
theorem il_one {W : World} {b : Nat} {n : Int} (h : Box W b #[.int .i64 n] 3) (hn : int64 n) : IL.In W ⟨⟨some ⟨b, 0, none⟩, 1⟩, [n]⟩ := by
  refine ⟨⟨Nat.le_refl _, (by decide : 1 ≤ maxLen), fun _ => ⟨rfl, h.lt⟩, fun i hi j v hv => ?_⟩, fun x hx => by rw [List.mem_singleton.1 hx]; exact hn⟩
  have hi0 : i = 0 := by have : i < 1 := hi; omega
  subst hi0
  have hj : j < 1 := (List.getElem?_eq_some_iff.1 hv).1
  have hj0 : j = 0 := by omega
  subst hj0
  exact h.cell hv
theorem w64_id {n : Int} (h : -9223372036854775808 ≤ n ∧ n ≤ 9223372036854775807) : wrap64 n = n := by unfold wrap64; omega
theorem pm5 {p : Nat} (h : p ≤ 28) : IntKind.i64.wrap (1 + (p : Int)) = (p : Int) + 1 ∧ IntKind.i64.wrap ((p : Int) + 1 - 6) = (p : Int) - 5 := by rw [IntKind.wrap_i64, IntKind.wrap_i64]; omega
set_option maxRecDepth 100000 in
set_option maxHeartbeats 8000000 in
theorem shows_walk (id : Int) (hid : 0 ≤ id ∧ id < 256) (w : World) (hw : AW w) : Calls Tryd.prog 3 #[.int .u8 id] w fun e w' => e = .returned (.bool true) ∧ Below w.heap.size w w' := by
  obtain ⟨kk, hkk, hk73⟩ : ∃ kk : Nat, id.tmod 73 = kk ∧ kk < 73 := by
    have h := Int.tmod_eq_emod_of_nonneg (a := id) (b := 73) hid.1
    exact ⟨(id.tmod 73).toNat, by omega, by omega⟩
  obtain ⟨f, o, hfo⟩ : ∃ f o, ftab[kk]? = some (f, o) := by
    have h : kk < ftab.length := hk73
    exact ⟨ftab[kk].1, ftab[kk].2, List.getElem?_eq_getElem h⟩
  have HW := hide hw
  have HK := hide hfo
  obtain ⟨hf5, h6, h28, _⟩ := ftab_ok hfo
  have HT := hide (fun W => rtext_any ((kk : Int) + 1) (by constructor <;> omega) W)
  obtain ⟨wd, hwd⟩ : ∃ wd, textAt ((kk : Int) + 1) = wd := ⟨_, rfl⟩
  rw [hwd] at HT
  have HWD := hide (show wd = mk (famW.getD f [] ++ [32] ++ opsW.getD (o - 6) []) from by rw [← hwd]; exact text_lit kk (by omega) _ (ftab_text hfo))
  have hkz : IntKind.i64.wrap (1 + (kk : Int)) = (kk : Int) + 1 := by rw [IntKind.wrap_i64]; omega
  clear hw hfo hwd
  go_enter Tryd.func3, Tryd.ntmps3
  go_wp2_with (go_at_call 5; refine (HT.out _).mono ?_; rintro e x1 ⟨rfl, hb⟩; have HB1 := hide hb; clear hb)
  obtain ⟨hws, hw32⟩ := word_sp HWD.out
  have HWN := hide (fun (b : Nat) (hb : b < wd.size) (hF : (famW.getD f []).length < b) => word_in HWD.out (List.all_eq_true.1 opsW_plain _ (opsW_mem h6 h28)) hb hF)
  have HW32 := hide hw32
  have HNE := hide (fun (p : Nat) (tp : ByteArray) (h1 : 6 ≤ p) (h2 : p ≤ o) (h3 : tp = mk (invB ++ opsW.getD (p - 6) [])) (a : Nat) (h4 : a = (famW.getD f []).length + 1) => text_ne h1 h2 h28 h3 HWD.out a h4)
  have hfl : (famW.getD f []).length ≤ 20 := of_decide_eq_true (List.all_eq_true.1 famW_le _ (famW_mem hf5))
  have hol : (opsW.getD (o - 6) []).length ≤ 20 := of_decide_eq_true (List.all_eq_true.1 opsW_le _ (opsW_mem h6 h28))
  clear hw32
  generalize (famW.getD f []).length = FL at *
  have hsz : wd.size ≤ 41 := by omega
  have hsz1 : FL + 1 ≤ wd.size := by omega
  clear hws
  go_loopw [5] (fun v wr => ∃ a : Nat, FL + 1 ≤ a ∧ a ≤ wd.size ∧ v = .int .i64 a ∧ wr = x1) (fun v _ => (intOf v).toNat)
  case atStart => exact ⟨wd.size, hsz1, Nat.le_refl _, rfl, rfl⟩
  case round =>
    obtain ⟨a, ha1, ha, rfl, rfl⟩ := hrel
    obtain ⟨b, hb1⟩ : ∃ b : Nat, a = b + 1 := ⟨a - 1, by omega⟩
    have hwr : wrap64 ((a : Int) - 1) = (b : Int) := by rw [show ((a : Int) - 1) = b by omega]; exact w64_id (by omega)
    have hbl : b < wd.size := by omega
    have hbi : (b : Int) < wd.size := by omega
    have ha0 : (0 : Int) < a := by omega
    by_cases hbe : FL < b
    · have hc := HWN.out b hbl hbe
      go_wp2
      go_roundw
      case rel => exact ⟨b, by omega, by omega, by go_num, trivial⟩
      case measure => simp [intOf]; omega
    · have hbe2 : b = FL := by omega
      have hc := HW32.out (by omega)
      subst hbe2
      go_wp2
      go_loopw [6] (fun v wr => ∃ p : Nat, 6 ≤ p ∧ p ≤ o ∧ v = .int .i64 p ∧ Below w.heap.size w wr) (fun v _ => o - (intOf v).toNat)
      case atStart => exact ⟨6, Nat.le_refl _, h6, rfl, HB1.out⟩
      case round =>
        obtain ⟨p, hp6, hpo, rfl, hbw⟩ := hrel
        have HBW := hide hbw
        clear hbw
        obtain ⟨hp1, hp2⟩ := pm5 (p := p) (by omega)
        have HTP := hide (fun W => rtext_any ((p : Int) - 5) (by constructor <;> omega) W)
        obtain ⟨tp, htp⟩ : ∃ tp, textAt ((p : Int) - 5) = tp := ⟨_, rfl⟩
        rw [htp] at HTP
        have HTPD := hide (htp.symm.trans (inv_text hp6 (by omega)))
        have htz : tp.size = 9 + (opsW.getD (p - 6) []).length := by rw [HTPD.out]; simp [ByteArray.size, invB]; omega
        have ht9 : (9 : Int) ≤ tp.size := by omega
        have hai : (a : Int) ≤ wd.size := by omega
        clear htp
        have hne := HNE.out p tp hp6 hpo HTPD.out a (by omega)
        go_wp2
        refine fs7_reg (p := p) (a := a) (tp := tp) (wd := wd) hp1 hp2 ht9 hai HTP hne ?hc ?hend
        case hc => rfl
        case hend =>
        intro x2 hb2
        have HB2 := hide (bel_trans HBW.out hb2)
        clear hb2 hne
        by_cases hpe : p = o
        · have hpb : (p != o) = false := by rw [hpe]; simp
          subst hpe
          go_upto_block 4 with fail
          clear HTP HTPD htz ht9 hai HNE HWN HW32 HWD hp1 hp2 hwr hc HB1 HBW HT hb1 hbe ha1 hsz1 ha ha0 hfl
          go_cut [7] (fun v wx => v = .int .i64 (nOf p : Nat) ∧ Hid (Below w.heap.size w wx))
          case first =>
            have hcases : p = 6 ∨ p = 7 ∨ p = 8 ∨ p = 9 ∨ p = 10 ∨ p = 11 ∨ p = 12 ∨ p = 13 ∨ p = 14 ∨ p = 15 ∨ p = 16 ∨ p = 17 ∨ p = 18 ∨ p = 19 ∨ p = 20 ∨ p = 21 ∨ p = 22 ∨ p = 23 ∨ p = 24 ∨ p = 25 ∨ p = 26 ∨ p = 27 ∨ p = 28 := by omega
            clear HK
            rcases hcases with rfl | rfl | rfl | rfl | rfl | rfl | rfl | rfl | rfl | rfl | rfl | rfl | rfl | rfl | rfl | rfl | rfl | rfl | rfl | rfl | rfl | rfl | rfl
            all_goals
              go_wp2_with fail
              go_meet
              exact ⟨rfl, HB2⟩
          case rest =>
          obtain ⟨rfl, HBC⟩ := hcut
          have hshow := shows_at HK.out
          obtain ⟨hkok, hfok⟩ := kids_nOf h6 h28
          have hnc := nOf_cases p
          have HSH := hide (And.intro hshow (And.intro hkok hfok))
          clear hshow hkok hfok
          generalize nOf p = n at *
          have hn3 : n ≤ 3 := by omega
          have hn3i : (n : Int) ≤ 3 := by omega
          go_wp2_with (first
            | (go_at_call 6; refine (fint_any _ _).mono ?_; rintro e xa ⟨rfl, hb⟩; have HBC := hide (bel_trans HBC.out hb); clear hb)
            | (go_at_call 7; refine (fbool_f _).mono ?_; rintro e xa ⟨rfl, hb⟩; have HBC := hide (bel_trans HBC.out hb); clear hb)
            | (go_at_call 7; refine (fbool_t _).mono ?_; rintro e xa ⟨rfl, hb⟩; have HBC := hide (bel_trans HBC.out hb); clear hb)
            | (go_at_call 8; refine (ftxt_any _ _).mono ?_; rintro e xa ⟨rfl, hb⟩; have HBC := hide (bel_trans HBC.out hb); clear hb))
          obtain ⟨Z, hZ⟩ : ∃ Z, xa.alloc (.cells #[.int .i64 0, .int .i64 0, .string ⟨#[]⟩, .int .i64 1, .int .i64 0, .string ⟨#[]⟩, .int .i64 1, .int .i64 1, .string ⟨#[]⟩, .int .i64 1, .int .i64 3, .string ⟨#[]⟩, .int .i64 2, .int .i64 0, .string ⟨#[]⟩, .int .i64 2, .int .i64 1, .string ⟨#[]⟩, .int .i64 3, .int .i64 0, .string ⟨#[97]⟩, .int .i64 3, .int .i64 0, .string ⟨#[98]⟩] 24) = Z := ⟨_, rfl⟩
          have HVL := hide (show VL.In Z ⟨⟨some ⟨xa.heap.size, 0, none⟩, 8⟩, vals8⟩ from by rw [← hZ]; exact ⟨new_row (cells := V.cells) (size := 3) (xs := vals8) (fun _ => rfl) (by decide), vals8_wf⟩)
          have HBZ := hide (show Below w.heap.size w Z from by rw [← hZ]; exact bel_trans HBC.out (belA _))
          have hZs : Z.heap.size = xa.heap.size + 1 := by rw [← hZ]; simp
          rw [hZ, ← hZs]
          clear hZ HBC hZs
          generalize xa.heap.size = b8 at *
          have HL0 := hide (show LE Z p 0 (.slice none 0 0) (Z.alloc (.cells #[.int .i64 (p : Nat), .int .i64 0, .int .i64 0, .string ⟨#[]⟩, .int .i64 0, .slice none 0 0] 31)) from ⟨belA _, Box.new _ _ _, World.ownsRow_nil _ _ _ _⟩)
          go_loopw [10, 11] (fun pts i wr => ∃ (k : Nat) (u : Value), k ≤ n ∧ pts = .int .i64 (pw8 k : Nat) ∧ i = .int .i64 k ∧ Hid (LE Z p k u wr)) (fun _ i _ => n - (intOf i).toNat)
          case atStart => exact ⟨0, _, Nat.zero_le _, rfl, rfl, HL0⟩
          case round =>
          obtain ⟨k, u, hk, rfl, rfl, HL⟩ := hrel
          clear HL0
          by_cases hlt : k < n
          · have hlti : (k : Int) < n := by omega
            have hpw := pw8_mul (k := k) (by omega)
            go_wp2
            refine fs27_reg (y := Z) (o := p) (k := k) (u := u) (by omega) HL ?hc ?hend
            case hc => rfl
            case hend =>
              intro b4 g4 cap4 x3 hx3
              have HX := hide hx3
              clear hx3
              go_wp2
              go_roundw
              case rel => exact ⟨k + 1, _, by omega, by go_num, by go_num, HX⟩
              case measure => simp [intOf]; omega
          · have hlti : ¬ (k : Int) < n := by omega
            have hke : k = n := by omega
            subst hke
            obtain ⟨hd, hu, hrow⟩ := own_row (size := 6) (cells := Ex.cells) (fun _ => rfl) (by decide) HL.out.own
            rw [show ((List.range k).map colE).length = k by simp] at hu
            subst hu
            generalize wr = y1 at *
            have HROW := hide hrow
            have HBE := hide HL.out.be
            have HV1 := hide (HVL.out.mono HL.out.bel)
            have HB1 := hide (show Below w.heap.size w y1 from bel_trans HBZ.out HL.out.bel)
            have HA1 := hide (HW.out.below HB1.out)
            have hpl := pw8_le hn3
            clear hrow HVL HBZ HL
            go_wp2
            go_loopw [12] (fun i wr => ∃ m : Nat, m ≤ pw8 k ∧ i = .int .i64 m ∧ Hid (∀ j, j < m → sameB (fvV f p (rowL k j)) (revV p (rowL k j)) = true) ∧ Hid (Below y1.heap.size y1 wr)) (fun i _ => pw8 k - (intOf i).toNat)
            case atStart => exact ⟨0, Nat.zero_le _, rfl, hide (fun j h => absurd h (by omega)), hide (Below.refl _ _)⟩
            case round =>
            obtain ⟨m, hm, rfl, HSM, HBR⟩ := hrel
            by_cases hmlt : m < pw8 k
            · have hmlti : (m : Int) < pw8 k := by omega
              have HVR := hide (HV1.out.mono HBR.out)
              obtain ⟨hb8, p0, hix0, c0, c1, c2⟩ := v8_at HVR.out (i := m % 8) (by omega)
              obtain ⟨_, p1, hix1, d0, d1, d2⟩ := v8_at HVR.out (i := m / 8 % 8) (by omega)
              obtain ⟨_, p2, hix2, e0, e1, e2⟩ := v8_at HVR.out (i := m / 64 % 8) (by omega)
              have HFX := hide (And.intro hix0 (And.intro hix1 (And.intro hix2 (And.intro c0 (And.intro c1 (And.intro c2 (And.intro d0 (And.intro d1 (And.intro d2 (And.intro e0 (And.intro e1 e2)))))))))))
              clear hix0 hix1 hix2 c0 c1 c2 d0 d1 d2 e0 e1 e2
              go_wp2
              obtain ⟨hix0, hix1, hix2, c0, c1, c2, d0, d1, d2, e0, e1, e2⟩ := HFX.out
              refine fs32_reg (b8 := b8) (m := m) (n := k) (i0 := m % 8) (i1 := m / 8 % 8) (i2 := m / 64 % 8) (q1 := m / 8) (q2 := m / 64) hb8 hn3i (tm_nat m 8 (by decide)) (td_nat m 8 (by decide)) (tm_nat (m / 8) 8 (by decide)) (td_nat m 64 (by decide)) (tm_nat (m / 64) 8 (by decide)) (by rw [IntKind.wrap_i64]; omega) (by rw [IntKind.wrap_i64]; omega) hix0 hix1 hix2 c0 c1 c2 d0 d1 d2 e0 e1 e2 ?hc ?hend
              case hc => rfl
              case hend =>
              intro b17 b19 x4 hb4 hx4 hg4
              have HR4 := hide (show VL.In x4 ⟨⟨some ⟨b19, 0, none⟩, 3⟩, rowL k m⟩ from row3 hn3 hx4 (vals8_get _) (vals8_get _) (vals8_get _))
              have HB4 := hide (bel_trans HBR.out hb4)
              have hrl := rowL_len k m hn3
              have HF := hide (fun (b1 : Nat) (X : World) (hX : Below x4.heap.size x4 X) (hbx : Box X b1 #[.int .i64 ((kk : Int) + 1)] 3) => feval_fault HK.out b1 hd ⟨⟨some ⟨b19, 0, none⟩, 3⟩, rowL k m⟩ X (HA1.out.below (bel_trans HB4.out hX)) (il_one hbx (by constructor <;> omega)) (by show fitsB p (rowL k m).length = true; rw [hrl]; exact HSH.out.2.2) (by show (rowL k m).length ≤ _; omega) (by show Row X 6 Ex.cells hd ((List.range (rowL k m).length).map colE); rw [hrl]; exact HROW.out.mono (bel_trans HB4.out hX)) (HR4.out.mono hX))
              have HRV := hide (fun (X : World) (hX : Below x4.heap.size x4 X) => rev_cols p hd ⟨⟨some ⟨b19, 0, none⟩, 3⟩, rowL k m⟩ X h6 h28 (by show kidsOk p (rowL k m).length = true; rw [hrl]; exact HSH.out.2.1) (by show (rowL k m).length ≤ _; omega) (by show Row X 6 Ex.cells hd ((List.range (rowL k m).length).map colE); rw [hrl]; exact HROW.out.mono (bel_trans HB4.out hX)) (HR4.out.mono hX))
              dsimp only at HF HRV
              rw [hrl] at HF HRV
              have HE4 := hide (HBE.out.below HB4.out)
              clear hix0 hix1 hix2 c0 c1 c2 d0 d1 d2 e0 e1 e2 HFX hb4 hx4 hg4
              go_wp2
              cases hs : sameB (fvV f p (rowL k m)) (revV p (rowL k m)) with
              | false =>
                refine fs33_reg (g := Z.heap.size) (br := b19) (o := p) (n := k) (kh := hd) (kk := (kk : Int) + 1) (a := fvV f p (rowL k m)) (b := revV p (rowL k m)) (nq := true) HE4 HF HRV (by rw [hs]; rfl) ?hc ?hend
                case hc => rfl
                case hend =>
                  intro b1 x5 hb5
                  have HB5 := hide (bel_trans HB4.out hb5)
                  clear hb5 HF HRV hs
                  go_wp2_with (go_at_call 12; refine (awake_any _ (HA1.out.below HB5.out)).mono ?_; rintro e x6 ⟨rfl, hb6⟩)
                  go_ret
                  exact ⟨rfl, bel_trans HB1.out (bel_trans HB5.out hb6)⟩
              | true =>
                refine fs33_reg (g := Z.heap.size) (br := b19) (o := p) (n := k) (kh := hd) (kk := (kk : Int) + 1) (a := fvV f p (rowL k m)) (b := revV p (rowL k m)) (nq := false) HE4 HF HRV (by rw [hs]; rfl) ?hc2 ?hend2
                case hc2 => rfl
                case hend2 =>
                  intro b1 x5 hb5
                  have HB5 := hide (bel_trans HB4.out hb5)
                  have HS1 := hide hs
                  clear hb5 HF HRV hs
                  go_wp2
                  go_roundw
                  case rel => exact ⟨m + 1, by omega, by go_num, hide (fun j hj => by
                    by_cases e : j = m
                    · rw [e]; exact HS1.out
                    · exact HSM.out j (by omega)), HB5⟩
                  case measure => simp [intOf]; omega
            · exfalso
              obtain ⟨x0, hx0, hs0⟩ := HSH.out.1
              have h9 := HSM.out x0 (by show x0 < m; have h8 : x0 < pw8 k := hx0; omega)
              rw [hs0] at h9
              cases h9
        · have hpb : (p != o) = true := bne_iff_ne.2 hpe
          go_wp2
          go_roundw
          case rel => exact ⟨p + 1, by omega, by omega, by go_num, HB2.out⟩
          case measure => simp [intOf]; omega
end Go.Proofs.YtlkhiihehaiinaaDoor

/- ref02.typed, Type: the type of an expression. -/
import Derived.Test.YtmnbhdhgjbgidaaDoorRRes
import Derived.Test.YtmnbhdhgjbgidaaDoorTypes
import Derived.Test.YtmnbhdhgjbgidaaDoorShelfD
import Derived.Test.YtmnbhdhgjbgidaaDoorChain
import Derived.Test.YtmnbhdhgjbgidaaDoorTarget
namespace Go.Proofs.YtmnbhdhgjbgidaaDoor
open Go.RowKit

set_option maxRecDepth 100000 in
set_option maxHeartbeats 8000000 in
theorem rtyped_any {w0 : World} {e : Ex} (h0 : e.In w0) : ∀ (ts : IL) (w : World), ts.In w → e.In w → e.size ≤ 1000000 →
    Calls Tryd.prog 89 #[.slice ts.h.ao ts.l.length ts.h.cap, .agg #[.int .i64 e.op, .int .i64 e.typ, .int .i64 e.num, .string e.text, .int .i64 e.col, .slice e.kh.ao e.kids.length e.kh.cap]] w fun r w' => r = .returned (.tuple #[.int .i64 (e.ty ts.l).1, .int .i64 (e.ty ts.l).2]) ∧ Below w.heap.size w w' := by
  induction h0 with
  | mk e _ _ _ ih =>
  intro ts w hts hin hsz
  have IH := hide ih
  clear ih
  obtain ⟨op, typ, num, text, col, kh, kids⟩ := e
  dsimp only at *
  obtain ⟨i0, hi, hz0, hz1, hz2⟩ := info_parts info3
  have HI := hide (And.intro hi (And.intro hz0 (And.intro hz1 hz2)))
  clear hi hz0 hz1 hz2
  have HTX := hide (show text.size ≤ maxLen from hin.wf.2.2.2.1)
  have hnk : kids.length ≤ 1000000 := by
    have h1 := sizes_len kids
    have h2 := Ex.size_eq ⟨op, typ, num, text, col, kh, kids⟩
    dsimp only at h2
    omega
  have HKS := hide (show ∀ k ∈ kids, k.size ≤ 1000000 from fun k hk => by
    have h1 := sizes_mem kids k hk
    have h2 := Ex.size_eq ⟨op, typ, num, text, col, kh, kids⟩
    dsimp only at h2
    omega)
  have hntl := hts.1.len
  have HTS := hide hts
  have HIN := hide hin
  clear hts hin hsz
  go_enter Tryd.func89, Tryd.ntmps89
  go_wp2
  go_loopw [6, 7] (fun v i wr => ∃ k : Nat, k ≤ kids.length ∧ i = .int .i64 k ∧ Hid (wr.ownsRow (w.heap.size + 1) 3 1 v k ((kids.take k).flatMap fun x => [.int .i64 (x.ty ts.l).1])) ∧ Hid (∀ j (hj : j < kids.length), j < k → (kids[j].ty ts.l).2 = 0) ∧ Hid (Below (w.heap.size + 1) (w.alloc (.cells #[.int .i64 op, .int .i64 typ, .int .i64 num, .string text, .int .i64 col, .slice kh.ao kids.length kh.cap] 45)) wr)) (fun _ i _ => kids.length - (intOf i).toNat)
  case atStart => exact ⟨0, Nat.zero_le _, rfl, World.ownsRow_nil _ _ _ _, fun j _ h => absurd h (by omega), Below.refl _ _⟩
  case round =>
    obtain ⟨k, hk, rfl, HO, HN, HBW⟩ := hrel
    have HB := hide ((belA (w := w) (.cells #[.int .i64 op, .int .i64 typ, .int .i64 num, .string text, .int .i64 col, .slice kh.ao kids.length kh.cap] 45)).trans (HBW.out.mono (by omega)))
    have hszl : w.heap.size + 1 ≤ wr.heap.size := by have := HBW.out.size; simpa using this
    have HINR := hide (HIN.out.mono HB.out)
    have HTSR := hide (HTS.out.mono HB.out)
    have HY := hide (show ∀ w' : World, Below wr.heap.size wr w' → ∀ (j : Nat) (v : Value), (#[.int .i64 op, .int .i64 typ, .int .i64 num, .string text, .int .i64 col, .slice kh.ao kids.length kh.cap] : Array Value)[j]? = some v → w'.cell? ⟨w.heap.size, j, none⟩ = some v from fun w' h j v hv => box_cell (by rw [World.size_alloc]; exact HBW.out.trans (h.mono hszl)) hv)
    have x0 := HY.out wr (Below.refl _ _) 0 _ rfl
    have x1 := HY.out wr (Below.refl _ _) 1 _ rfl
    have x2 := HY.out wr (Below.refl _ _) 2 _ rfl
    have x3 := HY.out wr (Below.refl _ _) 3 _ rfl
    have x4 := HY.out wr (Below.refl _ _) 4 _ rfl
    have x5 := HY.out wr (Below.refl _ _) 5 _ rfl
    by_cases hlt : k < kids.length
    · have hrow : Row wr 6 Ex.cells kh kids := HINR.out.row
      have hix := hrow.ix hlt Tryd.underlying37 sz41
      obtain ⟨c0, c1, c2, c3, c4, c5⟩ := ex_at hrow hlt
      have hbk := hrow.blk hlt
      clear hrow
      have HKIN := hide (show (kids[k]).In wr from HINR.out.kid _ (List.getElem_mem hlt))
      have HC := hide (show Calls Tryd.prog 89 #[.slice ts.h.ao ts.l.length ts.h.cap, .agg #[.int .i64 (kids[k]).op, .int .i64 (kids[k]).typ, .int .i64 (kids[k]).num, .string (kids[k]).text, .int .i64 (kids[k]).col, .slice (kids[k]).kh.ao (kids[k]).kids.length (kids[k]).kh.cap]] wr fun r w' => r = .returned (.tuple #[.int .i64 ((kids[k]).ty ts.l).1, .int .i64 ((kids[k]).ty ts.l).2]) ∧ Below wr.heap.size wr w' from
        IH.out _ (List.getElem_mem hlt) ts _ HTSR.out HKIN.out (HKS.out _ (List.getElem_mem hlt)))
      by_cases hev : ((kids[k]).ty ts.l).2 = 0
      · have HEV := hide hev
        clear hev
        go_wp2_with (first
          | (go_at_call 89; refine HC.out.mono ?_; rintro e w1 ⟨rfl, hb1⟩; rw [HEV.out]; have HB1 := hide hb1; have hs1 := HB1.out.size; clear hb1)
          | (at_builtin; refine wpList_append_own _ rfl _ _ 22 rfl (w.heap.size + 1) 3 i0 (.int .i64 0) 1 8 Tryd.underlying22 HI.out.1 HI.out.2.1 HI.out.2.2.1 HI.out.2.2.2 rfl (by decide) _ _ _ rfl ((HO.out.kept (only_below HB1.out none) (Classical.em _)).alloc _) ⟨w1.heap.size, 0, none⟩ 1 1 [.int .i64 ((kids[k]).ty ts.l).1] rfl rfl (new_cells (l := [_])) one_int (by unfold maxLen; omega) (by omega) (by simp; omega) ?_; intro v' w2 hown' hgrow _))
        have HO' := hide (own_snoc (cells := fun x : Ex => [.int .i64 (x.ty ts.l).1]) hlt hown')
        have HG := hide hgrow
        clear hown' hgrow
        go_wp2
        go_roundw
        case rel =>
          refine ⟨k + 1, by omega, by go_num, HO'.out, fun j hj h => ?_, ?_⟩
          · by_cases e : j = k
            · subst e; exact HEV.out
            · exact HN.out j hj (by omega)
          · exact grown1 (HBW.out.trans (HB1.out.mono hszl)) (by omega) HG.out (fun b hb => (HO.out.lt b hb).1)
        case measure => simp [intOf]; omega
      · obtain ⟨ev, hv⟩ : ∃ x, ((kids[k]).ty ts.l).2 = x := ⟨_, rfl⟩
        have hne : (ev == 0) = false := by rw [← hv]; simpa using hev
        have HEV := hide hv
        have HEZ := hide hev
        clear hv hev
        go_wp2_with (first
          | (go_at_call 89; refine HC.out.mono ?_; rintro e w1 ⟨rfl, hb1⟩; rw [HEV.out]; have HB1 := hide hb1; have hs1 := HB1.out.size; clear hb1))
        go_ret2
        refine ⟨ret_tt ?_, HB.out.trans (HB1.out.mono HB.out.size)⟩
        rw [Ex.ty_eq, topF_err hlt HEZ.out HN.out, HEV.out]
    · obtain rfl : k = kids.length := by omega
      obtain ⟨r, hv, hrl, hri⟩ := il_mk (xs := kids.map fun x => (x.ty ts.l).1) (e := 3) (n := kids.length) (base := w.heap.size + 1) (by have := HO.out; rw [List.take_length, ty_icells] at this; exact this) (fun n hn => by
        obtain ⟨x, hx, rfl⟩ := List.mem_map.1 hn
        obtain ⟨j, hj, rfl⟩ := List.getElem_of_mem hx
        exact isT_64 (ty_ok (HN.out j hj hj)))
      have HTOP := hide (show Ex.ty ts.l ⟨op, typ, num, text, col, kh, kids⟩ = topT ts.l op typ num text col r.l by rw [Ex.ty_eq, topF_all (fun j hj => HN.out j hj hj), hrl])
      have HRN := hide (show r.l.length = kids.length by rw [hrl, List.length_map])
      have hnr : r.l.length ≤ 1000000 := by have := HRN.out; omega
      have HRI := hide hri
      subst hv
      clear hri hrl HO HN
      obtain ⟨bp, hbp⟩ : ∃ b, (decide (1 ≤ op ∧ op ≤ 28) && plainE op typ num text col) = b := ⟨_, rfl⟩
      have HBP := hide hbp
      clear hbp
      obtain ⟨bk, hbk⟩ : ∃ b, kidsOk op r.l.length = b := ⟨_, rfl⟩
      have HBK := hide hbk
      clear hbk
      cases bp
      · have HRES := hide (HTOP.out.trans (topT_1 (fun h => by have := HBP.out; rw [decide_eq_true h.1, h.2] at this; cases this)))
        go_wp2_with (first
          | (go_at_call 105; refine (rplain_v op typ num text col kh.ao kids.length kh.cap _ HTX.out).mono ?_; rintro e w1 ⟨rfl, hb1⟩; rw [HBP.out]; have HB1 := hide hb1; clear hb1 x0 x1 x2 x3 x4 x5; have y0 := HY.out _ HB1.out 0 _ rfl; have y1 := HY.out _ HB1.out 1 _ rfl; have y2 := HY.out _ HB1.out 2 _ rfl; have y3 := HY.out _ HB1.out 3 _ rfl; have y4 := HY.out _ HB1.out 4 _ rfl; have y5 := HY.out _ HB1.out 5 _ rfl))
        go_ret2
        exact ⟨ret_tt HRES.out.symm, HB.out.trans (HB1.out.mono HB.out.size)⟩
      have HOP := hide (show (1 ≤ op ∧ op ≤ 28) ∧ plainE op typ num text col = true by have := HBP.out; rw [Bool.and_eq_true] at this; exact ⟨of_decide_eq_true this.1, this.2⟩)
      cases bk
      · have HRES := hide (HTOP.out.trans (topT_9 HOP.out.1 HOP.out.2 HBK.out))
        go_wp2_with (first
          | (go_at_call 105; refine (rplain_v op typ num text col kh.ao kids.length kh.cap _ HTX.out).mono ?_; rintro e w1 ⟨rfl, hb1⟩; rw [HBP.out]; have HB1 := hide hb1; clear hb1 x0 x1 x2 x3 x4 x5; have y0 := HY.out _ HB1.out 0 _ rfl; have y1 := HY.out _ HB1.out 1 _ rfl; have y2 := HY.out _ HB1.out 2 _ rfl; have y3 := HY.out _ HB1.out 3 _ rfl; have y4 := HY.out _ HB1.out 4 _ rfl; have y5 := HY.out _ HB1.out 5 _ rfl)
          | (go_at_call 106; refine (rkids_any op r.l.length _).mono ?_; rintro e w2 ⟨rfl, hb2⟩; rw [HBK.out]; have HB2 := hide (bel_trans HB1.out hb2); clear hb2 y0 y1 y2 y3 y4 y5; have z0 := HY.out _ HB2.out 0 _ rfl; have z1 := HY.out _ HB2.out 1 _ rfl; have z2 := HY.out _ HB2.out 2 _ rfl; have z3 := HY.out _ HB2.out 3 _ rfl; have z4 := HY.out _ HB2.out 4 _ rfl; have z5 := HY.out _ HB2.out 5 _ rfl))
        go_ret2
        exact ⟨ret_tt HRES.out.symm, HB.out.trans (HB2.out.mono HB.out.size)⟩
      obtain ⟨t, ht⟩ : ∃ t, resE ts.l op typ col r.l = t := ⟨_, rfl⟩
      have HT := hide ht
      clear ht
      by_cases h5 : op = 5
      · have H5 := hide h5
        have h5b : (op == 5) = true := by simpa using h5
        clear h5
        by_cases hc0 : col < 0
        · have HRES := hide (HTOP.out.trans (topT_3 HOP.out.1 HOP.out.2 HBK.out ⟨H5.out, .inl hc0⟩))
          go_wp2_with (first
            | (go_at_call 105; refine (rplain_v op typ num text col kh.ao kids.length kh.cap _ HTX.out).mono ?_; rintro e w1 ⟨rfl, hb1⟩; rw [HBP.out]; have HB1 := hide hb1; clear hb1 x0 x1 x2 x3 x4 x5; have y0 := HY.out _ HB1.out 0 _ rfl; have y1 := HY.out _ HB1.out 1 _ rfl; have y2 := HY.out _ HB1.out 2 _ rfl; have y3 := HY.out _ HB1.out 3 _ rfl; have y4 := HY.out _ HB1.out 4 _ rfl; have y5 := HY.out _ HB1.out 5 _ rfl)
            | (go_at_call 106; refine (rkids_any op r.l.length _).mono ?_; rintro e w2 ⟨rfl, hb2⟩; rw [HBK.out]; have HB2 := hide (bel_trans HB1.out hb2); clear hb2 y0 y1 y2 y3 y4 y5; have z0 := HY.out _ HB2.out 0 _ rfl; have z1 := HY.out _ HB2.out 1 _ rfl; have z2 := HY.out _ HB2.out 2 _ rfl; have z3 := HY.out _ HB2.out 3 _ rfl; have z4 := HY.out _ HB2.out 4 _ rfl; have z5 := HY.out _ HB2.out 5 _ rfl))
          go_ret2
          exact ⟨ret_tt HRES.out.symm, HB.out.trans (HB2.out.mono HB.out.size)⟩
        by_cases hcn : (ts.l.length : Int) ≤ col
        · have HRES := hide (HTOP.out.trans (topT_3 HOP.out.1 HOP.out.2 HBK.out ⟨H5.out, .inr hcn⟩))
          go_wp2_with (first
            | (go_at_call 105; refine (rplain_v op typ num text col kh.ao kids.length kh.cap _ HTX.out).mono ?_; rintro e w1 ⟨rfl, hb1⟩; rw [HBP.out]; have HB1 := hide hb1; clear hb1 x0 x1 x2 x3 x4 x5; have y0 := HY.out _ HB1.out 0 _ rfl; have y1 := HY.out _ HB1.out 1 _ rfl; have y2 := HY.out _ HB1.out 2 _ rfl; have y3 := HY.out _ HB1.out 3 _ rfl; have y4 := HY.out _ HB1.out 4 _ rfl; have y5 := HY.out _ HB1.out 5 _ rfl)
            | (go_at_call 106; refine (rkids_any op r.l.length _).mono ?_; rintro e w2 ⟨rfl, hb2⟩; rw [HBK.out]; have HB2 := hide (bel_trans HB1.out hb2); clear hb2 y0 y1 y2 y3 y4 y5; have z0 := HY.out _ HB2.out 0 _ rfl; have z1 := HY.out _ HB2.out 1 _ rfl; have z2 := HY.out _ HB2.out 2 _ rfl; have z3 := HY.out _ HB2.out 3 _ rfl; have z4 := HY.out _ HB2.out 4 _ rfl; have z5 := HY.out _ HB2.out 5 _ rfl))
          go_ret2
          exact ⟨ret_tt HRES.out.symm, HB.out.trans (HB2.out.mono HB.out.size)⟩
        have HCN := hide (show ¬ (col < 0 ∨ (ts.l.length : Int) ≤ col) by omega)
        have HRES0 := hide (HTOP.out.trans (topT_pass HOP.out.1 HOP.out.2 HBK.out (fun h => HCN.out h.2)))
        by_cases t1 : t < 1
        · have HRES := hide (HRES0.out.trans (show _ = (0, 4) by rw [HT.out, show isT t = false from decide_eq_false (by omega)]; rfl))
          go_wp2_with (first
            | (go_at_call 105; refine (rplain_v op typ num text col kh.ao kids.length kh.cap _ HTX.out).mono ?_; rintro e w1 ⟨rfl, hb1⟩; rw [HBP.out]; have HB1 := hide hb1; clear hb1 x0 x1 x2 x3 x4 x5; have y0 := HY.out _ HB1.out 0 _ rfl; have y1 := HY.out _ HB1.out 1 _ rfl; have y2 := HY.out _ HB1.out 2 _ rfl; have y3 := HY.out _ HB1.out 3 _ rfl; have y4 := HY.out _ HB1.out 4 _ rfl; have y5 := HY.out _ HB1.out 5 _ rfl)
            | (go_at_call 106; refine (rkids_any op r.l.length _).mono ?_; rintro e w2 ⟨rfl, hb2⟩; rw [HBK.out]; have HB2 := hide (bel_trans HB1.out hb2); clear hb2 y0 y1 y2 y3 y4 y5; have z0 := HY.out _ HB2.out 0 _ rfl; have z1 := HY.out _ HB2.out 1 _ rfl; have z2 := HY.out _ HB2.out 2 _ rfl; have z3 := HY.out _ HB2.out 3 _ rfl; have z4 := HY.out _ HB2.out 4 _ rfl; have z5 := HY.out _ HB2.out 5 _ rfl)
            | (go_at_call 107; refine (rres_lit ts r _ (HTSR.out.mono HB2.out) (HRI.out.mono HB2.out) op typ num text col kh.ao kids.length kh.cap HOP.out.1 HBK.out (fun _ => HCN.out)).mono ?_; rintro e w3 ⟨rfl, hb3⟩; rw [HT.out]; have HB3 := hide (bel_trans HB2.out hb3); clear hb3))
          go_ret2
          exact ⟨ret_tt HRES.out.symm, HB.out.trans (HB3.out.mono HB.out.size)⟩
        by_cases t3 : 3 < t
        · have HRES := hide (HRES0.out.trans (show _ = (0, 4) by rw [HT.out, show isT t = false from decide_eq_false (by omega)]; rfl))
          go_wp2_with (first
            | (go_at_call 105; refine (rplain_v op typ num text col kh.ao kids.length kh.cap _ HTX.out).mono ?_; rintro e w1 ⟨rfl, hb1⟩; rw [HBP.out]; have HB1 := hide hb1; clear hb1 x0 x1 x2 x3 x4 x5; have y0 := HY.out _ HB1.out 0 _ rfl; have y1 := HY.out _ HB1.out 1 _ rfl; have y2 := HY.out _ HB1.out 2 _ rfl; have y3 := HY.out _ HB1.out 3 _ rfl; have y4 := HY.out _ HB1.out 4 _ rfl; have y5 := HY.out _ HB1.out 5 _ rfl)
            | (go_at_call 106; refine (rkids_any op r.l.length _).mono ?_; rintro e w2 ⟨rfl, hb2⟩; rw [HBK.out]; have HB2 := hide (bel_trans HB1.out hb2); clear hb2 y0 y1 y2 y3 y4 y5; have z0 := HY.out _ HB2.out 0 _ rfl; have z1 := HY.out _ HB2.out 1 _ rfl; have z2 := HY.out _ HB2.out 2 _ rfl; have z3 := HY.out _ HB2.out 3 _ rfl; have z4 := HY.out _ HB2.out 4 _ rfl; have z5 := HY.out _ HB2.out 5 _ rfl)
            | (go_at_call 107; refine (rres_lit ts r _ (HTSR.out.mono HB2.out) (HRI.out.mono HB2.out) op typ num text col kh.ao kids.length kh.cap HOP.out.1 HBK.out (fun _ => HCN.out)).mono ?_; rintro e w3 ⟨rfl, hb3⟩; rw [HT.out]; have HB3 := hide (bel_trans HB2.out hb3); clear hb3))
          go_ret2
          exact ⟨ret_tt HRES.out.symm, HB.out.trans (HB3.out.mono HB.out.size)⟩
        have HRES := hide (HRES0.out.trans (show _ = (t, 0) by rw [HT.out, show isT t = true from decide_eq_true (by omega)]; rfl))
        go_wp2_with (first
          | (go_at_call 105; refine (rplain_v op typ num text col kh.ao kids.length kh.cap _ HTX.out).mono ?_; rintro e w1 ⟨rfl, hb1⟩; rw [HBP.out]; have HB1 := hide hb1; clear hb1 x0 x1 x2 x3 x4 x5; have y0 := HY.out _ HB1.out 0 _ rfl; have y1 := HY.out _ HB1.out 1 _ rfl; have y2 := HY.out _ HB1.out 2 _ rfl; have y3 := HY.out _ HB1.out 3 _ rfl; have y4 := HY.out _ HB1.out 4 _ rfl; have y5 := HY.out _ HB1.out 5 _ rfl)
          | (go_at_call 106; refine (rkids_any op r.l.length _).mono ?_; rintro e w2 ⟨rfl, hb2⟩; rw [HBK.out]; have HB2 := hide (bel_trans HB1.out hb2); clear hb2 y0 y1 y2 y3 y4 y5; have z0 := HY.out _ HB2.out 0 _ rfl; have z1 := HY.out _ HB2.out 1 _ rfl; have z2 := HY.out _ HB2.out 2 _ rfl; have z3 := HY.out _ HB2.out 3 _ rfl; have z4 := HY.out _ HB2.out 4 _ rfl; have z5 := HY.out _ HB2.out 5 _ rfl)
          | (go_at_call 107; refine (rres_lit ts r _ (HTSR.out.mono HB2.out) (HRI.out.mono HB2.out) op typ num text col kh.ao kids.length kh.cap HOP.out.1 HBK.out (fun _ => HCN.out)).mono ?_; rintro e w3 ⟨rfl, hb3⟩; rw [HT.out]; have HB3 := hide (bel_trans HB2.out hb3); clear hb3))
        go_ret2
        exact ⟨ret_tt HRES.out.symm, HB.out.trans (HB3.out.mono HB.out.size)⟩
      · have h5b : (op == 5) = false := by simpa using h5
        have HCN := hide (show op = 5 → ¬ (col < 0 ∨ (ts.l.length : Int) ≤ col) from fun h => absurd h h5)
        have HRES0 := hide (HTOP.out.trans (topT_pass HOP.out.1 HOP.out.2 HBK.out (fun h => h5 h.1)))
        clear h5
        by_cases t1 : t < 1
        · have HRES := hide (HRES0.out.trans (show _ = (0, 4) by rw [HT.out, show isT t = false from decide_eq_false (by omega)]; rfl))
          go_wp2_with (first
            | (go_at_call 105; refine (rplain_v op typ num text col kh.ao kids.length kh.cap _ HTX.out).mono ?_; rintro e w1 ⟨rfl, hb1⟩; rw [HBP.out]; have HB1 := hide hb1; clear hb1 x0 x1 x2 x3 x4 x5; have y0 := HY.out _ HB1.out 0 _ rfl; have y1 := HY.out _ HB1.out 1 _ rfl; have y2 := HY.out _ HB1.out 2 _ rfl; have y3 := HY.out _ HB1.out 3 _ rfl; have y4 := HY.out _ HB1.out 4 _ rfl; have y5 := HY.out _ HB1.out 5 _ rfl)
            | (go_at_call 106; refine (rkids_any op r.l.length _).mono ?_; rintro e w2 ⟨rfl, hb2⟩; rw [HBK.out]; have HB2 := hide (bel_trans HB1.out hb2); clear hb2 y0 y1 y2 y3 y4 y5; have z0 := HY.out _ HB2.out 0 _ rfl; have z1 := HY.out _ HB2.out 1 _ rfl; have z2 := HY.out _ HB2.out 2 _ rfl; have z3 := HY.out _ HB2.out 3 _ rfl; have z4 := HY.out _ HB2.out 4 _ rfl; have z5 := HY.out _ HB2.out 5 _ rfl)
            | (go_at_call 107; refine (rres_lit ts r _ (HTSR.out.mono HB2.out) (HRI.out.mono HB2.out) op typ num text col kh.ao kids.length kh.cap HOP.out.1 HBK.out HCN.out).mono ?_; rintro e w3 ⟨rfl, hb3⟩; rw [HT.out]; have HB3 := hide (bel_trans HB2.out hb3); clear hb3))
          go_ret2
          exact ⟨ret_tt HRES.out.symm, HB.out.trans (HB3.out.mono HB.out.size)⟩
        by_cases t3 : 3 < t
        · have HRES := hide (HRES0.out.trans (show _ = (0, 4) by rw [HT.out, show isT t = false from decide_eq_false (by omega)]; rfl))
          go_wp2_with (first
            | (go_at_call 105; refine (rplain_v op typ num text col kh.ao kids.length kh.cap _ HTX.out).mono ?_; rintro e w1 ⟨rfl, hb1⟩; rw [HBP.out]; have HB1 := hide hb1; clear hb1 x0 x1 x2 x3 x4 x5; have y0 := HY.out _ HB1.out 0 _ rfl; have y1 := HY.out _ HB1.out 1 _ rfl; have y2 := HY.out _ HB1.out 2 _ rfl; have y3 := HY.out _ HB1.out 3 _ rfl; have y4 := HY.out _ HB1.out 4 _ rfl; have y5 := HY.out _ HB1.out 5 _ rfl)
            | (go_at_call 106; refine (rkids_any op r.l.length _).mono ?_; rintro e w2 ⟨rfl, hb2⟩; rw [HBK.out]; have HB2 := hide (bel_trans HB1.out hb2); clear hb2 y0 y1 y2 y3 y4 y5; have z0 := HY.out _ HB2.out 0 _ rfl; have z1 := HY.out _ HB2.out 1 _ rfl; have z2 := HY.out _ HB2.out 2 _ rfl; have z3 := HY.out _ HB2.out 3 _ rfl; have z4 := HY.out _ HB2.out 4 _ rfl; have z5 := HY.out _ HB2.out 5 _ rfl)
            | (go_at_call 107; refine (rres_lit ts r _ (HTSR.out.mono HB2.out) (HRI.out.mono HB2.out) op typ num text col kh.ao kids.length kh.cap HOP.out.1 HBK.out HCN.out).mono ?_; rintro e w3 ⟨rfl, hb3⟩; rw [HT.out]; have HB3 := hide (bel_trans HB2.out hb3); clear hb3))
          go_ret2
          exact ⟨ret_tt HRES.out.symm, HB.out.trans (HB3.out.mono HB.out.size)⟩
        have HRES := hide (HRES0.out.trans (show _ = (t, 0) by rw [HT.out, show isT t = true from decide_eq_true (by omega)]; rfl))
        go_wp2_with (first
          | (go_at_call 105; refine (rplain_v op typ num text col kh.ao kids.length kh.cap _ HTX.out).mono ?_; rintro e w1 ⟨rfl, hb1⟩; rw [HBP.out]; have HB1 := hide hb1; clear hb1 x0 x1 x2 x3 x4 x5; have y0 := HY.out _ HB1.out 0 _ rfl; have y1 := HY.out _ HB1.out 1 _ rfl; have y2 := HY.out _ HB1.out 2 _ rfl; have y3 := HY.out _ HB1.out 3 _ rfl; have y4 := HY.out _ HB1.out 4 _ rfl; have y5 := HY.out _ HB1.out 5 _ rfl)
          | (go_at_call 106; refine (rkids_any op r.l.length _).mono ?_; rintro e w2 ⟨rfl, hb2⟩; rw [HBK.out]; have HB2 := hide (bel_trans HB1.out hb2); clear hb2 y0 y1 y2 y3 y4 y5; have z0 := HY.out _ HB2.out 0 _ rfl; have z1 := HY.out _ HB2.out 1 _ rfl; have z2 := HY.out _ HB2.out 2 _ rfl; have z3 := HY.out _ HB2.out 3 _ rfl; have z4 := HY.out _ HB2.out 4 _ rfl; have z5 := HY.out _ HB2.out 5 _ rfl)
          | (go_at_call 107; refine (rres_lit ts r _ (HTSR.out.mono HB2.out) (HRI.out.mono HB2.out) op typ num text col kh.ao kids.length kh.cap HOP.out.1 HBK.out HCN.out).mono ?_; rintro e w3 ⟨rfl, hb3⟩; rw [HT.out]; have HB3 := hide (bel_trans HB2.out hb3); clear hb3))
        go_ret2
        exact ⟨ret_tt HRES.out.symm, HB.out.trans (HB3.out.mono HB.out.size)⟩


set_option maxRecDepth 100000 in
set_option maxHeartbeats 4000000 in
theorem rtype_any {w0 : World} {e : Ex} (h0 : e.In w0) (ts : IL) (w : World) (hts : ts.In w) (hin : e.In w) (hsz : e.size ≤ 1000000) :
    Calls Tryd.prog 56 #[.slice ts.h.ao ts.l.length ts.h.cap, .agg #[.int .i64 e.op, .int .i64 e.typ, .int .i64 e.num, .string e.text, .int .i64 e.col, .slice e.kh.ao e.kids.length e.kh.cap]] w fun r w' => r = .returned (.tuple #[.int .i64 (e.typ2 ts.l).1, .int .i64 (e.typ2 ts.l).2]) ∧ Below w.heap.size w w' := by
  have HB0 := hide (belA (w := w) (.cells #[.int .i64 e.op, .int .i64 e.typ, .int .i64 e.num, .string e.text, .int .i64 e.col, .slice e.kh.ao e.kids.length e.kh.cap] 45))
  have HSZ := hide (show wrap64 (e.size : Int) = e.size from wrap_small (by omega))
  have HE0 := hide h0
  have HTS := hide (hts.mono HB0.out)
  have HIN := hide (hin.mono HB0.out)
  have hdl := Ex.dep_le e
  clear hts hin
  by_cases h200 : 200 < e.size
  · have h200' : (200 : Int) < (e.size : Int) := by omega
    have HR := hide (show e.typ2 ts.l = (0, 8) by unfold Ex.typ2; rw [if_pos h200])
    go_enter Tryd.func56, Tryd.ntmps56
    go_wp2_with (go_at_call 69; refine (rsize_any HE0.out _ HIN.out).mono ?_; rintro r w1 ⟨rfl, hb1⟩; rw [HSZ.out]; have HB1 := hide hb1; clear hb1)
    go_ret2
    exact ⟨ret_tt HR.out.symm, bel1 HB1.out⟩
  have h200' : ¬ (200 : Int) < (e.size : Int) := by omega
  by_cases h24 : 24 < e.dep
  · have h24' : (24 : Int) < (e.dep : Int) := by omega
    have HR := hide (show e.typ2 ts.l = (0, 13) by unfold Ex.typ2; rw [if_neg h200, if_pos h24])
    go_enter Tryd.func56, Tryd.ntmps56
    go_wp2_with (first
      | (go_at_call 69; refine (rsize_any HE0.out _ HIN.out).mono ?_; rintro r w1 ⟨rfl, hb1⟩; rw [HSZ.out]; have HB1 := hide hb1; have y0 := box_cell HB1.out (j := 0) rfl; have y1 := box_cell HB1.out (j := 1) rfl; have y2 := box_cell HB1.out (j := 2) rfl; have y3 := box_cell HB1.out (j := 3) rfl; have y4 := box_cell HB1.out (j := 4) rfl; have y5 := box_cell HB1.out (j := 5) rfl; clear hb1)
      | (go_at_call 88; refine (redep_any HE0.out _ (HIN.out.mono HB1.out) hsz).mono ?_; rintro r w2 ⟨rfl, hb2⟩; have HB2 := hide (bel_trans HB1.out hb2); clear hb2))
    go_ret2
    exact ⟨ret_tt HR.out.symm, bel1 HB2.out⟩
  · have h24' : ¬ (24 : Int) < (e.dep : Int) := by omega
    have HR := hide (show e.typ2 ts.l = e.ty ts.l by unfold Ex.typ2; rw [if_neg h200, if_neg h24])
    go_enter Tryd.func56, Tryd.ntmps56
    go_wp2_with (first
      | (go_at_call 69; refine (rsize_any HE0.out _ HIN.out).mono ?_; rintro r w1 ⟨rfl, hb1⟩; rw [HSZ.out]; have HB1 := hide hb1; have y0 := box_cell HB1.out (j := 0) rfl; have y1 := box_cell HB1.out (j := 1) rfl; have y2 := box_cell HB1.out (j := 2) rfl; have y3 := box_cell HB1.out (j := 3) rfl; have y4 := box_cell HB1.out (j := 4) rfl; have y5 := box_cell HB1.out (j := 5) rfl; clear hb1)
      | (go_at_call 88; refine (redep_any HE0.out _ (HIN.out.mono HB1.out) hsz).mono ?_; rintro r w2 ⟨rfl, hb2⟩; have HB2 := hide (bel_trans HB1.out hb2); clear hb2; clear y0 y1 y2 y3 y4 y5; have z0 := box_cell HB2.out (j := 0) rfl; have z1 := box_cell HB2.out (j := 1) rfl; have z2 := box_cell HB2.out (j := 2) rfl; have z3 := box_cell HB2.out (j := 3) rfl; have z4 := box_cell HB2.out (j := 4) rfl; have z5 := box_cell HB2.out (j := 5) rfl)
      | (go_at_call 89; refine (rtyped_any HE0.out ts _ (HTS.out.mono HB2.out) (HIN.out.mono HB2.out) hsz).mono ?_; rintro r w3 ⟨rfl, hb3⟩; rw [← HR.out]; have HB3 := hide (bel_trans HB2.out hb3); clear hb3))
    go_ret2
    exact ⟨rfl, bel1 HB3.out⟩
end Go.Proofs.YtmnbhdhgjbgidaaDoor

/- schema.key, ref03.listed: the columns of a key. -/
namespace Go.Proofs.YtmnbhdhgjbgidaaDoor
open Go.RowKit

/-- The columns of a key: some, in the table, each once. -/
def KeyOk (n : Nat) (l : List Int) : Prop := 0 < l.length ∧ ∀ i (h : i < l.length), 0 ≤ l[i] ∧ l[i] < n ∧ ∀ j (hj : j < l.length), j < i → l[j] ≠ l[i]
open Classical in
noncomputable def keyB (n : Nat) (l : List Int) : Bool := decide (KeyOk n l)
open Classical in
theorem keyB_yes {n : Nat} {l : List Int} (h : KeyOk n l) : keyB n l = true := by unfold keyB; exact decide_eq_true h
open Classical in
theorem keyB_no {n : Nat} {l : List Int} (h : ¬ KeyOk n l) : keyB n l = false := by unfold keyB; exact decide_eq_false h
noncomputable def keyE (n : Nat) (l : List Int) : Int := if keyB n l then 0 else 6
theorem keyE_yes {n : Nat} {l : List Int} (h : KeyOk n l) : keyE n l = 0 := by unfold keyE; rw [keyB_yes h]; rfl
theorem keyE_no {n : Nat} {l : List Int} (h : ¬ KeyOk n l) : keyE n l = 6 := by unfold keyE; rw [keyB_no h]; rfl
theorem take_has {l : List Int} {k : Nat} {x : Int} : (l.take k).contains x = true ↔ ∃ j, ∃ h : j < l.length, j < k ∧ l[j] = x := by
  rw [List.contains_iff_exists_mem_beq]
  constructor
  · rintro ⟨y, hy, hxy⟩
    obtain ⟨j, hj, rfl⟩ := List.getElem_of_mem hy
    rw [List.length_take] at hj
    exact ⟨j, by omega, by omega, by rw [List.getElem_take] at hxy; exact (eq_of_beq hxy).symm⟩
  · rintro ⟨j, hj, hjk, rfl⟩
    refine ⟨l[j], ?_, by simp⟩
    have : (l.take k)[j]'(by rw [List.length_take]; omega) = l[j] := List.getElem_take
    rw [← this]
    exact List.getElem_mem _

set_option maxRecDepth 100000 in
set_option maxHeartbeats 2000000 in
theorem key_some (x : Tab) (b o cap : Nat) (xs : List Int) (w : World) (hl : IL.In w ⟨⟨some ⟨b, o, none⟩, cap⟩, xs⟩) (hp : 0 < xs.length) :
    Calls Tryd.prog 82 #[.agg #[.string x.name, .slice x.ch.ao x.cols.length x.ch.cap, .slice x.prim.h.ao x.prim.l.length x.prim.h.cap, .slice x.uh.ao x.uniqs.length x.uh.cap, .slice x.fh.ao x.fors.length x.fh.cap, .slice x.kh.ao x.checks.length x.kh.cap], .slice (some ⟨b, o, none⟩) xs.length cap] w
      fun e w' => e = .returned (.int .i64 (keyE x.cols.length xs)) ∧ Below w.heap.size w w' := by
  have hn : xs.length ≤ 9223372036854775807 := hl.1.len
  have hcap : xs.length ≤ cap := hl.1.1
  have HL := hide (hl.mono (belA (.cells #[.string x.name, .slice x.ch.ao x.cols.length x.ch.cap, .slice x.prim.h.ao x.prim.l.length x.prim.h.cap, .slice x.uh.ao x.uniqs.length x.uh.cap, .slice x.fh.ao x.fors.length x.fh.cap, .slice x.kh.ao x.checks.length x.kh.cap] 39)))
  have HC := hide (show ∀ (k : Nat) (h : k < xs.length), (w.alloc (.cells #[.string x.name, .slice x.ch.ao x.cols.length x.ch.cap, .slice x.prim.h.ao x.prim.l.length x.prim.h.cap, .slice x.uh.ao x.uniqs.length x.uh.cap, .slice x.fh.ao x.fors.length x.fh.cap, .slice x.kh.ao x.checks.length x.kh.cap] 39)).cell? ⟨b, o + k, none⟩ = some (.int .i64 xs[k]) from fun k h => int_at HL.out.1 h)
  have HIX := hide (show ∀ (k : Nat) (h : k < xs.length), ∀ U, (Instr.indexAt 22 (.slice (some ⟨b, o, none⟩) xs.length cap) (.int .i64 (k : Int))).run Tryd.prog U = .ok (.pointer (some ⟨b, o + k, none⟩)) U from fun k h => IL.ix HL.out h)
  have hbk : b < w.heap.size := hl.1.blk hp
  clear hl
  go_enter Tryd.func82, Tryd.ntmps82
  go_wp2
  go_loopw [9] (fun i wr => ∃ k : Nat, k ≤ xs.length ∧ i = .int .i64 k ∧ Hid (∀ i (h : i < xs.length), i < k → 0 ≤ xs[i] ∧ xs[i] < x.cols.length ∧ ∀ j (hj : j < xs.length), j < i → xs[j] ≠ xs[i]) ∧ wr = w.alloc (.cells #[.string x.name, .slice x.ch.ao x.cols.length x.ch.cap, .slice x.prim.h.ao x.prim.l.length x.prim.h.cap, .slice x.uh.ao x.uniqs.length x.uh.cap, .slice x.fh.ao x.fors.length x.fh.cap, .slice x.kh.ao x.checks.length x.kh.cap] 39)) (fun i _ => xs.length - (intOf i).toNat)
  case atStart => exact ⟨0, Nat.zero_le _, rfl, fun j _ h => absurd h (by omega), rfl⟩
  case round =>
    obtain ⟨k, hk, rfl, HN, rfl⟩ := hrel
    by_cases hlt : k < xs.length
    · have hix := HIX.out k hlt
      have c0 := HC.out k hlt
      by_cases h1 : xs[k] < 0
      · have HR := hide (keyE_no (n := x.cols.length) (l := xs) (fun h => by have := (h.2 k hlt).1; omega))
        go_wp2
        go_ret
        exact ⟨ret1 HR.out.symm, belA _⟩
      by_cases h2 : (x.cols.length : Int) ≤ xs[k]
      · have HR := hide (keyE_no (n := x.cols.length) (l := xs) (fun h => by have := (h.2 k hlt).2.1; omega))
        go_wp2
        go_ret
        exact ⟨ret1 HR.out.symm, belA _⟩
      have HCT := hide (Tryd.slices_Contains_int b o k cap xs xs[k] (w.alloc (.cells #[.string x.name, .slice x.ch.ao x.cols.length x.ch.cap, .slice x.prim.h.ao x.prim.l.length x.prim.h.cap, .slice x.uh.ao x.uniqs.length x.uh.cap, .slice x.fh.ao x.fors.length x.fh.cap, .slice x.kh.ao x.checks.length x.kh.cap] 39)) (by omega) (by omega) (fun j hj => by rw [show xs.getD j 0 = xs[j] by simp [List.getD, hj]]; exact HC.out j hj))
      obtain ⟨b', hb⟩ : ∃ b, (xs.take k).contains xs[k] = b := ⟨_, rfl⟩
      have HB := hide hb
      clear hb
      cases b'
      · have HNK := hide (show 0 ≤ xs[k] ∧ xs[k] < x.cols.length ∧ ∀ j (hj : j < xs.length), j < k → xs[j] ≠ xs[k] from ⟨by omega, by omega, fun j hj hjk he => by
          have := take_has.2 ⟨j, hj, hjk, he⟩
          rw [HB.out] at this
          cases this⟩)
        go_wp2_with (go_at_call 99; refine HCT.out.mono ?_; rintro e w1 ⟨rfl, rfl⟩; rw [HB.out])
        go_roundw
        case rel =>
          refine ⟨k + 1, by omega, by go_num, fun i hi h => ?_, trivial⟩
          by_cases e : i = k
          · subst e; exact HNK.out
          · exact HN.out i hi (by omega)
        case measure => simp [intOf]; omega
      · have HR := hide (keyE_no (n := x.cols.length) (l := xs) (fun h => by
          obtain ⟨j, hj, hjk, he⟩ := take_has.1 HB.out
          exact (h.2 k hlt).2.2 j hj hjk he))
        go_wp2_with (go_at_call 99; refine HCT.out.mono ?_; rintro e w1 ⟨rfl, rfl⟩; rw [HB.out])
        go_ret
        exact ⟨ret1 HR.out.symm, belA _⟩
    · have HR := hide (keyE_yes (n := x.cols.length) (l := xs) ⟨by omega, fun i hi => HN.out i hi (by omega)⟩)
      have h0' : ((xs.length : Int) == 0) = false := by simp; intro h; rw [h] at hp; simp at hp
      go_wp2
      go_ret
      exact ⟨ret1 HR.out.symm, belA _⟩

set_option maxRecDepth 100000 in
set_option maxHeartbeats 2000000 in
theorem key_any (x : Tab) (l : IL) (w : World) (hl : l.In w) :
    Calls Tryd.prog 82 #[.agg #[.string x.name, .slice x.ch.ao x.cols.length x.ch.cap, .slice x.prim.h.ao x.prim.l.length x.prim.h.cap, .slice x.uh.ao x.uniqs.length x.uh.cap, .slice x.fh.ao x.fors.length x.fh.cap, .slice x.kh.ao x.checks.length x.kh.cap], .slice l.h.ao l.l.length l.h.cap] w
      fun e w' => e = .returned (.int .i64 (keyE x.cols.length l.l)) ∧ Below w.heap.size w w' := by
  by_cases hp : 0 < l.l.length
  · obtain ⟨b, o, cap, xs, rfl⟩ : ∃ b o cap xs, l = ⟨⟨some ⟨b, o, none⟩, cap⟩, xs⟩ := by
      have := (hl.1.2.2.1 hp).1
      obtain ⟨⟨ao, cap⟩, xs⟩ := l
      exact ⟨_, _, cap, xs, by dsimp only at this; rw [this]⟩
    exact key_some x b o cap xs w hl hp
  · have HR := hide (keyE_no (n := x.cols.length) (l := l.l) (fun h => by have := h.1; omega))
    have h0 : l.l.length = 0 := by omega
    go_enter Tryd.func82, Tryd.ntmps82
    go_wp2
    go_loopw [9] (fun i wr => i = .int .i64 0 ∧ Below w.heap.size w wr) (fun i _ => 0)
    case atStart => exact ⟨rfl, belA _⟩
    case round =>
      obtain ⟨rfl, hb⟩ := hrel
      go_wp2
      go_ret
      exact ⟨ret1 HR.out.symm, hb⟩

set_option maxRecDepth 100000 in
set_option maxHeartbeats 2000000 in
theorem listed_any (x : Tab) (l : IL) (w : World) (hl : l.In w) :
    Calls Tryd.prog 55 #[.agg #[.string x.name, .slice x.ch.ao x.cols.length x.ch.cap, .slice x.prim.h.ao x.prim.l.length x.prim.h.cap, .slice x.uh.ao x.uniqs.length x.uh.cap, .slice x.fh.ao x.fors.length x.fh.cap, .slice x.kh.ao x.checks.length x.kh.cap], .slice l.h.ao l.l.length l.h.cap] w
      fun e w' => e = .returned (.bool (keyB x.cols.length l.l)) ∧ Below w.heap.size w w' := by
  have hn := hl.1.len
  have HL := hide hl
  clear hl
  go_enter Tryd.func55, Tryd.ntmps55
  go_wp2
  go_loopw [5] (fun i wr => ∃ k : Nat, k ≤ l.l.length ∧ i = .int .i64 k ∧ Hid (∀ i (h : i < l.l.length), i < k → 0 ≤ l.l[i] ∧ l.l[i] < x.cols.length ∧ ∀ j (hj : j < l.l.length), j < i → l.l[j] ≠ l.l[i]) ∧ Hid (Below (w.alloc (.cells #[.string x.name, .slice x.ch.ao x.cols.length x.ch.cap, .slice x.prim.h.ao x.prim.l.length x.prim.h.cap, .slice x.uh.ao x.uniqs.length x.uh.cap, .slice x.fh.ao x.fors.length x.fh.cap, .slice x.kh.ao x.checks.length x.kh.cap] 39)).heap.size (w.alloc (.cells #[.string x.name, .slice x.ch.ao x.cols.length x.ch.cap, .slice x.prim.h.ao x.prim.l.length x.prim.h.cap, .slice x.uh.ao x.uniqs.length x.uh.cap, .slice x.fh.ao x.fors.length x.fh.cap, .slice x.kh.ao x.checks.length x.kh.cap] 39)) wr)) (fun i _ => l.l.length - (intOf i).toNat)
  case atStart => exact ⟨0, Nat.zero_le _, rfl, fun j _ h => absurd h (by omega), Below.refl _ _⟩
  case round =>
    obtain ⟨k, hk, rfl, HN, HBW⟩ := hrel
    have HB := hide (bel_trans (belA (w := w) (.cells #[.string x.name, .slice x.ch.ao x.cols.length x.ch.cap, .slice x.prim.h.ao x.prim.l.length x.prim.h.cap, .slice x.uh.ao x.uniqs.length x.uh.cap, .slice x.fh.ao x.fors.length x.fh.cap, .slice x.kh.ao x.checks.length x.kh.cap] 39)) HBW.out)
    have x1 := box_cell HBW.out (j := 1) rfl
    have HLR := hide (HL.out.mono HB.out)
    by_cases hlt : k < l.l.length
    · have hix := IL.ix HLR.out hlt
      have c0 := int_at HLR.out.1 hlt
      have hbk := HLR.out.1.blk hlt
      by_cases h1 : l.l[k] < 0
      · have HR := hide (keyB_no (n := x.cols.length) (l := l.l) (fun h => by have := (h.2 k hlt).1; omega))
        go_wp2
        go_quiet (fail)
        go_wp2
        go_ret
        exact ⟨retb HR.out.symm, below_drewN HB.out _⟩
      by_cases h2 : (x.cols.length : Int) ≤ l.l[k]
      · have HR := hide (keyB_no (n := x.cols.length) (l := l.l) (fun h => by have := (h.2 k hlt).2.1; omega))
        go_wp2
        go_quiet (fail)
        go_wp2
        go_ret
        exact ⟨retb HR.out.symm, below_drewN HB.out _⟩
      go_wp2
      go_quiet (fail)
      go_wp2
      go_loopw [6] (fun i wz => ∃ j : Nat, j ≤ k ∧ i = .int .i64 j ∧ Hid (∀ i (h : i < l.l.length), i < j → l.l[i] ≠ l.l[k]) ∧ Hid (Below wr.heap.size wr wz)) (fun i _ => k - (intOf i).toNat)
      case atStart => exact ⟨0, Nat.zero_le _, rfl, fun j _ h => absurd h (by omega), below_drewN (Below.refl _ _) _⟩
      case round =>
        obtain ⟨j, hj, rfl, HM, HBZ⟩ := hrel
        have HLZ := hide (HLR.out.mono HBZ.out)
        clear c0 hbk
        have d0 := int_at HLZ.out.1 hlt
        have hbk := HLZ.out.1.blk hlt
        by_cases hjk : j < k
        · have hjk' : (j : Int) < (k : Int) := by omega
          have hjl : j < l.l.length := by omega
          have hixj := IL.ix HLZ.out hjl
          have dj := int_at HLZ.out.1 hjl
          by_cases he : l.l[j] = l.l[k]
          · have HR := hide (keyB_no (n := x.cols.length) (l := l.l) (fun h => (h.2 k hlt).2.2 j hjl hjk he))
            have hb : (l.l[j] == l.l[k]) = true := by simpa using he
            clear he
            go_wp2
            go_quiet (fail)
            go_wp2
            go_ret
            exact ⟨retb HR.out.symm, below_drewN (bel_trans HB.out HBZ.out) _⟩
          · have hb : (l.l[j] == l.l[k]) = false := by simpa using he
            have HE := hide he
            clear he
            go_wp2
            go_quiet (fail)
            go_wp2
            go_roundw
            case rel =>
              refine ⟨j + 1, by omega, by go_num, fun i hi h => ?_, below_drewN HBZ.out _⟩
              by_cases e : i = j
              · subst e; exact HE.out
              · exact HM.out i hi (by omega)
            case measure => simp [intOf]; omega
        · obtain rfl : j = k := by omega
          have hjk' : ¬ (j : Int) < (j : Int) := by omega
          have HNK := hide (show 0 ≤ l.l[j] ∧ l.l[j] < x.cols.length ∧ ∀ i (hi : i < l.l.length), i < j → l.l[i] ≠ l.l[j] from ⟨by omega, by omega, fun i hi h => HM.out i hi h⟩)
          go_wp2
          go_roundw
          case rel =>
            refine ⟨j + 1, by omega, by go_num, fun i hi h => ?_, bel_trans HBW.out HBZ.out⟩
            by_cases e : i = j
            · subst e; exact HNK.out
            · exact HN.out i hi (by omega)
          case measure => simp [intOf]; omega
    · by_cases h0 : 0 < l.l.length
      · have HR := hide (keyB_yes (n := x.cols.length) (l := l.l) ⟨h0, fun i hi => HN.out i hi (by omega)⟩)
        have h0' : (0 : Int) < (l.l.length : Int) := by omega
        go_wp2
        go_ret
        exact ⟨by rw [HR.out]; simp, HB.out⟩
      · have HR := hide (keyB_no (n := x.cols.length) (l := l.l) (fun h => h0 h.1))
        have h0' : ¬ (0 : Int) < (l.l.length : Int) := by omega
        go_wp2
        go_ret
        exact ⟨by rw [HR.out]; simp, HB.out⟩
end Go.Proofs.YtmnbhdhgjbgidaaDoor

/- algebra.Type at distincts over a scan. -/
namespace Go.Proofs.YtmnbhdhgjbgidaaDoor
open Go.RowKit

set_option maxRecDepth 100000 in
set_option maxHeartbeats 4000000 in
theorem type_chain (s : Sch) (cs : List Int) (ht : t0cols s cs) {j : Nat} {q : Qu} (hc : Chain j q) (hj : j ≤ 30) (w : World) (hs : s.In w) (hq : q.In w) (hf : FormsAt w) (hsh : w.ShapedOpen Tryd.prog) :
    Calls Tryd.prog 14 #[.agg #[.slice s.th.ao s.tabs.length s.th.cap], .agg #[.int .i64 q.op, .string q.table, .int .i64 q.kind, .bool q.all, .int .i64 q.cond.op, .int .i64 q.cond.typ, .int .i64 q.cond.num, .string q.cond.text, .int .i64 q.cond.col, .slice q.cond.kh.ao q.cond.kids.length q.cond.kh.cap, .slice q.eh.ao q.exprs.length q.eh.cap, .slice q.ah.ao q.aggs.length q.ah.cap, .slice q.types.h.ao q.types.l.length q.types.h.cap, .slice q.rh.ao q.rows.length q.rh.cap, .slice q.qh.ao q.kids.length q.qh.cap]] w fun e w' => ((23 < j ∧ e = .returned (.tuple #[.slice none 0 0, .int .i64 13])) ∨ (j ≤ 23 ∧ ∃ r : IL, e = .returned (.tuple #[.slice r.h.ao r.l.length r.h.cap, .int .i64 0]) ∧ r.l = cs ∧ r.In w')) ∧ Below w.heap.size w w' := by
  have HB0 := hide (belAA (w := w) (.cells #[.slice s.th.ao s.tabs.length s.th.cap] 28) (.cells #[.int .i64 q.op, .string q.table, .int .i64 q.kind, .bool q.all, .int .i64 q.cond.op, .int .i64 q.cond.typ, .int .i64 q.cond.num, .string q.cond.text, .int .i64 q.cond.col, .slice q.cond.kh.ao q.cond.kids.length q.cond.kh.cap, .slice q.eh.ao q.exprs.length q.eh.cap, .slice q.ah.ao q.aggs.length q.ah.cap, .slice q.types.h.ao q.types.l.length q.types.h.cap, .slice q.rh.ao q.rows.length q.rh.cap, .slice q.qh.ao q.kids.length q.qh.cap] 57))
  have HX := hide (show ∀ w' : World, Below ((w.alloc (.cells #[.slice s.th.ao s.tabs.length s.th.cap] 28)).alloc (.cells #[.int .i64 q.op, .string q.table, .int .i64 q.kind, .bool q.all, .int .i64 q.cond.op, .int .i64 q.cond.typ, .int .i64 q.cond.num, .string q.cond.text, .int .i64 q.cond.col, .slice q.cond.kh.ao q.cond.kids.length q.cond.kh.cap, .slice q.eh.ao q.exprs.length q.eh.cap, .slice q.ah.ao q.aggs.length q.ah.cap, .slice q.types.h.ao q.types.l.length q.types.h.cap, .slice q.rh.ao q.rows.length q.rh.cap, .slice q.qh.ao q.kids.length q.qh.cap] 57)).heap.size ((w.alloc (.cells #[.slice s.th.ao s.tabs.length s.th.cap] 28)).alloc (.cells #[.int .i64 q.op, .string q.table, .int .i64 q.kind, .bool q.all, .int .i64 q.cond.op, .int .i64 q.cond.typ, .int .i64 q.cond.num, .string q.cond.text, .int .i64 q.cond.col, .slice q.cond.kh.ao q.cond.kids.length q.cond.kh.cap, .slice q.eh.ao q.exprs.length q.eh.cap, .slice q.ah.ao q.aggs.length q.ah.cap, .slice q.types.h.ao q.types.l.length q.types.h.cap, .slice q.rh.ao q.rows.length q.rh.cap, .slice q.qh.ao q.kids.length q.qh.cap] 57)) w' → ∀ (j : Nat) (v : Value), (#[.slice s.th.ao s.tabs.length s.th.cap] : Array Value)[j]? = some v → w'.cell? ⟨w.heap.size, j, none⟩ = some v from fun w' h j v hv => boxA h hv)
  have HY := hide (show ∀ w' : World, Below ((w.alloc (.cells #[.slice s.th.ao s.tabs.length s.th.cap] 28)).alloc (.cells #[.int .i64 q.op, .string q.table, .int .i64 q.kind, .bool q.all, .int .i64 q.cond.op, .int .i64 q.cond.typ, .int .i64 q.cond.num, .string q.cond.text, .int .i64 q.cond.col, .slice q.cond.kh.ao q.cond.kids.length q.cond.kh.cap, .slice q.eh.ao q.exprs.length q.eh.cap, .slice q.ah.ao q.aggs.length q.ah.cap, .slice q.types.h.ao q.types.l.length q.types.h.cap, .slice q.rh.ao q.rows.length q.rh.cap, .slice q.qh.ao q.kids.length q.qh.cap] 57)).heap.size ((w.alloc (.cells #[.slice s.th.ao s.tabs.length s.th.cap] 28)).alloc (.cells #[.int .i64 q.op, .string q.table, .int .i64 q.kind, .bool q.all, .int .i64 q.cond.op, .int .i64 q.cond.typ, .int .i64 q.cond.num, .string q.cond.text, .int .i64 q.cond.col, .slice q.cond.kh.ao q.cond.kids.length q.cond.kh.cap, .slice q.eh.ao q.exprs.length q.eh.cap, .slice q.ah.ao q.aggs.length q.ah.cap, .slice q.types.h.ao q.types.l.length q.types.h.cap, .slice q.rh.ao q.rows.length q.rh.cap, .slice q.qh.ao q.kids.length q.qh.cap] 57)) w' → ∀ (j : Nat) (v : Value), (#[.int .i64 q.op, .string q.table, .int .i64 q.kind, .bool q.all, .int .i64 q.cond.op, .int .i64 q.cond.typ, .int .i64 q.cond.num, .string q.cond.text, .int .i64 q.cond.col, .slice q.cond.kh.ao q.cond.kids.length q.cond.kh.cap, .slice q.eh.ao q.exprs.length q.eh.cap, .slice q.ah.ao q.aggs.length q.ah.cap, .slice q.types.h.ao q.types.l.length q.types.h.cap, .slice q.rh.ao q.rows.length q.rh.cap, .slice q.qh.ao q.kids.length q.qh.cap] : Array Value)[j]? = some v → w'.cell? ⟨w.heap.size + 1, j, none⟩ = some v from fun w' h j v hv => boxB h hv)
  have HS := hide (hs.mono HB0.out)
  have HQ := hide (hq.mono HB0.out)
  have HF := hide (hf.mono HB0.out)
  have HSH := hide (hsh.keptBut (HB0.out.frame (fun _ => False)) (by simp))
  have HW := hide (show q.wt ≤ 1048576 by rw [chain_wt hc]; omega)
  have HSZ := hide (show wrap64 (q.size : Int) = (j : Int) + 1 by rw [chain_size hc]; have := wrap_small (n := j + 1) (by omega); rw [this]; rfl)
  have HD := hide (chain_dep hc)
  have HC := hide hc
  clear hs hq hf hsh hc
  go_enter Tryd.func14, Tryd.ntmps14
  have hj2 : ¬ (200 : Int) < (j : Int) + 1 := by omega
  by_cases hjd : 23 < j
  · have hjd2 : (24 : Int) < (j : Int) + 1 := by omega
    go_wp2_with (first
      | (go_at_call 36; refine (aqsize_any HQ.out _ HQ.out HW.out).mono ?_; rintro e w1 ⟨rfl, hb1⟩; rw [HSZ.out]; have HB1 := hide hb1; have z0 := HY.out w1 HB1.out 0 _ rfl; have z1 := HY.out w1 HB1.out 1 _ rfl; have z2 := HY.out w1 HB1.out 2 _ rfl; have z3 := HY.out w1 HB1.out 3 _ rfl; have z4 := HY.out w1 HB1.out 4 _ rfl; have z5 := HY.out w1 HB1.out 5 _ rfl; have z6 := HY.out w1 HB1.out 6 _ rfl; have z7 := HY.out w1 HB1.out 7 _ rfl; have z8 := HY.out w1 HB1.out 8 _ rfl; have z9 := HY.out w1 HB1.out 9 _ rfl; have z10 := HY.out w1 HB1.out 10 _ rfl; have z11 := HY.out w1 HB1.out 11 _ rfl; have z12 := HY.out w1 HB1.out 12 _ rfl; have z13 := HY.out w1 HB1.out 13 _ rfl; have z14 := HY.out w1 HB1.out 14 _ rfl; clear hb1)
      | (go_at_call 17; refine (adep_any HQ.out _ (HQ.out.mono HB1.out) HW.out).mono ?_; rintro e w2 ⟨rfl, hb2⟩; rw [HD.out]; have HB2 := hide (bel_trans HB1.out hb2); clear z0 z1 z2 z3 z4 z5 z6 z7 z8 z9 z10 z11 z12 z13 z14 hb2))
    go_ret2
    exact ⟨.inl ⟨by omega, rfl⟩, HB0.out.trans (HB2.out.mono HB0.out.size)⟩
  · have hjd2 : ¬ (24 : Int) < (j : Int) + 1 := by omega
    go_wp2_with (first
      | (go_at_call 36; refine (aqsize_any HQ.out _ HQ.out HW.out).mono ?_; rintro e w1 ⟨rfl, hb1⟩; rw [HSZ.out]; have HB1 := hide hb1; have z0 := HY.out w1 HB1.out 0 _ rfl; have z1 := HY.out w1 HB1.out 1 _ rfl; have z2 := HY.out w1 HB1.out 2 _ rfl; have z3 := HY.out w1 HB1.out 3 _ rfl; have z4 := HY.out w1 HB1.out 4 _ rfl; have z5 := HY.out w1 HB1.out 5 _ rfl; have z6 := HY.out w1 HB1.out 6 _ rfl; have z7 := HY.out w1 HB1.out 7 _ rfl; have z8 := HY.out w1 HB1.out 8 _ rfl; have z9 := HY.out w1 HB1.out 9 _ rfl; have z10 := HY.out w1 HB1.out 10 _ rfl; have z11 := HY.out w1 HB1.out 11 _ rfl; have z12 := HY.out w1 HB1.out 12 _ rfl; have z13 := HY.out w1 HB1.out 13 _ rfl; have z14 := HY.out w1 HB1.out 14 _ rfl; clear hb1)
      | (go_at_call 17; refine (adep_any HQ.out _ (HQ.out.mono HB1.out) HW.out).mono ?_; rintro e w2 ⟨rfl, hb2⟩; rw [HD.out]; have HB2 := hide (bel_trans HB1.out hb2); clear z0 z1 z2 z3 z4 z5 z6 z7 z8 z9 z10 z11 z12 z13 z14 hb2; have v0 := HY.out w2 HB2.out 0 _ rfl; have v1 := HY.out w2 HB2.out 1 _ rfl; have v2 := HY.out w2 HB2.out 2 _ rfl; have v3 := HY.out w2 HB2.out 3 _ rfl; have v4 := HY.out w2 HB2.out 4 _ rfl; have v5 := HY.out w2 HB2.out 5 _ rfl; have v6 := HY.out w2 HB2.out 6 _ rfl; have v7 := HY.out w2 HB2.out 7 _ rfl; have v8 := HY.out w2 HB2.out 8 _ rfl; have v9 := HY.out w2 HB2.out 9 _ rfl; have v10 := HY.out w2 HB2.out 10 _ rfl; have v11 := HY.out w2 HB2.out 11 _ rfl; have v12 := HY.out w2 HB2.out 12 _ rfl; have v13 := HY.out w2 HB2.out 13 _ rfl; have v14 := HY.out w2 HB2.out 14 _ rfl; have xx := HX.out w2 HB2.out 0 _ rfl)
      | (go_at_call 37; refine (typ_chain s cs ht HC.out _ (HS.out.mono HB2.out) (HQ.out.mono HB2.out) (HF.out.mono HB2.out) (HSH.out.keptBut (HB2.out.frame (fun _ => False)) (by simp))).mono ?_; rintro e w3 ⟨⟨r, rfl, hr, hri⟩, hb3⟩; have HR := hide hr; have HRI := hide hri; have HB3 := hide (bel_trans HB2.out hb3); clear hr hri hb3))
    go_ret2
    exact ⟨.inr ⟨by omega, r, rfl, HR.out, HRI.out⟩, HB0.out.trans (HB3.out.mono HB0.out.size)⟩
end Go.Proofs.YtmnbhdhgjbgidaaDoor

/- schema.keys: the keys of a table. -/
namespace Go.Proofs.YtmnbhdhgjbgidaaDoor
open Go.RowKit

/-- May a column be null? -/
def pn (x : Tab) (k : Int) : Bool := (x.cols.getD k.toNat ⟨⟨#[]⟩, 0, false⟩).nul
noncomputable def keysE (x : Tab) : Int :=
  if keyB x.cols.length x.prim.l = false then 6 else if x.prim.l.any (pn x) then 4 else if (x.uniqs ++ x.fors.map Frn.cols).all (fun l => keyB x.cols.length l.l) then 0 else 6

set_option maxHeartbeats 400000 in
theorem kclo_any (x : Tab) (c : Nat) (k : Int) (w : World) (hr : Row w 3 Col.cells x.ch x.cols) (hc : w.cell? ⟨c, 1, none⟩ = some (.slice x.ch.ao x.cols.length x.ch.cap)) (h0 : 0 ≤ k) (h1 : k < x.cols.length) :
    Calls Tryd.prog 84 #[.int .i64 k, .pointer (some ⟨c, 0, none⟩)] w
      fun e w' => e = .returned (.bool (pn x k)) ∧ Below w.heap.size w w' := by
  obtain ⟨m, rfl⟩ : ∃ m : Nat, k = m := ⟨k.toNat, by omega⟩
  have hm : m < x.cols.length := by omega
  have hn := hr.len
  have HP := hide (show pn x m = x.cols[m].nul by simp [pn, List.getD, hm])
  have hix := hr.ix hm Tryd.underlying34 sz30
  obtain ⟨c0, c1, c2⟩ := col_at hr hm
  have hbk := hr.blk hm
  clear hr
  go_enter Tryd.func84, Tryd.ntmps84
  go_wp2
  go_ret
  exact ⟨retb HP.out.symm, Below.refl _ _⟩

set_option maxHeartbeats 400000 in
theorem kindex_any (x : Tab) (l : IL) (c : Nat) (w : World) (hin : l.In w) (hr : Row w 3 Col.cells x.ch x.cols) (hc : w.cell? ⟨c, 1, none⟩ = some (.slice x.ch.ao x.cols.length x.ch.cap)) (hk : ∀ j (hj : j < l.l.length), 0 ≤ l.l[j] ∧ l.l[j] < x.cols.length) :
    Calls Tryd.prog 100 #[.slice l.h.ao l.l.length l.h.cap, .func (.func 84) #[] #[.pointer (some ⟨c, 0, none⟩)]] w
      fun e w' => e = .returned (.int .i64 (fx (pn x) l.l)) ∧ Below w.heap.size w w' := by
  have hlc : c < w.heap.size := World.block_lt_of_cell? w ⟨c, 1, none⟩ hc
  have hn := hin.1.len
  have HC := hide hc
  have HR := hide hr
  have HK := hide hk
  clear hc hr hk
  go_enter Tryd.func100, Tryd.ntmps100
  go_wp2
  go_loopw [5, 8] (fun _ i wr => ∃ k : Nat, k ≤ l.l.length ∧ i = .int .i64 k ∧ Hid (∀ j (hj : j < l.l.length), j < k → pn x l.l[j] = false) ∧ Hid (Below w.heap.size w wr)) (fun _ i _ => l.l.length - (intOf i).toNat)
  case atStart => exact ⟨0, Nat.zero_le _, rfl, fun j _ h => absurd h (by omega), Below.refl _ _⟩
  case round =>
    obtain ⟨k, hk, rfl, HN, HB⟩ := hrel
    have hin' := hin.mono HB.out
    by_cases hlt : k < l.l.length
    · have hix := IL.ix hin' hlt
      have c0 := int_at hin'.1 hlt
      have HCL := hide (kclo_any x c l.l[k] wr (HR.out.mono HB.out) (by rw [HB.out.cell hlc]; exact HC.out) (HK.out k hlt).1 (HK.out k hlt).2)
      cases hp : pn x l.l[k]
      all_goals
        have HP := hide hp
        clear hp
        go_wp2_with (go_at_call 84; refine HCL.out.mono ?_; rintro e w1 ⟨rfl, hb1⟩; rw [HP.out]; have HB1 := hide hb1; clear hb1)
      · go_roundw
        case rel =>
          refine ⟨k + 1, by omega, by go_num, fun j hj h => ?_, HB.out.trans (HB1.out.mono HB.out.size)⟩
          by_cases e : j = k
          · subst e; exact HP.out
          · exact HN.out j hj (by omega)
        case measure => simp [intOf]; omega
      · go_ret
        exact ⟨ret1 (fx_hit hlt HP.out (fun j hj h => HN.out j hj h)).symm, HB.out.trans (HB1.out.mono HB.out.size)⟩
    · go_wp2
      go_ret
      exact ⟨ret1 (fx_miss (fun j hj => HN.out j hj (by omega))).symm, HB.out⟩

set_option maxHeartbeats 400000 in
theorem kcont_any (x : Tab) (l : IL) (c : Nat) (w : World) (hin : l.In w) (hr : Row w 3 Col.cells x.ch x.cols) (hc : w.cell? ⟨c, 1, none⟩ = some (.slice x.ch.ao x.cols.length x.ch.cap)) (hk : ∀ j (hj : j < l.l.length), 0 ≤ l.l[j] ∧ l.l[j] < x.cols.length) :
    Calls Tryd.prog 83 #[.slice l.h.ao l.l.length l.h.cap, .func (.func 84) #[] #[.pointer (some ⟨c, 0, none⟩)]] w
      fun e w' => e = .returned (.bool (l.l.any (pn x))) ∧ Below w.heap.size w w' := by
  have HA := hide (fx_any (pn x) l.l)
  have HCL := hide (kindex_any x l c w hin hr hc hk)
  clear hr hc hk
  go_enter Tryd.func83, Tryd.ntmps83
  go_wp2_with (go_at_call 100; refine HCL.out.mono ?_; rintro e w1 ⟨rfl, hb1⟩)
  go_ret
  exact ⟨by rw [← HA.out]; rfl, hb1⟩

/-- A list of unique keys that is empty is nil. -/
def okU (x : Tab) : Prop := 0 < x.uniqs.length ∨ x.uh.ao = none
theorem own_base {w : World} {base base' : Nat} {e : TypeId} {size : Nat} {v : Value} {n : Nat} {xs : List Value} (h : w.ownsRow base e size v n xs) (hb : base' ≤ base) : w.ownsRow base' e size v n xs := by
  refine ⟨h.1, ?_⟩
  rcases h.2 with hn | ⟨g, cap, cur, hv, hbg, rest⟩
  · exact .inl hn
  · exact .inr ⟨g, cap, cur, hv, Nat.le_trans hb hbg, rest⟩
/-- The cells of a foreign key's columns. -/
abbrev fcells (f : Frn) : List Value := f.cols.cells
theorem clone_uniqs (x : Tab) (w : World) (hx : x.In w) (hs : x.uniqs.length ≤ 1000) (hu0 : okU x) :
    Calls Tryd.prog 85 #[.slice x.uh.ao x.uniqs.length x.uh.cap] w fun e w' => ∃ v', e = .returned v' ∧ w'.ownsRow w.heap.size 22 1 v' x.uniqs.length (x.uniqs.flatMap IL.cells) ∧ Below w.heap.size w w' := by
  obtain ⟨i0, hi, hz0, hz1, hz2⟩ := info_parts info_il
  have hr := hx.ru
  cases hao : x.uh.ao with
  | none =>
    have h0 : x.uniqs = [] := by
      rcases Nat.eq_zero_or_pos x.uniqs.length with h | h
      · exact List.eq_nil_of_length_eq_zero h
      · have := (hr.2.2.1 h).1
        rw [hao] at this
        cases this
    rw [h0]
    refine (Tryd.slices_Clone_nil_f85 _ _ w).mono ?_
    rintro e w' ⟨rfl, rfl⟩
    exact ⟨_, rfl, World.ownsRow_nil _ _ _ _, Below.refl _ _⟩
  | some ad =>
    obtain ⟨b, o, sp⟩ := ad
    by_cases hp : 0 < x.uniqs.length
    · have h1 := (hr.2.2.1 hp).1
      rw [hao] at h1
      injection h1 with h1
      injection h1 with hb ho hsp
      subst hsp
      have hbo : x.uh.b = b ∧ x.uh.o = o := ⟨hb.symm, ho.symm⟩
      refine (Tryd.slices_Clone_f85 i0 (.slice none 0 0) 1 24 hi hz0 hz1 hz2 rfl (by decide) (fun w => by kernel_rfl) b o x.uniqs.length x.uh.cap (x.uniqs.flatMap IL.cells) w (by rw [flatMap_len (cells := IL.cells) (size := 1) (fun _ => rfl)]) (by unfold maxLen; omega) (by omega) (fun j u hu => ?_) (fun u hu => ?_)).mono ?_
      · have hj : j < x.uniqs.length := by
          have := (List.getElem?_eq_some_iff.1 hu).1
          rw [flatMap_len (cells := IL.cells) (size := 1) (fun _ => rfl)] at this
          omega
        have h2 := flatMap_at (cells := IL.cells) (size := 1) (fun _ => rfl) x.uniqs j 0 hj (by decide)
        rw [Nat.mul_one, Nat.add_zero, hu] at h2
        have := hr.2.2.2 j hj 0 u h2.symm
        rw [hbo.1, hbo.2] at this
        simpa using this
      · obtain ⟨l, hl, hul⟩ := List.mem_flatMap.1 hu
        rw [List.mem_singleton.1 hul]; rfl
      · rintro e w' ⟨v', rfl, ho', _, hbw⟩
        exact ⟨v', rfl, ho', hbw⟩
    · rcases hu0 with h | h
      · exact absurd h hp
      · rw [hao] at h; cases h

set_option maxRecDepth 100000 in
set_option maxHeartbeats 4000000 in
theorem keys_any (x : Tab) (w : World) (hx : x.In w) (hu : x.uniqs.length ≤ 1000) (hf : x.fors.length ≤ 1000) (hu0 : okU x) :
    Calls Tryd.prog 48 #[.agg #[.string x.name, .slice x.ch.ao x.cols.length x.ch.cap, .slice x.prim.h.ao x.prim.l.length x.prim.h.cap, .slice x.uh.ao x.uniqs.length x.uh.cap, .slice x.fh.ao x.fors.length x.fh.cap, .slice x.kh.ao x.checks.length x.kh.cap]] w fun e w' => e = .returned (.int .i64 (keysE x)) ∧ Below w.heap.size w w' := by
  obtain ⟨i0, hi, hz0, hz1, hz2⟩ := info_parts info_il
  have HI := hide (And.intro hi (And.intro hz0 (And.intro hz1 hz2)))
  clear hi hz0 hz1 hz2
  have HB0 := hide (belA (w := w) (.cells #[.string x.name, .slice x.ch.ao x.cols.length x.ch.cap, .slice x.prim.h.ao x.prim.l.length x.prim.h.cap, .slice x.uh.ao x.uniqs.length x.uh.cap, .slice x.fh.ao x.fors.length x.fh.cap, .slice x.kh.ao x.checks.length x.kh.cap] 39))
  have HX := hide (hx.mono HB0.out)
  have HY := hide (show ∀ w' : World, Below (w.alloc (.cells #[.string x.name, .slice x.ch.ao x.cols.length x.ch.cap, .slice x.prim.h.ao x.prim.l.length x.prim.h.cap, .slice x.uh.ao x.uniqs.length x.uh.cap, .slice x.fh.ao x.fors.length x.fh.cap, .slice x.kh.ao x.checks.length x.kh.cap] 39)).heap.size (w.alloc (.cells #[.string x.name, .slice x.ch.ao x.cols.length x.ch.cap, .slice x.prim.h.ao x.prim.l.length x.prim.h.cap, .slice x.uh.ao x.uniqs.length x.uh.cap, .slice x.fh.ao x.fors.length x.fh.cap, .slice x.kh.ao x.checks.length x.kh.cap] 39)) w' → ∀ (j : Nat) (v : Value), (#[.string x.name, .slice x.ch.ao x.cols.length x.ch.cap, .slice x.prim.h.ao x.prim.l.length x.prim.h.cap, .slice x.uh.ao x.uniqs.length x.uh.cap, .slice x.fh.ao x.fors.length x.fh.cap, .slice x.kh.ao x.checks.length x.kh.cap] : Array Value)[j]? = some v → w'.cell? ⟨w.heap.size, j, none⟩ = some v from fun w' h j v hv => box_cell h hv)
  have HU0 := hide hu0
  clear hx hu0
  obtain ⟨bk, hbk⟩ : ∃ b, keyB x.cols.length x.prim.l = b := ⟨_, rfl⟩
  have HBK := hide hbk
  clear hbk
  cases bk
  · have HR := hide (show keysE x = 6 by unfold keysE; rw [if_pos HBK.out])
    have HKE := hide (show keyE x.cols.length x.prim.l = 6 by unfold keyE; rw [HBK.out]; rfl)
    go_enter Tryd.func48, Tryd.ntmps48
    go_wp2_with (go_at_call 82; refine (key_any x x.prim _ HX.out.rp).mono ?_; rintro e w1 ⟨rfl, hb1⟩; rw [HKE.out]; have HB1 := hide hb1; clear hb1)
    go_ret
    exact ⟨ret1 HR.out.symm, bel1 HB1.out⟩
  have HKE := hide (show keyE x.cols.length x.prim.l = 0 by unfold keyE; rw [HBK.out]; rfl)
  have HKO := hide (show KeyOk x.cols.length x.prim.l from Classical.byContradiction fun h => by have := keyB_no h; rw [HBK.out] at this; cases this)
  obtain ⟨bn, hbn⟩ : ∃ b, x.prim.l.any (pn x) = b := ⟨_, rfl⟩
  have HBN := hide hbn
  clear hbn
  cases bn
  rotate_left
  · have HR := hide (show keysE x = 4 by unfold keysE; rw [if_neg (by rw [HBK.out]; simp), if_pos HBN.out])
    go_enter Tryd.func48, Tryd.ntmps48
    go_wp2_with (first
      | (go_at_call 82; refine (key_any x x.prim _ HX.out.rp).mono ?_; rintro e w1 ⟨rfl, hb1⟩; rw [HKE.out]; have HB1 := hide hb1; clear hb1; have y0 := HY.out _ HB1.out 0 _ rfl; have y1 := HY.out _ HB1.out 1 _ rfl; have y2 := HY.out _ HB1.out 2 _ rfl; have y3 := HY.out _ HB1.out 3 _ rfl; have y4 := HY.out _ HB1.out 4 _ rfl; have y5 := HY.out _ HB1.out 5 _ rfl)
      | (go_at_call 83; refine (kcont_any x x.prim w.heap.size _ (HX.out.mono HB1.out).rp (HX.out.mono HB1.out).rc y1 (fun j hj => ⟨(HKO.out.2 j hj).1, (HKO.out.2 j hj).2.1⟩)).mono ?_; rintro e w2 ⟨rfl, hb2⟩; rw [HBN.out]; have HB2 := hide (bel_trans HB1.out hb2); clear hb2 y0 y1 y2 y3 y4 y5))
    go_ret
    exact ⟨ret1 HR.out.symm, bel1 HB2.out⟩
  have HR0 := hide (show keysE x = if (x.uniqs ++ x.fors.map Frn.cols).all (fun l => keyB x.cols.length l.l) then 0 else 6 by unfold keysE; rw [if_neg (by rw [HBK.out]; simp), if_neg (by rw [HBN.out]; simp)])
  go_enter Tryd.func48, Tryd.ntmps48
  go_wp2_with (first
    | (go_at_call 82; refine (key_any x x.prim _ HX.out.rp).mono ?_; rintro e w1 ⟨rfl, hb1⟩; rw [HKE.out]; have HB1 := hide hb1; clear hb1; have y0 := HY.out _ HB1.out 0 _ rfl; have y1 := HY.out _ HB1.out 1 _ rfl; have y2 := HY.out _ HB1.out 2 _ rfl; have y3 := HY.out _ HB1.out 3 _ rfl; have y4 := HY.out _ HB1.out 4 _ rfl; have y5 := HY.out _ HB1.out 5 _ rfl)
    | (go_at_call 83; refine (kcont_any x x.prim w.heap.size _ (HX.out.mono HB1.out).rp (HX.out.mono HB1.out).rc y1 (fun j hj => ⟨(HKO.out.2 j hj).1, (HKO.out.2 j hj).2.1⟩)).mono ?_; rintro e w2 ⟨rfl, hb2⟩; rw [HBN.out]; have HB2 := hide (bel_trans HB1.out hb2); clear hb2 y0 y1 y2 y3 y4 y5; have z0 := HY.out _ HB2.out 0 _ rfl; have z1 := HY.out _ HB2.out 1 _ rfl; have z2 := HY.out _ HB2.out 2 _ rfl; have z3 := HY.out _ HB2.out 3 _ rfl; have z4 := HY.out _ HB2.out 4 _ rfl; have z5 := HY.out _ HB2.out 5 _ rfl)
    | (go_at_call 85; refine (clone_uniqs x _ (HX.out.mono HB2.out) hu HU0.out).mono ?_; rintro e w3 ⟨v3, rfl, ho3, hb3⟩; have HB3 := hide (bel_trans HB2.out hb3); have HO3 := hide (own_base ho3 (by have := HB2.out.size; simp only [World.size_alloc] at this; exact this) : _); clear ho3 hb3 z0 z1 z2 z3 z4 z5; have q0 := HY.out _ HB3.out 0 _ rfl; have q1 := HY.out _ HB3.out 1 _ rfl; have q2 := HY.out _ HB3.out 2 _ rfl; have q3 := HY.out _ HB3.out 3 _ rfl; have q4 := HY.out _ HB3.out 4 _ rfl; have q5 := HY.out _ HB3.out 5 _ rfl))
  go_loopw [4, 27] (fun v i wr => ∃ k : Nat, k ≤ x.fors.length ∧ i = .int .i64 k ∧ Hid (wr.ownsRow (w.heap.size + 1) 22 1 v (x.uniqs.length + k) (x.uniqs.flatMap IL.cells ++ (x.fors.take k).flatMap fcells)) ∧ Hid (Below (w.alloc (.cells #[.string x.name, .slice x.ch.ao x.cols.length x.ch.cap, .slice x.prim.h.ao x.prim.l.length x.prim.h.cap, .slice x.uh.ao x.uniqs.length x.uh.cap, .slice x.fh.ao x.fors.length x.fh.cap, .slice x.kh.ao x.checks.length x.kh.cap] 39)).heap.size (w.alloc (.cells #[.string x.name, .slice x.ch.ao x.cols.length x.ch.cap, .slice x.prim.h.ao x.prim.l.length x.prim.h.cap, .slice x.uh.ao x.uniqs.length x.uh.cap, .slice x.fh.ao x.fors.length x.fh.cap, .slice x.kh.ao x.checks.length x.kh.cap] 39)) wr)) (fun _ i _ => x.fors.length - (intOf i).toNat)
  case atStart => exact ⟨0, Nat.zero_le _, rfl, hide (by simpa using HO3.out), HB3.out⟩
  case round =>
    obtain ⟨k, hk, rfl, HO, HBW⟩ := hrel
    have HXR := hide (HX.out.mono HBW.out)
    have hszw : w.heap.size + 1 ≤ wr.heap.size := by have := HBW.out.size; simpa using this
    clear q0 q1 q2 q3 q4 q5
    by_cases hlt : k < x.fors.length
    · have hrow : Row wr 2 Frn.cells x.fh x.fors := HXR.out.rf
      have hix := hrow.ix hlt Tryd.underlying36 sz61
      obtain ⟨c0, c1⟩ := frn_at hrow hlt
      have hbk := hrow.blk hlt
      clear hrow
      go_wp2_with (first
        | (at_builtin; refine wpList_append_own _ rfl _ _ 35 rfl (w.heap.size + 1) 22 i0 (.slice none 0 0) 1 24 Tryd.underlying35 HI.out.1 HI.out.2.1 HI.out.2.2.1 HI.out.2.2.2 rfl (by decide) _ _ _ rfl ((HO.out.alloc _).alloc _) ⟨wr.heap.size + 1, 0, none⟩ 1 1 [.slice x.fors[k].cols.h.ao x.fors[k].cols.l.length x.fors[k].cols.h.cap] rfl rfl (new_cells1 (l := [_])) (by intro u hu; rw [List.mem_singleton.1 hu]; rfl) (by unfold maxLen; omega) (by omega) (by simp; omega) ?_; intro v' w2 hown' hgrow _))
      have HO' := hide hown'
      have HG := hide hgrow
      clear hown' hgrow
      go_wp2
      go_roundw
      case rel =>
        refine ⟨k + 1, by omega, by go_num, ?_, ?_⟩
        · have := HO'.out
          rw [List.append_assoc] at this
          rw [List.take_succ_eq_append_getElem hlt, List.flatMap_append]
          exact this
        · refine grown2 HBW.out HBW.out.size HG.out (fun b hb => ?_)
          have := (HO.out.lt b hb).1
          simpa using this
      case measure => simp [intOf]; omega
    · obtain rfl : k = x.fors.length := by omega
      have hLc : x.uniqs.flatMap IL.cells ++ (x.fors.take x.fors.length).flatMap fcells = (x.uniqs ++ x.fors.map Frn.cols).flatMap IL.cells := by
        rw [List.take_length, List.flatMap_append, List.flatMap_map]
      have hown := HO.out
      rw [hLc] at hown
      obtain ⟨L, hL⟩ : ∃ L, x.uniqs ++ x.fors.map Frn.cols = L := ⟨_, rfl⟩
      have HRL := hide HR0.out
      rw [hL] at hown HRL
      have hLn : L.length ≤ 2000 := by rw [← hL, List.length_append, List.length_map]; omega
      have HLI := hide (show ∀ l ∈ L, l.In wr from fun l hl => by
        rw [← hL] at hl
        rcases List.mem_append.1 hl with h | h
        · exact HXR.out.us l h
        · obtain ⟨f, hf', rfl⟩ := List.mem_map.1 h
          exact (HXR.out.fs f hf').1)
      obtain ⟨hd, hv, hrow⟩ := own_row (size := 1) (cells := IL.cells) (fun _ => rfl) (by decide) hown
      have HROW := hide hrow
      subst hv
      clear hown hrow hLc HO hL
      go_wp2
      go_loopw [39] (fun i wz => ∃ j : Nat, j ≤ L.length ∧ i = .int .i64 j ∧ Hid (∀ i (h : i < L.length), i < j → keyB x.cols.length (L[i]).l = true) ∧ Hid (Below wr.heap.size wr wz)) (fun i _ => L.length - (intOf i).toNat)
      case atStart => exact ⟨0, Nat.zero_le _, rfl, fun i _ h => absurd h (by omega), Below.refl _ _⟩
      case round =>
        obtain ⟨j, hj, rfl, HN, HBZ⟩ := hrel
        have HBT := hide (bel_trans HBW.out HBZ.out)
        have HRZ := hide (HROW.out.mono HBZ.out)
        by_cases hjl : j < L.length
        · have hix := HRZ.out.ix hjl Tryd.underlying35 szil
          have c0 := il_at HRZ.out hjl
          have hbk := HRZ.out.blk hjl
          have hixj : ∀ U, (Instr.indexAt 35 (.slice hd.ao L.length hd.cap) (.int .i64 (j : Int))).run Tryd.prog U = .ok (.pointer (some ⟨hd.b, hd.o + j, none⟩)) U := fun U => by simpa using hix U
          clear hix
          have HIJ := hide ((HLI.out _ (List.getElem_mem hjl)).mono HBZ.out)
          have z0 := HY.out _ HBT.out 0 _ rfl
          have z1 := HY.out _ HBT.out 1 _ rfl
          have z2 := HY.out _ HBT.out 2 _ rfl
          have z3 := HY.out _ HBT.out 3 _ rfl
          have z4 := HY.out _ HBT.out 4 _ rfl
          have z5 := HY.out _ HBT.out 5 _ rfl
          obtain ⟨bj, hbj⟩ : ∃ b, keyB x.cols.length (L[j]).l = b := ⟨_, rfl⟩
          have HBJ := hide hbj
          clear hbj
          cases bj
          · have HKJ := hide (show keyE x.cols.length (L[j]).l = 6 by unfold keyE; rw [HBJ.out]; rfl)
            have HR := hide (HRL.out.trans (show _ = 6 by rw [if_neg]; intro h; rw [List.all_eq_true] at h; have := h _ (List.getElem_mem hjl); rw [HBJ.out] at this; cases this))
            go_wp2_with (go_at_call 82; refine (key_any x L[j] _ HIJ.out).mono ?_; rintro e w1 ⟨rfl, hb1⟩; rw [HKJ.out]; have HB1 := hide hb1; clear hb1)
            go_ret
            exact ⟨ret1 HR.out.symm, HB0.out.trans ((bel_trans HBT.out HB1.out).mono HB0.out.size)⟩
          · have HKJ := hide (show keyE x.cols.length (L[j]).l = 0 by unfold keyE; rw [HBJ.out]; rfl)
            go_wp2_with (go_at_call 82; refine (key_any x L[j] _ HIJ.out).mono ?_; rintro e w1 ⟨rfl, hb1⟩; rw [HKJ.out]; have HB1 := hide hb1; clear hb1)
            go_roundw
            case rel =>
              refine ⟨j + 1, by omega, by go_num, fun i hi h => ?_, bel_trans HBZ.out HB1.out⟩
              by_cases e : i = j
              · subst e; exact HBJ.out
              · exact HN.out i hi (by omega)
            case measure => simp [intOf]; omega
        · have HR := hide (HRL.out.trans (show _ = 0 by
            rw [if_pos]
            rw [List.all_eq_true]
            intro l hl
            obtain ⟨i, hi, rfl⟩ := List.getElem_of_mem hl
            exact HN.out i hi (by omega)))
          go_wp2
          go_ret
          exact ⟨ret1 HR.out.symm, HB0.out.trans (HBT.out.mono HB0.out.size)⟩
end Go.Proofs.YtmnbhdhgjbgidaaDoor

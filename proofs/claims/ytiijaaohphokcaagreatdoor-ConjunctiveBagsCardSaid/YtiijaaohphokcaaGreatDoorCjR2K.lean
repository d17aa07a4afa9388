/- conjunctive.(*matcher).rest. -/
import Derived.Test.YtiijaaohphokcaaGreatDoorG08
import Derived.Maps.AppendAt
import Derived.Deep.DeepCutAuto
namespace Go.Proofs.YtiijaaohphokcaaGreatDoor
open Go.RowKit
theorem szlit : (Tryz.prog.info? 56).map (·.size) = some 2 := by kernel_rfl
theorem szbool : (Tryz.prog.info? 4).map (·.size) = some 1 := by kernel_rfl
structure QOk (w0 : World) (q r : Cq) : Prop where
  qi : q.In w0 0
  ri : r.In w0 0
  vq : ∀ l ∈ q.lits, ∀ x, Tm.v x ∈ l.sl.l → x < q.vars
  ql : q.lits.length ≤ 1000
  rl : r.lits.length ≤ 1000
  qs : ∀ l ∈ q.lits, l.sl.l.length ≤ 1000
set_option maxRecDepth 100000 in
set_option maxHeartbeats 16000000 in
theorem rest_any (w0 : World) (gm gs gu : Nat) (q r : Cq) (single : Bool) (hq : QOk w0 q r) : ∀ (d n : Nat) (σ : Sb V) (us : Nat → Bool) (lv : Value) (w : World), n + d = q.lits.length → MW w0 gm gs gu q r single σ us n lv w → SbOk single σ →
    Calls Tryz.prog 87 #[.pointer (some ⟨gm, 0, none⟩), .int .i64 (n : Nat)] w (RestPost w0 gm gs gu n lv q r single σ us w) := by
  intro d
  have HQ := hide hq
  have hql := hq.ql
  have hrl := hq.rl
  clear hq
  induction d with
  | zero =>
    intro n σ us lv w hn hM hok
    have HM := hide hM
    have m1 := hM.box.cell (j := 1) rfl
    have HF := hide (show Fits single r.cj.lits σ us (q.cj.lits.drop n) from by
      rw [show q.cj.lits.drop n = [] from List.drop_of_length_le (by show (q.lits.map _).length ≤ n; rw [List.length_map]; omega)]
      exact fits_nil hok)
    have he : ((n : Int) == (q.lits.length : Int)) = true := beq_iff_eq.2 (by omega)
    clear hM hok hn
    go_enter Tryz.func87, Tryz.ntmps87
    go_wp2
    go_ret
    exact ⟨true, rfl, HM.out.bel, fun _ => ⟨HF.out, lv, HM.out.box.cell (j := 9) rfl⟩, fun h => (by cases h)⟩
  | succ d ih =>
    intro n σ us lv w hn hM hok
    have IH := hide (fun (σ : Sb V) (us : Nat → Bool) (lv : Value) (w : World) => ih (n + 1) σ us lv w (by omega))
    clear ih
    have HM := hide hM
    have HOK := hide hok
    have m1 := hM.box.cell (j := 1) rfl
    have he : ((n : Int) == (q.lits.length : Int)) = false := beq_eq_false_iff_ne.2 (by omega)
    have hnl : n < q.lits.length := by omega
    have hqr := HQ.out.qi.row.mono hM.bel
    have hix := hqr.ix hnl Tryz.underlying29 szlit
    obtain ⟨c0, c1⟩ := li_at hqr hnl
    obtain ⟨a, ha⟩ : ∃ a, q.lits[n] = a := ⟨_, rfl⟩
    have HA := hide ha
    have HAM := hide (show a ∈ q.lits from ha ▸ List.getElem_mem hnl)
    have HDR := hide (show q.cj.lits.drop n = a.lt :: q.cj.lits.drop (n + 1) from by
      have h1 : n < (q.lits.map Li.lt).length := by rw [List.length_map]; exact hnl
      show (q.lits.map Li.lt).drop n = a.lt :: (q.lits.map Li.lt).drop (n + 1)
      rw [List.drop_eq_getElem_cons h1, List.getElem_map, ha])
    rw [ha] at c0 c1
    have HMX := hide (hM.call (belA (.cells #[.int .i64 (a.tab : Nat), .slice a.sl.h.ao a.sl.l.length a.sl.h.cap] 56)))
    have HBX := hide (Box.new w #[.int .i64 (a.tab : Nat), .slice a.sl.h.ao a.sl.l.length a.sl.h.cap] 56)
    have m4 := HMX.out.box.cell (j := 4) rfl
    obtain ⟨W, hW⟩ : ∃ W, w.alloc (.cells #[.int .i64 (a.tab : Nat), .slice a.sl.h.ao a.sl.l.length a.sl.h.cap] 56) = W := ⟨_, rfl⟩
    rw [hW] at HMX HBX m4
    have HWB := hide (show Below w.heap.size w W from by rw [← hW]; exact belA _)
    have HWN := hide (show w.heap.size < W.heap.size from HBX.out.lt)
    clear hM hok ha hqr
    go_enter Tryz.func87, Tryz.ntmps87
    go_wp2
    clear hW m1 m4 c0 c1 hix he
    go_loopw [32] (fun i wr => ∃ k : Nat, k ≤ r.lits.length ∧ i = .int .i64 k ∧ Hid (∀ j, j < k → Fails q r single σ us n a.lt j) ∧ ∃ (us1 : Nat → Bool) (lv1 : Value), Hid (single = true → ∀ j, us1 j = us j) ∧ Hid (MW w0 gm gs gu q r single σ us1 n lv1 wr) ∧ Hid (Kept W wr gm gs gu lv) ∧ Hid (Fresh W lv lv1)) (fun i _ => r.lits.length - (intOf i).toNat)
    case atStart => exact ⟨0, Nat.zero_le _, rfl, hide (fun j h => absurd h (by omega)), us, lv, hide (fun _ _ => rfl), HMX, hide (Kept.refl _ _ _ _ _), hide (Fresh.refl _ _)⟩
    case round =>
    obtain ⟨k, hk, rfl, HFL, us1, lv1, HU1, HM1, HK1, HF1⟩ := hrel
    clear HMX
    by_cases hlt : k < r.lits.length
    · have hlti : (k : Int) < r.lits.length := by omega
      have hrr := HQ.out.ri.row.mono HM1.out.bel
      have hixr := hrr.ix hlt Tryz.underlying29 szlit
      obtain ⟨d0, d1⟩ := li_at hrr hlt
      obtain ⟨b, hb⟩ : ∃ b, r.lits[k] = b := ⟨_, rfl⟩
      have HBM := hide (show b ∈ r.lits from hb ▸ List.getElem_mem hlt)
      have HBK := hide (show r.cj.lits[k]? = some b.lt from by show (r.lits.map Li.lt)[k]? = _; rw [List.getElem?_map, List.getElem?_eq_getElem hlt, hb]; rfl)
      rw [hb] at d0 d1
      clear hb hrr
      have HLT := hide (show gm < w.heap.size ∧ gs < w.heap.size ∧ gu < w.heap.size from HM.out.hi)
      have HLV := hide (show ∀ j, lv.ownBlock = some j → j < w.heap.size from fun j e => by obtain ⟨xs, hx⟩ := HM.out.own; exact (hx.lt j e).2)
      have HBA := hide (HK1.out.box HBX.out (by have := HLT.out; omega) (by have := HLT.out; omega) (by have := HLT.out; omega) (fun e => by have := HLV.out _ e; omega))
      obtain ⟨X, hX⟩ : ∃ X, wr.alloc (.cells #[.int .i64 (b.tab : Nat), .slice b.sl.h.ao b.sl.l.length b.sl.h.cap] 56) = X := ⟨_, rfl⟩
      have HBX1 := hide (show Below wr.heap.size wr X from by rw [← hX]; exact belA _)
      have HBB := hide (show Box X wr.heap.size #[.int .i64 (b.tab : Nat), .slice b.sl.h.ao b.sl.l.length b.sl.h.cap] 56 from by rw [← hX]; exact Box.new _ _ _)
      have HMX1 := hide (HM1.out.call HBX1.out)
      have HBAX := hide (HBA.out.below HBX1.out)
      have HFX := hide (show Fresh W lv lv1 from HF1.out)
      have HKX := hide (HK1.out.trans (Kept.call (gm := gm) (gs := gs) (gu := gu) (lv := lv1) HBX1.out) HFX.out)
      have HXS := hide (show W.heap.size ≤ wr.heap.size ∧ wr.heap.size < X.heap.size from ⟨HK1.out.1, HBB.out.lt⟩)
      have HXS := hide (show w.heap.size < X.heap.size from by have := HXS.out; have := HWN.out; omega)
      have HSTEP := hide (fun (hf : Fails q r single σ us n a.lt k) => (fun j hj => by
        by_cases e : j = k
        · rw [e]; exact hf
        · exact HFL.out j (by omega) : ∀ j, j < k + 1 → Fails q r single σ us n a.lt j))
      have a0 := HBAX.out.cell (j := 0) rfl
      have a1 := HBAX.out.cell (j := 1) rfl
      have b0 := HBB.out.cell (j := 0) rfl
      have b1 := HBB.out.cell (j := 1) rfl
      by_cases htab : a.tab = b.tab
      case neg =>
        have ht : ((a.tab : Int) != (b.tab : Int)) = true := bne_iff_ne.2 (by omega)
        have HT := hide htab
        clear htab
        go_wp2
        go_roundw
        case rel => exact ⟨k + 1, by omega, by go_num, hide (HSTEP.out (fun b' hb' => by rw [HBK.out] at hb'; injection hb' with hb'; subst hb'; exact .inl (.inl HT.out))), us1, lv1, HU1, HMX1, HKX, HFX⟩
        case measure => simp [intOf]; omega
      have ht : ((a.tab : Int) != (b.tab : Int)) = false := by rw [htab]; exact bne_self_eq_false _
      have HT := hide htab
      clear htab
      have m6 := HMX1.out.box.cell (j := 6) rfl
      have HBEC := hide (becomes_any w0 gm gs gu n lv1 q r single σ us1 a.sl b.sl X HMX1.out (HQ.out.qi.sl a HAM.out).row (HQ.out.ri.sl b HBM.out).row (HQ.out.vq a HAM.out) HQ.out.qi.vr (HQ.out.qs a HAM.out))
      obtain ⟨i0, hi, hz0, hz1, hz2⟩ := info_parts info_int
      have HI := hide (And.intro hi (And.intro hz0 (And.intro hz1 hz2)))
      clear hi hz0 hz1 hz2
      have hn1000 : n ≤ 1000 := by omega
      have hwn1 : IntKind.i64.wrap ((n : Int) + 1) = ((n + 1 : Nat) : Int) := by rw [IntKind.wrap_i64]; omega
      by_cases hsg : single = true
      · have m8a := HMX1.out.box.cell (j := 8) rfl
        have hixu0 := index_ptr Tryz.underlying102 szbool gu r.lits.length r.lits.length k hlt
        have U0 := HMX1.out.usd k hlt
        by_cases huk : us1 k = true
        · rw [huk] at U0
          rw [hsg] at m6
          have HUK := hide (show us k = true from by rw [← HU1.out hsg k]; exact huk)
          have HSG := hide hsg
          clear huk hsg
          go_wp2
          go_roundw
          case rel => exact ⟨k + 1, by omega, by go_num, hide (HSTEP.out (fun b' hb' => by rw [HBK.out] at hb'; injection hb' with hb'; subst hb'; exact .inl (.inr ⟨HSG.out, HUK.out⟩))), us1, lv1, HU1, HMX1, HKX, HFX⟩
          case measure => simp [intOf]; omega
        · have hukf : us1 k = false := by simpa using huk
          clear huk
          rw [hukf] at U0
          rw [hsg] at m6
          have HUS := hide (show single = true → us k = false from fun _ => by rw [← HU1.out hsg k]; exact hukf)
          have HSG := hide hsg
          clear hukf hsg
          go_upto_region 9 with (go_at_call 86; refine HBEC.out.mono ?_; rintro e Y ⟨σ', now, nl, ok, rfl, hnl, hnin, hnb, hbk, hnv, hMY, hres, hgY⟩; have HY := hide (And.intro hnl (And.intro hnin (And.intro hnb (And.intro hbk (And.intro hnv (And.intro hMY (And.intro hres hgY))))))); clear hnl hnin hnb hbk hnv hMY hres hgY)
          clear a0 a1 b0 b1 m6 U0 m8a hixu0
          obtain ⟨hnl, hnin, hnb, hbk, hnv, hMY, hres, hgY⟩ := HY.out
          have HNL := hide hnl
          have HNIN := hide hnin
          have HNBX := hide hnb
          have HNB := hide (fun hp => Nat.lt_of_lt_of_le HXS.out (hnb hp))
          have HBKK := hide hbk
          have HNV := hide hnv
          have HMY := hide hMY
          have HRES := hide hres
          have HKY := hide (HKX.out.trans (Kept.grown (lv := lv1) hgY (fun j e => .inr (.inl (by injection e with e; exact e.symm)))) (HFX.out))
          have HGYS := hide hgY.size
          clear hnl hnin hnb hbk hnv hMY hres hgY HY
          cases ok with
          | false =>
            have HBR := hide (show Bars single σ a.sl.l b.sl.l from by have h := HRES.out; rwa [if_neg (by decide)] at h)
            go_wp2_with (go_at_call 128; refine (free_any w0 gm gs gu n lv1 q r single σ σ' us1 now nl _ HMY.out HNL.out HNIN.out (fun hp => by have := HNB.out hp; have := HLT.out; omega) HNV.out HBKK.out).mono ?_; rintro e Y2 ⟨rfl, hM2, hg2⟩; have HM2 := hide hM2; have HG2 := hide hg2; clear hM2 hg2)
            go_roundw
            case rel => exact ⟨k + 1, by omega, by go_num, hide (HSTEP.out (fun b' hb' => by rw [HBK.out] at hb'; injection hb' with hb'; subst hb'; exact .inr (.inl HBR.out))), us1, lv1, HU1, HM2, hide (HKY.out.trans (Kept.grown (lv := lv1) HG2.out (fun j e => .inr (.inl (by injection e with e; exact e.symm)))) HFX.out), HF1⟩
            case measure => simp [intOf]; omega
          | true =>
            have HBC := hide (show Became single σ a.sl.l b.sl.l σ' from by have h := HRES.out; rwa [if_pos rfl] at h)
            have m8 := HMY.out.box.cell (j := 8) rfl
            have hixu := index_ptr Tryz.underlying102 szbool gu r.lits.length r.lits.length k hlt
            have u0 := HMY.out.usd k hlt
            have uf := HMY.out.uf k
            have HMY1 := hide (HMY.out.setU hlt true)
            have HKY1 := hide (HKY.out.trans (Kept.grown (lv := lv1) (gb_set Y gu k (.bool true)) (fun j e => .inr (.inr (.inl (by injection e with e; exact e.symm))))) HFX.out)
            have HKN1 := hide (Kept.grown (gm := gm) (gs := gs) (gu := gu) (lv := lv1) (gb_set Y gu k (.bool true)) (fun j e => .inr (.inr (.inl (by injection e with e; exact e.symm)))))
            have hYS : Y.heap.size = (Y.setCell ⟨gu, k, none⟩ (.bool true)).heap.size := by simp
            have HSZ1 := hide hYS
            clear hYS
            go_upto_region 11 with fail
            clear m8 u0 uf
            generalize Y.setCell ⟨gu, k, none⟩ (.bool true) = Y1 at *
            have m9 := HMY1.out.box.cell (j := 9) rfl
            have f9 := HMY1.out.box.fr 9
            obtain ⟨xs, hxs⟩ := HMY1.out.own
            have HXS1 := hide hxs
            have hlo1 := HMY1.out.hi
            clear hxs
            go_upto_region 12 with (at_builtin; refine wpList_append_own_at _ rfl _ _ 22 rfl w0.heap.size 3 i0 (.int .i64 0) 1 8 Tryz.underlying22 HI.out.1 HI.out.2.1 HI.out.2.2.1 HI.out.2.2.2 rfl (by decide) _ n xs rfl (HXS1.out.alloc _) ⟨Y1.heap.size, 0, none⟩ 1 1 [.int .i64 (k : Nat)] rfl rfl (new_cells (l := [.int .i64 (k : Nat)])) (by intro a ha; rw [List.mem_singleton.1 ha]; rfl) (by unfold maxLen; omega) (by omega) (by have := HMY1.out.bel.size; simp; omega) ?_; intro lv4 Y3 hown3 hgr3 _ hblk3; obtain ⟨g4, cap4, rfl, _, _⟩ := World.ownsRow.form hown3 (by omega); have HO3 := hide hown3; have HG3 := hide (show (Y1.alloc (.cells #[.int .i64 (k : Nat)] 3)).grownBy Y3 lv1.ownBlock from hgr3); have HBL3 := hide (show (Value.slice (some ⟨g4, 0, none⟩) (n + 1) cap4).ownBlock = lv1.ownBlock ∨ (Value.slice (some ⟨g4, 0, none⟩) (n + 1) cap4).ownBlock = some (Y1.alloc (.cells #[.int .i64 (k : Nat)] 3)).heap.size from hblk3); have hbx3 := (HMY1.out.box.below (belA _)).grown hgr3 (fun e => HMY1.out.ne.2.2.2.1 e.symm); have m9b := hbx3.cell (j := 9) rfl; have f9b := hbx3.fr 9; clear hown3 hgr3 hblk3 hbx3)
            have HF4 := hide (show Fresh Y1 lv1 (.slice (some ⟨g4, 0, none⟩) (n + 1) cap4) from fun j hj => by
              rcases HBL3.out with h | h
              · exact .inl (by rw [← h]; exact hj)
              · right
                rw [h] at hj
                injection hj with hj
                simp at hj
                omega)
            have HM4 := hide ((HMY1.out.call (belA (.cells #[.int .i64 (k : Nat)] 3))).setL HG3.out HO3.out (fun j hj => by
              rcases HBL3.out with h | h
              · exact .inl (by rw [← h]; exact hj)
              · right
                rw [h] at hj
                injection hj with hj
                omega))
            have HK4 := hide ((((Kept.call (gm := gm) (gs := gs) (gu := gu) (lv := lv1) (belA (w := Y1) (.cells #[.int .i64 (k : Nat)] 3))).trans (Kept.grown (lv := lv1) HG3.out (fun j e => .inr (.inr (.inr e)))) (Fresh.refl _ _)).trans (Kept.grown (lv := lv1) (gb_set Y3 gm 9 (.slice (some ⟨g4, 0, none⟩) (n + 1) cap4)) (fun j e => .inl (by injection e with e; exact e.symm))) (Fresh.refl _ _)))
            clear m9 f9 m9b f9b
            generalize Y3.setCell ⟨gm, 9, none⟩ (.slice (some ⟨g4, 0, none⟩) (n + 1) cap4) = Y4 at *
            have HRC := hide (IH.out σ' _ _ Y4 HM4.out (HBC.out.ok HOK.out))
            go_upto_if 86 with (go_at_call 87; refine HRC.out.mono ?_; rintro e Y5 ⟨b5, rfl, hb5, hT, hF⟩; have HB5 := hide hb5; have HT5 := hide hT; have HF5 := hide hF; clear hb5 hT hF)
            clear HRC
            cases b5 with
            | true =>
              have HFT := hide (show Fits single r.cj.lits σ us (q.cj.lits.drop n) from by
                rw [HDR.out]
                exact fits_cons HBK.out HT.out HUS.out HBC.out (fits_congr (fun hs j => by
                  by_cases e : j = k
                  · rw [if_pos e, if_pos e]
                  · rw [if_neg e, if_neg e, HU1.out hs j]) (HT5.out (by trivial)).1))
              go_wp2
              go_ret
              exact ⟨true, rfl, HB5.out, fun _ => ⟨HFT.out, (HT5.out (by trivial)).2⟩, fun h => (by cases h)⟩
            | false =>
              obtain ⟨hno, us5, lv5, hu5, hM5, hk5, hf5⟩ := HF5.out rfl
              obtain ⟨xs5, hx5⟩ := hM5.own
              obtain ⟨g5, cap5, hlv5, _, _⟩ := hx5.form (by omega)
              subst hlv5
              have hcap5 := own_cap hx5
              have hc5i : (n : Int) ≤ cap5 := by omega
              have hc5n : n ≤ cap5 := by omega
              have m9 := hM5.box.cell (j := 9) rfl
              have f9 := hM5.box.fr 9
              have HNOT := hide hno
              have HU5 := hide hu5
              have HM6 := hide (hM5.setL (World.grownBy.refl _ _) (own_cut hx5) (fun j hj => .inl hj))
              have HF4Y := hide (show Fresh Y lv1 (.slice (some ⟨g4, 0, none⟩) (n + 1) cap4) from fun j hj => (HF4.out j hj).imp id (fun h => by rw [HSZ1.out]; exact h))
              have HKY4 := hide (HKN1.out.trans HK4.out (Fresh.refl _ _))
              have HF5Y := hide (show Fresh Y lv1 (.slice (some ⟨g5, 0, none⟩) n cap5) from (HF4Y.out).trans (fun j hj => hf5 j hj) HKY4.out.1)
              have HKY5 := hide (HKY4.out.trans hk5 HF4Y.out)
              have HKY6 := hide (HKY5.out.trans (Kept.grown (lv := lv1) (gb_set Y5 gm 9 (.slice (some ⟨g5, 0, none⟩) n cap5)) (fun j e => .inl (by injection e with e; exact e.symm))) (Fresh.refl _ _))
              clear hno hu5 hM5 hk5 hf5 hx5 hcap5 HF5
              go_upto_region 15 with fail
              clear m9 f9
              generalize Y5.setCell ⟨gm, 9, none⟩ (.slice (some ⟨g5, 0, none⟩) n cap5) = Y6 at *
              have m8 := HM6.out.box.cell (j := 8) rfl
              have u0 := HM6.out.usd k hlt
              have uf := HM6.out.uf k
              have HM7 := hide (HM6.out.setU hlt false)
              have HKY7 := hide (HKY6.out.trans (Kept.grown (lv := lv1) (gb_set Y6 gu k (.bool false)) (fun j e => .inr (.inr (.inl (by injection e with e; exact e.symm))))) (Fresh.refl _ _))
              go_upto_region 16 with fail
              clear m8 u0 uf
              generalize Y6.setCell ⟨gu, k, none⟩ (.bool false) = Y7 at *
              have HNIN7 := hide (HKY7.out.il HNIN.out (fun hp => ⟨by have := HNB.out hp; have := HLT.out; omega, by have := HNB.out hp; have := HLT.out; omega, by have := HNB.out hp; have := HLT.out; omega, fun e => by obtain ⟨zs, hz⟩ := HMX1.out.own; have := (hz.lt _ e).2; have := HNBX.out hp; omega⟩))
              go_wp2_with (go_at_call 128; refine (free_any w0 gm gs gu n _ q r single σ σ' _ now nl _ HM7.out HNL.out HNIN7.out (fun hp => by have := HNB.out hp; have := HLT.out; omega) HNV.out HBKK.out).mono ?_; rintro e Y8 ⟨rfl, hM8, hg8⟩; have HM8 := hide hM8; have HG8 := hide hg8; clear hM8 hg8)
              go_roundw
              case rel => exact ⟨k + 1, by omega, by go_num, hide (HSTEP.out (fun b' hb' => by
                rw [HBK.out] at hb'; injection hb' with hb'; subst hb'
                exact .inr (.inr ⟨σ', HBC.out, fun hf => HNOT.out (fits_congr (fun hs j => by
                  by_cases e : j = k
                  · rw [if_pos e, if_pos e]
                  · rw [if_neg e, if_neg e, HU1.out hs j]) hf)⟩))), _, _, hide (fun hs j => by
                by_cases e : j = k
                · rw [if_pos e, e]; exact (HUS.out hs).symm
                · rw [if_neg e, HU5.out hs j, if_neg e]; exact HU1.out hs j), HM8, hide ((HKY.out.trans HKY7.out HFX.out).trans (Kept.grown (lv := lv) HG8.out (fun j e => .inr (.inl (by injection e with e; exact e.symm)))) (Fresh.refl _ _)), hide (HFX.out.trans HF5Y.out HKY.out.1)⟩
              case measure => simp [intOf]; omega
      · have hsf : single = false := by simpa using hsg
        clear hsg
        have U0 : True := trivial
        have HUS := hide (show single = true → us k = false from fun h => by rw [hsf] at h; cases h)
        rw [hsf] at m6
        have HSG := hide hsf
        clear hsf
        go_upto_region 9 with (go_at_call 86; refine HBEC.out.mono ?_; rintro e Y ⟨σ', now, nl, ok, rfl, hnl, hnin, hnb, hbk, hnv, hMY, hres, hgY⟩; have HY := hide (And.intro hnl (And.intro hnin (And.intro hnb (And.intro hbk (And.intro hnv (And.intro hMY (And.intro hres hgY))))))); clear hnl hnin hnb hbk hnv hMY hres hgY)
        clear a0 a1 b0 b1 m6 U0
        obtain ⟨hnl, hnin, hnb, hbk, hnv, hMY, hres, hgY⟩ := HY.out
        have HNL := hide hnl
        have HNIN := hide hnin
        have HNBX := hide hnb
        have HNB := hide (fun hp => Nat.lt_of_lt_of_le HXS.out (hnb hp))
        have HBKK := hide hbk
        have HNV := hide hnv
        have HMY := hide hMY
        have HRES := hide hres
        have HKY := hide (HKX.out.trans (Kept.grown (lv := lv1) hgY (fun j e => .inr (.inl (by injection e with e; exact e.symm)))) (HFX.out))
        have HGYS := hide hgY.size
        clear hnl hnin hnb hbk hnv hMY hres hgY HY
        cases ok with
        | false =>
          have HBR := hide (show Bars single σ a.sl.l b.sl.l from by have h := HRES.out; rwa [if_neg (by decide)] at h)
          go_wp2_with (go_at_call 128; refine (free_any w0 gm gs gu n lv1 q r single σ σ' us1 now nl _ HMY.out HNL.out HNIN.out (fun hp => by have := HNB.out hp; have := HLT.out; omega) HNV.out HBKK.out).mono ?_; rintro e Y2 ⟨rfl, hM2, hg2⟩; have HM2 := hide hM2; have HG2 := hide hg2; clear hM2 hg2)
          go_roundw
          case rel => exact ⟨k + 1, by omega, by go_num, hide (HSTEP.out (fun b' hb' => by rw [HBK.out] at hb'; injection hb' with hb'; subst hb'; exact .inr (.inl HBR.out))), us1, lv1, HU1, HM2, hide (HKY.out.trans (Kept.grown (lv := lv1) HG2.out (fun j e => .inr (.inl (by injection e with e; exact e.symm)))) HFX.out), HF1⟩
          case measure => simp [intOf]; omega
        | true =>
          have HBC := hide (show Became single σ a.sl.l b.sl.l σ' from by have h := HRES.out; rwa [if_pos rfl] at h)
          have m8 := HMY.out.box.cell (j := 8) rfl
          have hixu := index_ptr Tryz.underlying102 szbool gu r.lits.length r.lits.length k hlt
          have u0 := HMY.out.usd k hlt
          have uf := HMY.out.uf k
          have HMY1 := hide (HMY.out.setU hlt true)
          have HKY1 := hide (HKY.out.trans (Kept.grown (lv := lv1) (gb_set Y gu k (.bool true)) (fun j e => .inr (.inr (.inl (by injection e with e; exact e.symm))))) HFX.out)
          have HKN1 := hide (Kept.grown (gm := gm) (gs := gs) (gu := gu) (lv := lv1) (gb_set Y gu k (.bool true)) (fun j e => .inr (.inr (.inl (by injection e with e; exact e.symm)))))
          have hYS : Y.heap.size = (Y.setCell ⟨gu, k, none⟩ (.bool true)).heap.size := by simp
          have HSZ1 := hide hYS
          clear hYS
          go_upto_region 11 with fail
          clear m8 u0 uf
          generalize Y.setCell ⟨gu, k, none⟩ (.bool true) = Y1 at *
          have m9 := HMY1.out.box.cell (j := 9) rfl
          have f9 := HMY1.out.box.fr 9
          obtain ⟨xs, hxs⟩ := HMY1.out.own
          have HXS1 := hide hxs
          have hlo1 := HMY1.out.hi
          clear hxs
          go_upto_region 12 with (at_builtin; refine wpList_append_own_at _ rfl _ _ 22 rfl w0.heap.size 3 i0 (.int .i64 0) 1 8 Tryz.underlying22 HI.out.1 HI.out.2.1 HI.out.2.2.1 HI.out.2.2.2 rfl (by decide) _ n xs rfl (HXS1.out.alloc _) ⟨Y1.heap.size, 0, none⟩ 1 1 [.int .i64 (k : Nat)] rfl rfl (new_cells (l := [.int .i64 (k : Nat)])) (by intro a ha; rw [List.mem_singleton.1 ha]; rfl) (by unfold maxLen; omega) (by omega) (by have := HMY1.out.bel.size; simp; omega) ?_; intro lv4 Y3 hown3 hgr3 _ hblk3; obtain ⟨g4, cap4, rfl, _, _⟩ := World.ownsRow.form hown3 (by omega); have HO3 := hide hown3; have HG3 := hide (show (Y1.alloc (.cells #[.int .i64 (k : Nat)] 3)).grownBy Y3 lv1.ownBlock from hgr3); have HBL3 := hide (show (Value.slice (some ⟨g4, 0, none⟩) (n + 1) cap4).ownBlock = lv1.ownBlock ∨ (Value.slice (some ⟨g4, 0, none⟩) (n + 1) cap4).ownBlock = some (Y1.alloc (.cells #[.int .i64 (k : Nat)] 3)).heap.size from hblk3); have hbx3 := (HMY1.out.box.below (belA _)).grown hgr3 (fun e => HMY1.out.ne.2.2.2.1 e.symm); have m9b := hbx3.cell (j := 9) rfl; have f9b := hbx3.fr 9; clear hown3 hgr3 hblk3 hbx3)
          have HF4 := hide (show Fresh Y1 lv1 (.slice (some ⟨g4, 0, none⟩) (n + 1) cap4) from fun j hj => by
            rcases HBL3.out with h | h
            · exact .inl (by rw [← h]; exact hj)
            · right
              rw [h] at hj
              injection hj with hj
              simp at hj
              omega)
          have HM4 := hide ((HMY1.out.call (belA (.cells #[.int .i64 (k : Nat)] 3))).setL HG3.out HO3.out (fun j hj => by
            rcases HBL3.out with h | h
            · exact .inl (by rw [← h]; exact hj)
            · right
              rw [h] at hj
              injection hj with hj
              omega))
          have HK4 := hide ((((Kept.call (gm := gm) (gs := gs) (gu := gu) (lv := lv1) (belA (w := Y1) (.cells #[.int .i64 (k : Nat)] 3))).trans (Kept.grown (lv := lv1) HG3.out (fun j e => .inr (.inr (.inr e)))) (Fresh.refl _ _)).trans (Kept.grown (lv := lv1) (gb_set Y3 gm 9 (.slice (some ⟨g4, 0, none⟩) (n + 1) cap4)) (fun j e => .inl (by injection e with e; exact e.symm))) (Fresh.refl _ _)))
          clear m9 f9 m9b f9b
          generalize Y3.setCell ⟨gm, 9, none⟩ (.slice (some ⟨g4, 0, none⟩) (n + 1) cap4) = Y4 at *
          have HRC := hide (IH.out σ' _ _ Y4 HM4.out (HBC.out.ok HOK.out))
          go_upto_if 86 with (go_at_call 87; refine HRC.out.mono ?_; rintro e Y5 ⟨b5, rfl, hb5, hT, hF⟩; have HB5 := hide hb5; have HT5 := hide hT; have HF5 := hide hF; clear hb5 hT hF)
          clear HRC
          cases b5 with
          | true =>
            have HFT := hide (show Fits single r.cj.lits σ us (q.cj.lits.drop n) from by
              rw [HDR.out]
              exact fits_cons HBK.out HT.out HUS.out HBC.out (fits_congr (fun hs j => by
                by_cases e : j = k
                · rw [if_pos e, if_pos e]
                · rw [if_neg e, if_neg e, HU1.out hs j]) (HT5.out (by trivial)).1))
            go_wp2
            go_ret
            exact ⟨true, rfl, HB5.out, fun _ => ⟨HFT.out, (HT5.out (by trivial)).2⟩, fun h => (by cases h)⟩
          | false =>
            obtain ⟨hno, us5, lv5, hu5, hM5, hk5, hf5⟩ := HF5.out rfl
            obtain ⟨xs5, hx5⟩ := hM5.own
            obtain ⟨g5, cap5, hlv5, _, _⟩ := hx5.form (by omega)
            subst hlv5
            have hcap5 := own_cap hx5
            have hc5i : (n : Int) ≤ cap5 := by omega
            have hc5n : n ≤ cap5 := by omega
            have m9 := hM5.box.cell (j := 9) rfl
            have f9 := hM5.box.fr 9
            have HNOT := hide hno
            have HU5 := hide hu5
            have HM6 := hide (hM5.setL (World.grownBy.refl _ _) (own_cut hx5) (fun j hj => .inl hj))
            have HF4Y := hide (show Fresh Y lv1 (.slice (some ⟨g4, 0, none⟩) (n + 1) cap4) from fun j hj => (HF4.out j hj).imp id (fun h => by rw [HSZ1.out]; exact h))
            have HKY4 := hide (HKN1.out.trans HK4.out (Fresh.refl _ _))
            have HF5Y := hide (show Fresh Y lv1 (.slice (some ⟨g5, 0, none⟩) n cap5) from (HF4Y.out).trans (fun j hj => hf5 j hj) HKY4.out.1)
            have HKY5 := hide (HKY4.out.trans hk5 HF4Y.out)
            have HKY6 := hide (HKY5.out.trans (Kept.grown (lv := lv1) (gb_set Y5 gm 9 (.slice (some ⟨g5, 0, none⟩) n cap5)) (fun j e => .inl (by injection e with e; exact e.symm))) (Fresh.refl _ _))
            clear hno hu5 hM5 hk5 hf5 hx5 hcap5 HF5
            go_upto_region 15 with fail
            clear m9 f9
            generalize Y5.setCell ⟨gm, 9, none⟩ (.slice (some ⟨g5, 0, none⟩) n cap5) = Y6 at *
            have m8 := HM6.out.box.cell (j := 8) rfl
            have u0 := HM6.out.usd k hlt
            have uf := HM6.out.uf k
            have HM7 := hide (HM6.out.setU hlt false)
            have HKY7 := hide (HKY6.out.trans (Kept.grown (lv := lv1) (gb_set Y6 gu k (.bool false)) (fun j e => .inr (.inr (.inl (by injection e with e; exact e.symm))))) (Fresh.refl _ _))
            go_upto_region 16 with fail
            clear m8 u0 uf
            generalize Y6.setCell ⟨gu, k, none⟩ (.bool false) = Y7 at *
            have HNIN7 := hide (HKY7.out.il HNIN.out (fun hp => ⟨by have := HNB.out hp; have := HLT.out; omega, by have := HNB.out hp; have := HLT.out; omega, by have := HNB.out hp; have := HLT.out; omega, fun e => by obtain ⟨zs, hz⟩ := HMX1.out.own; have := (hz.lt _ e).2; have := HNBX.out hp; omega⟩))
            go_wp2_with (go_at_call 128; refine (free_any w0 gm gs gu n _ q r single σ σ' _ now nl _ HM7.out HNL.out HNIN7.out (fun hp => by have := HNB.out hp; have := HLT.out; omega) HNV.out HBKK.out).mono ?_; rintro e Y8 ⟨rfl, hM8, hg8⟩; have HM8 := hide hM8; have HG8 := hide hg8; clear hM8 hg8)
            go_roundw
            case rel => exact ⟨k + 1, by omega, by go_num, hide (HSTEP.out (fun b' hb' => by
              rw [HBK.out] at hb'; injection hb' with hb'; subst hb'
              exact .inr (.inr ⟨σ', HBC.out, fun hf => HNOT.out (fits_congr (fun hs j => by
                by_cases e : j = k
                · rw [if_pos e, if_pos e]
                · rw [if_neg e, if_neg e, HU1.out hs j]) hf)⟩))), _, _, hide (fun hs j => by
              by_cases e : j = k
              · rw [if_pos e, e]; exact (HUS.out hs).symm
              · rw [if_neg e, HU5.out hs j, if_neg e]; exact HU1.out hs j), HM8, hide ((HKY.out.trans HKY7.out HFX.out).trans (Kept.grown (lv := lv) HG8.out (fun j e => .inr (.inl (by injection e with e; exact e.symm)))) (Fresh.refl _ _)), hide (HFX.out.trans HF5Y.out HKY.out.1)⟩
            case measure => simp [intOf]; omega
    · have hlti : ¬ (k : Int) < r.lits.length := by omega
      have HNO := hide (show ¬ Fits single r.cj.lits σ us (q.cj.lits.drop n) from by
        rw [HDR.out]
        exact fits_none (fun j b hb => HFL.out j (by
          have := lt_of_some hb
          have h2 : r.cj.lits.length = r.lits.length := List.length_map _
          omega) b hb))
      go_wp2
      go_ret
      exact ⟨false, rfl, HM1.out.bel, fun h => (by cases h), fun _ => ⟨HNO.out, us1, lv1, HU1.out, HM1.out, (Kept.call HWB.out).trans HK1.out (Fresh.refl _ _), fun j hj => (HF1.out j hj).imp id (fun h => by have := HWN.out; omega)⟩⟩
end Go.Proofs.YtiijaaohphokcaaGreatDoor

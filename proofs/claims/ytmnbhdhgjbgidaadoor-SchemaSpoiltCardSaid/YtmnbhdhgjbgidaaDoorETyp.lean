/- expression.typ, expression.Type: the type of an expression. -/
import Derived.Test.YtmnbhdhgjbgidaaDoorETypT
import Derived.Test.YtmnbhdhgjbgidaaDoorASize
import Derived.Test.YtmnbhdhgjbgidaaDoorDep
namespace Go.Proofs.YtmnbhdhgjbgidaaDoor
open Go.RowKit

theorem sizes_len : ∀ l : List Ex, l.length ≤ Ex.sizes l
  | [] => Nat.zero_le _
  | k :: r => by
    have := sizes_len r
    have h1 := Ex.size_eq k
    simp only [List.length_cons, Ex.sizes]
    omega
theorem sizes_mem : ∀ (l : List Ex) (k : Ex), k ∈ l → k.size ≤ Ex.sizes l
  | [], k, h => by cases h
  | x :: r, k, h => by
    simp only [Ex.sizes]
    rcases List.mem_cons.1 h with rfl | h
    · omega
    · have := sizes_mem r k h
      omega
theorem eclean_v (op typ num : Int) (text : ByteArray) (col : Int) (ko : Option Addr) (kl kc : Nat) (w : World) (ht : text.size ≤ maxLen) :
    Calls Tryd.prog 102 #[.agg #[.int .i64 op, .int .i64 typ, .int .i64 num, .string text, .int .i64 col, .slice ko kl kc]] w fun r w' => r = .returned (.bool (plainE op typ num text col)) ∧ Below w.heap.size w w' := by
  unfold plainE
  by_cases h1 : op = 1
  · rw [h1]; exact eclean_1 _ _ _ _ _ _ _ _
  by_cases h2 : op = 2
  · rw [h2]; exact eclean_2 _ _ _ _ _ _ _ _
  by_cases h3 : op = 3
  · rw [h3]; exact eclean_3 _ _ _ _ _ _ _ _
  by_cases h4 : op = 4
  · rw [h4]; exact eclean_4 _ _ _ _ _ _ _ _ ht
  by_cases h5 : op = 5
  · rw [h5]; exact eclean_5 _ _ _ _ _ _ _ _
  rw [if_neg h1, if_neg h2, if_neg h3, if_neg h4, if_neg h5]
  exact eclean_o _ _ _ _ _ _ _ _ _ (by simpa using h1) (by simpa using h2) (by simpa using h3) (by simpa using h4) (by simpa using h5)
theorem ret_tt {a a' b b' : Int} (h : (a, b) = (a', b')) : Ending.returned (.tuple #[.int .i64 a, .int .i64 b]) = .returned (.tuple #[.int .i64 a', .int .i64 b']) := by injection h with h1 h2; rw [h1, h2]
theorem topT_pass {ts : List Int} {op typ num : Int} {text : ByteArray} {col : Int} {l : List Int} (h1 : 1 ≤ op ∧ op ≤ 28) (h2 : plainE op typ num text col = true) (h3 : kidsOk op l.length = true) (h4 : ¬ (op = 5 ∧ (col < 0 ∨ (ts.length : Int) ≤ col))) :
    topT ts op typ num text col l = if isT (resE ts op typ col l) = true then (resE ts op typ col l, 0) else (0, 4) := by
  unfold topT
  rw [if_neg (fun h => h ⟨h1, h2⟩), if_neg (fun h => h h3), if_neg h4]
theorem topT_1 {ts : List Int} {op typ num : Int} {text : ByteArray} {col : Int} {l : List Int} (h : ¬ ((1 ≤ op ∧ op ≤ 28) ∧ plainE op typ num text col = true)) : topT ts op typ num text col l = (0, 1) := by unfold topT; rw [if_pos h]
theorem topT_9 {ts : List Int} {op typ num : Int} {text : ByteArray} {col : Int} {l : List Int} (h1 : 1 ≤ op ∧ op ≤ 28) (h2 : plainE op typ num text col = true) (h3 : kidsOk op l.length = false) : topT ts op typ num text col l = (0, 9) := by
  unfold topT; rw [if_neg (fun h => h ⟨h1, h2⟩), if_pos (by rw [h3]; simp)]
theorem topT_3 {ts : List Int} {op typ num : Int} {text : ByteArray} {col : Int} {l : List Int} (h1 : 1 ≤ op ∧ op ≤ 28) (h2 : plainE op typ num text col = true) (h3 : kidsOk op l.length = true) (h4 : op = 5 ∧ (col < 0 ∨ (ts.length : Int) ≤ col)) : topT ts op typ num text col l = (0, 3) := by
  unfold topT; rw [if_neg (fun h => h ⟨h1, h2⟩), if_neg (fun h => h h3), if_pos h4]
theorem plain_typ {typ num : Int} {text : ByteArray} {col : Int} (h : plainE 1 typ num text col = true) : isT typ = true := by
  unfold plainE at h
  rw [if_pos rfl] at h
  simp only [Bool.and_eq_true] at h
  exact h.1.1.1
theorem types4 (i : Nat) (hi : i < ops.length) (h0 : 0 < i) (n : Nat) (hk : kidsOk i n = true) : (ops[i].2.2.1 = 4 → 0 < n) ∧ (ops[i].2.2.1 = 6 → 3 ≤ n) ∧ (ops[i].2.2.2 = 0 → ¬ i = 1 → ¬ i = 5 → 0 < n) ∧ (i = 5 → fitB ops[i].2.2.1 = fun _ => true) := by
  have hl := ops_len
  have hc : i = 1 ∨ i = 2 ∨ i = 3 ∨ i = 4 ∨ i = 5 ∨ i = 6 ∨ i = 7 ∨ i = 8 ∨ i = 9 ∨ i = 10 ∨ i = 11 ∨ i = 12 ∨ i = 13 ∨ i = 14 ∨ i = 15 ∨ i = 16 ∨ i = 17 ∨ i = 18 ∨ i = 19 ∨ i = 20 ∨ i = 21 ∨ i = 22 ∨ i = 23 ∨ i = 24 ∨ i = 25 ∨ i = 26 ∨ i = 27 ∨ i = 28 := by omega
  rcases hc with rfl | rfl | rfl | rfl | rfl | rfl | rfl | rfl | rfl | rfl | rfl | rfl | rfl | rfl | rfl | rfl | rfl | rfl | rfl | rfl | rfl | rfl | rfl | rfl | rfl | rfl | rfl | rfl
  all_goals simp [kidsOk] at hk
  all_goals (refine ⟨?_, ?_, ?_, ?_⟩ <;> simp [ops] <;> first | omega | (funext l; rfl) | skip)

theorem ty_icells (ts : List Int) (l : List Ex) : (l.flatMap fun x => [Value.int .i64 (x.ty ts).1]) = (l.map fun x => (x.ty ts).1).flatMap icells := by
  induction l with
  | nil => rfl
  | cons x l ih => simp [List.flatMap_cons, ih]
theorem isT_64 {t : Int} (h : isT t = true) : int64 t := by have := isT_ne h; constructor <;> omega

set_option maxRecDepth 100000 in
set_option maxHeartbeats 8000000 in
theorem etyp_any {w0 : World} {e : Ex} (h0 : e.In w0) : ∀ (ts : IL) (w : World), ts.In w → e.In w → OpsAt w → e.size ≤ 1000000 →
    Calls Tryd.prog 87 #[.slice ts.h.ao ts.l.length ts.h.cap, .agg #[.int .i64 e.op, .int .i64 e.typ, .int .i64 e.num, .string e.text, .int .i64 e.col, .slice e.kh.ao e.kids.length e.kh.cap]] w fun r w' => r = .returned (.tuple #[.int .i64 (e.ty ts.l).1, .int .i64 (e.ty ts.l).2]) ∧ Below w.heap.size w w' := by
  induction h0 with
  | mk e _ _ _ ih =>
  intro ts w hts hin hf hsz
  have IH := hide ih
  clear ih
  obtain ⟨op, typ, num, text, col, kh, kids⟩ := e
  dsimp only at *
  obtain ⟨i0, hi, hz0, hz1, hz2⟩ := info_parts info3
  have HI := hide (And.intro hi (And.intro hz0 (And.intro hz1 hz2)))
  clear hi hz0 hz1 hz2
  have HTX := hide (show text.size ≤ maxLen from hin.wf.2.2.2.1)
  have hnk : kids.length ≤ 1000000 := by
    have h1 := sizes_len kids
    have h2 := Ex.size_eq ⟨op, typ, num, text, col, kh, kids⟩
    dsimp only at h2
    omega
  have HKS := hide (show ∀ k ∈ kids, k.size ≤ 1000000 from fun k hk => by
    have h1 := sizes_mem kids k hk
    have h2 := Ex.size_eq ⟨op, typ, num, text, col, kh, kids⟩
    dsimp only at h2
    omega)
  have hntl := hts.1.len
  have HTS := hide hts
  have HIN := hide hin
  have HF := hide hf
  clear hts hin hf hsz
  go_enter Tryd.func87, Tryd.ntmps87
  go_wp2
  go_loopw [6, 17] (fun v i wr => ∃ k : Nat, k ≤ kids.length ∧ i = .int .i64 k ∧ Hid (wr.ownsRow (w.heap.size + 1) 3 1 v k ((kids.take k).flatMap fun x => [.int .i64 (x.ty ts.l).1])) ∧ Hid (∀ j (hj : j < kids.length), j < k → (kids[j].ty ts.l).2 = 0) ∧ Hid (Below (w.heap.size + 1) (w.alloc (.cells #[.int .i64 op, .int .i64 typ, .int .i64 num, .string text, .int .i64 col, .slice kh.ao kids.length kh.cap] 45)) wr)) (fun _ i _ => kids.length - (intOf i).toNat)
  case atStart => exact ⟨0, Nat.zero_le _, rfl, World.ownsRow_nil _ _ _ _, fun j _ h => absurd h (by omega), Below.refl _ _⟩
  case round =>
    obtain ⟨k, hk, rfl, HO, HN, HBW⟩ := hrel
    have HB := hide ((belA (w := w) (.cells #[.int .i64 op, .int .i64 typ, .int .i64 num, .string text, .int .i64 col, .slice kh.ao kids.length kh.cap] 45)).trans (HBW.out.mono (by omega)))
    have hszl : w.heap.size + 1 ≤ wr.heap.size := by have := HBW.out.size; simpa using this
    have HINR := hide (HIN.out.mono HB.out)
    have HTSR := hide (HTS.out.mono HB.out)
    have HFR := hide (HF.out.mono HB.out)
    by_cases hlt : k < kids.length
    · have hrow : Row wr 6 Ex.cells kh kids := HINR.out.row
      have hix := hrow.ix hlt Tryd.underlying37 sz41
      obtain ⟨c0, c1, c2, c3, c4, c5⟩ := ex_at hrow hlt
      have hbk := hrow.blk hlt
      clear hrow
      have HKIN := hide (show (kids[k]).In wr from HINR.out.kid _ (List.getElem_mem hlt))
      have HC := hide (show Calls Tryd.prog 87 #[.slice ts.h.ao ts.l.length ts.h.cap, .agg #[.int .i64 (kids[k]).op, .int .i64 (kids[k]).typ, .int .i64 (kids[k]).num, .string (kids[k]).text, .int .i64 (kids[k]).col, .slice (kids[k]).kh.ao (kids[k]).kids.length (kids[k]).kh.cap]] (wr.alloc (.cells #[.int .i64 (kids[k]).op, .int .i64 (kids[k]).typ, .int .i64 (kids[k]).num, .string (kids[k]).text, .int .i64 (kids[k]).col, .slice (kids[k]).kh.ao (kids[k]).kids.length (kids[k]).kh.cap] 45)) fun r w' => r = .returned (.tuple #[.int .i64 ((kids[k]).ty ts.l).1, .int .i64 ((kids[k]).ty ts.l).2]) ∧ Below (wr.alloc (.cells #[.int .i64 (kids[k]).op, .int .i64 (kids[k]).typ, .int .i64 (kids[k]).num, .string (kids[k]).text, .int .i64 (kids[k]).col, .slice (kids[k]).kh.ao (kids[k]).kids.length (kids[k]).kh.cap] 45)).heap.size (wr.alloc (.cells #[.int .i64 (kids[k]).op, .int .i64 (kids[k]).typ, .int .i64 (kids[k]).num, .string (kids[k]).text, .int .i64 (kids[k]).col, .slice (kids[k]).kh.ao (kids[k]).kids.length (kids[k]).kh.cap] 45)) w' from
        IH.out _ (List.getElem_mem hlt) ts _ (HTSR.out.mono (belA _)) (HKIN.out.mono (belA _)) (HFR.out.mono (belA _)) (HKS.out _ (List.getElem_mem hlt)))
      by_cases hev : ((kids[k]).ty ts.l).2 = 0
      · have HEV := hide hev
        clear hev
        go_wp2_with (first
          | (go_at_call 87; refine HC.out.mono ?_; rintro e w1 ⟨rfl, hb1⟩; rw [HEV.out]; have HB1 := hide (bel_trans (belA _) hb1); have hs1 := HB1.out.size; clear hb1)
          | (at_builtin; refine wpList_append_own _ rfl _ _ 22 rfl (w.heap.size + 1) 3 i0 (.int .i64 0) 1 8 Tryd.underlying22 HI.out.1 HI.out.2.1 HI.out.2.2.1 HI.out.2.2.2 rfl (by decide) _ _ _ rfl ((HO.out.kept (only_below HB1.out none) (Classical.em _)).alloc _) ⟨w1.heap.size, 0, none⟩ 1 1 [.int .i64 ((kids[k]).ty ts.l).1] rfl rfl (new_cells (l := [_])) one_int (by unfold maxLen; omega) (by omega) (by simp; omega) ?_; intro v' w2 hown' hgrow _))
        have HO' := hide (own_snoc (cells := fun x : Ex => [.int .i64 (x.ty ts.l).1]) hlt hown')
        have HG := hide hgrow
        clear hown' hgrow
        go_roundw
        case rel =>
          refine ⟨k + 1, by omega, by go_num, HO'.out, fun j hj h => ?_, ?_⟩
          · by_cases e : j = k
            · subst e; exact HEV.out
            · exact HN.out j hj (by omega)
          · exact grown1 (HBW.out.trans (HB1.out.mono hszl)) (by omega) HG.out (fun b hb => (HO.out.lt b hb).1)
        case measure => simp [intOf]; omega
      · obtain ⟨ev, hv⟩ : ∃ x, ((kids[k]).ty ts.l).2 = x := ⟨_, rfl⟩
        have hne : (ev == 0) = false := by rw [← hv]; simpa using hev
        have HEV := hide hv
        have HEZ := hide hev
        clear hv hev
        go_wp2_with (first
          | (go_at_call 87; refine HC.out.mono ?_; rintro e w1 ⟨rfl, hb1⟩; rw [HEV.out]; have HB1 := hide (bel_trans (belA _) hb1); have hs1 := HB1.out.size; clear hb1))
        go_ret2
        refine ⟨ret_tt ?_, HB.out.trans (HB1.out.mono HB.out.size)⟩
        rw [Ex.ty_eq, topF_err hlt HEZ.out HN.out, HEV.out]
    · obtain rfl : k = kids.length := by omega
      obtain ⟨r, hv, hrl, hri⟩ := il_mk (xs := kids.map fun x => (x.ty ts.l).1) (e := 3) (n := kids.length) (base := w.heap.size + 1) (by have := HO.out; rw [List.take_length, ty_icells] at this; exact this) (fun n hn => by
        obtain ⟨x, hx, rfl⟩ := List.mem_map.1 hn
        obtain ⟨j, hj, rfl⟩ := List.getElem_of_mem hx
        exact isT_64 (ty_ok (HN.out j hj hj)))
      have HRT := hide (show ∀ t ∈ r.l, isT t = true from fun t ht => by
        rw [hrl] at ht
        obtain ⟨x, hx, rfl⟩ := List.mem_map.1 ht
        obtain ⟨j, hj, rfl⟩ := List.getElem_of_mem hx
        exact ty_ok (HN.out j hj hj))
      have HTOP := hide (show Ex.ty ts.l ⟨op, typ, num, text, col, kh, kids⟩ = topT ts.l op typ num text col r.l by rw [Ex.ty_eq, topF_all (fun j hj => HN.out j hj hj), hrl])
      have HRN := hide (show r.l.length = kids.length by rw [hrl, List.length_map])
      have hnr : r.l.length ≤ 1000000 := by have := HRN.out; omega
      have HRI := hide hri
      subst hv
      clear hri hrl HO HN
      have HY := hide (show ∀ w' : World, Below wr.heap.size wr w' → ∀ (j : Nat) (v : Value), (#[.int .i64 op, .int .i64 typ, .int .i64 num, .string text, .int .i64 col, .slice kh.ao kids.length kh.cap] : Array Value)[j]? = some v → w'.cell? ⟨w.heap.size, j, none⟩ = some v from fun w' h j v hv => box_cell (by rw [World.size_alloc]; exact HBW.out.trans (h.mono hszl)) hv)
      have x0 := HY.out wr (Below.refl _ _) 0 _ rfl
      have x1 := HY.out wr (Below.refl _ _) 1 _ rfl
      have x2 := HY.out wr (Below.refl _ _) 2 _ rfl
      have x3 := HY.out wr (Below.refl _ _) 3 _ rfl
      have x4 := HY.out wr (Below.refl _ _) 4 _ rfl
      have x5 := HY.out wr (Below.refl _ _) 5 _ rfl
      by_cases hop : 1 ≤ op ∧ op ≤ 28
      · obtain ⟨i, rfl⟩ : ∃ i : Nat, op = i := ⟨op.toNat, by omega⟩
        have hio : i < ops.length := by have := ops_len; omega
        have hi0 : 0 < i := by omega
        obtain ⟨nm, hnm⟩ : ∃ x, ops[i].1 = x := ⟨_, rfl⟩
        obtain ⟨kd, hkd⟩ : ∃ x, ops[i].2.1 = x := ⟨_, rfl⟩
        obtain ⟨ty, hty⟩ : ∃ x, ops[i].2.2.1 = x := ⟨_, rfl⟩
        obtain ⟨ow, how⟩ : ∃ x, ops[i].2.2.2 = x := ⟨_, rfl⟩
        have HFD := hide (show ∀ w : World, OpsAt w → Calls Tryd.prog 118 #[.int .i64 (i : Nat)] w fun e w' => e = .returned (.tuple #[.agg #[.string nm, .int .i64 kd, .int .i64 ty, .int .i64 ow], .bool true]) ∧ Below w.heap.size w w' from fun w h => by rw [← hnm, ← hkd, ← hty, ← how]; exact find_op i hio hi0 w h)
        have HCN := hide (show cntB i kd kids.length = kidsOk i r.l.length by rw [← hkd, HRN.out]; exact kids_cnt i hio hi0 _)
        have HT4 := hide (fun h => types4 i hio hi0 r.l.length h)
        have HPR := hide (fun h1 h2 => prog_res ts.l i hio hi0 typ col r.l h1 HRT.out h2)
        rw [hty, how] at HT4 HPR
        have HOP := hide hop
        clear hnm hkd hty how hop
        obtain ⟨bp, hbp⟩ : ∃ b, plainE i typ num text col = b := ⟨_, rfl⟩
        have HBP := hide hbp
        clear hbp
        obtain ⟨bk, hbk⟩ : ∃ b, kidsOk i r.l.length = b := ⟨_, rfl⟩
        have HBK := hide hbk
        have HCB := hide (HCN.out.trans hbk)
        clear hbk
        cases bp
        · have HRES := hide (HTOP.out.trans (topT_1 (fun h => by rw [HBP.out] at h; cases h.2)))
          go_wp2_with (first
            | (go_at_call 101; refine (known_hit nm kd ty ow i HFD.out typ num text col kh.ao kids.length kh.cap _ HFR.out).mono ?_; rintro e w1 ⟨rfl, hb1⟩; rw [HCB.out]; have HB1 := hide (bel_trans hb1 (belA (.cells #[.string nm, .int .i64 kd, .int .i64 ty, .int .i64 ow] 135))); clear hb1 x0 x1 x2 x3 x4 x5; have y0 := HY.out _ HB1.out 0 _ rfl; have y1 := HY.out _ HB1.out 1 _ rfl; have y2 := HY.out _ HB1.out 2 _ rfl; have y3 := HY.out _ HB1.out 3 _ rfl; have y4 := HY.out _ HB1.out 4 _ rfl; have y5 := HY.out _ HB1.out 5 _ rfl)
            | (go_at_call 102; refine (eclean_v _ typ num text _ kh.ao kids.length kh.cap _ HTX.out).mono ?_; rintro e w2 ⟨rfl, hb2⟩; rw [HBP.out]; have HB2 := hide (bel_trans HB1.out hb2); clear y0 y1 y2 y3 y4 y5; have z0 := HY.out _ HB2.out 0 _ rfl; have z1 := HY.out _ HB2.out 1 _ rfl; have z2 := HY.out _ HB2.out 2 _ rfl; have z3 := HY.out _ HB2.out 3 _ rfl; have z4 := HY.out _ HB2.out 4 _ rfl; have z5 := HY.out _ HB2.out 5 _ rfl; have o0 := box_cell hb2 (j := 0) rfl; have o1 := box_cell hb2 (j := 1) rfl; have o2 := box_cell hb2 (j := 2) rfl; have o3 := box_cell hb2 (j := 3) rfl; have HK2 := hide hb2; clear hb2))
          go_ret2
          exact ⟨ret_tt HRES.out.symm, HB.out.trans (HB2.out.mono HB.out.size)⟩
        cases bk
        · have HRES := hide (HTOP.out.trans (topT_9 HOP.out HBP.out HBK.out))
          go_wp2_with (first
            | (go_at_call 101; refine (known_hit nm kd ty ow i HFD.out typ num text col kh.ao kids.length kh.cap _ HFR.out).mono ?_; rintro e w1 ⟨rfl, hb1⟩; rw [HCB.out]; have HB1 := hide (bel_trans hb1 (belA (.cells #[.string nm, .int .i64 kd, .int .i64 ty, .int .i64 ow] 135))); clear hb1 x0 x1 x2 x3 x4 x5; have y0 := HY.out _ HB1.out 0 _ rfl; have y1 := HY.out _ HB1.out 1 _ rfl; have y2 := HY.out _ HB1.out 2 _ rfl; have y3 := HY.out _ HB1.out 3 _ rfl; have y4 := HY.out _ HB1.out 4 _ rfl; have y5 := HY.out _ HB1.out 5 _ rfl)
            | (go_at_call 102; refine (eclean_v _ typ num text _ kh.ao kids.length kh.cap _ HTX.out).mono ?_; rintro e w2 ⟨rfl, hb2⟩; rw [HBP.out]; have HB2 := hide (bel_trans HB1.out hb2); clear y0 y1 y2 y3 y4 y5; have z0 := HY.out _ HB2.out 0 _ rfl; have z1 := HY.out _ HB2.out 1 _ rfl; have z2 := HY.out _ HB2.out 2 _ rfl; have z3 := HY.out _ HB2.out 3 _ rfl; have z4 := HY.out _ HB2.out 4 _ rfl; have z5 := HY.out _ HB2.out 5 _ rfl; have o0 := box_cell hb2 (j := 0) rfl; have o1 := box_cell hb2 (j := 1) rfl; have o2 := box_cell hb2 (j := 2) rfl; have o3 := box_cell hb2 (j := 3) rfl; have HK2 := hide hb2; clear hb2))
          go_ret2
          exact ⟨ret_tt HRES.out.symm, HB.out.trans (HB2.out.mono HB.out.size)⟩
        obtain ⟨h4, h6, hz, hfb⟩ := HT4.out HBK.out
        by_cases h5 : i = 5
        · have H5 := hide (show (i : Int) = 5 by omega)
          have H5N := hide h5
          have h5b : ((i : Int) == 5) = true := by simpa using H5.out
          clear h5
          by_cases hc0 : col < 0
          · have HRES := hide (HTOP.out.trans (topT_3 HOP.out HBP.out HBK.out ⟨H5.out, .inl hc0⟩))
            go_wp2_with (first
              | (go_at_call 101; refine (known_hit nm kd ty ow i HFD.out typ num text _ kh.ao kids.length kh.cap _ HFR.out).mono ?_; rintro e w1 ⟨rfl, hb1⟩; rw [HCB.out]; have HB1 := hide (bel_trans hb1 (belA (.cells #[.string nm, .int .i64 kd, .int .i64 ty, .int .i64 ow] 135))); clear hb1 x0 x1 x2 x3 x4 x5; have y0 := HY.out _ HB1.out 0 _ rfl; have y1 := HY.out _ HB1.out 1 _ rfl; have y2 := HY.out _ HB1.out 2 _ rfl; have y3 := HY.out _ HB1.out 3 _ rfl; have y4 := HY.out _ HB1.out 4 _ rfl; have y5 := HY.out _ HB1.out 5 _ rfl)
              | (go_at_call 102; refine (eclean_v _ typ num text _ kh.ao kids.length kh.cap _ HTX.out).mono ?_; rintro e w2 ⟨rfl, hb2⟩; rw [HBP.out]; have HB2 := hide (bel_trans HB1.out hb2); clear y0 y1 y2 y3 y4 y5; have z0 := HY.out _ HB2.out 0 _ rfl; have z1 := HY.out _ HB2.out 1 _ rfl; have z2 := HY.out _ HB2.out 2 _ rfl; have z3 := HY.out _ HB2.out 3 _ rfl; have z4 := HY.out _ HB2.out 4 _ rfl; have z5 := HY.out _ HB2.out 5 _ rfl; have o0 := box_cell hb2 (j := 0) rfl; have o1 := box_cell hb2 (j := 1) rfl; have o2 := box_cell hb2 (j := 2) rfl; have o3 := box_cell hb2 (j := 3) rfl; have HK2 := hide hb2; clear hb2))
            go_ret2
            exact ⟨ret_tt HRES.out.symm, HB.out.trans (HB2.out.mono HB.out.size)⟩
          by_cases hcn : (ts.l.length : Int) ≤ col
          · have HRES := hide (HTOP.out.trans (topT_3 HOP.out HBP.out HBK.out ⟨H5.out, .inr hcn⟩))
            go_wp2_with (first
              | (go_at_call 101; refine (known_hit nm kd ty ow i HFD.out typ num text _ kh.ao kids.length kh.cap _ HFR.out).mono ?_; rintro e w1 ⟨rfl, hb1⟩; rw [HCB.out]; have HB1 := hide (bel_trans hb1 (belA (.cells #[.string nm, .int .i64 kd, .int .i64 ty, .int .i64 ow] 135))); clear hb1 x0 x1 x2 x3 x4 x5; have y0 := HY.out _ HB1.out 0 _ rfl; have y1 := HY.out _ HB1.out 1 _ rfl; have y2 := HY.out _ HB1.out 2 _ rfl; have y3 := HY.out _ HB1.out 3 _ rfl; have y4 := HY.out _ HB1.out 4 _ rfl; have y5 := HY.out _ HB1.out 5 _ rfl)
              | (go_at_call 102; refine (eclean_v _ typ num text _ kh.ao kids.length kh.cap _ HTX.out).mono ?_; rintro e w2 ⟨rfl, hb2⟩; rw [HBP.out]; have HB2 := hide (bel_trans HB1.out hb2); clear y0 y1 y2 y3 y4 y5; have z0 := HY.out _ HB2.out 0 _ rfl; have z1 := HY.out _ HB2.out 1 _ rfl; have z2 := HY.out _ HB2.out 2 _ rfl; have z3 := HY.out _ HB2.out 3 _ rfl; have z4 := HY.out _ HB2.out 4 _ rfl; have z5 := HY.out _ HB2.out 5 _ rfl; have o0 := box_cell hb2 (j := 0) rfl; have o1 := box_cell hb2 (j := 1) rfl; have o2 := box_cell hb2 (j := 2) rfl; have o3 := box_cell hb2 (j := 3) rfl; have HK2 := hide hb2; clear hb2))
            go_ret2
            exact ⟨ret_tt HRES.out.symm, HB.out.trans (HB2.out.mono HB.out.size)⟩
          have HRES0 := hide ((HTOP.out.trans (topT_pass HOP.out HBP.out HBK.out (fun h => by omega))).trans (HPR.out HBK.out (fun h => by have := H5N.out; omega)).symm)
          obtain ⟨c, rfl⟩ : ∃ c : Nat, col = c := ⟨col.toNat, by omega⟩
          have hcl : c < ts.l.length := by omega
          have HGC := hide (show ts.l.getD (Int.toNat (c : Int)) 0 = ts.l[c] by simp [List.getD, hcl])
          have hixc := IL.ix HTSR.out hcl
          have HCC := hide (show ∀ w' : World, Below wr.heap.size wr w' → w'.cell? ⟨ts.h.b, ts.h.o + c, none⟩ = some (.int .i64 ts.l[c]) from fun w' h => int_at (HTSR.out.mono h).1 hcl)
          have hcb := HTSR.out.1.blk hcl
          obtain ⟨bt, hbt⟩ : ∃ b, decide (1 ≤ ts.l[c] ∧ ts.l[c] ≤ 3) = b := ⟨_, rfl⟩
          have HBT := hide hbt
          clear hbt
          cases bt
          · have HRES := hide (HRES0.out.trans (show progT ts.l i typ c r.l ty ow = (0, 4) by unfold progT; rw [if_pos H5.out, HGC.out]; unfold isT; rw [HBT.out]; rfl))
            go_wp2_with (first
              | (go_at_call 101; refine (known_hit nm kd ty ow i HFD.out typ num text _ kh.ao kids.length kh.cap _ HFR.out).mono ?_; rintro e w1 ⟨rfl, hb1⟩; rw [HCB.out]; have HB1 := hide (bel_trans hb1 (belA (.cells #[.string nm, .int .i64 kd, .int .i64 ty, .int .i64 ow] 135))); clear hb1 x0 x1 x2 x3 x4 x5; have y0 := HY.out _ HB1.out 0 _ rfl; have y1 := HY.out _ HB1.out 1 _ rfl; have y2 := HY.out _ HB1.out 2 _ rfl; have y3 := HY.out _ HB1.out 3 _ rfl; have y4 := HY.out _ HB1.out 4 _ rfl; have y5 := HY.out _ HB1.out 5 _ rfl)
              | (go_at_call 102; refine (eclean_v _ typ num text _ kh.ao kids.length kh.cap _ HTX.out).mono ?_; rintro e w2 ⟨rfl, hb2⟩; rw [HBP.out]; have HB2 := hide (bel_trans HB1.out hb2); clear y0 y1 y2 y3 y4 y5; have z0 := HY.out _ HB2.out 0 _ rfl; have z1 := HY.out _ HB2.out 1 _ rfl; have z2 := HY.out _ HB2.out 2 _ rfl; have z3 := HY.out _ HB2.out 3 _ rfl; have z4 := HY.out _ HB2.out 4 _ rfl; have z5 := HY.out _ HB2.out 5 _ rfl; have o0 := box_cell hb2 (j := 0) rfl; have o1 := box_cell hb2 (j := 1) rfl; have o2 := box_cell hb2 (j := 2) rfl; have o3 := box_cell hb2 (j := 3) rfl; have cc2 := HCC.out _ HB2.out; have HK2 := hide hb2; clear hb2)
              | (go_at_call 103; refine (istype_any _ _).mono ?_; rintro e w3 ⟨rfl, hb3⟩; rw [HBT.out]; have HB3 := hide (bel_trans HB2.out hb3); clear z0 z1 z2 z3 z4 z5 o0 o1 o2 o3 cc2; have hk3 := bel_trans HK2.out hb3; have p0 := box_cell hk3 (j := 0) rfl; have p1 := box_cell hk3 (j := 1) rfl; have p2 := box_cell hk3 (j := 2) rfl; have p3 := box_cell hk3 (j := 3) rfl; have HK3 := hide hk3; clear hb3 hk3))
            go_ret2
            exact ⟨ret_tt HRES.out.symm, HB.out.trans (HB3.out.mono HB.out.size)⟩
          · have HRES := hide (HRES0.out.trans (show progT ts.l i typ c r.l ty ow = (ts.l[c], 0) by unfold progT; rw [if_pos H5.out, HGC.out]; unfold isT; rw [HBT.out]; rfl))
            have HFB := hide (show fitB ty r.l = true by rw [hfb H5N.out])
            go_wp2_with (first
              | (go_at_call 101; refine (known_hit nm kd ty ow i HFD.out typ num text _ kh.ao kids.length kh.cap _ HFR.out).mono ?_; rintro e w1 ⟨rfl, hb1⟩; rw [HCB.out]; have HB1 := hide (bel_trans hb1 (belA (.cells #[.string nm, .int .i64 kd, .int .i64 ty, .int .i64 ow] 135))); clear hb1 x0 x1 x2 x3 x4 x5; have y0 := HY.out _ HB1.out 0 _ rfl; have y1 := HY.out _ HB1.out 1 _ rfl; have y2 := HY.out _ HB1.out 2 _ rfl; have y3 := HY.out _ HB1.out 3 _ rfl; have y4 := HY.out _ HB1.out 4 _ rfl; have y5 := HY.out _ HB1.out 5 _ rfl)
              | (go_at_call 102; refine (eclean_v _ typ num text _ kh.ao kids.length kh.cap _ HTX.out).mono ?_; rintro e w2 ⟨rfl, hb2⟩; rw [HBP.out]; have HB2 := hide (bel_trans HB1.out hb2); clear y0 y1 y2 y3 y4 y5; have z0 := HY.out _ HB2.out 0 _ rfl; have z1 := HY.out _ HB2.out 1 _ rfl; have z2 := HY.out _ HB2.out 2 _ rfl; have z3 := HY.out _ HB2.out 3 _ rfl; have z4 := HY.out _ HB2.out 4 _ rfl; have z5 := HY.out _ HB2.out 5 _ rfl; have o0 := box_cell hb2 (j := 0) rfl; have o1 := box_cell hb2 (j := 1) rfl; have o2 := box_cell hb2 (j := 2) rfl; have o3 := box_cell hb2 (j := 3) rfl; have cc2 := HCC.out _ HB2.out; have HK2 := hide hb2; clear hb2)
              | (go_at_call 103; refine (istype_any _ _).mono ?_; rintro e w3 ⟨rfl, hb3⟩; rw [HBT.out]; have HB3 := hide (bel_trans HB2.out hb3); clear z0 z1 z2 z3 z4 z5 o0 o1 o2 o3 cc2; have hk3 := bel_trans HK2.out hb3; have p0 := box_cell hk3 (j := 0) rfl; have p1 := box_cell hk3 (j := 1) rfl; have p2 := box_cell hk3 (j := 2) rfl; have p3 := box_cell hk3 (j := 3) rfl; have HK3 := hide hk3; clear hb3 hk3)
              | (go_at_call 104; refine (fit_any nm kd ty ow r _ (HRI.out.mono HB3.out) h4 h6).mono ?_; rintro e w4 ⟨rfl, hb4⟩; rw [HFB.out]; have HB4 := hide (bel_trans HB3.out hb4); clear hb4 p0 p1 p2 p3; have cc4 := HCC.out _ HB4.out; have q0 := HY.out _ HB4.out 0 _ rfl; have q1 := HY.out _ HB4.out 1 _ rfl; have q2 := HY.out _ HB4.out 2 _ rfl; have q3 := HY.out _ HB4.out 3 _ rfl; have q4 := HY.out _ HB4.out 4 _ rfl; have q5 := HY.out _ HB4.out 5 _ rfl))
            go_ret2
            exact ⟨ret_tt HRES.out.symm, HB.out.trans (HB4.out.mono HB.out.size)⟩
        have h5b : ((i : Int) == 5) = false := by simpa using (show ¬ (i : Int) = 5 by omega)
        have HRES0 := hide ((HTOP.out.trans (topT_pass HOP.out HBP.out HBK.out (fun h => by omega))).trans (HPR.out HBK.out (fun h => by subst h; exact plain_typ HBP.out)).symm)
        obtain ⟨bf, hbf⟩ : ∃ b, fitB ty r.l = b := ⟨_, rfl⟩
        have HFB := hide hbf
        clear hbf
        cases bf
        · have HRES := hide (HRES0.out.trans (show progT ts.l i typ col r.l ty ow = (0, 4) by unfold progT; rw [if_neg (by omega), HFB.out, if_pos rfl]))
          go_wp2_with (first
            | (go_at_call 101; refine (known_hit nm kd ty ow i HFD.out typ num text col kh.ao kids.length kh.cap _ HFR.out).mono ?_; rintro e w1 ⟨rfl, hb1⟩; rw [HCB.out]; have HB1 := hide (bel_trans hb1 (belA (.cells #[.string nm, .int .i64 kd, .int .i64 ty, .int .i64 ow] 135))); clear hb1 x0 x1 x2 x3 x4 x5; have y0 := HY.out _ HB1.out 0 _ rfl; have y1 := HY.out _ HB1.out 1 _ rfl; have y2 := HY.out _ HB1.out 2 _ rfl; have y3 := HY.out _ HB1.out 3 _ rfl; have y4 := HY.out _ HB1.out 4 _ rfl; have y5 := HY.out _ HB1.out 5 _ rfl)
            | (go_at_call 102; refine (eclean_v _ typ num text _ kh.ao kids.length kh.cap _ HTX.out).mono ?_; rintro e w2 ⟨rfl, hb2⟩; rw [HBP.out]; have HB2 := hide (bel_trans HB1.out hb2); clear y0 y1 y2 y3 y4 y5; have z0 := HY.out _ HB2.out 0 _ rfl; have z1 := HY.out _ HB2.out 1 _ rfl; have z2 := HY.out _ HB2.out 2 _ rfl; have z3 := HY.out _ HB2.out 3 _ rfl; have z4 := HY.out _ HB2.out 4 _ rfl; have z5 := HY.out _ HB2.out 5 _ rfl; have o0 := box_cell hb2 (j := 0) rfl; have o1 := box_cell hb2 (j := 1) rfl; have o2 := box_cell hb2 (j := 2) rfl; have o3 := box_cell hb2 (j := 3) rfl; have HK2 := hide hb2; clear hb2)
            | (go_at_call 104; refine (fit_any nm kd ty ow r _ (HRI.out.mono HB2.out) h4 h6).mono ?_; rintro e w4 ⟨rfl, hb4⟩; rw [HFB.out]; have HB4 := hide (bel_trans HB2.out hb4); have hk4 := bel_trans HK2.out hb4; clear z0 z1 z2 z3 z4 z5 o0 o1 o2 o3; have p0 := box_cell hk4 (j := 0) rfl; have p1 := box_cell hk4 (j := 1) rfl; have p2 := box_cell hk4 (j := 2) rfl; have p3 := box_cell hk4 (j := 3) rfl; clear hb4 hk4; have q0 := HY.out _ HB4.out 0 _ rfl; have q1 := HY.out _ HB4.out 1 _ rfl; have q2 := HY.out _ HB4.out 2 _ rfl; have q3 := HY.out _ HB4.out 3 _ rfl; have q4 := HY.out _ HB4.out 4 _ rfl; have q5 := HY.out _ HB4.out 5 _ rfl))
          go_ret2
          exact ⟨ret_tt HRES.out.symm, HB.out.trans (HB4.out.mono HB.out.size)⟩
        by_cases h1 : i = 1
        · have h1b : ((i : Int) == 1) = true := by simpa using (show (i : Int) = 1 by omega)
          have HRES := hide (HRES0.out.trans (show progT ts.l i typ col r.l ty ow = (typ, 0) by unfold progT; rw [if_neg (by omega), HFB.out, if_neg (by simp), if_pos (by omega)]))
          clear h1
          go_wp2_with (first
            | (go_at_call 101; refine (known_hit nm kd ty ow i HFD.out typ num text col kh.ao kids.length kh.cap _ HFR.out).mono ?_; rintro e w1 ⟨rfl, hb1⟩; rw [HCB.out]; have HB1 := hide (bel_trans hb1 (belA (.cells #[.string nm, .int .i64 kd, .int .i64 ty, .int .i64 ow] 135))); clear hb1 x0 x1 x2 x3 x4 x5; have y0 := HY.out _ HB1.out 0 _ rfl; have y1 := HY.out _ HB1.out 1 _ rfl; have y2 := HY.out _ HB1.out 2 _ rfl; have y3 := HY.out _ HB1.out 3 _ rfl; have y4 := HY.out _ HB1.out 4 _ rfl; have y5 := HY.out _ HB1.out 5 _ rfl)
            | (go_at_call 102; refine (eclean_v _ typ num text _ kh.ao kids.length kh.cap _ HTX.out).mono ?_; rintro e w2 ⟨rfl, hb2⟩; rw [HBP.out]; have HB2 := hide (bel_trans HB1.out hb2); clear y0 y1 y2 y3 y4 y5; have z0 := HY.out _ HB2.out 0 _ rfl; have z1 := HY.out _ HB2.out 1 _ rfl; have z2 := HY.out _ HB2.out 2 _ rfl; have z3 := HY.out _ HB2.out 3 _ rfl; have z4 := HY.out _ HB2.out 4 _ rfl; have z5 := HY.out _ HB2.out 5 _ rfl; have o0 := box_cell hb2 (j := 0) rfl; have o1 := box_cell hb2 (j := 1) rfl; have o2 := box_cell hb2 (j := 2) rfl; have o3 := box_cell hb2 (j := 3) rfl; have HK2 := hide hb2; clear hb2)
            | (go_at_call 104; refine (fit_any nm kd ty ow r _ (HRI.out.mono HB2.out) h4 h6).mono ?_; rintro e w4 ⟨rfl, hb4⟩; rw [HFB.out]; have HB4 := hide (bel_trans HB2.out hb4); have hk4 := bel_trans HK2.out hb4; clear z0 z1 z2 z3 z4 z5 o0 o1 o2 o3; have p0 := box_cell hk4 (j := 0) rfl; have p1 := box_cell hk4 (j := 1) rfl; have p2 := box_cell hk4 (j := 2) rfl; have p3 := box_cell hk4 (j := 3) rfl; clear hb4 hk4; have q0 := HY.out _ HB4.out 0 _ rfl; have q1 := HY.out _ HB4.out 1 _ rfl; have q2 := HY.out _ HB4.out 2 _ rfl; have q3 := HY.out _ HB4.out 3 _ rfl; have q4 := HY.out _ HB4.out 4 _ rfl; have q5 := HY.out _ HB4.out 5 _ rfl))
          go_ret2
          exact ⟨ret_tt HRES.out.symm, HB.out.trans (HB4.out.mono HB.out.size)⟩
        have h1b : ((i : Int) == 1) = false := by simpa using (show ¬ (i : Int) = 1 by omega)
        by_cases how : ow = 0
        · subst how
          have hpos := hz rfl h1 h5
          have HRES := hide (HRES0.out.trans (show progT ts.l i typ col r.l ty 0 = (r.l.getD (r.l.length - 1) 0, 0) by unfold progT; rw [if_neg (by omega), HFB.out, if_neg (by simp), if_neg (by omega), if_pos rfl]))
          have hql : r.l.length - 1 < r.l.length := by omega
          have HGC := hide (show r.l.getD (r.l.length - 1) 0 = r.l[r.l.length - 1] by simp [List.getD, hql])
          have hixl : ∀ U, (Instr.indexAt 22 (.slice r.h.ao r.l.length r.h.cap) (.int .i64 ((r.l.length : Int) - 1))).run Tryd.prog U = .ok (.pointer (some ⟨r.h.b, r.h.o + (r.l.length - 1), none⟩)) U := fun U => by
            have := IL.ix HRI.out hql U
            rw [show ((r.l.length - 1 : Nat) : Int) = (r.l.length : Int) - 1 by omega] at this
            exact this
          have HCC := hide (show ∀ w' : World, Below wr.heap.size wr w' → w'.cell? ⟨r.h.b, r.h.o + (r.l.length - 1), none⟩ = some (.int .i64 r.l[r.l.length - 1]) from fun w' h => int_at (HRI.out.mono h).1 hql)
          have hcb := HRI.out.1.blk hql
          go_wp2_with (first
            | (go_at_call 101; refine (known_hit nm kd ty 0 i HFD.out typ num text col kh.ao kids.length kh.cap _ HFR.out).mono ?_; rintro e w1 ⟨rfl, hb1⟩; rw [HCB.out]; have HB1 := hide (bel_trans hb1 (belA (.cells #[.string nm, .int .i64 kd, .int .i64 ty, .int .i64 0] 135))); clear hb1 x0 x1 x2 x3 x4 x5; have y0 := HY.out _ HB1.out 0 _ rfl; have y1 := HY.out _ HB1.out 1 _ rfl; have y2 := HY.out _ HB1.out 2 _ rfl; have y3 := HY.out _ HB1.out 3 _ rfl; have y4 := HY.out _ HB1.out 4 _ rfl; have y5 := HY.out _ HB1.out 5 _ rfl)
            | (go_at_call 102; refine (eclean_v _ typ num text _ kh.ao kids.length kh.cap _ HTX.out).mono ?_; rintro e w2 ⟨rfl, hb2⟩; rw [HBP.out]; have HB2 := hide (bel_trans HB1.out hb2); clear y0 y1 y2 y3 y4 y5; have z0 := HY.out _ HB2.out 0 _ rfl; have z1 := HY.out _ HB2.out 1 _ rfl; have z2 := HY.out _ HB2.out 2 _ rfl; have z3 := HY.out _ HB2.out 3 _ rfl; have z4 := HY.out _ HB2.out 4 _ rfl; have z5 := HY.out _ HB2.out 5 _ rfl; have o0 := box_cell hb2 (j := 0) rfl; have o1 := box_cell hb2 (j := 1) rfl; have o2 := box_cell hb2 (j := 2) rfl; have o3 := box_cell hb2 (j := 3) rfl; have HK2 := hide hb2; clear hb2)
            | (go_at_call 104; refine (fit_any nm kd ty 0 r _ (HRI.out.mono HB2.out) h4 h6).mono ?_; rintro e w4 ⟨rfl, hb4⟩; rw [HFB.out]; have HB4 := hide (bel_trans HB2.out hb4); have hk4 := bel_trans HK2.out hb4; clear z0 z1 z2 z3 z4 z5 o0 o1 o2 o3; have p0 := box_cell hk4 (j := 0) rfl; have p1 := box_cell hk4 (j := 1) rfl; have p2 := box_cell hk4 (j := 2) rfl; have p3 := box_cell hk4 (j := 3) rfl; have cc4 := HCC.out _ HB4.out; clear hb4 hk4; have q0 := HY.out _ HB4.out 0 _ rfl; have q1 := HY.out _ HB4.out 1 _ rfl; have q2 := HY.out _ HB4.out 2 _ rfl; have q3 := HY.out _ HB4.out 3 _ rfl; have q4 := HY.out _ HB4.out 4 _ rfl; have q5 := HY.out _ HB4.out 5 _ rfl))
          go_ret2
          exact ⟨ret_tt (HRES.out.trans (by rw [HGC.out])).symm, HB.out.trans (HB4.out.mono HB.out.size)⟩
        · have howb : (ow == 0) = false := by simpa using how
          have HRES := hide (HRES0.out.trans (show progT ts.l i typ col r.l ty ow = (ow, 0) by unfold progT; rw [if_neg (by omega), HFB.out, if_neg (by simp), if_neg (by omega), if_neg how]))
          clear how
          go_wp2_with (first
            | (go_at_call 101; refine (known_hit nm kd ty ow i HFD.out typ num text col kh.ao kids.length kh.cap _ HFR.out).mono ?_; rintro e w1 ⟨rfl, hb1⟩; rw [HCB.out]; have HB1 := hide (bel_trans hb1 (belA (.cells #[.string nm, .int .i64 kd, .int .i64 ty, .int .i64 ow] 135))); clear hb1 x0 x1 x2 x3 x4 x5; have y0 := HY.out _ HB1.out 0 _ rfl; have y1 := HY.out _ HB1.out 1 _ rfl; have y2 := HY.out _ HB1.out 2 _ rfl; have y3 := HY.out _ HB1.out 3 _ rfl; have y4 := HY.out _ HB1.out 4 _ rfl; have y5 := HY.out _ HB1.out 5 _ rfl)
            | (go_at_call 102; refine (eclean_v _ typ num text _ kh.ao kids.length kh.cap _ HTX.out).mono ?_; rintro e w2 ⟨rfl, hb2⟩; rw [HBP.out]; have HB2 := hide (bel_trans HB1.out hb2); clear y0 y1 y2 y3 y4 y5; have z0 := HY.out _ HB2.out 0 _ rfl; have z1 := HY.out _ HB2.out 1 _ rfl; have z2 := HY.out _ HB2.out 2 _ rfl; have z3 := HY.out _ HB2.out 3 _ rfl; have z4 := HY.out _ HB2.out 4 _ rfl; have z5 := HY.out _ HB2.out 5 _ rfl; have o0 := box_cell hb2 (j := 0) rfl; have o1 := box_cell hb2 (j := 1) rfl; have o2 := box_cell hb2 (j := 2) rfl; have o3 := box_cell hb2 (j := 3) rfl; have HK2 := hide hb2; clear hb2)
            | (go_at_call 104; refine (fit_any nm kd ty ow r _ (HRI.out.mono HB2.out) h4 h6).mono ?_; rintro e w4 ⟨rfl, hb4⟩; rw [HFB.out]; have HB4 := hide (bel_trans HB2.out hb4); have hk4 := bel_trans HK2.out hb4; clear z0 z1 z2 z3 z4 z5 o0 o1 o2 o3; have p0 := box_cell hk4 (j := 0) rfl; have p1 := box_cell hk4 (j := 1) rfl; have p2 := box_cell hk4 (j := 2) rfl; have p3 := box_cell hk4 (j := 3) rfl; clear hb4 hk4; have q0 := HY.out _ HB4.out 0 _ rfl; have q1 := HY.out _ HB4.out 1 _ rfl; have q2 := HY.out _ HB4.out 2 _ rfl; have q3 := HY.out _ HB4.out 3 _ rfl; have q4 := HY.out _ HB4.out 4 _ rfl; have q5 := HY.out _ HB4.out 5 _ rfl))
          go_ret2
          exact ⟨ret_tt HRES.out.symm, HB.out.trans (HB4.out.mono HB.out.size)⟩
      · have HRES := hide (HTOP.out.trans (topT_1 (fun h => hop h.1)))
        go_wp2_with (first
          | (go_at_call 101; refine (known_miss op typ num text col kh.ao kids.length kh.cap (by omega) _ HFR.out).mono ?_; rintro e w1 ⟨rfl, hb1⟩; have HB1 := hide hb1; clear hb1))
        go_ret2
        exact ⟨ret_tt HRES.out.symm, HB.out.trans ((HB1.out.trans ((belA _).mono HB1.out.size)).mono HB.out.size)⟩
end Go.Proofs.YtmnbhdhgjbgidaaDoor

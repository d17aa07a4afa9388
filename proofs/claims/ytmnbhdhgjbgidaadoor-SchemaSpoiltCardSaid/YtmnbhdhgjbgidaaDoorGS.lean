/- schema.table: what is wrong with a table by itself. -/
import Derived.Test.YtmnbhdhgjbgidaaDoorGK
import Derived.Test.YtmnbhdhgjbgidaaDoorGN
import Derived.Deep.RegionHeld3
namespace Go.Proofs.YtmnbhdhgjbgidaaDoor
open Go.RowKit

def firstE (l : List Int) : Int := (l.find? (fun e => e != 0)).getD 0
theorem firstE_cons0 (l : List Int) : firstE (0 :: l) = firstE l := by simp [firstE]
theorem firstE_cons {e : Int} (h : e ≠ 0) (l : List Int) : firstE (e :: l) = e := by simp [firstE, h]
theorem firstE_app0 : ∀ {a : List Int} (b : List Int), (∀ e ∈ a, e = 0) → firstE (a ++ b) = firstE b
  | [], _, _ => rfl
  | x :: a, b, h => by
    rw [h x (by simp), List.cons_append, firstE_cons0]
    exact firstE_app0 b (fun e he => h e (by simp [he]))
theorem firstE_at {l : List Int} {k : Nat} (hk : k < l.length) (h0 : ∀ j (hj : j < l.length), j < k → l[j] = 0) (hne : l[k] ≠ 0) (b : List Int) : firstE (l ++ b) = l[k] := by
  have hsp : l = l.take k ++ l[k] :: l.drop (k + 1) := by rw [List.getElem_cons_drop, List.take_append_drop]
  have h1 : ∀ e ∈ l.take k, e = 0 := fun e he => by
    obtain ⟨j, hj, rfl⟩ := List.getElem_of_mem he
    rw [List.length_take] at hj
    rw [List.getElem_take]
    exact h0 j (by omega) (by omega)
  generalize hx : l[k] = y at *
  rw [hsp, List.append_assoc, firstE_app0 _ h1, List.cons_append, firstE_cons hne]
/-- What is wrong with a column. -/
noncomputable def colE (x : Tab) (c : Col) (i : Nat) : Int := if pb (IsName c.name) = false then 3 else if fi (cnamed c.name) x.cols ≠ i then 5 else if isT c.typ = false then 4 else 0
/-- What is wrong with a check. -/
noncomputable def chkE (x : Tab) (e : Ex) : Int := if (e.typ2 (x.cols.map Col.typ)).2 ≠ 0 then (e.typ2 (x.cols.map Col.typ)).2 else if (e.typ2 (x.cols.map Col.typ)).1 ≠ 2 then 4 else 0
noncomputable def tableE (x : Tab) : Int :=
  if 8 < x.cols.length ∨ 3 < x.uniqs.length ∨ 3 < x.fors.length ∨ 4 < x.checks.length then 8 else if x.cols.length = 0 then 9
  else firstE (x.cols.zipIdx.map (fun p => colE x p.1 p.2) ++ (keysE x :: x.checks.map (chkE x)))
theorem fi_le {p : Col → Bool} {xs : List Col} {k : Nat} (hk : k < xs.length) (hp : p xs[k] = true) : fi p xs ≤ k := by
  unfold fi
  cases h : xs.findIdx? p with
  | none => simp
  | some j =>
    simp only [Option.getD_some]
    have := List.findIdx?_eq_some_iff_getElem.1 h
    obtain ⟨hj, _, hn⟩ := this
    have : ¬ k < j := fun hkj => by have := hn k hkj; rw [hp] at this; exact this rfl
    omega
theorem cnamed_self (c : Col) : cnamed c.name c = true := by simp [cnamed]
/-- The columns are all right so far, and this one is not. -/
theorem tabE_col {x : Tab} {k : Nat} (hc : ¬ (8 < x.cols.length ∨ 3 < x.uniqs.length ∨ 3 < x.fors.length ∨ 4 < x.checks.length)) (hk : k < x.cols.length) (h0 : ∀ j (hj : j < x.cols.length), j < k → colE x x.cols[j] j = 0) (hne : colE x x.cols[k] k ≠ 0) : tableE x = colE x x.cols[k] k := by
  unfold tableE
  rw [if_neg hc, if_neg (by omega)]
  have hl : k < (x.cols.zipIdx.map (fun p => colE x p.1 p.2)).length := by simpa using hk
  have hg : ∀ j (hj : j < x.cols.length), (x.cols.zipIdx.map (fun p => colE x p.1 p.2))[j]'(by simpa using hj) = colE x x.cols[j] j := fun j hj => by simp
  rw [firstE_at hl (fun j hj h => by rw [hg j (by simpa using hj)]; exact h0 j (by simpa using hj) h) (by rw [hg k hk]; exact hne), hg k hk]
theorem tabE_rest {x : Tab} (hc : ¬ (8 < x.cols.length ∨ 3 < x.uniqs.length ∨ 3 < x.fors.length ∨ 4 < x.checks.length)) (hp : 0 < x.cols.length) (h0 : ∀ j (hj : j < x.cols.length), colE x x.cols[j] j = 0) : tableE x = firstE (keysE x :: x.checks.map (chkE x)) := by
  unfold tableE
  rw [if_neg hc, if_neg (by omega), firstE_app0]
  intro e he
  obtain ⟨p, hp', rfl⟩ := List.mem_map.1 he
  obtain ⟨j, hj, rfl⟩ := List.getElem_of_mem hp'
  have := h0 j (by simpa using hj)
  simpa using this

theorem chk_at {x : Tab} {m : Nat} (hm : m < x.checks.length) (h0 : ∀ j (hj : j < x.checks.length), j < m → chkE x x.checks[j] = 0) {v : Int} (hv : chkE x x.checks[m] = v) (hne : v ≠ 0) : firstE (x.checks.map (chkE x)) = v := by
  have hl : m < (x.checks.map (chkE x)).length := by simpa using hm
  have := firstE_at hl (fun j hj h => by rw [List.getElem_map]; exact h0 j (by simpa using hj) h) (by rw [List.getElem_map, hv]; exact hne) []
  rw [List.append_nil, List.getElem_map, hv] at this
  exact this

set_option maxRecDepth 100000 in
set_option maxHeartbeats 8000000 in
theorem table_any (x : Tab) (w : World) (hx : x.In w) (hu0 : okU x) (hf : OpsAt w) (hsh : w.ShapedOpen Tryd.prog) (hcs : ∀ c ∈ x.checks, c.size ≤ 1000000) :
    Calls Tryd.prog 23 #[.agg #[.string x.name, .slice x.ch.ao x.cols.length x.ch.cap, .slice x.prim.h.ao x.prim.l.length x.prim.h.cap, .slice x.uh.ao x.uniqs.length x.uh.cap, .slice x.fh.ao x.fors.length x.fh.cap, .slice x.kh.ao x.checks.length x.kh.cap]] w fun e w' => e = .returned (.int .i64 (tableE x)) ∧ Below w.heap.size w w' := by
  have HB0 := hide (belA (w := w) (.cells #[.string x.name, .slice x.ch.ao x.cols.length x.ch.cap, .slice x.prim.h.ao x.prim.l.length x.prim.h.cap, .slice x.uh.ao x.uniqs.length x.uh.cap, .slice x.fh.ao x.fors.length x.fh.cap, .slice x.kh.ao x.checks.length x.kh.cap] 39))
  have HX := hide (hx.mono HB0.out)
  have HF := hide (hf.mono HB0.out)
  have HSH := hide (hsh.keptBut (HB0.out.frame (fun _ => False)) (by simp))
  have HY := hide (show ∀ w' : World, Below (w.alloc (.cells #[.string x.name, .slice x.ch.ao x.cols.length x.ch.cap, .slice x.prim.h.ao x.prim.l.length x.prim.h.cap, .slice x.uh.ao x.uniqs.length x.uh.cap, .slice x.fh.ao x.fors.length x.fh.cap, .slice x.kh.ao x.checks.length x.kh.cap] 39)).heap.size (w.alloc (.cells #[.string x.name, .slice x.ch.ao x.cols.length x.ch.cap, .slice x.prim.h.ao x.prim.l.length x.prim.h.cap, .slice x.uh.ao x.uniqs.length x.uh.cap, .slice x.fh.ao x.fors.length x.fh.cap, .slice x.kh.ao x.checks.length x.kh.cap] 39)) w' → ∀ (j : Nat) (v : Value), (#[.string x.name, .slice x.ch.ao x.cols.length x.ch.cap, .slice x.prim.h.ao x.prim.l.length x.prim.h.cap, .slice x.uh.ao x.uniqs.length x.uh.cap, .slice x.fh.ao x.fors.length x.fh.cap, .slice x.kh.ao x.checks.length x.kh.cap] : Array Value)[j]? = some v → w'.cell? ⟨w.heap.size, j, none⟩ = some v from fun w' h j v hv => box_cell h hv)
  have HU0 := hide hu0
  have HCS := hide hcs
  have n1 := hx.rc.len
  have n2 := hx.ru.len
  have n3 := hx.rf.len
  have n4 := hx.rk.len
  clear hx hu0 hf hsh hcs
  by_cases c1 : (8 : Int) < x.cols.length
  · have HR := hide (show tableE x = 8 by unfold tableE; rw [if_pos (.inl (by omega))])
    go_enter Tryd.func23, Tryd.ntmps23
    go_wp2
    go_ret
    exact ⟨ret1 HR.out.symm, HB0.out⟩
  by_cases c2 : (3 : Int) < x.uniqs.length
  · have HR := hide (show tableE x = 8 by unfold tableE; rw [if_pos (.inr (.inl (by omega)))])
    go_enter Tryd.func23, Tryd.ntmps23
    go_wp2
    go_ret
    exact ⟨ret1 HR.out.symm, HB0.out⟩
  by_cases c3 : (3 : Int) < x.fors.length
  · have HR := hide (show tableE x = 8 by unfold tableE; rw [if_pos (.inr (.inr (.inl (by omega))))])
    go_enter Tryd.func23, Tryd.ntmps23
    go_wp2
    go_ret
    exact ⟨ret1 HR.out.symm, HB0.out⟩
  by_cases c4 : (4 : Int) < x.checks.length
  · have HR := hide (show tableE x = 8 by unfold tableE; rw [if_pos (.inr (.inr (.inr (by omega))))])
    go_enter Tryd.func23, Tryd.ntmps23
    go_wp2
    go_ret
    exact ⟨ret1 HR.out.symm, HB0.out⟩
  have HNC := hide (show ¬ (8 < x.cols.length ∨ 3 < x.uniqs.length ∨ 3 < x.fors.length ∨ 4 < x.checks.length) by omega)
  by_cases h0 : x.cols.length = 0
  · have HR := hide (show tableE x = 9 by unfold tableE; rw [if_neg HNC.out, if_pos h0])
    have h0b : ((x.cols.length : Int) == 0) = true := beq_iff_eq.2 (by omega)
    clear h0
    go_enter Tryd.func23, Tryd.ntmps23
    go_wp2
    go_ret
    exact ⟨ret1 HR.out.symm, HB0.out⟩
  have h0b : ((x.cols.length : Int) == 0) = false := beq_eq_false_iff_ne.2 (by omega)
  have hpos : 0 < x.cols.length := by omega
  clear h0
  go_enter Tryd.func23, Tryd.ntmps23
  go_wp2
  go_loopw [43] (fun i wr => ∃ k : Nat, k ≤ x.cols.length ∧ i = .int .i64 k ∧ Hid (∀ j (hj : j < x.cols.length), j < k → colE x x.cols[j] j = 0) ∧ Hid (Below (w.alloc (.cells #[.string x.name, .slice x.ch.ao x.cols.length x.ch.cap, .slice x.prim.h.ao x.prim.l.length x.prim.h.cap, .slice x.uh.ao x.uniqs.length x.uh.cap, .slice x.fh.ao x.fors.length x.fh.cap, .slice x.kh.ao x.checks.length x.kh.cap] 39)).heap.size (w.alloc (.cells #[.string x.name, .slice x.ch.ao x.cols.length x.ch.cap, .slice x.prim.h.ao x.prim.l.length x.prim.h.cap, .slice x.uh.ao x.uniqs.length x.uh.cap, .slice x.fh.ao x.fors.length x.fh.cap, .slice x.kh.ao x.checks.length x.kh.cap] 39)) wr)) (fun i _ => x.cols.length - (intOf i).toNat)
  case atStart => exact ⟨0, Nat.zero_le _, rfl, fun j _ h => absurd h (by omega), Below.refl _ _⟩
  case round =>
    obtain ⟨k, hk, rfl, HN, HBW⟩ := hrel
    have HXR := hide (HX.out.mono HBW.out)
    have HSR := hide (HSH.out.keptBut (HBW.out.frame (fun _ => False)) (by simp))
    by_cases hlt : k < x.cols.length
    · have hix := HXR.out.rc.ix hlt Tryd.underlying34 sz30
      obtain ⟨q0, q1, q2⟩ := col_at HXR.out.rc hlt
      have hbk := HXR.out.rc.blk hlt
      have HNM := hide (show (x.cols[k]).name.size ≤ 9223372036854775807 by have := (HXR.out.cs _ (List.getElem_mem hlt)).1; unfold maxLen at this; omega)
      have HLE := hide (fi_le (p := cnamed (x.cols[k]).name) hlt (cnamed_self _))
      have HCE := hide (show colE x x.cols[k] k = if pb (IsName (x.cols[k]).name) = false then 3 else if fi (cnamed (x.cols[k]).name) x.cols ≠ k then 5 else if isT (x.cols[k]).typ = false then 4 else 0 from rfl)
      obtain ⟨bn, hbn⟩ : ∃ b, pb (IsName (x.cols[k]).name) = b := ⟨_, rfl⟩
      have HBN := hide hbn
      rw [hbn] at HCE
      clear hbn
      cases bn
      · have HC3 := hide (HCE.out.trans (if_pos rfl))
        have HR := hide ((tabE_col HNC.out hlt HN.out (by rw [HC3.out]; decide)).trans HC3.out)
        go_wp2_with (first
          | (go_at_call 21; refine (name_any _ _ (HSR.out.keptBut ((belA _).frame (fun _ => False)) (by simp)) HNM.out).mono ?_; rintro e w1 ⟨rfl, rfl⟩; rw [HBN.out]; have y0 := HY.out _ (HBW.out.trans ((belA (.cells #[.string (x.cols[k]).name, .int .i64 (x.cols[k]).typ, .bool (x.cols[k]).nul] 41)).mono HBW.out.size)) 0 _ rfl; have y1 := HY.out _ (HBW.out.trans ((belA (.cells #[.string (x.cols[k]).name, .int .i64 (x.cols[k]).typ, .bool (x.cols[k]).nul] 41)).mono HBW.out.size)) 1 _ rfl; have y2 := HY.out _ (HBW.out.trans ((belA (.cells #[.string (x.cols[k]).name, .int .i64 (x.cols[k]).typ, .bool (x.cols[k]).nul] 41)).mono HBW.out.size)) 2 _ rfl; have y3 := HY.out _ (HBW.out.trans ((belA (.cells #[.string (x.cols[k]).name, .int .i64 (x.cols[k]).typ, .bool (x.cols[k]).nul] 41)).mono HBW.out.size)) 3 _ rfl; have y4 := HY.out _ (HBW.out.trans ((belA (.cells #[.string (x.cols[k]).name, .int .i64 (x.cols[k]).typ, .bool (x.cols[k]).nul] 41)).mono HBW.out.size)) 4 _ rfl; have y5 := HY.out _ (HBW.out.trans ((belA (.cells #[.string (x.cols[k]).name, .int .i64 (x.cols[k]).typ, .bool (x.cols[k]).nul] 41)).mono HBW.out.size)) 5 _ rfl))
        go_ret
        exact ⟨ret1 HR.out.symm, HB0.out.trans ((HBW.out.trans ((belA _).mono HBW.out.size)).mono HB0.out.size)⟩
      obtain ⟨f, hfi⟩ : ∃ f, fi (cnamed (x.cols[k]).name) x.cols = f := ⟨_, rfl⟩
      have HFI := hide hfi
      rw [hfi] at HCE HLE
      clear hfi
      by_cases hfk : f = k
      rotate_left
      · have HC5 := hide ((HCE.out.trans (if_neg (by simp))).trans (if_pos hfk))
        have HR := hide ((tabE_col HNC.out hlt HN.out (by rw [HC5.out]; decide)).trans HC5.out)
        have hflt : f < (k : Int) := by have := HLE.out; omega
        clear hfk
        go_wp2_with (first
          | (go_at_call 21; refine (name_any _ _ (HSR.out.keptBut ((belA _).frame (fun _ => False)) (by simp)) HNM.out).mono ?_; rintro e w1 ⟨rfl, rfl⟩; rw [HBN.out]; have y0 := HY.out _ (HBW.out.trans ((belA (.cells #[.string (x.cols[k]).name, .int .i64 (x.cols[k]).typ, .bool (x.cols[k]).nul] 41)).mono HBW.out.size)) 0 _ rfl; have y1 := HY.out _ (HBW.out.trans ((belA (.cells #[.string (x.cols[k]).name, .int .i64 (x.cols[k]).typ, .bool (x.cols[k]).nul] 41)).mono HBW.out.size)) 1 _ rfl; have y2 := HY.out _ (HBW.out.trans ((belA (.cells #[.string (x.cols[k]).name, .int .i64 (x.cols[k]).typ, .bool (x.cols[k]).nul] 41)).mono HBW.out.size)) 2 _ rfl; have y3 := HY.out _ (HBW.out.trans ((belA (.cells #[.string (x.cols[k]).name, .int .i64 (x.cols[k]).typ, .bool (x.cols[k]).nul] 41)).mono HBW.out.size)) 3 _ rfl; have y4 := HY.out _ (HBW.out.trans ((belA (.cells #[.string (x.cols[k]).name, .int .i64 (x.cols[k]).typ, .bool (x.cols[k]).nul] 41)).mono HBW.out.size)) 4 _ rfl; have y5 := HY.out _ (HBW.out.trans ((belA (.cells #[.string (x.cols[k]).name, .int .i64 (x.cols[k]).typ, .bool (x.cols[k]).nul] 41)).mono HBW.out.size)) 5 _ rfl)
          | (go_at_call 47; refine (column_any x _ _ (HXR.out.mono (belA _))).mono ?_; rintro e w2 ⟨rfl, hb2⟩; rw [HFI.out]; have HB1 := hide (bel_trans HBW.out (bel_trans (belA _) hb2)); have g1 := box_cell hb2 (j := 1) rfl; clear hb2 y0 y1 y2 y3 y4 y5))
        go_ret
        exact ⟨ret1 HR.out.symm, HB0.out.trans (HB1.out.mono HB0.out.size)⟩
      subst hfk
      have HC6 := hide ((HCE.out.trans (if_neg (by simp))).trans (if_neg (by simp)))
      obtain ⟨t, ht⟩ : ∃ t, (x.cols[k]).typ = t := ⟨_, rfl⟩
      rw [ht] at q1 HC6
      clear ht
      by_cases hT : isT t = true
      · have HC0 := hide (HC6.out.trans (if_neg (by rw [hT]; simp)))
        have HNN := hide (show ∀ j (hj : j < x.cols.length), j < k + 1 → colE x x.cols[j] j = 0 from fun j hj h => by
          by_cases e : j = k
          · subst e; exact HC0.out
          · exact HN.out j hj (by omega))
        have hT3 := isT_ne hT
        have ht3 : t = 1 ∨ t = 2 ∨ t = 3 := by omega
        clear hT hT3 HC6
        rcases ht3 with rfl | rfl | rfl
        · go_wp2_with (first
            | (go_at_call 21; refine (name_any _ _ (HSR.out.keptBut ((belA _).frame (fun _ => False)) (by simp)) HNM.out).mono ?_; rintro e w1 ⟨rfl, rfl⟩; rw [HBN.out]; have y0 := HY.out _ (HBW.out.trans ((belA (.cells #[.string (x.cols[k]).name, .int .i64 1, .bool (x.cols[k]).nul] 41)).mono HBW.out.size)) 0 _ rfl; have y1 := HY.out _ (HBW.out.trans ((belA (.cells #[.string (x.cols[k]).name, .int .i64 1, .bool (x.cols[k]).nul] 41)).mono HBW.out.size)) 1 _ rfl; have y2 := HY.out _ (HBW.out.trans ((belA (.cells #[.string (x.cols[k]).name, .int .i64 1, .bool (x.cols[k]).nul] 41)).mono HBW.out.size)) 2 _ rfl; have y3 := HY.out _ (HBW.out.trans ((belA (.cells #[.string (x.cols[k]).name, .int .i64 1, .bool (x.cols[k]).nul] 41)).mono HBW.out.size)) 3 _ rfl; have y4 := HY.out _ (HBW.out.trans ((belA (.cells #[.string (x.cols[k]).name, .int .i64 1, .bool (x.cols[k]).nul] 41)).mono HBW.out.size)) 4 _ rfl; have y5 := HY.out _ (HBW.out.trans ((belA (.cells #[.string (x.cols[k]).name, .int .i64 1, .bool (x.cols[k]).nul] 41)).mono HBW.out.size)) 5 _ rfl)
            | (go_at_call 47; refine (column_any x _ _ (HXR.out.mono (belA _))).mono ?_; rintro e w2 ⟨rfl, hb2⟩; rw [HFI.out]; have HB1 := hide (bel_trans HBW.out (bel_trans (belA _) hb2)); have g1 := box_cell hb2 (j := 1) rfl; clear hb2 y0 y1 y2 y3 y4 y5))
          go_roundw
          case rel => exact ⟨k + 1, by omega, by go_num, HNN.out, HB1.out⟩
          case measure => simp [intOf]; omega
        · go_wp2_with (first
            | (go_at_call 21; refine (name_any _ _ (HSR.out.keptBut ((belA _).frame (fun _ => False)) (by simp)) HNM.out).mono ?_; rintro e w1 ⟨rfl, rfl⟩; rw [HBN.out]; have y0 := HY.out _ (HBW.out.trans ((belA (.cells #[.string (x.cols[k]).name, .int .i64 2, .bool (x.cols[k]).nul] 41)).mono HBW.out.size)) 0 _ rfl; have y1 := HY.out _ (HBW.out.trans ((belA (.cells #[.string (x.cols[k]).name, .int .i64 2, .bool (x.cols[k]).nul] 41)).mono HBW.out.size)) 1 _ rfl; have y2 := HY.out _ (HBW.out.trans ((belA (.cells #[.string (x.cols[k]).name, .int .i64 2, .bool (x.cols[k]).nul] 41)).mono HBW.out.size)) 2 _ rfl; have y3 := HY.out _ (HBW.out.trans ((belA (.cells #[.string (x.cols[k]).name, .int .i64 2, .bool (x.cols[k]).nul] 41)).mono HBW.out.size)) 3 _ rfl; have y4 := HY.out _ (HBW.out.trans ((belA (.cells #[.string (x.cols[k]).name, .int .i64 2, .bool (x.cols[k]).nul] 41)).mono HBW.out.size)) 4 _ rfl; have y5 := HY.out _ (HBW.out.trans ((belA (.cells #[.string (x.cols[k]).name, .int .i64 2, .bool (x.cols[k]).nul] 41)).mono HBW.out.size)) 5 _ rfl)
            | (go_at_call 47; refine (column_any x _ _ (HXR.out.mono (belA _))).mono ?_; rintro e w2 ⟨rfl, hb2⟩; rw [HFI.out]; have HB1 := hide (bel_trans HBW.out (bel_trans (belA _) hb2)); have g1 := box_cell hb2 (j := 1) rfl; clear hb2 y0 y1 y2 y3 y4 y5))
          go_roundw
          case rel => exact ⟨k + 1, by omega, by go_num, HNN.out, HB1.out⟩
          case measure => simp [intOf]; omega
        · go_wp2_with (first
            | (go_at_call 21; refine (name_any _ _ (HSR.out.keptBut ((belA _).frame (fun _ => False)) (by simp)) HNM.out).mono ?_; rintro e w1 ⟨rfl, rfl⟩; rw [HBN.out]; have y0 := HY.out _ (HBW.out.trans ((belA (.cells #[.string (x.cols[k]).name, .int .i64 3, .bool (x.cols[k]).nul] 41)).mono HBW.out.size)) 0 _ rfl; have y1 := HY.out _ (HBW.out.trans ((belA (.cells #[.string (x.cols[k]).name, .int .i64 3, .bool (x.cols[k]).nul] 41)).mono HBW.out.size)) 1 _ rfl; have y2 := HY.out _ (HBW.out.trans ((belA (.cells #[.string (x.cols[k]).name, .int .i64 3, .bool (x.cols[k]).nul] 41)).mono HBW.out.size)) 2 _ rfl; have y3 := HY.out _ (HBW.out.trans ((belA (.cells #[.string (x.cols[k]).name, .int .i64 3, .bool (x.cols[k]).nul] 41)).mono HBW.out.size)) 3 _ rfl; have y4 := HY.out _ (HBW.out.trans ((belA (.cells #[.string (x.cols[k]).name, .int .i64 3, .bool (x.cols[k]).nul] 41)).mono HBW.out.size)) 4 _ rfl; have y5 := HY.out _ (HBW.out.trans ((belA (.cells #[.string (x.cols[k]).name, .int .i64 3, .bool (x.cols[k]).nul] 41)).mono HBW.out.size)) 5 _ rfl)
            | (go_at_call 47; refine (column_any x _ _ (HXR.out.mono (belA _))).mono ?_; rintro e w2 ⟨rfl, hb2⟩; rw [HFI.out]; have HB1 := hide (bel_trans HBW.out (bel_trans (belA _) hb2)); have g1 := box_cell hb2 (j := 1) rfl; clear hb2 y0 y1 y2 y3 y4 y5))
          go_roundw
          case rel => exact ⟨k + 1, by omega, by go_num, HNN.out, HB1.out⟩
          case measure => simp [intOf]; omega
      · have hTf : isT t = false := by simpa using hT
        have HC4 := hide (HC6.out.trans (if_pos hTf))
        have HR := hide ((tabE_col HNC.out hlt HN.out (by rw [HC4.out]; decide)).trans HC4.out)
        have ht : ¬ (1 ≤ t ∧ t ≤ 3) := fun h => by unfold isT at hTf; rw [decide_eq_true h] at hTf; cases hTf
        have t1 : (t != 1) = true := by simp; omega
        have t2 : (t != 2) = true := by simp; omega
        have t3 : (t != 3) = true := by simp; omega
        clear hT hTf ht HC6
        go_wp2_with (first
          | (go_at_call 21; refine (name_any _ _ (HSR.out.keptBut ((belA _).frame (fun _ => False)) (by simp)) HNM.out).mono ?_; rintro e w1 ⟨rfl, rfl⟩; rw [HBN.out]; have y0 := HY.out _ (HBW.out.trans ((belA (.cells #[.string (x.cols[k]).name, .int .i64 t, .bool (x.cols[k]).nul] 41)).mono HBW.out.size)) 0 _ rfl; have y1 := HY.out _ (HBW.out.trans ((belA (.cells #[.string (x.cols[k]).name, .int .i64 t, .bool (x.cols[k]).nul] 41)).mono HBW.out.size)) 1 _ rfl; have y2 := HY.out _ (HBW.out.trans ((belA (.cells #[.string (x.cols[k]).name, .int .i64 t, .bool (x.cols[k]).nul] 41)).mono HBW.out.size)) 2 _ rfl; have y3 := HY.out _ (HBW.out.trans ((belA (.cells #[.string (x.cols[k]).name, .int .i64 t, .bool (x.cols[k]).nul] 41)).mono HBW.out.size)) 3 _ rfl; have y4 := HY.out _ (HBW.out.trans ((belA (.cells #[.string (x.cols[k]).name, .int .i64 t, .bool (x.cols[k]).nul] 41)).mono HBW.out.size)) 4 _ rfl; have y5 := HY.out _ (HBW.out.trans ((belA (.cells #[.string (x.cols[k]).name, .int .i64 t, .bool (x.cols[k]).nul] 41)).mono HBW.out.size)) 5 _ rfl)
          | (go_at_call 47; refine (column_any x _ _ (HXR.out.mono (belA _))).mono ?_; rintro e w2 ⟨rfl, hb2⟩; rw [HFI.out]; have HB1 := hide (bel_trans HBW.out (bel_trans (belA _) hb2)); have g1 := box_cell hb2 (j := 1) rfl; clear hb2 y0 y1 y2 y3 y4 y5))
        go_ret
        exact ⟨ret1 HR.out.symm, HB0.out.trans (HB1.out.mono HB0.out.size)⟩
    · have HR0 := hide (tabE_rest HNC.out hpos (fun j hj => HN.out j hj (by omega)))
      have x0 := HY.out _ HBW.out 0 _ rfl
      have x1 := HY.out _ HBW.out 1 _ rfl
      have x2 := HY.out _ HBW.out 2 _ rfl
      have x3 := HY.out _ HBW.out 3 _ rfl
      have x4 := HY.out _ HBW.out 4 _ rfl
      have x5 := HY.out _ HBW.out 5 _ rfl
      obtain ⟨ke, hke⟩ : ∃ v, keysE x = v := ⟨_, rfl⟩
      have HKE := hide hke
      rw [hke] at HR0
      clear hke
      by_cases hk0 : ke = 0
      rotate_left
      · have hkb : (ke == 0) = false := beq_eq_false_iff_ne.2 hk0
        have HR := hide (HR0.out.trans (firstE_cons hk0 _))
        clear hk0
        go_wp2_with (go_at_call 48; refine (keys_any x _ HXR.out (by omega) (by omega) HU0.out).mono ?_; rintro e w1 ⟨rfl, hb1⟩; rw [HKE.out]; have HB1 := hide (bel_trans HBW.out hb1); clear hb1)
        go_ret
        exact ⟨ret1 HR.out.symm, HB0.out.trans (HB1.out.mono HB0.out.size)⟩
      subst hk0
      have HR1 := hide (HR0.out.trans (firstE_cons0 _))
      go_wp2_with (go_at_call 48; refine (keys_any x _ HXR.out (by omega) (by omega) HU0.out).mono ?_; rintro e w1 ⟨rfl, hb1⟩; rw [HKE.out]; have HB1 := hide (bel_trans HBW.out hb1); clear hb1; clear x0 x1 x2 x3 x4 x5; have g5 := HY.out _ HB1.out 5 _ rfl)
      go_loopw [84] (fun i wz => ∃ m : Nat, m ≤ x.checks.length ∧ i = .int .i64 m ∧ Hid (∀ j (hj : j < x.checks.length), j < m → chkE x x.checks[j] = 0) ∧ Hid (Below (w.alloc (.cells #[.string x.name, .slice x.ch.ao x.cols.length x.ch.cap, .slice x.prim.h.ao x.prim.l.length x.prim.h.cap, .slice x.uh.ao x.uniqs.length x.uh.cap, .slice x.fh.ao x.fors.length x.fh.cap, .slice x.kh.ao x.checks.length x.kh.cap] 39)).heap.size (w.alloc (.cells #[.string x.name, .slice x.ch.ao x.cols.length x.ch.cap, .slice x.prim.h.ao x.prim.l.length x.prim.h.cap, .slice x.uh.ao x.uniqs.length x.uh.cap, .slice x.fh.ao x.fors.length x.fh.cap, .slice x.kh.ao x.checks.length x.kh.cap] 39)) wz)) (fun i _ => x.checks.length - (intOf i).toNat)
      case atStart => exact ⟨0, Nat.zero_le _, rfl, fun j _ h => absurd h (by omega), HB1.out⟩
      clear HBW HXR HSR HB1 g5
      case round =>
        obtain ⟨m, hm, rfl, HN2, HBZ⟩ := hrel
        have HXZ := hide (HX.out.mono HBZ.out)
        by_cases hml : m < x.checks.length
        · have hix := HXZ.out.rk.ix hml Tryd.underlying37 sz41
          obtain ⟨q0, q1, q2, q3, q4, q5⟩ := ex_at HXZ.out.rk hml
          have hbk := HXZ.out.rk.blk hml
          have HEI := hide (HXZ.out.ks _ (List.getElem_mem hml))
          have HES := hide (HCS.out _ (List.getElem_mem hml))
          obtain ⟨e, he⟩ : ∃ e, x.checks[m] = e := ⟨_, rfl⟩
          rw [he] at q0 q1 q2 q3 q4 q5 HEI HES
          obtain ⟨⟨tt, te⟩, htv⟩ : ∃ p, e.typ2 (x.cols.map Col.typ) = p := ⟨_, rfl⟩
          have HTY := hide htv
          have HCH := hide (show chkE x x.checks[m] = if te ≠ 0 then te else if tt ≠ 2 then 4 else 0 by rw [he]; unfold chkE; rw [htv])
          have HFZ := hide (HF.out.mono HBZ.out)
          clear he htv
          have hc8 : x.cols.length ≤ 100 := by omega
          go_upto_region 22 with (fail)
          obtain ⟨W4, hW4⟩ : ∃ W4, wr.alloc (.cells #[.int .i64 e.op, .int .i64 e.typ, .int .i64 e.num, .string e.text, .int .i64 e.col, .slice e.kh.ao e.kids.length e.kh.cap] 45) = W4 := ⟨_, rfl⟩
          have HB4 := hide (show Below (w.alloc (.cells #[.string x.name, .slice x.ch.ao x.cols.length x.ch.cap, .slice x.prim.h.ao x.prim.l.length x.prim.h.cap, .slice x.uh.ao x.uniqs.length x.uh.cap, .slice x.fh.ao x.fors.length x.fh.cap, .slice x.kh.ao x.checks.length x.kh.cap] 39)).heap.size (w.alloc (.cells #[.string x.name, .slice x.ch.ao x.cols.length x.ch.cap, .slice x.prim.h.ao x.prim.l.length x.prim.h.cap, .slice x.uh.ao x.uniqs.length x.uh.cap, .slice x.fh.ao x.fors.length x.fh.cap, .slice x.kh.ao x.checks.length x.kh.cap] 39)) W4 from hW4 ▸ HBZ.out.trans ((belA _).mono HBZ.out.size))
          have HXI := hide (show ∀ w' : World, Below W4.heap.size W4 w' → x.In w' from fun w' h => HX.out.mono (bel_trans HB4.out h))
          have HEW := hide (show ∀ w' : World, Below W4.heap.size W4 w' → e.In w' from fun w' h => (HEI.out.mono (hW4 ▸ belA _)).mono h)
          have HFW := hide (show ∀ w' : World, Below W4.heap.size W4 w' → OpsAt w' from fun w' h => (HFZ.out.mono (hW4 ▸ belA _)).mono h)
          have ht0 : ∀ w' : World, Below W4.heap.size W4 w' → w'.cell? ⟨w.heap.size, 0, none⟩ = some (.string x.name) := fun w' h => HY.out w' (bel_trans HB4.out h) 0 _ rfl
          have ht1 : ∀ w' : World, Below W4.heap.size W4 w' → w'.cell? ⟨w.heap.size, 1, none⟩ = some (.slice x.ch.ao x.cols.length x.ch.cap) := fun w' h => HY.out w' (bel_trans HB4.out h) 1 _ rfl
          have ht2 : ∀ w' : World, Below W4.heap.size W4 w' → w'.cell? ⟨w.heap.size, 2, none⟩ = some (.slice x.prim.h.ao x.prim.l.length x.prim.h.cap) := fun w' h => HY.out w' (bel_trans HB4.out h) 2 _ rfl
          have ht3 : ∀ w' : World, Below W4.heap.size W4 w' → w'.cell? ⟨w.heap.size, 3, none⟩ = some (.slice x.uh.ao x.uniqs.length x.uh.cap) := fun w' h => HY.out w' (bel_trans HB4.out h) 3 _ rfl
          have ht4 : ∀ w' : World, Below W4.heap.size W4 w' → w'.cell? ⟨w.heap.size, 4, none⟩ = some (.slice x.fh.ao x.fors.length x.fh.cap) := fun w' h => HY.out w' (bel_trans HB4.out h) 4 _ rfl
          have ht5 : ∀ w' : World, Below W4.heap.size W4 w' → w'.cell? ⟨w.heap.size, 5, none⟩ = some (.slice x.kh.ao x.checks.length x.kh.cap) := fun w' h => HY.out w' (bel_trans HB4.out h) 5 _ rfl
          have hk0 : ∀ w' : World, Below W4.heap.size W4 w' → w'.cell? ⟨wr.heap.size, 0, none⟩ = some (.int .i64 e.op) := fun w' h => box_cell (by rw [hW4]; exact h) rfl
          have hk1 : ∀ w' : World, Below W4.heap.size W4 w' → w'.cell? ⟨wr.heap.size, 1, none⟩ = some (.int .i64 e.typ) := fun w' h => box_cell (by rw [hW4]; exact h) rfl
          have hk2 : ∀ w' : World, Below W4.heap.size W4 w' → w'.cell? ⟨wr.heap.size, 2, none⟩ = some (.int .i64 e.num) := fun w' h => box_cell (by rw [hW4]; exact h) rfl
          have hk3 : ∀ w' : World, Below W4.heap.size W4 w' → w'.cell? ⟨wr.heap.size, 3, none⟩ = some (.string e.text) := fun w' h => box_cell (by rw [hW4]; exact h) rfl
          have hk4 : ∀ w' : World, Below W4.heap.size W4 w' → w'.cell? ⟨wr.heap.size, 4, none⟩ = some (.int .i64 e.col) := fun w' h => box_cell (by rw [hW4]; exact h) rfl
          have hk5 : ∀ w' : World, Below W4.heap.size W4 w' → w'.cell? ⟨wr.heap.size, 5, none⟩ = some (.slice e.kh.ao e.kids.length e.kh.cap) := fun w' h => box_cell (by rw [hW4]; exact h) rfl
          rw [hW4]
          clear q0 q1 q2 q3 q4 q5 hix hbk hW4
          go_region_held3 (fun w' => Below W4.heap.size W4 w') ((first | exact (Below.refl _ _).drew | exact bel_trans (by assumption) (by assumption))) (first
            | (go_at_call 50; refine (types_any x _ (HXI.out _ (by assumption)) hc8).mono ?_; rintro e' y1 ⟨⟨r, rfl, hrl, hri⟩, hk1⟩; have HRL := hide hrl; have HRI := hide hri; clear hrl hri)
            | (go_at_call 49; refine (etype_any (HEW.out _ (Below.refl _ _)) r _ (by first | exact HRI.out | exact HRI.out.mono ((Below.refl _ _).drew)) (HEW.out _ (by assumption)) (HFW.out _ (by assumption)) HES.out).mono ?_; rintro e' y2 ⟨rfl, hk2⟩; rw [HRL.out, HTY.out]))
          have HBY := hide (show Below W4.heap.size W4 y2 by assumption)
          have HBF := hide (bel_trans HB4.out HBY.out)
          by_cases hte : te = 0
          · subst hte
            by_cases htt : tt = 2
            · subst htt
              have HC0 := hide (HCH.out.trans (show _ = 0 by simp))
              go_wp2
              go_roundw
              case rel =>
                refine ⟨m + 1, by omega, by go_num, fun j hj h => ?_, HBF.out⟩
                by_cases e' : j = m
                · subst e'; exact HC0.out
                · exact HN2.out j hj (by omega)
              case measure => simp [intOf]; omega
            · have HC4 := hide (HCH.out.trans (show _ = 4 by simp [htt]))
              have htb : (tt == 2) = false := beq_eq_false_iff_ne.2 htt
              have HR := hide (HR1.out.trans (chk_at hml HN2.out HC4.out (by decide)))
              clear htt
              go_wp2
              go_ret
              exact ⟨ret1 HR.out.symm, HB0.out.trans (HBF.out.mono HB0.out.size)⟩
          · have HCE := hide (HCH.out.trans (show _ = te by simp [hte]))
            have htb : (te == 0) = false := beq_eq_false_iff_ne.2 hte
            have HR := hide (HR1.out.trans (chk_at hml HN2.out HCE.out hte))
            clear hte
            go_wp2
            go_ret
            exact ⟨ret1 HR.out.symm, HB0.out.trans (HBF.out.mono HB0.out.size)⟩
        · have HR := hide (HR1.out.trans (show firstE (x.checks.map (chkE x)) = 0 by
            have := firstE_app0 (a := x.checks.map (chkE x)) [] (fun e he => by
              obtain ⟨c, hc, rfl⟩ := List.mem_map.1 he
              obtain ⟨j, hj, rfl⟩ := List.getElem_of_mem hc
              exact HN2.out j hj (by omega))
            rw [List.append_nil] at this
            rw [this]; rfl))
          go_wp2
          go_ret
          exact ⟨ret1 HR.out.symm, HB0.out.trans (HBZ.out.mono HB0.out.size)⟩
end Go.Proofs.YtmnbhdhgjbgidaaDoor

/- ref03.table: what is wrong with a table by itself. -/
namespace Go.Proofs.YtmnbhdhgjbgidaaDoor
open Go.RowKit

theorem keysE_prim {x : Tab} (h : keyB x.cols.length x.prim.l = false) : keysE x = 6 := by unfold keysE; rw [if_pos h]
theorem keysE_nul {x : Tab} (h : keyB x.cols.length x.prim.l = true) {j : Nat} (hj : j < x.prim.l.length) (hp : pn x x.prim.l[j] = true) : keysE x = 4 := by
  unfold keysE; rw [if_neg (by rw [h]; simp), if_pos (List.any_eq_true.2 ⟨_, List.getElem_mem hj, hp⟩)]
theorem keysE_tail {x : Tab} (h : keyB x.cols.length x.prim.l = true) (hp : ∀ j (hj : j < x.prim.l.length), pn x x.prim.l[j] = false) : keysE x = if (x.uniqs ++ x.fors.map Frn.cols).all (fun l => keyB x.cols.length l.l) then 0 else 6 := by
  unfold keysE; rw [if_neg (by rw [h]; simp), if_neg]
  intro ha
  obtain ⟨k, hk, hpk⟩ := List.any_eq_true.1 ha
  obtain ⟨j, hj, rfl⟩ := List.getElem_of_mem hk
  rw [hp j hj] at hpk
  cases hpk
theorem all_no {x : Tab} {l : IL} (hl : l ∈ x.uniqs ++ x.fors.map Frn.cols) (h : keyB x.cols.length l.l = false) : (if (x.uniqs ++ x.fors.map Frn.cols).all (fun l => keyB x.cols.length l.l) then (0 : Int) else 6) = 6 := by
  rw [if_neg]
  intro ha
  rw [List.all_eq_true] at ha
  have := ha l hl
  rw [h] at this
  cases this
theorem all_yes {x : Tab} (hu : ∀ j (hj : j < x.uniqs.length), keyB x.cols.length (x.uniqs[j]).l = true) (hf : ∀ j (hj : j < x.fors.length), keyB x.cols.length (x.fors[j]).cols.l = true) : (if (x.uniqs ++ x.fors.map Frn.cols).all (fun l => keyB x.cols.length l.l) then (0 : Int) else 6) = 0 := by
  rw [if_pos]
  rw [List.all_eq_true]
  intro l hl
  rcases List.mem_append.1 hl with h | h
  · obtain ⟨j, hj, rfl⟩ := List.getElem_of_mem h
    exact hu j hj
  · obtain ⟨f, hf', rfl⟩ := List.mem_map.1 h
    obtain ⟨j, hj, rfl⟩ := List.getElem_of_mem hf'
    exact hf j hj
theorem keyOk_of {n : Nat} {l : List Int} (h : keyB n l = true) : KeyOk n l := Classical.byContradiction fun hn => by have := keyB_no hn; rw [h] at this; cases this

set_option maxRecDepth 100000 in
set_option maxHeartbeats 16000000 in
theorem rtable_any (x : Tab) (w : World) (hx : x.In w) (hcs : ∀ c ∈ x.checks, c.size ≤ 1000000) :
    Calls Tryd.prog 27 #[.agg #[.string x.name, .slice x.ch.ao x.cols.length x.ch.cap, .slice x.prim.h.ao x.prim.l.length x.prim.h.cap, .slice x.uh.ao x.uniqs.length x.uh.cap, .slice x.fh.ao x.fors.length x.fh.cap, .slice x.kh.ao x.checks.length x.kh.cap]] w fun e w' => e = .returned (.int .i64 (tableE x)) ∧ Below w.heap.size w w' := by
  have HB0 := hide (belA (w := w) (.cells #[.string x.name, .slice x.ch.ao x.cols.length x.ch.cap, .slice x.prim.h.ao x.prim.l.length x.prim.h.cap, .slice x.uh.ao x.uniqs.length x.uh.cap, .slice x.fh.ao x.fors.length x.fh.cap, .slice x.kh.ao x.checks.length x.kh.cap] 39))
  have HX := hide (hx.mono HB0.out)
  have HY := hide (show ∀ w' : World, Below (w.alloc (.cells #[.string x.name, .slice x.ch.ao x.cols.length x.ch.cap, .slice x.prim.h.ao x.prim.l.length x.prim.h.cap, .slice x.uh.ao x.uniqs.length x.uh.cap, .slice x.fh.ao x.fors.length x.fh.cap, .slice x.kh.ao x.checks.length x.kh.cap] 39)).heap.size (w.alloc (.cells #[.string x.name, .slice x.ch.ao x.cols.length x.ch.cap, .slice x.prim.h.ao x.prim.l.length x.prim.h.cap, .slice x.uh.ao x.uniqs.length x.uh.cap, .slice x.fh.ao x.fors.length x.fh.cap, .slice x.kh.ao x.checks.length x.kh.cap] 39)) w' → ∀ (j : Nat) (v : Value), (#[.string x.name, .slice x.ch.ao x.cols.length x.ch.cap, .slice x.prim.h.ao x.prim.l.length x.prim.h.cap, .slice x.uh.ao x.uniqs.length x.uh.cap, .slice x.fh.ao x.fors.length x.fh.cap, .slice x.kh.ao x.checks.length x.kh.cap] : Array Value)[j]? = some v → w'.cell? ⟨w.heap.size, j, none⟩ = some v from fun w' h j v hv => box_cell h hv)
  have HCS := hide hcs
  have n1 := hx.rc.len
  have n2 := hx.ru.len
  have n3 := hx.rf.len
  have n4 := hx.rk.len
  have n5 := hx.rp.1.len
  clear hx hcs
  by_cases c1 : (8 : Int) < x.cols.length
  · have HR := hide (show tableE x = 8 by unfold tableE; rw [if_pos (.inl (by omega))])
    go_enter Tryd.func27, Tryd.ntmps27
    go_wp2
    go_ret
    exact ⟨ret1 HR.out.symm, HB0.out⟩
  by_cases c2 : (3 : Int) < x.uniqs.length
  · have HR := hide (show tableE x = 8 by unfold tableE; rw [if_pos (.inr (.inl (by omega)))])
    go_enter Tryd.func27, Tryd.ntmps27
    go_wp2
    go_ret
    exact ⟨ret1 HR.out.symm, HB0.out⟩
  by_cases c3 : (3 : Int) < x.fors.length
  · have HR := hide (show tableE x = 8 by unfold tableE; rw [if_pos (.inr (.inr (.inl (by omega))))])
    go_enter Tryd.func27, Tryd.ntmps27
    go_wp2
    go_ret
    exact ⟨ret1 HR.out.symm, HB0.out⟩
  by_cases c4 : (4 : Int) < x.checks.length
  · have HR := hide (show tableE x = 8 by unfold tableE; rw [if_pos (.inr (.inr (.inr (by omega))))])
    go_enter Tryd.func27, Tryd.ntmps27
    go_wp2
    go_ret
    exact ⟨ret1 HR.out.symm, HB0.out⟩
  have HNC := hide (show ¬ (8 < x.cols.length ∨ 3 < x.uniqs.length ∨ 3 < x.fors.length ∨ 4 < x.checks.length) by omega)
  by_cases h0 : x.cols.length = 0
  · have HR := hide (show tableE x = 9 by unfold tableE; rw [if_neg HNC.out, if_pos h0])
    have h0b : ((x.cols.length : Int) == 0) = true := beq_iff_eq.2 (by omega)
    clear h0
    go_enter Tryd.func27, Tryd.ntmps27
    go_wp2
    go_ret
    exact ⟨ret1 HR.out.symm, HB0.out⟩
  have h0b : ((x.cols.length : Int) == 0) = false := beq_eq_false_iff_ne.2 (by omega)
  have hpos : 0 < x.cols.length := by omega
  clear h0
  go_enter Tryd.func27, Tryd.ntmps27
  go_wp2
  go_loopw [3] (fun i wr => ∃ k : Nat, k ≤ x.cols.length ∧ i = .int .i64 k ∧ Hid (∀ j (hj : j < x.cols.length), j < k → colE x x.cols[j] j = 0) ∧ Hid (Below (w.alloc (.cells #[.string x.name, .slice x.ch.ao x.cols.length x.ch.cap, .slice x.prim.h.ao x.prim.l.length x.prim.h.cap, .slice x.uh.ao x.uniqs.length x.uh.cap, .slice x.fh.ao x.fors.length x.fh.cap, .slice x.kh.ao x.checks.length x.kh.cap] 39)).heap.size (w.alloc (.cells #[.string x.name, .slice x.ch.ao x.cols.length x.ch.cap, .slice x.prim.h.ao x.prim.l.length x.prim.h.cap, .slice x.uh.ao x.uniqs.length x.uh.cap, .slice x.fh.ao x.fors.length x.fh.cap, .slice x.kh.ao x.checks.length x.kh.cap] 39)) wr)) (fun i _ => x.cols.length - (intOf i).toNat)
  case atStart => exact ⟨0, Nat.zero_le _, rfl, fun j _ h => absurd h (by omega), Below.refl _ _⟩
  case round =>
    obtain ⟨k, hk, rfl, HN, HBW⟩ := hrel
    have HXR := hide (HX.out.mono HBW.out)
    have x0 := HY.out _ HBW.out 0 _ rfl
    have x1 := HY.out _ HBW.out 1 _ rfl
    have x2 := HY.out _ HBW.out 2 _ rfl
    have x3 := HY.out _ HBW.out 3 _ rfl
    have x4 := HY.out _ HBW.out 4 _ rfl
    have x5 := HY.out _ HBW.out 5 _ rfl
    by_cases hlt : k < x.cols.length
    · have hix := HXR.out.rc.ix hlt Tryd.underlying34 sz30
      obtain ⟨q0, q1, q2⟩ := col_at HXR.out.rc hlt
      have hbk := HXR.out.rc.blk hlt
      have HNM := hide (show (x.cols[k]).name.size ≤ 9223372036854775807 by have := (HXR.out.cs _ (List.getElem_mem hlt)).1; unfold maxLen at this; omega)
      have HCE := hide (show colE x x.cols[k] k = if pb (IsName (x.cols[k]).name) = false then 3 else if fi (cnamed (x.cols[k]).name) x.cols ≠ k then 5 else if isT (x.cols[k]).typ = false then 4 else 0 from rfl)
      obtain ⟨bn, hbn⟩ : ∃ b, pb (IsName (x.cols[k]).name) = b := ⟨_, rfl⟩
      have HBN := hide hbn
      rw [hbn] at HCE
      clear hbn
      cases bn
      · have HC3 := hide (HCE.out.trans (if_pos rfl))
        have HR := hide ((tabE_col HNC.out hlt HN.out (by rw [HC3.out]; decide)).trans HC3.out)
        go_wp2_with (first
          | (go_at_call 25; refine (rname_any _ _ HNM.out).mono ?_; rintro e w1 ⟨rfl, hb1⟩; rw [HBN.out]; have HB1 := hide (HBW.out.trans ((bel_trans (belA _) hb1).mono HBW.out.size)); have g0 := box_cell hb1 (j := 0) rfl; have g1 := box_cell hb1 (j := 1) rfl; have g2 := box_cell hb1 (j := 2) rfl; have HG := hide hb1; clear hb1 x0 x1 x2 x3 x4 x5; have y0 := HY.out _ HB1.out 0 _ rfl; have y1 := HY.out _ HB1.out 1 _ rfl; have y2 := HY.out _ HB1.out 2 _ rfl; have y3 := HY.out _ HB1.out 3 _ rfl; have y4 := HY.out _ HB1.out 4 _ rfl; have y5 := HY.out _ HB1.out 5 _ rfl))
        go_ret
        exact ⟨ret1 HR.out.symm, HB0.out.trans (HB1.out.mono HB0.out.size)⟩
      obtain ⟨f, hfi⟩ : ∃ f, fi (cnamed (x.cols[k]).name) x.cols = f := ⟨_, rfl⟩
      have HFI := hide hfi
      rw [hfi] at HCE
      clear hfi
      by_cases hfk : f = k
      rotate_left
      · have HC5 := hide ((HCE.out.trans (if_neg (by simp))).trans (if_pos hfk))
        have HR := hide ((tabE_col HNC.out hlt HN.out (by rw [HC5.out]; decide)).trans HC5.out)
        have hfb : (f == (k : Int)) = false := beq_eq_false_iff_ne.2 hfk
        clear hfk
        go_wp2_with (first
          | (go_at_call 25; refine (rname_any _ _ HNM.out).mono ?_; rintro e w1 ⟨rfl, hb1⟩; rw [HBN.out]; have HB1 := hide (HBW.out.trans ((bel_trans (belA _) hb1).mono HBW.out.size)); have g0 := box_cell hb1 (j := 0) rfl; have g1 := box_cell hb1 (j := 1) rfl; have g2 := box_cell hb1 (j := 2) rfl; have HG := hide hb1; clear hb1 x0 x1 x2 x3 x4 x5; have y0 := HY.out _ HB1.out 0 _ rfl; have y1 := HY.out _ HB1.out 1 _ rfl; have y2 := HY.out _ HB1.out 2 _ rfl; have y3 := HY.out _ HB1.out 3 _ rfl; have y4 := HY.out _ HB1.out 4 _ rfl; have y5 := HY.out _ HB1.out 5 _ rfl)
          | (go_at_call 54; refine (rcolumn_any x _ _ (HX.out.mono HB1.out)).mono ?_; rintro e w2 ⟨rfl, hb2⟩; rw [HFI.out]; have HB2 := hide (bel_trans HB1.out hb2); have hg2 := bel_trans HG.out hb2; clear g0 g1 g2; have g1 := box_cell hg2 (j := 1) rfl; clear hb2 hg2 y0 y1 y2 y3 y4 y5))
        go_ret
        exact ⟨ret1 HR.out.symm, HB0.out.trans (HB2.out.mono HB0.out.size)⟩
      subst hfk
      have HC6 := hide ((HCE.out.trans (if_neg (by simp))).trans (if_neg (by simp)))
      obtain ⟨t, ht⟩ : ∃ t, (x.cols[k]).typ = t := ⟨_, rfl⟩
      rw [ht] at q1 HC6
      clear ht
      by_cases t1 : t < 1
      · have HC4 := hide (HC6.out.trans (if_pos (show isT t = false from decide_eq_false (by omega))))
        have HR := hide ((tabE_col HNC.out hlt HN.out (by rw [HC4.out]; decide)).trans HC4.out)
        go_wp2_with (first
          | (go_at_call 25; refine (rname_any _ _ HNM.out).mono ?_; rintro e w1 ⟨rfl, hb1⟩; rw [HBN.out]; have HB1 := hide (HBW.out.trans ((bel_trans (belA _) hb1).mono HBW.out.size)); have g0 := box_cell hb1 (j := 0) rfl; have g1 := box_cell hb1 (j := 1) rfl; have g2 := box_cell hb1 (j := 2) rfl; have HG := hide hb1; clear hb1 x0 x1 x2 x3 x4 x5; have y0 := HY.out _ HB1.out 0 _ rfl; have y1 := HY.out _ HB1.out 1 _ rfl; have y2 := HY.out _ HB1.out 2 _ rfl; have y3 := HY.out _ HB1.out 3 _ rfl; have y4 := HY.out _ HB1.out 4 _ rfl; have y5 := HY.out _ HB1.out 5 _ rfl)
          | (go_at_call 54; refine (rcolumn_any x _ _ (HX.out.mono HB1.out)).mono ?_; rintro e w2 ⟨rfl, hb2⟩; rw [HFI.out]; have HB2 := hide (bel_trans HB1.out hb2); have hg2 := bel_trans HG.out hb2; clear g0 g1 g2; have g1 := box_cell hg2 (j := 1) rfl; clear hb2 hg2 y0 y1 y2 y3 y4 y5))
        go_ret
        exact ⟨ret1 HR.out.symm, HB0.out.trans (HB2.out.mono HB0.out.size)⟩
      by_cases t3 : 3 < t
      · have HC4 := hide (HC6.out.trans (if_pos (show isT t = false from decide_eq_false (by omega))))
        have HR := hide ((tabE_col HNC.out hlt HN.out (by rw [HC4.out]; decide)).trans HC4.out)
        go_wp2_with (first
          | (go_at_call 25; refine (rname_any _ _ HNM.out).mono ?_; rintro e w1 ⟨rfl, hb1⟩; rw [HBN.out]; have HB1 := hide (HBW.out.trans ((bel_trans (belA _) hb1).mono HBW.out.size)); have g0 := box_cell hb1 (j := 0) rfl; have g1 := box_cell hb1 (j := 1) rfl; have g2 := box_cell hb1 (j := 2) rfl; have HG := hide hb1; clear hb1 x0 x1 x2 x3 x4 x5; have y0 := HY.out _ HB1.out 0 _ rfl; have y1 := HY.out _ HB1.out 1 _ rfl; have y2 := HY.out _ HB1.out 2 _ rfl; have y3 := HY.out _ HB1.out 3 _ rfl; have y4 := HY.out _ HB1.out 4 _ rfl; have y5 := HY.out _ HB1.out 5 _ rfl)
          | (go_at_call 54; refine (rcolumn_any x _ _ (HX.out.mono HB1.out)).mono ?_; rintro e w2 ⟨rfl, hb2⟩; rw [HFI.out]; have HB2 := hide (bel_trans HB1.out hb2); have hg2 := bel_trans HG.out hb2; clear g0 g1 g2; have g1 := box_cell hg2 (j := 1) rfl; clear hb2 hg2 y0 y1 y2 y3 y4 y5))
        go_ret
        exact ⟨ret1 HR.out.symm, HB0.out.trans (HB2.out.mono HB0.out.size)⟩
      have HC0 := hide (HC6.out.trans (if_neg (by rw [show isT t = true from decide_eq_true (by omega)]; simp)))
      have HNN := hide (show ∀ j (hj : j < x.cols.length), j < k + 1 → colE x x.cols[j] j = 0 from fun j hj h => by
        by_cases e : j = k
        · subst e; exact HC0.out
        · exact HN.out j hj (by omega))
      clear HC6
      go_wp2_with (first
        | (go_at_call 25; refine (rname_any _ _ HNM.out).mono ?_; rintro e w1 ⟨rfl, hb1⟩; rw [HBN.out]; have HB1 := hide (HBW.out.trans ((bel_trans (belA _) hb1).mono HBW.out.size)); have g0 := box_cell hb1 (j := 0) rfl; have g1 := box_cell hb1 (j := 1) rfl; have g2 := box_cell hb1 (j := 2) rfl; have HG := hide hb1; clear hb1 x0 x1 x2 x3 x4 x5; have y0 := HY.out _ HB1.out 0 _ rfl; have y1 := HY.out _ HB1.out 1 _ rfl; have y2 := HY.out _ HB1.out 2 _ rfl; have y3 := HY.out _ HB1.out 3 _ rfl; have y4 := HY.out _ HB1.out 4 _ rfl; have y5 := HY.out _ HB1.out 5 _ rfl)
        | (go_at_call 54; refine (rcolumn_any x _ _ (HX.out.mono HB1.out)).mono ?_; rintro e w2 ⟨rfl, hb2⟩; rw [HFI.out]; have HB2 := hide (bel_trans HB1.out hb2); have hg2 := bel_trans HG.out hb2; clear g0 g1 g2; have g1 := box_cell hg2 (j := 1) rfl; clear hb2 hg2 y0 y1 y2 y3 y4 y5))
      go_roundw
      case rel => exact ⟨k + 1, by omega, by go_num, HNN.out, HB2.out⟩
      case measure => simp [intOf]; omega
    · have HR0 := hide (tabE_rest HNC.out hpos (fun j hj => HN.out j hj (by omega)))
      clear HN
      obtain ⟨bp, hbp⟩ : ∃ b, keyB x.cols.length x.prim.l = b := ⟨_, rfl⟩
      have HBP := hide hbp
      clear hbp
      cases bp
      · have HR := hide (HR0.out.trans (show _ = (6 : Int) by rw [keysE_prim HBP.out]; exact firstE_cons (by decide) _))
        go_wp2_with (first
          | (go_at_call 55; refine (listed_any x x.prim _ HXR.out.rp).mono ?_; rintro e w1 ⟨rfl, hb1⟩; rw [HBP.out]; have HB1 := hide (bel_trans HBW.out hb1); clear hb1 x0 x1 x2 x3 x4 x5))
        go_ret
        exact ⟨ret1 HR.out.symm, HB0.out.trans (HB1.out.mono HB0.out.size)⟩
      have HKO := hide (keyOk_of HBP.out)
      go_wp2_with (first
        | (go_at_call 55; refine (listed_any x x.prim _ HXR.out.rp).mono ?_; rintro e w1 ⟨rfl, hb1⟩; rw [HBP.out]; have HB1 := hide (bel_trans HBW.out hb1); clear hb1 x0 x1 x2 x3 x4 x5))
      clear HBW HXR
      go_loopw [7] (fun i wr => ∃ k : Nat, k ≤ x.prim.l.length ∧ i = .int .i64 k ∧ Hid (∀ j (hj : j < x.prim.l.length), j < k → pn x x.prim.l[j] = false) ∧ Hid (Below (w.alloc (.cells #[.string x.name, .slice x.ch.ao x.cols.length x.ch.cap, .slice x.prim.h.ao x.prim.l.length x.prim.h.cap, .slice x.uh.ao x.uniqs.length x.uh.cap, .slice x.fh.ao x.fors.length x.fh.cap, .slice x.kh.ao x.checks.length x.kh.cap] 39)).heap.size (w.alloc (.cells #[.string x.name, .slice x.ch.ao x.cols.length x.ch.cap, .slice x.prim.h.ao x.prim.l.length x.prim.h.cap, .slice x.uh.ao x.uniqs.length x.uh.cap, .slice x.fh.ao x.fors.length x.fh.cap, .slice x.kh.ao x.checks.length x.kh.cap] 39)) wr)) (fun i _ => x.prim.l.length - (intOf i).toNat)
      case atStart => exact ⟨0, Nat.zero_le _, rfl, fun j _ h => absurd h (by omega), HB1.out⟩
      clear HB1
      case round =>
        obtain ⟨a, ha, rfl, HN, HBW⟩ := hrel
        have HXR := hide (HX.out.mono HBW.out)
        have x0 := HY.out _ HBW.out 0 _ rfl
        have x1 := HY.out _ HBW.out 1 _ rfl
        have x2 := HY.out _ HBW.out 2 _ rfl
        have x3 := HY.out _ HBW.out 3 _ rfl
        have x4 := HY.out _ HBW.out 4 _ rfl
        have x5 := HY.out _ HBW.out 5 _ rfl
        by_cases hlt2 : a < x.prim.l.length
        · have hixp := IL.ix HXR.out.rp hlt2
          have p0 := int_at HXR.out.rp.1 hlt2
          have hbp := HXR.out.rp.1.blk hlt2
          obtain ⟨c, hc⟩ : ∃ c : Nat, x.prim.l[a] = c := ⟨(x.prim.l[a]).toNat, by have := (HKO.out.2 a hlt2).1; omega⟩
          have hcl : c < x.cols.length := by have := (HKO.out.2 a hlt2).2.1; omega
          have HPN := hide (show pn x x.prim.l[a] = (x.cols[c]).nul by rw [hc]; simp [pn, List.getD, hcl])
          rw [hc] at p0
          have hixc := HXR.out.rc.ix hcl Tryd.underlying34 sz30
          obtain ⟨d0, d1, d2⟩ := col_at HXR.out.rc hcl
          have hbc := HXR.out.rc.blk hcl
          clear hc
          cases hnl : (x.cols[c]).nul
          · have HNF := hide (HPN.out.trans hnl)
            rw [hnl] at d2
            go_wp2
            go_quiet (fail)
            go_wp2
            go_roundw
            case rel =>
              refine ⟨a + 1, by omega, by go_num, fun j hj h => ?_, below_drewN HBW.out _⟩
              by_cases e : j = a
              · subst e; exact HNF.out
              · exact HN.out j hj (by omega)
            case measure => simp [intOf]; omega
          · have HR := hide (HR0.out.trans (show _ = (4 : Int) by rw [keysE_nul HBP.out hlt2 (HPN.out.trans hnl)]; exact firstE_cons (by decide) _))
            rw [hnl] at d2
            go_wp2
            go_quiet (fail)
            go_wp2
            go_ret
            exact ⟨ret1 HR.out.symm, HB0.out.trans ((below_drewN HBW.out _).mono HB0.out.size)⟩
        · have HKT := hide (keysE_tail HBP.out (fun j hj => HN.out j hj (by omega)))
          clear HN
          go_wp2
          go_loopw [8] (fun i wr => ∃ k : Nat, k ≤ x.uniqs.length ∧ i = .int .i64 k ∧ Hid (∀ j (hj : j < x.uniqs.length), j < k → keyB x.cols.length (x.uniqs[j]).l = true) ∧ Hid (Below (w.alloc (.cells #[.string x.name, .slice x.ch.ao x.cols.length x.ch.cap, .slice x.prim.h.ao x.prim.l.length x.prim.h.cap, .slice x.uh.ao x.uniqs.length x.uh.cap, .slice x.fh.ao x.fors.length x.fh.cap, .slice x.kh.ao x.checks.length x.kh.cap] 39)).heap.size (w.alloc (.cells #[.string x.name, .slice x.ch.ao x.cols.length x.ch.cap, .slice x.prim.h.ao x.prim.l.length x.prim.h.cap, .slice x.uh.ao x.uniqs.length x.uh.cap, .slice x.fh.ao x.fors.length x.fh.cap, .slice x.kh.ao x.checks.length x.kh.cap] 39)) wr)) (fun i _ => x.uniqs.length - (intOf i).toNat)
          case atStart => exact ⟨0, Nat.zero_le _, rfl, fun j _ h => absurd h (by omega), HBW.out⟩
          clear HBW HXR x0 x1 x2 x3 x4 x5
          case round =>
            obtain ⟨a, ha, rfl, HNU, HBW⟩ := hrel
            have HXR := hide (HX.out.mono HBW.out)
            have x0 := HY.out _ HBW.out 0 _ rfl
            have x1 := HY.out _ HBW.out 1 _ rfl
            have x2 := HY.out _ HBW.out 2 _ rfl
            have x3 := HY.out _ HBW.out 3 _ rfl
            have x4 := HY.out _ HBW.out 4 _ rfl
            have x5 := HY.out _ HBW.out 5 _ rfl
            by_cases hlt3 : a < x.uniqs.length
            · have hixu : ∀ U, (Instr.indexAt 35 (.slice x.uh.ao x.uniqs.length x.uh.cap) (.int .i64 (a : Int))).run Tryd.prog U = .ok (.pointer (some ⟨x.uh.b, x.uh.o + a, none⟩)) U := fun U => by simpa using HXR.out.ru.ix hlt3 Tryd.underlying35 szil U
              obtain ⟨l, hl⟩ : ∃ l, x.uniqs[a] = l := ⟨_, rfl⟩
              have HLI := hide (show l.In wr from hl ▸ HXR.out.us _ (List.getElem_mem hlt3))
              have HLM := hide (show l ∈ x.uniqs ++ x.fors.map Frn.cols from List.mem_append_left _ (hl ▸ List.getElem_mem hlt3))
              have HQ := hide (show ∀ w' : World, Below wr.heap.size wr w' → w'.cell? ⟨x.uh.b, x.uh.o + a, none⟩ = some (.slice l.h.ao l.l.length l.h.cap) from fun w' h => hl ▸ il_at (HXR.out.mono h).ru hlt3)
              have hq := HQ.out
              have HLU := hide hl
              clear hl
              have ht0 : ∀ w' : World, Below wr.heap.size wr w' → w'.cell? ⟨w.heap.size, 0, none⟩ = some (.string x.name) := fun w' h => HY.out w' (bel_trans HBW.out h) 0 _ rfl
              have ht1 : ∀ w' : World, Below wr.heap.size wr w' → w'.cell? ⟨w.heap.size, 1, none⟩ = some (.slice x.ch.ao x.cols.length x.ch.cap) := fun w' h => HY.out w' (bel_trans HBW.out h) 1 _ rfl
              have ht2 : ∀ w' : World, Below wr.heap.size wr w' → w'.cell? ⟨w.heap.size, 2, none⟩ = some (.slice x.prim.h.ao x.prim.l.length x.prim.h.cap) := fun w' h => HY.out w' (bel_trans HBW.out h) 2 _ rfl
              have ht3 : ∀ w' : World, Below wr.heap.size wr w' → w'.cell? ⟨w.heap.size, 3, none⟩ = some (.slice x.uh.ao x.uniqs.length x.uh.cap) := fun w' h => HY.out w' (bel_trans HBW.out h) 3 _ rfl
              have ht4 : ∀ w' : World, Below wr.heap.size wr w' → w'.cell? ⟨w.heap.size, 4, none⟩ = some (.slice x.fh.ao x.fors.length x.fh.cap) := fun w' h => HY.out w' (bel_trans HBW.out h) 4 _ rfl
              have ht5 : ∀ w' : World, Below wr.heap.size wr w' → w'.cell? ⟨w.heap.size, 5, none⟩ = some (.slice x.kh.ao x.checks.length x.kh.cap) := fun w' h => HY.out w' (bel_trans HBW.out h) 5 _ rfl
              obtain ⟨bl, hbl⟩ : ∃ b, keyB x.cols.length l.l = b := ⟨_, rfl⟩
              have HBL := hide hbl
              clear hbl
              clear x0 x1 x2 x4 x5
              go_upto_region 26 with (fail)
              clear x3
              go_region_held3 (fun w' => Below wr.heap.size wr w') ((first | exact (Below.refl _ _).drew | exact bel_trans (by assumption) (by assumption))) (first | (go_at_call 55; refine (listed_any x l _ (HLI.out.mono (by assumption))).mono ?_; rintro e' y1 ⟨rfl, hk1⟩; rw [HBL.out]))
              have HBF := hide (bel_trans HBW.out (show Below wr.heap.size wr y1 by assumption))
              cases bl
              · have HR := hide (HR0.out.trans (show _ = (6 : Int) by rw [HKT.out, all_no HLM.out HBL.out]; exact firstE_cons (by decide) _))
                go_wp2
                go_ret
                exact ⟨ret1 HR.out.symm, HB0.out.trans (HBF.out.mono HB0.out.size)⟩
              · go_wp2
                go_roundw
                case rel =>
                  refine ⟨a + 1, by omega, by go_num, fun j hj h => ?_, HBF.out⟩
                  by_cases e : j = a
                  · subst e; rw [HLU.out]; exact HBL.out
                  · exact HNU.out j hj (by omega)
                case measure => simp [intOf]; omega
            · have HNU2 := hide (show ∀ j (hj : j < x.uniqs.length), keyB x.cols.length (x.uniqs[j]).l = true from fun j hj => HNU.out j hj (by omega))
              clear HNU
              go_wp2
              go_loopw [9] (fun i wr => ∃ k : Nat, k ≤ x.fors.length ∧ i = .int .i64 k ∧ Hid (∀ j (hj : j < x.fors.length), j < k → keyB x.cols.length (x.fors[j]).cols.l = true) ∧ Hid (Below (w.alloc (.cells #[.string x.name, .slice x.ch.ao x.cols.length x.ch.cap, .slice x.prim.h.ao x.prim.l.length x.prim.h.cap, .slice x.uh.ao x.uniqs.length x.uh.cap, .slice x.fh.ao x.fors.length x.fh.cap, .slice x.kh.ao x.checks.length x.kh.cap] 39)).heap.size (w.alloc (.cells #[.string x.name, .slice x.ch.ao x.cols.length x.ch.cap, .slice x.prim.h.ao x.prim.l.length x.prim.h.cap, .slice x.uh.ao x.uniqs.length x.uh.cap, .slice x.fh.ao x.fors.length x.fh.cap, .slice x.kh.ao x.checks.length x.kh.cap] 39)) wr)) (fun i _ => x.fors.length - (intOf i).toNat)
              case atStart => exact ⟨0, Nat.zero_le _, rfl, fun j _ h => absurd h (by omega), HBW.out⟩
              clear HBW HXR x0 x1 x2 x3 x4 x5
              case round =>
                obtain ⟨a, ha, rfl, HNF, HBW⟩ := hrel
                have HXR := hide (HX.out.mono HBW.out)
                have x0 := HY.out _ HBW.out 0 _ rfl
                have x1 := HY.out _ HBW.out 1 _ rfl
                have x2 := HY.out _ HBW.out 2 _ rfl
                have x3 := HY.out _ HBW.out 3 _ rfl
                have x4 := HY.out _ HBW.out 4 _ rfl
                have x5 := HY.out _ HBW.out 5 _ rfl
                by_cases hlt4 : a < x.fors.length
                · have hixf := HXR.out.rf.ix hlt4 Tryd.underlying36 sz61
                  obtain ⟨l, hl⟩ : ∃ l, (x.fors[a]).cols = l := ⟨_, rfl⟩
                  have HLI := hide (show l.In wr from hl ▸ (HXR.out.fs _ (List.getElem_mem hlt4)).1)
                  have HLM := hide (show l ∈ x.uniqs ++ x.fors.map Frn.cols from List.mem_append_right _ (hl ▸ List.mem_map.2 ⟨_, List.getElem_mem hlt4, rfl⟩))
                  have HQ := hide (show ∀ w' : World, Below wr.heap.size wr w' → w'.cell? ⟨x.fh.b, x.fh.o + a * 2, none⟩ = some (.slice l.h.ao l.l.length l.h.cap) from fun w' h => hl ▸ (frn_at (HXR.out.mono h).rf hlt4).1)
                  have hq := HQ.out
                  have HLU := hide hl
                  clear hl
                  have ht0 : ∀ w' : World, Below wr.heap.size wr w' → w'.cell? ⟨w.heap.size, 0, none⟩ = some (.string x.name) := fun w' h => HY.out w' (bel_trans HBW.out h) 0 _ rfl
                  have ht1 : ∀ w' : World, Below wr.heap.size wr w' → w'.cell? ⟨w.heap.size, 1, none⟩ = some (.slice x.ch.ao x.cols.length x.ch.cap) := fun w' h => HY.out w' (bel_trans HBW.out h) 1 _ rfl
                  have ht2 : ∀ w' : World, Below wr.heap.size wr w' → w'.cell? ⟨w.heap.size, 2, none⟩ = some (.slice x.prim.h.ao x.prim.l.length x.prim.h.cap) := fun w' h => HY.out w' (bel_trans HBW.out h) 2 _ rfl
                  have ht3 : ∀ w' : World, Below wr.heap.size wr w' → w'.cell? ⟨w.heap.size, 3, none⟩ = some (.slice x.uh.ao x.uniqs.length x.uh.cap) := fun w' h => HY.out w' (bel_trans HBW.out h) 3 _ rfl
                  have ht4 : ∀ w' : World, Below wr.heap.size wr w' → w'.cell? ⟨w.heap.size, 4, none⟩ = some (.slice x.fh.ao x.fors.length x.fh.cap) := fun w' h => HY.out w' (bel_trans HBW.out h) 4 _ rfl
                  have ht5 : ∀ w' : World, Below wr.heap.size wr w' → w'.cell? ⟨w.heap.size, 5, none⟩ = some (.slice x.kh.ao x.checks.length x.kh.cap) := fun w' h => HY.out w' (bel_trans HBW.out h) 5 _ rfl
                  obtain ⟨bl, hbl⟩ : ∃ b, keyB x.cols.length l.l = b := ⟨_, rfl⟩
                  have HBL := hide hbl
                  clear hbl
                  clear x0 x1 x2 x3 x5
                  go_upto_region 31 with (fail)
                  clear x4
                  go_region_held3 (fun w' => Below wr.heap.size wr w') ((first | exact (Below.refl _ _).drew | exact bel_trans (by assumption) (by assumption))) (first | (go_at_call 55; refine (listed_any x l _ (HLI.out.mono (by assumption))).mono ?_; rintro e' y1 ⟨rfl, hk1⟩; rw [HBL.out]))
                  have HBF := hide (bel_trans HBW.out (show Below wr.heap.size wr y1 by assumption))
                  cases bl
                  · have HR := hide (HR0.out.trans (show _ = (6 : Int) by rw [HKT.out, all_no HLM.out HBL.out]; exact firstE_cons (by decide) _))
                    go_wp2
                    go_ret
                    exact ⟨ret1 HR.out.symm, HB0.out.trans (HBF.out.mono HB0.out.size)⟩
                  · go_wp2
                    go_roundw
                    case rel =>
                      refine ⟨a + 1, by omega, by go_num, fun j hj h => ?_, HBF.out⟩
                      by_cases e : j = a
                      · subst e; rw [HLU.out]; exact HBL.out
                      · exact HNF.out j hj (by omega)
                    case measure => simp [intOf]; omega
                · have HR1 := hide (HR0.out.trans (show _ = firstE (x.checks.map (chkE x)) by rw [HKT.out, all_yes HNU2.out (fun j hj => HNF.out j hj (by omega))]; exact firstE_cons0 _))
                  clear HNF HNU2 HKT
                  go_wp2
                  go_loopw [10] (fun i wr => ∃ m : Nat, m ≤ x.checks.length ∧ i = .int .i64 m ∧ Hid (∀ j (hj : j < x.checks.length), j < m → chkE x x.checks[j] = 0) ∧ Hid (Below (w.alloc (.cells #[.string x.name, .slice x.ch.ao x.cols.length x.ch.cap, .slice x.prim.h.ao x.prim.l.length x.prim.h.cap, .slice x.uh.ao x.uniqs.length x.uh.cap, .slice x.fh.ao x.fors.length x.fh.cap, .slice x.kh.ao x.checks.length x.kh.cap] 39)).heap.size (w.alloc (.cells #[.string x.name, .slice x.ch.ao x.cols.length x.ch.cap, .slice x.prim.h.ao x.prim.l.length x.prim.h.cap, .slice x.uh.ao x.uniqs.length x.uh.cap, .slice x.fh.ao x.fors.length x.fh.cap, .slice x.kh.ao x.checks.length x.kh.cap] 39)) wr)) (fun i _ => x.checks.length - (intOf i).toNat)
                  case atStart => exact ⟨0, Nat.zero_le _, rfl, fun j _ h => absurd h (by omega), HBW.out⟩
                  clear HBW HXR x0 x1 x2 x3 x4 x5
                  case round =>
                    obtain ⟨m, hm, rfl, HN2, HBZ⟩ := hrel
                    have HXZ := hide (HX.out.mono HBZ.out)
                    have x5 := HY.out _ HBZ.out 5 _ rfl
                    by_cases hml : m < x.checks.length
                    · have hix := HXZ.out.rk.ix hml Tryd.underlying37 sz41
                      have HES := hide (HCS.out _ (List.getElem_mem hml))
                      obtain ⟨e, he⟩ : ∃ e, x.checks[m] = e := ⟨_, rfl⟩
                      rw [he] at HES
                      obtain ⟨⟨tt, te⟩, htv⟩ : ∃ p, e.typ2 (x.cols.map Col.typ) = p := ⟨_, rfl⟩
                      have HTY := hide htv
                      have HCH := hide (show chkE x x.checks[m] = if te ≠ 0 then te else if tt ≠ 2 then 4 else 0 by rw [he]; unfold chkE; rw [htv])
                      have HEW := hide (show ∀ w' : World, Below wr.heap.size wr w' → e.In w' from fun w' h => he ▸ (HXZ.out.mono h).ks _ (List.getElem_mem hml))
                      have HXI := hide (show ∀ w' : World, Below wr.heap.size wr w' → x.In w' from fun w' h => HXZ.out.mono h)
                      have HKK := hide (show ∀ w' : World, Below wr.heap.size wr w' → w'.cell? ⟨x.kh.b, x.kh.o + m * 6, none⟩ = some (.int .i64 e.op) ∧ w'.cell? ⟨x.kh.b, x.kh.o + m * 6 + 1, none⟩ = some (.int .i64 e.typ) ∧ w'.cell? ⟨x.kh.b, x.kh.o + m * 6 + 2, none⟩ = some (.int .i64 e.num) ∧ w'.cell? ⟨x.kh.b, x.kh.o + m * 6 + 3, none⟩ = some (.string e.text) ∧ w'.cell? ⟨x.kh.b, x.kh.o + m * 6 + 4, none⟩ = some (.int .i64 e.col) ∧ w'.cell? ⟨x.kh.b, x.kh.o + m * 6 + 5, none⟩ = some (.slice e.kh.ao e.kids.length e.kh.cap) from fun w' h => he ▸ ex_at (HXZ.out.mono h).rk hml)
                      clear he htv
                      have hc8 : x.cols.length ≤ 100 := by omega
                      have ht0 : ∀ w' : World, Below wr.heap.size wr w' → w'.cell? ⟨w.heap.size, 0, none⟩ = some (.string x.name) := fun w' h => HY.out w' (bel_trans HBZ.out h) 0 _ rfl
                      have ht1 : ∀ w' : World, Below wr.heap.size wr w' → w'.cell? ⟨w.heap.size, 1, none⟩ = some (.slice x.ch.ao x.cols.length x.ch.cap) := fun w' h => HY.out w' (bel_trans HBZ.out h) 1 _ rfl
                      have ht2 : ∀ w' : World, Below wr.heap.size wr w' → w'.cell? ⟨w.heap.size, 2, none⟩ = some (.slice x.prim.h.ao x.prim.l.length x.prim.h.cap) := fun w' h => HY.out w' (bel_trans HBZ.out h) 2 _ rfl
                      have ht3 : ∀ w' : World, Below wr.heap.size wr w' → w'.cell? ⟨w.heap.size, 3, none⟩ = some (.slice x.uh.ao x.uniqs.length x.uh.cap) := fun w' h => HY.out w' (bel_trans HBZ.out h) 3 _ rfl
                      have ht4 : ∀ w' : World, Below wr.heap.size wr w' → w'.cell? ⟨w.heap.size, 4, none⟩ = some (.slice x.fh.ao x.fors.length x.fh.cap) := fun w' h => HY.out w' (bel_trans HBZ.out h) 4 _ rfl
                      have ht5 : ∀ w' : World, Below wr.heap.size wr w' → w'.cell? ⟨w.heap.size, 5, none⟩ = some (.slice x.kh.ao x.checks.length x.kh.cap) := fun w' h => HY.out w' (bel_trans HBZ.out h) 5 _ rfl
                      have hk0 : ∀ w' : World, Below wr.heap.size wr w' → w'.cell? ⟨x.kh.b, x.kh.o + m * 6, none⟩ = some (.int .i64 e.op) := fun w' h => (HKK.out w' h).1
                      have hk1 : ∀ w' : World, Below wr.heap.size wr w' → w'.cell? ⟨x.kh.b, x.kh.o + m * 6 + 1, none⟩ = some (.int .i64 e.typ) := fun w' h => (HKK.out w' h).2.1
                      have hk2 : ∀ w' : World, Below wr.heap.size wr w' → w'.cell? ⟨x.kh.b, x.kh.o + m * 6 + 2, none⟩ = some (.int .i64 e.num) := fun w' h => (HKK.out w' h).2.2.1
                      have hk3 : ∀ w' : World, Below wr.heap.size wr w' → w'.cell? ⟨x.kh.b, x.kh.o + m * 6 + 3, none⟩ = some (.string e.text) := fun w' h => (HKK.out w' h).2.2.2.1
                      have hk4 : ∀ w' : World, Below wr.heap.size wr w' → w'.cell? ⟨x.kh.b, x.kh.o + m * 6 + 4, none⟩ = some (.int .i64 e.col) := fun w' h => (HKK.out w' h).2.2.2.2.1
                      have hk5 : ∀ w' : World, Below wr.heap.size wr w' → w'.cell? ⟨x.kh.b, x.kh.o + m * 6 + 5, none⟩ = some (.slice e.kh.ao e.kids.length e.kh.cap) := fun w' h => (HKK.out w' h).2.2.2.2.2
                      go_upto_region 36 with (fail)
                      clear x5
                      go_region_held3 (fun w' => Below wr.heap.size wr w') ((first | exact (Below.refl _ _).drew | exact bel_trans (by assumption) (by assumption))) (first
                        | (go_at_call 20; refine (rtypes_any x _ (HXI.out _ (by assumption)) hc8).mono ?_; rintro e' y1 ⟨⟨r, rfl, hrl, hri⟩, hk1⟩; have HRL := hide hrl; have HRI := hide hri; clear hrl hri)
                        | (go_at_call 56; refine (rtype_any (HEW.out _ (Below.refl _ _)) r _ (by first | exact HRI.out | exact HRI.out.mono ((Below.refl _ _).drew)) (HEW.out _ (by assumption)) HES.out).mono ?_; rintro e' y2 ⟨rfl, hk2⟩; rw [HRL.out, HTY.out]))
                      have HBY := hide (show Below wr.heap.size wr y2 by assumption)
                      have HBF := hide (bel_trans HBZ.out HBY.out)
                      by_cases hte : te = 0
                      · subst hte
                        by_cases htt : tt = 2
                        · subst htt
                          have HC0 := hide (HCH.out.trans (show _ = 0 by simp))
                          go_wp2
                          go_roundw
                          case rel =>
                            refine ⟨m + 1, by omega, by go_num, fun j hj h => ?_, HBF.out⟩
                            by_cases e' : j = m
                            · subst e'; exact HC0.out
                            · exact HN2.out j hj (by omega)
                          case measure => simp [intOf]; omega
                        · have HC4 := hide (HCH.out.trans (show _ = 4 by simp [htt]))
                          have htb : (tt == 2) = false := beq_eq_false_iff_ne.2 htt
                          have HR := hide (HR1.out.trans (chk_at hml HN2.out HC4.out (by decide)))
                          clear htt
                          go_wp2
                          go_ret
                          exact ⟨ret1 HR.out.symm, HB0.out.trans (HBF.out.mono HB0.out.size)⟩
                      · have HCE := hide (HCH.out.trans (show _ = te by simp [hte]))
                        have htb : (te == 0) = false := beq_eq_false_iff_ne.2 hte
                        have HR := hide (HR1.out.trans (chk_at hml HN2.out HCE.out hte))
                        clear hte
                        go_wp2
                        go_ret
                        exact ⟨ret1 HR.out.symm, HB0.out.trans (HBF.out.mono HB0.out.size)⟩
                    · have HR := hide (HR1.out.trans (show firstE (x.checks.map (chkE x)) = 0 by
                        have := firstE_app0 (a := x.checks.map (chkE x)) [] (fun e he => by
                          obtain ⟨c, hc, rfl⟩ := List.mem_map.1 he
                          obtain ⟨j, hj, rfl⟩ := List.getElem_of_mem hc
                          exact HN2.out j hj (by omega))
                        rw [List.append_nil] at this
                        rw [this]; rfl))
                      go_wp2
                      go_ret
                      exact ⟨ret1 HR.out.symm, HB0.out.trans (HBZ.out.mono HB0.out.size)⟩
end Go.Proofs.YtmnbhdhgjbgidaaDoor

/- schema.reference: what is wrong with a foreign key. -/
import Derived.Test.YtmnbhdhgjbgidaaDoorGS
import Derived.Test.YtmnbhdhgjbgidaaDoorGO
import Derived.Test.YtmnbhdhgjbgidaaDoorSchQ
import Derived.Deep.RegionHeld3
import Derived.Deep.DeepCutAuto
namespace Go.Proofs.YtmnbhdhgjbgidaaDoor
open Go.RowKit

/-- The type of a column. -/
def ct (x : Tab) (k : Int) : Int := (x.cols.getD k.toNat ⟨⟨#[]⟩, 0, false⟩).typ
def EqT (x y : Tab) (l m : List Int) : Prop := l.length = m.length ∧ ∀ i (h : i < l.length) (h' : i < m.length), ct x l[i] = ct y m[i]
open Classical in
noncomputable def eqT (x y : Tab) (l m : List Int) : Bool := decide (EqT x y l m)
open Classical in
theorem eqT_yes {x y : Tab} {l m : List Int} (h : EqT x y l m) : eqT x y l m = true := by unfold eqT; exact decide_eq_true h
open Classical in
theorem eqT_no {x y : Tab} {l m : List Int} (h : ¬ EqT x y l m) : eqT x y l m = false := by unfold eqT; exact decide_eq_false h
/-- Numbers of columns. -/
def InC (x : Tab) (l : List Int) : Prop := ∀ j (hj : j < l.length), 0 ≤ l[j] ∧ l[j] < x.cols.length
theorem inC_of {x : Tab} {l : List Int} (h : KeyOk x.cols.length l) : InC x l := fun j hj => ⟨(h.2 j hj).1, (h.2 j hj).2.1⟩

set_option maxHeartbeats 1000000 in
theorem rclo_any (x y : Tab) (c d : Nat) (a b : Int) (w : World) (hx : Row w 3 Col.cells x.ch x.cols) (hy : Row w 3 Col.cells y.ch y.cols) (hc : w.cell? ⟨c, 1, none⟩ = some (.slice x.ch.ao x.cols.length x.ch.cap)) (hd : w.cell? ⟨d, 1, none⟩ = some (.slice y.ch.ao y.cols.length y.ch.cap)) (ha : 0 ≤ a ∧ a < x.cols.length) (hb : 0 ≤ b ∧ b < y.cols.length) :
    Calls Tryd.prog 52 #[.int .i64 a, .int .i64 b, .pointer (some ⟨c, 0, none⟩), .pointer (some ⟨d, 0, none⟩)] w
      fun e w' => e = .returned (.bool (ct x a == ct y b)) ∧ Below w.heap.size w w' := by
  obtain ⟨m, rfl⟩ : ∃ m : Nat, a = m := ⟨a.toNat, by omega⟩
  obtain ⟨n, rfl⟩ : ∃ n : Nat, b = n := ⟨b.toNat, by omega⟩
  have hm : m < x.cols.length := by omega
  have hn : n < y.cols.length := by omega
  have l1 := hx.len
  have l2 := hy.len
  have HP := hide (show ct x m = (x.cols[m]).typ by simp [ct, List.getD, hm])
  have HQ := hide (show ct y n = (y.cols[n]).typ by simp [ct, List.getD, hn])
  have hix := hx.ix hm Tryd.underlying34 sz30
  have hiy := hy.ix hn Tryd.underlying34 sz30
  obtain ⟨c0, c1, c2⟩ := col_at hx hm
  obtain ⟨d0, d1, d2⟩ := col_at hy hn
  have hb1 := hx.blk hm
  have hb2 := hy.blk hn
  clear hx hy ha hb
  go_enter Tryd.func52, Tryd.ntmps52
  go_wp2
  go_quiet (fail)
  go_wp2
  go_ret
  exact ⟨retb (by rw [HP.out, HQ.out]), below_drewN (Below.refl _ _) _⟩

set_option maxHeartbeats 2000000 in
theorem equalf_any (x y : Tab) (c d : Nat) (l m : IL) (w : World) (hl : l.In w) (hm : m.In w) (hx : Row w 3 Col.cells x.ch x.cols) (hy : Row w 3 Col.cells y.ch y.cols) (hc : w.cell? ⟨c, 1, none⟩ = some (.slice x.ch.ao x.cols.length x.ch.cap)) (hd : w.cell? ⟨d, 1, none⟩ = some (.slice y.ch.ao y.cols.length y.ch.cap)) (hil : InC x l.l) (him : InC y m.l) :
    Calls Tryd.prog 51 #[.slice l.h.ao l.l.length l.h.cap, .slice m.h.ao m.l.length m.h.cap, .func (.func 52) #[] #[.pointer (some ⟨c, 0, none⟩), .pointer (some ⟨d, 0, none⟩)]] w
      fun e w' => e = .returned (.bool (eqT x y l.l m.l)) ∧ Below w.heap.size w w' := by
  have hlc : c < w.heap.size := World.block_lt_of_cell? w ⟨c, 1, none⟩ hc
  have hld : d < w.heap.size := World.block_lt_of_cell? w ⟨d, 1, none⟩ hd
  have n1 := hl.1.len
  have n2 := hm.1.len
  by_cases hne : l.l.length = m.l.length
  rotate_left
  · have HR := hide (eqT_no (x := x) (y := y) (l := l.l) (m := m.l) (fun h => hne h.1))
    have hneb : ((l.l.length : Int) != (m.l.length : Int)) = true := by show (!(_ == _)) = true; rw [beq_eq_false_iff_ne.2 (by omega)]; rfl
    clear hne
    go_enter Tryd.func51, Tryd.ntmps51
    go_wp2
    go_ret
    exact ⟨retb HR.out.symm, Below.refl _ _⟩
  have hneb : ((l.l.length : Int) != (m.l.length : Int)) = false := by show (!(_ == _)) = false; rw [beq_iff_eq.2 (by omega)]; rfl
  have HL := hide hl
  have HM := hide hm
  have HX := hide hx
  have HYY := hide hy
  have HC := hide hc
  have HD := hide hd
  have HIL := hide hil
  have HIM := hide him
  have HNE := hide hne
  clear hl hm hx hy hc hd hil him hne
  go_enter Tryd.func51, Tryd.ntmps51
  go_wp2
  clear hneb
  go_loopw [17] (fun i wr => ∃ k : Nat, k ≤ l.l.length ∧ i = .int .i64 k ∧ Hid (∀ j (h : j < l.l.length) (h' : j < m.l.length), j < k → ct x l.l[j] = ct y m.l[j]) ∧ Hid (Below w.heap.size w wr)) (fun i _ => l.l.length - (intOf i).toNat)
  case atStart => exact ⟨0, Nat.zero_le _, rfl, fun j _ _ h => absurd h (by omega), Below.refl _ _⟩
  case round =>
    obtain ⟨k, hk, rfl, HN, HB⟩ := hrel
    have HLR := hide (HL.out.mono HB.out)
    have HMR := hide (HM.out.mono HB.out)
    by_cases hlt : k < l.l.length
    · have hltm : k < m.l.length := by have := HNE.out; omega
      have hix := IL.ix HLR.out hlt
      have hiy := IL.ix HMR.out hltm
      have c0 := int_at HLR.out.1 hlt
      have d0 := int_at HMR.out.1 hltm
      have hb1 := HLR.out.1.blk hlt
      have hb2 := HMR.out.1.blk hltm
      have HCL := hide (rclo_any x y c d l.l[k] m.l[k] wr (HX.out.mono HB.out) (HYY.out.mono HB.out) (by rw [HB.out.cell hlc]; exact HC.out) (by rw [HB.out.cell hld]; exact HD.out) (HIL.out k hlt) (HIM.out k hltm))
      by_cases he : ct x l.l[k] = ct y m.l[k]
      · have HE := hide he
        have HEB := hide (show (ct x l.l[k] == ct y m.l[k]) = true from beq_iff_eq.2 he)
        clear he
        go_wp2_with (go_at_call 52; refine HCL.out.mono ?_; rintro e w1 ⟨rfl, hk1⟩; rw [HEB.out]; have HB1 := hide hk1; clear hk1)
        go_roundw
        case rel =>
          refine ⟨k + 1, by omega, by go_num, fun j hj hj' h => ?_, HB.out.trans (HB1.out.mono HB.out.size)⟩
          by_cases e : j = k
          · subst e; exact HE.out
          · exact HN.out j hj hj' (by omega)
        case measure => simp [intOf]; omega
      · have HEB := hide (show (ct x l.l[k] == ct y m.l[k]) = false from beq_eq_false_iff_ne.2 he)
        have HR := hide (eqT_no (x := x) (y := y) (l := l.l) (m := m.l) (fun h => he (h.2 k hlt hltm)))
        clear he
        go_wp2_with (go_at_call 52; refine HCL.out.mono ?_; rintro e w1 ⟨rfl, hk1⟩; rw [HEB.out]; have HB1 := hide hk1; clear hk1)
        go_ret
        exact ⟨retb HR.out.symm, HB.out.trans (HB1.out.mono HB.out.size)⟩
    · have HR := hide (eqT_yes (x := x) (y := y) (l := l.l) (m := m.l) ⟨HNE.out, fun j h h' => HN.out j h h' (by omega)⟩)
      go_wp2
      go_ret
      exact ⟨retb HR.out.symm, HB.out⟩

/-- What is wrong with a foreign key. -/
noncomputable def refE (s : Sch) (x : Tab) (f : Frn) : Int :=
  if fok (named f.tab) s.tabs = false then 11 else if eqT x (s.tabs.getD (fi (named f.tab) s.tabs).toNat ⟨⟨#[]⟩, nilHd, [], ⟨nilHd, []⟩, nilHd, [], nilHd, [], nilHd, []⟩) f.cols.l (s.tabs.getD (fi (named f.tab) s.tabs).toNat ⟨⟨#[]⟩, nilHd, [], ⟨nilHd, []⟩, nilHd, [], nilHd, [], nilHd, []⟩).prim.l then 0 else 6
theorem fi_in {α : Type} {p : α → Bool} {xs : List α} (h : fok p xs = true) : ∃ k : Nat, fi p xs = k ∧ k < xs.length := by
  unfold fok at h
  unfold fi
  obtain ⟨k, hk⟩ := Option.isSome_iff_exists.1 h
  refine ⟨k, by rw [hk]; rfl, ?_⟩
  exact (List.findIdx?_eq_some_iff_getElem.1 hk).1

set_option maxRecDepth 100000 in
set_option maxHeartbeats 4000000 in
theorem reference_any (s : Sch) (x : Tab) (f : Frn) (w : World) (hs : s.In w) (hx : x.In w) (hf : f.In w) (hk : KeyOk x.cols.length f.cols.l) (hp : ∀ t ∈ s.tabs, KeyOk t.cols.length t.prim.l) :
    Calls Tryd.prog 24 #[.agg #[.slice s.th.ao s.tabs.length s.th.cap], .agg #[.string x.name, .slice x.ch.ao x.cols.length x.ch.cap, .slice x.prim.h.ao x.prim.l.length x.prim.h.cap, .slice x.uh.ao x.uniqs.length x.uh.cap, .slice x.fh.ao x.fors.length x.fh.cap, .slice x.kh.ao x.checks.length x.kh.cap], .agg #[.slice f.cols.h.ao f.cols.l.length f.cols.h.cap, .string f.tab]] w
      fun e w' => e = .returned (.int .i64 (refE s x f)) ∧ Below w.heap.size w w' := by
  have HB0 := hide ((belAA (w := w) (.cells #[.slice s.th.ao s.tabs.length s.th.cap] 28) (.cells #[.string x.name, .slice x.ch.ao x.cols.length x.ch.cap, .slice x.prim.h.ao x.prim.l.length x.prim.h.cap, .slice x.uh.ao x.uniqs.length x.uh.cap, .slice x.fh.ao x.fors.length x.fh.cap, .slice x.kh.ao x.checks.length x.kh.cap] 39)).alloc (by simp only [World.size_alloc]; omega) (.cells #[.slice f.cols.h.ao f.cols.l.length f.cols.h.cap, .string f.tab] 43))
  have HS := hide (hs.mono HB0.out)
  have HX := hide (hx.mono HB0.out)
  have HFR := hide (hf.mono HB0.out)
  have HK := hide hk
  have HP := hide hp
  have hn := hs.rt.len
  have B0 := hide (((Box.new w #[.slice s.th.ao s.tabs.length s.th.cap] 28).below (belA (.cells #[.string x.name, .slice x.ch.ao x.cols.length x.ch.cap, .slice x.prim.h.ao x.prim.l.length x.prim.h.cap, .slice x.uh.ao x.uniqs.length x.uh.cap, .slice x.fh.ao x.fors.length x.fh.cap, .slice x.kh.ao x.checks.length x.kh.cap] 39))).below (belA (.cells #[.slice f.cols.h.ao f.cols.l.length f.cols.h.cap, .string f.tab] 43)))
  have B1 := hide ((Box.new (w.alloc (.cells #[.slice s.th.ao s.tabs.length s.th.cap] 28)) #[.string x.name, .slice x.ch.ao x.cols.length x.ch.cap, .slice x.prim.h.ao x.prim.l.length x.prim.h.cap, .slice x.uh.ao x.uniqs.length x.uh.cap, .slice x.fh.ao x.fors.length x.fh.cap, .slice x.kh.ao x.checks.length x.kh.cap] 39).below (belA (.cells #[.slice f.cols.h.ao f.cols.l.length f.cols.h.cap, .string f.tab] 43)))
  have B2 := hide (Box.new ((w.alloc (.cells #[.slice s.th.ao s.tabs.length s.th.cap] 28)).alloc (.cells #[.string x.name, .slice x.ch.ao x.cols.length x.ch.cap, .slice x.prim.h.ao x.prim.l.length x.prim.h.cap, .slice x.uh.ao x.uniqs.length x.uh.cap, .slice x.fh.ao x.fors.length x.fh.cap, .slice x.kh.ao x.checks.length x.kh.cap] 39)) #[.slice f.cols.h.ao f.cols.l.length f.cols.h.cap, .string f.tab] 43)
  simp only [World.size_alloc] at B1 B2
  clear hs hx hf hk hp
  obtain ⟨bf, hbf⟩ : ∃ b, fok (named f.tab) s.tabs = b := ⟨_, rfl⟩
  have HBF := hide hbf
  clear hbf
  cases bf
  · have HR := hide (show refE s x f = 11 by unfold refE; rw [if_pos HBF.out])
    go_enter Tryd.func24, Tryd.ntmps24
    go_wp2_with (go_at_call 22; refine (find_any s f.tab _ HS.out).mono ?_; rintro e w1 ⟨rfl, hb1⟩; rw [HBF.out]; have HB1 := hide hb1; clear hb1)
    go_ret
    exact ⟨ret1 HR.out.symm, HB0.out.trans (HB1.out.mono HB0.out.size)⟩
  obtain ⟨k, hfk, hk⟩ := fi_in HBF.out
  have HFI := hide hfk
  have HR0 := hide (show refE s x f = if eqT x s.tabs[k] f.cols.l (s.tabs[k]).prim.l then 0 else 6 by unfold refE; rw [if_neg (by rw [HBF.out]; simp), hfk]; simp [List.getD, hk])
  clear hfk
  obtain ⟨y, hy⟩ : ∃ y, s.tabs[k] = y := ⟨_, rfl⟩
  rw [hy] at HR0
  have HPY := hide (show KeyOk y.cols.length y.prim.l from hy ▸ HP.out _ (List.getElem_mem hk))
  have HYI := hide (show y.In (((w.alloc (.cells #[.slice s.th.ao s.tabs.length s.th.cap] 28)).alloc (.cells #[.string x.name, .slice x.ch.ao x.cols.length x.ch.cap, .slice x.prim.h.ao x.prim.l.length x.prim.h.cap, .slice x.uh.ao x.uniqs.length x.uh.cap, .slice x.fh.ao x.fors.length x.fh.cap, .slice x.kh.ao x.checks.length x.kh.cap] 39)).alloc (.cells #[.slice f.cols.h.ao f.cols.l.length f.cols.h.cap, .string f.tab] 43)) from hy ▸ HS.out.ts _ (List.getElem_mem hk))
  have HHY := hide hy
  clear hy
  obtain ⟨be, hbe⟩ : ∃ b, eqT x y f.cols.l y.prim.l = b := ⟨_, rfl⟩
  have HBE := hide hbe
  rw [hbe] at HR0
  clear hbe
  cases be
  all_goals
    go_enter Tryd.func24, Tryd.ntmps24
    go_wp2_with (first
      | (go_at_call 22; refine (find_any s f.tab _ HS.out).mono ?_; rintro e w1 ⟨rfl, hb1⟩; rw [HBF.out, HFI.out]; have HB1 := hide hb1; clear hb1; have g0 := (B0.out.below HB1.out).cell (j := 0) rfl; have g2 := (B2.out.below HB1.out).cell (j := 0) rfl; have g21 := (B2.out.below HB1.out).cell (j := 1) rfl; have hl3 := (B2.out.below HB1.out).lt; have hix := (HS.out.mono HB1.out).rt.ix hk Tryd.underlying26 sz22; have hta := tab_at (HS.out.mono HB1.out).rt hk; rw [HHY.out] at hta; obtain ⟨t0, t1, t2, t3, t4, t5⟩ := hta; have hbk := (HS.out.mono HB1.out).rt.blk hk)
      | (go_at_call 51; refine (equalf_any x y (w.heap.size + 1) w1.heap.size f.cols y.prim _ ((HFR.out.mono HB1.out).1.mono (belA _)) ((HYI.out.mono HB1.out).rp.mono (belA _)) ((HX.out.mono HB1.out).rc.mono (belA _)) ((HYI.out.mono HB1.out).rc.mono (belA _)) (((B1.out.below HB1.out).below (belA _)).cell (j := 1) rfl) ((Box.new w1 _ _).cell (j := 1) rfl) (inC_of HK.out) (inC_of HPY.out)).mono ?_; rintro e w2 ⟨rfl, hb2⟩; rw [HBE.out]; have HB2 := hide (bel_trans HB1.out (bel_trans (belA _) hb2)); clear hb2))
    go_ret
    exact ⟨ret1 HR0.out.symm, HB0.out.trans (HB2.out.mono HB0.out.size)⟩
end Go.Proofs.YtmnbhdhgjbgidaaDoor

/- What is wrong with a schema, as a relation. -/
namespace Go.Proofs.YtmnbhdhgjbgidaaDoor
open Go.RowKit

/-- The first of n numbers that is not 0. -/
def firstN (f : Nat → Int) (n : Nat) : Int := firstE ((List.range n).map f)
theorem firstN_at {f : Nat → Int} {n k : Nat} (hk : k < n) (h0 : ∀ j, j < k → f j = 0) (hne : f k ≠ 0) : firstN f n = f k := by
  unfold firstN
  have hl : k < ((List.range n).map f).length := by simpa using hk
  have := firstE_at hl (fun j hj h => by rw [List.getElem_map, List.getElem_range]; exact h0 j h) (by rw [List.getElem_map, List.getElem_range]; exact hne) []
  rw [List.append_nil, List.getElem_map, List.getElem_range] at this
  exact this
theorem firstN_all {f : Nat → Int} {n : Nat} (h0 : ∀ j, j < n → f j = 0) : firstN f n = 0 := by
  unfold firstN
  have := firstE_app0 (a := (List.range n).map f) [] (fun e he => by
    obtain ⟨j, hj, rfl⟩ := List.mem_map.1 he
    exact h0 j (List.mem_range.1 hj))
  rw [List.append_nil] at this
  rw [this]; rfl
theorem firstE_zero : ∀ {l : List Int}, firstE l = 0 → ∀ e ∈ l, e = 0
  | [], _, e, he => by cases he
  | x :: r, h, e, he => by
    by_cases hx : x = 0
    · subst hx
      rw [firstE_cons0] at h
      rcases List.mem_cons.1 he with rfl | h'
      · rfl
      · exact firstE_zero h e h'
    · rw [firstE_cons hx] at h
      exact absurd h hx
/-- A table without errors has keys that fit. -/
theorem table_keys {x : Tab} (h : tableE x = 0) : KeyOk x.cols.length x.prim.l ∧ ∀ f ∈ x.fors, KeyOk x.cols.length f.cols.l := by
  unfold tableE at h
  split at h
  · cases h
  · split at h
    · cases h
    · have hk := firstE_zero h (keysE x) (by simp)
      unfold keysE at hk
      split at hk
      · cases hk
      · rename_i hp
        split at hk
        · cases hk
        · split at hk
          · rename_i ha
            refine ⟨keyOk_of (by simpa using hp), fun f hf => ?_⟩
            rw [List.all_eq_true] at ha
            exact keyOk_of (ha _ (List.mem_append_right _ (List.mem_map.2 ⟨f, hf, rfl⟩)))
          · cases hk
/-- What is wrong with a table in its schema. -/
noncomputable def tabPre (s : Sch) (t : Tab) (k : Nat) : Int := if pb (IsName t.name) = false then 3 else if fi (named t.name) s.tabs ≠ k then 5 else tableE t
noncomputable def tabAt (s : Sch) (k : Nat) : Int := if h : k < s.tabs.length then tabPre s s.tabs[k] k else 0
noncomputable def refAt (s : Sch) (t : Tab) (m : Nat) : Int := if h : m < t.fors.length then refE s t t.fors[m] else 0
noncomputable def rowAt (s : Sch) (k : Nat) : Int := if h : k < s.tabs.length then firstN (refAt s s.tabs[k]) (s.tabs[k]).fors.length else 0
/-- What is wrong with a schema but for the order of its tables. -/
noncomputable def preE (s : Sch) : Int := if 6 < s.tabs.length then 8 else firstE [firstN (tabAt s) s.tabs.length, firstN (rowAt s) s.tabs.length]
def ValidE (s : Sch) (v : Int) : Prop := (preE s ≠ 0 ∧ v = preE s) ∨ (preE s = 0 ∧ ∃ l, ordOut s l v)
theorem valid_one {s : Sch} {v v' : Int} (h : ValidE s v) (h' : ValidE s v') : v = v' := by
  rcases h with ⟨h0, rfl⟩ | ⟨h0, l, h1⟩
  · rcases h' with ⟨_, rfl⟩ | ⟨h2, _⟩
    · rfl
    · exact absurd h2 h0
  · rcases h' with ⟨h2, rfl⟩ | ⟨_, l', h2⟩
    · exact absurd h0 h2
    · exact (ord_one h1 h2).2
theorem tabAt_eq {s : Sch} {k : Nat} (h : k < s.tabs.length) : tabAt s k = tabPre s s.tabs[k] k := dif_pos h
theorem refAt_eq {s : Sch} {t : Tab} {m : Nat} (h : m < t.fors.length) : refAt s t m = refE s t t.fors[m] := dif_pos h
theorem rowAt_eq {s : Sch} {k : Nat} (h : k < s.tabs.length) : rowAt s k = firstN (refAt s s.tabs[k]) (s.tabs[k]).fors.length := dif_pos h
theorem pre_8 {s : Sch} (h : 6 < s.tabs.length) : ValidE s 8 := .inl ⟨by unfold preE; rw [if_pos h]; decide, by unfold preE; rw [if_pos h]⟩
theorem pre_tab {s : Sch} (hn : ¬ 6 < s.tabs.length) {k : Nat} (hk : k < s.tabs.length) (h0 : ∀ j, j < k → tabAt s j = 0) {v : Int} (hv : tabPre s s.tabs[k] k = v) (hne : v ≠ 0) : ValidE s v := by
  have h1 : firstN (tabAt s) s.tabs.length = v := by rw [firstN_at hk h0 (by rw [tabAt_eq hk, hv]; exact hne), tabAt_eq hk, hv]
  have h2 : preE s = v := by unfold preE; rw [if_neg hn, h1]; exact firstE_cons hne _
  exact .inl ⟨by rw [h2]; exact hne, h2.symm⟩
theorem pre_ref {s : Sch} (hn : ¬ 6 < s.tabs.length) (ht : ∀ j, j < s.tabs.length → tabAt s j = 0) {k : Nat} (hk : k < s.tabs.length) (h0 : ∀ j, j < k → rowAt s j = 0) {m : Nat} (hm : m < (s.tabs[k]).fors.length) (hm0 : ∀ j, j < m → refAt s s.tabs[k] j = 0) {v : Int} (hv : refE s s.tabs[k] (s.tabs[k]).fors[m] = v) (hne : v ≠ 0) : ValidE s v := by
  have h1 : rowAt s k = v := by rw [rowAt_eq hk, firstN_at hm hm0 (by rw [refAt_eq hm, hv]; exact hne), refAt_eq hm, hv]
  have h2 : preE s = v := by
    unfold preE
    rw [if_neg hn, firstN_all ht, firstE_cons0, firstN_at hk h0 (by rw [h1]; exact hne), h1]
    exact firstE_cons hne _
  exact .inl ⟨by rw [h2]; exact hne, h2.symm⟩
theorem row_zero {s : Sch} {k : Nat} (hk : k < s.tabs.length) (h0 : ∀ j, j < (s.tabs[k]).fors.length → refAt s s.tabs[k] j = 0) : rowAt s k = 0 := by
  rw [rowAt_eq hk]; exact firstN_all h0
theorem pre_ord {s : Sch} (hn : ¬ 6 < s.tabs.length) (ht : ∀ j, j < s.tabs.length → tabAt s j = 0) (hr : ∀ j, j < s.tabs.length → rowAt s j = 0) {l : List Int} {v : Int} (ho : ordOut s l v) : ValidE s v :=
  .inr ⟨by unfold preE; rw [if_neg hn, firstN_all ht, firstE_cons0, firstN_all hr, firstE_cons0]; rfl, l, ho⟩
/-- Tables without errors have keys that fit. -/
theorem tab_keys {s : Sch} {k : Nat} (hk : k < s.tabs.length) (h : tabAt s k = 0) : KeyOk (s.tabs[k]).cols.length (s.tabs[k]).prim.l ∧ ∀ f ∈ (s.tabs[k]).fors, KeyOk (s.tabs[k]).cols.length f.cols.l := by
  rw [tabAt_eq hk] at h
  unfold tabPre at h
  split at h
  · cases h
  · split at h
    · cases h
    · exact table_keys h
theorem fi_le2 {p : Tab → Bool} {xs : List Tab} {k : Nat} (hk : k < xs.length) (hp : p xs[k] = true) : fi p xs ≤ k := by
  unfold fi
  cases h : xs.findIdx? p with
  | none => simp
  | some j =>
    simp only [Option.getD_some]
    have := List.findIdx?_eq_some_iff_getElem.1 h
    obtain ⟨hj, _, hn⟩ := this
    have : ¬ k < j := fun hkj => by have := hn k hkj; rw [hp] at this; exact this rfl
    omega
theorem named_self (c : Tab) : named c.name c = true := by simp [named]
end Go.Proofs.YtmnbhdhgjbgidaaDoor

/- schema.Valid: what is wrong with a schema. -/
namespace Go.Proofs.YtmnbhdhgjbgidaaDoor
open Go.RowKit

/-- What the walks ask of a schema: its lists of unique keys are nil where they are empty, its checks are not great. -/
structure SchOk (s : Sch) : Prop where
  us : ∀ t ∈ s.tabs, okU t
  cs : ∀ t ∈ s.tabs, ∀ c ∈ t.checks, c.size ≤ 1000000

set_option maxRecDepth 100000 in
set_option maxHeartbeats 8000000 in
theorem valid_any (s : Sch) (w : World) (hs : s.In w) (hok : SchOk s) (hf : OpsAt w) (hsh : w.ShapedOpen Tryd.prog) :
    Calls Tryd.prog 8 #[.agg #[.slice s.th.ao s.tabs.length s.th.cap]] w fun e w' => (∃ v : Int, e = .returned (.int .i64 v) ∧ ValidE s v) ∧ Below w.heap.size w w' := by
  have HB0 := hide (belA (w := w) (.cells #[.slice s.th.ao s.tabs.length s.th.cap] 28))
  have HS := hide (hs.mono HB0.out)
  have HF := hide (hf.mono HB0.out)
  have HSH := hide (hsh.keptBut (HB0.out.frame (fun _ => False)) (by simp))
  have HY := hide (show ∀ w' : World, Below (w.alloc (.cells #[.slice s.th.ao s.tabs.length s.th.cap] 28)).heap.size (w.alloc (.cells #[.slice s.th.ao s.tabs.length s.th.cap] 28)) w' → w'.cell? ⟨w.heap.size, 0, none⟩ = some (.slice s.th.ao s.tabs.length s.th.cap) from fun w' h => box_cell h rfl)
  have HOK := hide hok
  have hn := hs.rt.len
  clear hs hok hf hsh
  by_cases h6 : (6 : Int) < s.tabs.length
  · have HR := hide (pre_8 (s := s) (by omega))
    go_enter Tryd.func8, Tryd.ntmps8
    go_wp2
    go_ret
    exact ⟨⟨8, rfl, HR.out⟩, HB0.out⟩
  have HN6 := hide (show ¬ 6 < s.tabs.length by omega)
  go_enter Tryd.func8, Tryd.ntmps8
  go_wp2
  go_loopw [22] (fun i wr => ∃ k : Nat, k ≤ s.tabs.length ∧ i = .int .i64 k ∧ Hid (∀ j, j < k → tabAt s j = 0) ∧ Hid (Below (w.alloc (.cells #[.slice s.th.ao s.tabs.length s.th.cap] 28)).heap.size (w.alloc (.cells #[.slice s.th.ao s.tabs.length s.th.cap] 28)) wr)) (fun i _ => s.tabs.length - (intOf i).toNat)
  case atStart => exact ⟨0, Nat.zero_le _, rfl, fun j h => absurd h (by omega), Below.refl _ _⟩
  case round =>
    obtain ⟨k, hk, rfl, HN, HBW⟩ := hrel
    have HSR := hide (HS.out.mono HBW.out)
    by_cases hlt : k < s.tabs.length
    · have hix := HSR.out.rt.ix hlt Tryd.underlying26 sz22
      have hta := tab_at HSR.out.rt hlt
      have hbk := HSR.out.rt.blk hlt
      have HXI := hide (HSR.out.ts _ (List.getElem_mem hlt))
      have HU := hide (HOK.out.us _ (List.getElem_mem hlt))
      have HCZ := hide (HOK.out.cs _ (List.getElem_mem hlt))
      have HPT := hide (fun (v : Int) (hv : tabPre s s.tabs[k] k = v) (hne : v ≠ 0) => pre_tab HN6.out hlt HN.out hv hne)
      have HZT := hide (fun (h : tabPre s s.tabs[k] k = 0) => (tabAt_eq hlt).trans h)
      have HLE := hide (fi_le2 (p := named (s.tabs[k]).name) hlt (named_self _))
      have HPE := hide (show tabPre s s.tabs[k] k = if pb (IsName (s.tabs[k]).name) = false then 3 else if fi (named (s.tabs[k]).name) s.tabs ≠ k then 5 else tableE s.tabs[k] from rfl)
      obtain ⟨x, hx⟩ : ∃ x, s.tabs[k] = x := ⟨_, rfl⟩
      rw [hx] at hta HXI HU HCZ HPT HZT HLE HPE
      clear hx
      obtain ⟨t0, t1, t2, t3, t4, t5⟩ := hta
      have HNM := hide (show x.name.size ≤ 9223372036854775807 by have := HXI.out.nm; unfold maxLen at this; omega)
      have HSHR := hide ((HSH.out.keptBut (HBW.out.frame (fun _ => False)) (by simp)).keptBut ((belA (w := wr) (.cells #[.string x.name, .slice x.ch.ao x.cols.length x.ch.cap, .slice x.prim.h.ao x.prim.l.length x.prim.h.cap, .slice x.uh.ao x.uniqs.length x.uh.cap, .slice x.fh.ao x.fors.length x.fh.cap, .slice x.kh.ao x.checks.length x.kh.cap] 39)).frame (fun _ => False)) (by simp))
      have HBA := hide (HBW.out.trans ((belA (w := wr) (.cells #[.string x.name, .slice x.ch.ao x.cols.length x.ch.cap, .slice x.prim.h.ao x.prim.l.length x.prim.h.cap, .slice x.uh.ao x.uniqs.length x.uh.cap, .slice x.fh.ao x.fors.length x.fh.cap, .slice x.kh.ao x.checks.length x.kh.cap] 39)).mono HBW.out.size))
      have gs := HY.out _ HBA.out
      obtain ⟨bn, hbn⟩ : ∃ b, pb (IsName x.name) = b := ⟨_, rfl⟩
      have HBN := hide hbn
      rw [hbn] at HPE
      clear hbn
      cases bn
      · have HR := hide (HPT.out 3 (HPE.out.trans (if_pos rfl)) (by decide))
        go_wp2_with (first
          | (go_at_call 21; refine (name_any _ _ HSHR.out HNM.out).mono ?_; rintro e w1 ⟨rfl, rfl⟩; rw [HBN.out]))
        go_ret
        exact ⟨⟨3, rfl, HR.out⟩, HB0.out.trans (HBA.out.mono HB0.out.size)⟩
      obtain ⟨f, hfi⟩ : ∃ f, fi (named x.name) s.tabs = f := ⟨_, rfl⟩
      have HFI := hide hfi
      rw [hfi] at HPE HLE
      clear hfi
      by_cases hfk : f = k
      rotate_left
      · have HR := hide (HPT.out 5 ((HPE.out.trans (if_neg (by simp))).trans (if_pos hfk)) (by decide))
        have hflt : f < (k : Int) := by have := HLE.out; omega
        clear hfk
        go_wp2_with (first
          | (go_at_call 21; refine (name_any _ _ HSHR.out HNM.out).mono ?_; rintro e w1 ⟨rfl, rfl⟩; rw [HBN.out])
          | (go_at_call 22; refine (find_any s _ _ (HSR.out.mono (belA _))).mono ?_; rintro e w2 ⟨rfl, hb2⟩; rw [HFI.out]; have HB2 := hide (bel_trans HBA.out hb2); have y0 := box_cell hb2 (j := 0) rfl; have y1 := box_cell hb2 (j := 1) rfl; have y2 := box_cell hb2 (j := 2) rfl; have y3 := box_cell hb2 (j := 3) rfl; have y4 := box_cell hb2 (j := 4) rfl; have y5 := box_cell hb2 (j := 5) rfl; have hb2k := hb2; clear hb2 gs))
        go_ret
        exact ⟨⟨5, rfl, HR.out⟩, HB0.out.trans (HB2.out.mono HB0.out.size)⟩
      subst hfk
      have HP6 := hide ((HPE.out.trans (if_neg (by simp))).trans (if_neg (by simp)))
      obtain ⟨te, hte⟩ : ∃ v, tableE x = v := ⟨_, rfl⟩
      have HTE := hide hte
      rw [hte] at HP6
      clear hte
      by_cases h0 : te = 0
      · subst h0
        have HZ := hide (HZT.out HP6.out)
        go_wp2_with (first
          | (go_at_call 21; refine (name_any _ _ HSHR.out HNM.out).mono ?_; rintro e w1 ⟨rfl, rfl⟩; rw [HBN.out])
          | (go_at_call 22; refine (find_any s _ _ (HSR.out.mono (belA _))).mono ?_; rintro e w2 ⟨rfl, hb2⟩; rw [HFI.out]; have HB2 := hide (bel_trans HBA.out hb2); have y0 := box_cell hb2 (j := 0) rfl; have y1 := box_cell hb2 (j := 1) rfl; have y2 := box_cell hb2 (j := 2) rfl; have y3 := box_cell hb2 (j := 3) rfl; have y4 := box_cell hb2 (j := 4) rfl; have y5 := box_cell hb2 (j := 5) rfl; have hb2k := hb2; clear hb2 gs)
          | (go_at_call 23; refine (table_any x _ (HXI.out.mono (bel_trans (belA _) hb2k)) HU.out (HF.out.mono HB2.out) (HSH.out.keptBut (HB2.out.frame (fun _ => False)) (by simp)) HCZ.out).mono ?_; rintro e w3 ⟨rfl, hb3⟩; rw [HTE.out]; have HB3 := hide (bel_trans HB2.out hb3); clear hb3 hb2k y0 y1 y2 y3 y4 y5))
        go_roundw
        case rel =>
          refine ⟨k + 1, by omega, by go_num, fun j h => ?_, HB3.out⟩
          by_cases e : j = k
          · subst e; exact HZ.out
          · exact HN.out j (by omega)
        case measure => simp [intOf]; omega
      · have HR := hide (HPT.out te HP6.out h0)
        have hteb : (te == 0) = false := beq_eq_false_iff_ne.2 h0
        clear h0
        go_wp2_with (first
          | (go_at_call 21; refine (name_any _ _ HSHR.out HNM.out).mono ?_; rintro e w1 ⟨rfl, rfl⟩; rw [HBN.out])
          | (go_at_call 22; refine (find_any s _ _ (HSR.out.mono (belA _))).mono ?_; rintro e w2 ⟨rfl, hb2⟩; rw [HFI.out]; have HB2 := hide (bel_trans HBA.out hb2); have y0 := box_cell hb2 (j := 0) rfl; have y1 := box_cell hb2 (j := 1) rfl; have y2 := box_cell hb2 (j := 2) rfl; have y3 := box_cell hb2 (j := 3) rfl; have y4 := box_cell hb2 (j := 4) rfl; have y5 := box_cell hb2 (j := 5) rfl; have hb2k := hb2; clear hb2 gs)
          | (go_at_call 23; refine (table_any x _ (HXI.out.mono (bel_trans (belA _) hb2k)) HU.out (HF.out.mono HB2.out) (HSH.out.keptBut (HB2.out.frame (fun _ => False)) (by simp)) HCZ.out).mono ?_; rintro e w3 ⟨rfl, hb3⟩; rw [HTE.out]; have HB3 := hide (bel_trans HB2.out hb3); clear hb3 hb2k y0 y1 y2 y3 y4 y5))
        go_ret
        exact ⟨⟨te, rfl, HR.out⟩, HB0.out.trans (HB3.out.mono HB0.out.size)⟩
    · have HNT := hide (show ∀ j, j < s.tabs.length → tabAt s j = 0 from fun j hj => HN.out j (by omega))
      have gs := HY.out _ HBW.out
      clear HN
      go_wp2
      go_loopw [50] (fun i wr => ∃ k : Nat, k ≤ s.tabs.length ∧ i = .int .i64 k ∧ Hid (∀ j, j < k → rowAt s j = 0) ∧ Hid (Below (w.alloc (.cells #[.slice s.th.ao s.tabs.length s.th.cap] 28)).heap.size (w.alloc (.cells #[.slice s.th.ao s.tabs.length s.th.cap] 28)) wr)) (fun i _ => s.tabs.length - (intOf i).toNat)
      case atStart => exact ⟨0, Nat.zero_le _, rfl, fun j h => absurd h (by omega), HBW.out⟩
      clear HBW HSR gs
      case round =>
        obtain ⟨k, hk, rfl, HN, HBW⟩ := hrel
        have HSR := hide (HS.out.mono HBW.out)
        by_cases hlt2 : k < s.tabs.length
        · have hix := HSR.out.rt.ix hlt2 Tryd.underlying26 sz22
          have hta := tab_at HSR.out.rt hlt2
          have hbk := HSR.out.rt.blk hlt2
          have HXI := hide (HSR.out.ts _ (List.getElem_mem hlt2))
          have HKF := hide (tab_keys hlt2 (HNT.out k hlt2)).2
          have HPR := hide (fun (m : Nat) (hm : m < (s.tabs[k]).fors.length) (hm0 : ∀ j, j < m → refAt s s.tabs[k] j = 0) (v : Int) (hv : refE s s.tabs[k] (s.tabs[k]).fors[m] = v) (hne : v ≠ 0) => pre_ref HN6.out HNT.out hlt2 HN.out hm hm0 hv hne)
          have HRZ := hide (fun h => row_zero (s := s) hlt2 h)
          obtain ⟨x, hx⟩ : ∃ x, s.tabs[k] = x := ⟨_, rfl⟩
          rw [hx] at hta HXI HKF HPR HRZ
          clear hx
          obtain ⟨t0, t1, t2, t3, t4, t5⟩ := hta
          have hnf := HXI.out.rf.len
          go_wp2
          go_loopw [57] (fun i wz => ∃ m : Nat, m ≤ x.fors.length ∧ i = .int .i64 m ∧ Hid (∀ j, j < m → refAt s x j = 0) ∧ Hid (Below (wr.alloc (.cells #[.string x.name, .slice x.ch.ao x.cols.length x.ch.cap, .slice x.prim.h.ao x.prim.l.length x.prim.h.cap, .slice x.uh.ao x.uniqs.length x.uh.cap, .slice x.fh.ao x.fors.length x.fh.cap, .slice x.kh.ao x.checks.length x.kh.cap] 39)).heap.size (wr.alloc (.cells #[.string x.name, .slice x.ch.ao x.cols.length x.ch.cap, .slice x.prim.h.ao x.prim.l.length x.prim.h.cap, .slice x.uh.ao x.uniqs.length x.uh.cap, .slice x.fh.ao x.fors.length x.fh.cap, .slice x.kh.ao x.checks.length x.kh.cap] 39)) wz)) (fun i _ => x.fors.length - (intOf i).toNat)
          case atStart => exact ⟨0, Nat.zero_le _, rfl, fun j h => absurd h (by omega), Below.refl _ _⟩
          clear t0 t1 t2 t3 t4 t5 hix hbk
          case round =>
            obtain ⟨m, hm, rfl, HM, HBZ⟩ := hrel
            have HBF := hide (HBW.out.trans ((bel_trans (belA _) HBZ.out).mono HBW.out.size))
            have HBZW := hide (bel_trans (belA _) HBZ.out)
            have HXZ := hide (HXI.out.mono HBZW.out)
            have gs := HY.out _ HBF.out
            have z0 := box_cell HBZ.out (j := 0) rfl
            have z1 := box_cell HBZ.out (j := 1) rfl
            have z2 := box_cell HBZ.out (j := 2) rfl
            have z3 := box_cell HBZ.out (j := 3) rfl
            have z4 := box_cell HBZ.out (j := 4) rfl
            have z5 := box_cell HBZ.out (j := 5) rfl
            by_cases hlm : m < x.fors.length
            · have hixf := HXZ.out.rf.ix hlm Tryd.underlying36 sz61
              obtain ⟨f0, f1⟩ := frn_at HXZ.out.rf hlm
              have hbf := HXZ.out.rf.blk hlm
              obtain ⟨v, hv⟩ : ∃ v, refE s x x.fors[m] = v := ⟨_, rfl⟩
              have HV := hide hv
              clear hv
              have HRA := hide (show refAt s x m = v by rw [refAt_eq hlm]; exact HV.out)
              have HRC := hide (show Calls Tryd.prog 24 #[.agg #[.slice s.th.ao s.tabs.length s.th.cap], .agg #[.string x.name, .slice x.ch.ao x.cols.length x.ch.cap, .slice x.prim.h.ao x.prim.l.length x.prim.h.cap, .slice x.uh.ao x.uniqs.length x.uh.cap, .slice x.fh.ao x.fors.length x.fh.cap, .slice x.kh.ao x.checks.length x.kh.cap], .agg #[.slice (x.fors[m]).cols.h.ao (x.fors[m]).cols.l.length (x.fors[m]).cols.h.cap, .string (x.fors[m]).tab]] (wr.alloc (.cells #[.slice (x.fors[m]).cols.h.ao (x.fors[m]).cols.l.length (x.fors[m]).cols.h.cap, .string (x.fors[m]).tab] 43))
                fun e w' => e = .returned (.int .i64 v) ∧ Below (wr.alloc (.cells #[.slice (x.fors[m]).cols.h.ao (x.fors[m]).cols.l.length (x.fors[m]).cols.h.cap, .string (x.fors[m]).tab] 43)).heap.size (wr.alloc (.cells #[.slice (x.fors[m]).cols.h.ao (x.fors[m]).cols.l.length (x.fors[m]).cols.h.cap, .string (x.fors[m]).tab] 43)) w' by
                  rw [← HV.out]
                  exact reference_any s x x.fors[m] _ ((HS.out.mono HBF.out).mono (belA _)) (HXZ.out.mono (belA _)) ((HXZ.out.fs _ (List.getElem_mem hlm)).mono (belA _)) (HKF.out _ (List.getElem_mem hlm)) (fun t ht => by
                    obtain ⟨j, hj, rfl⟩ := List.getElem_of_mem ht
                    exact (tab_keys hj (HNT.out j hj)).1))
              have hlz : w.heap.size < wr.heap.size := by have := HBF.out.size; simp at this; omega
              have hlz2 := HBZ.out.size
              simp only [World.size_alloc] at hlz2
              have hlz3 := Nat.lt_of_succ_le hlz2
              clear hlz2
              by_cases h0 : v = 0
              · subst h0
                go_wp2_with (go_at_call 24; refine HRC.out.mono ?_; rintro e w1 ⟨rfl, hb1⟩; have HB1 := hide (bel_trans (belA _) hb1); clear hb1)
                go_roundw
                case rel =>
                  refine ⟨m + 1, by omega, by go_num, fun j h => ?_, bel_trans HBZ.out HB1.out⟩
                  by_cases e : j = m
                  · subst e; exact HRA.out
                  · exact HM.out j (by omega)
                case measure => simp [intOf]; omega
              · have HR := hide (HPR.out m hlm HM.out v HV.out h0)
                have hvb : (v == 0) = false := beq_eq_false_iff_ne.2 h0
                clear h0
                go_wp2_with (go_at_call 24; refine HRC.out.mono ?_; rintro e w1 ⟨rfl, hb1⟩; have HB1 := hide (bel_trans (belA _) hb1); clear hb1)
                go_ret
                exact ⟨⟨v, rfl, HR.out⟩, HB0.out.trans ((bel_trans HBF.out HB1.out).mono HB0.out.size)⟩
            · have HZ := hide (HRZ.out (fun j hj => HM.out j (by omega)))
              go_wp2
              go_roundw
              case rel =>
                refine ⟨k + 1, by omega, by go_num, fun j h => ?_, HBF.out⟩
                by_cases e : j = k
                · subst e; exact HZ.out
                · exact HN.out j (by omega)
              case measure => simp [intOf]; omega
        · have gs := HY.out _ HBW.out
          go_wp2_with (go_at_call 11; refine (oorder_any s _ HSR.out (by omega)).mono ?_; rintro e w1 ⟨hr, hb1⟩; obtain ⟨l1, x1, rfl, hl1, ho1⟩ := ord_out hr; have HB1 := hide (bel_trans HBW.out hb1); have HO1 := hide ho1; clear hr hb1 hl1 ho1 gs)
          go_ret
          exact ⟨⟨x1, rfl, pre_ord HN6.out HNT.out (fun j hj => HN.out j (by omega)) HO1.out⟩, HB0.out.trans (HB1.out.mono HB0.out.size)⟩
end Go.Proofs.YtmnbhdhgjbgidaaDoor

/- ref03.Valid: what is wrong with a schema. -/
namespace Go.Proofs.YtmnbhdhgjbgidaaDoor
open Go.RowKit

set_option maxRecDepth 100000 in
set_option maxHeartbeats 16000000 in
theorem rvalid_any (s : Sch) (w : World) (hs : s.In w) (hok : SchOk s) :
    Calls Tryd.prog 9 #[.agg #[.slice s.th.ao s.tabs.length s.th.cap]] w fun e w' => (∃ v : Int, e = .returned (.int .i64 v) ∧ ValidE s v) ∧ Below w.heap.size w w' := by
  have HB0 := hide (belA (w := w) (.cells #[.slice s.th.ao s.tabs.length s.th.cap] 28))
  have HS := hide (hs.mono HB0.out)
  have HY := hide (show ∀ w' : World, Below (w.alloc (.cells #[.slice s.th.ao s.tabs.length s.th.cap] 28)).heap.size (w.alloc (.cells #[.slice s.th.ao s.tabs.length s.th.cap] 28)) w' → w'.cell? ⟨w.heap.size, 0, none⟩ = some (.slice s.th.ao s.tabs.length s.th.cap) from fun w' h => box_cell h rfl)
  have HTA := hide (show ∀ w' : World, Below (w.alloc (.cells #[.slice s.th.ao s.tabs.length s.th.cap] 28)).heap.size (w.alloc (.cells #[.slice s.th.ao s.tabs.length s.th.cap] 28)) w' → ∀ (i : Nat) (h : i < s.tabs.length), _ from fun w' h i hi => tab_at (HS.out.mono h).rt hi)
  have HIX := hide (show ∀ (i : Nat) (h : i < s.tabs.length), ∀ U, (Instr.indexAt 26 (.slice s.th.ao s.tabs.length s.th.cap) (.int .i64 (i : Int))).run Tryd.prog U = .ok (.pointer (some ⟨s.th.b, s.th.o + i * 6, none⟩)) U from fun i h => HS.out.rt.ix h Tryd.underlying26 sz22)
  have HOK := hide hok
  have hn := hs.rt.len
  clear hs hok
  by_cases h6 : (6 : Int) < s.tabs.length
  · have HR := hide (pre_8 (s := s) (by omega))
    go_enter Tryd.func9, Tryd.ntmps9
    go_wp2
    go_ret
    exact ⟨⟨8, rfl, HR.out⟩, HB0.out⟩
  have HN6 := hide (show ¬ 6 < s.tabs.length by omega)
  go_enter Tryd.func9, Tryd.ntmps9
  go_wp2
  go_loopw [3] (fun i wr => ∃ k : Nat, k ≤ s.tabs.length ∧ i = .int .i64 k ∧ Hid (∀ j, j < k → tabAt s j = 0) ∧ Hid (Below (w.alloc (.cells #[.slice s.th.ao s.tabs.length s.th.cap] 28)).heap.size (w.alloc (.cells #[.slice s.th.ao s.tabs.length s.th.cap] 28)) wr)) (fun i _ => s.tabs.length - (intOf i).toNat)
  case atStart => exact ⟨0, Nat.zero_le _, rfl, fun j h => absurd h (by omega), Below.refl _ _⟩
  case round =>
    obtain ⟨k, hk, rfl, HN, HBW⟩ := hrel
    have HSR := hide (HS.out.mono HBW.out)
    have gs := HY.out _ HBW.out
    by_cases hlt : k < s.tabs.length
    · have hix := HIX.out k hlt
      have HTK := hide (fun w' h => HTA.out w' h k hlt)
      have hbk := HSR.out.rt.blk hlt
      have HXI := hide (HSR.out.ts _ (List.getElem_mem hlt))
      have HCZ := hide (HOK.out.cs _ (List.getElem_mem hlt))
      have HPT := hide (fun (v : Int) (hv : tabPre s s.tabs[k] k = v) (hne : v ≠ 0) => pre_tab HN6.out hlt HN.out hv hne)
      have HZT := hide (fun (h : tabPre s s.tabs[k] k = 0) => (tabAt_eq hlt).trans h)
      have HPE := hide (show tabPre s s.tabs[k] k = if pb (IsName (s.tabs[k]).name) = false then 3 else if fi (named (s.tabs[k]).name) s.tabs ≠ k then 5 else tableE s.tabs[k] from rfl)
      obtain ⟨x, hx⟩ : ∃ x, s.tabs[k] = x := ⟨_, rfl⟩
      rw [hx] at HTK HXI HCZ HPT HZT HPE
      clear hx
      have t0 := (HTK.out _ HBW.out).1
      have HNM := hide (show x.name.size ≤ 9223372036854775807 by have := HXI.out.nm; unfold maxLen at this; omega)
      obtain ⟨bn, hbn⟩ : ∃ b, pb (IsName x.name) = b := ⟨_, rfl⟩
      have HBN := hide hbn
      rw [hbn] at HPE
      clear hbn
      cases bn
      · have HR := hide (HPT.out 3 (HPE.out.trans (if_pos rfl)) (by decide))
        go_wp2_with (first
          | (go_at_call 25; refine (rname_any _ _ HNM.out).mono ?_; rintro e w1 ⟨rfl, hb1⟩; rw [HBN.out]; have HB1 := hide (bel_trans HBW.out hb1)))
        go_ret
        exact ⟨⟨3, rfl, HR.out⟩, HB0.out.trans (HB1.out.mono HB0.out.size)⟩
      obtain ⟨f, hfi⟩ : ∃ f, fi (named x.name) s.tabs = f := ⟨_, rfl⟩
      have HFI := hide hfi
      rw [hfi] at HPE
      clear hfi
      go_upto_region 8 with (first
        | (go_at_call 25; refine (rname_any _ _ HNM.out).mono ?_; rintro e w1 ⟨rfl, hb1⟩; rw [HBN.out]; have HB1 := hide (bel_trans HBW.out hb1)))
      have hg : ∀ w' : World, Below w1.heap.size w1 w' → w'.cell? ⟨w.heap.size, 0, none⟩ = some (.slice s.th.ao s.tabs.length s.th.cap) := fun w' h => HY.out w' (bel_trans HB1.out h)
      have ht : ∀ w' : World, Below w1.heap.size w1 w' → w'.cell? ⟨s.th.b, s.th.o + k * 6, none⟩ = some (.string x.name) := fun w' h => (HTK.out w' (bel_trans HB1.out h)).1
      have HSW := hide (show ∀ w' : World, Below w1.heap.size w1 w' → s.In w' from fun w' h => HS.out.mono (bel_trans HB1.out h))
      clear t0 gs
      go_region_held3 (fun w' => Below w1.heap.size w1 w') ((first | exact (Below.refl _ _).drew | exact bel_trans (by assumption) (by assumption))) (first | (go_at_call 26; refine (rfind_any s _ _ (HSW.out _ (by assumption))).mono ?_; rintro e' y1 ⟨rfl, hk1⟩; rw [HFI.out]))
      have HB2 := hide (bel_trans HB1.out (show Below w1.heap.size w1 y1 by assumption))
      have gs := HY.out _ HB2.out
      by_cases hfk : f = k
      rotate_left
      · have HR := hide (HPT.out 5 ((HPE.out.trans (if_neg (by simp))).trans (if_pos hfk)) (by decide))
        have hfb : (f == (k : Int)) = false := beq_eq_false_iff_ne.2 hfk
        clear hfk
        go_wp2
        go_ret
        exact ⟨⟨5, rfl, HR.out⟩, HB0.out.trans (HB2.out.mono HB0.out.size)⟩
      subst hfk
      have HP6 := hide ((HPE.out.trans (if_neg (by simp))).trans (if_neg (by simp)))
      obtain ⟨te, hte⟩ : ∃ v, tableE x = v := ⟨_, rfl⟩
      have HTE := hide hte
      rw [hte] at HP6
      clear hte
      obtain ⟨t0, t1, t2, t3, t4, t5⟩ := HTK.out _ HB2.out
      have HXI2 := hide (HXI.out.mono ((bel_trans (show Below wr.heap.size wr w1 by assumption) (show Below w1.heap.size w1 y1 by assumption))))
      by_cases h0 : te = 0
      · subst h0
        have HZ := hide (HZT.out HP6.out)
        go_wp2_with (first
          | (go_at_call 27; refine (rtable_any x _ HXI2.out HCZ.out).mono ?_; rintro e w3 ⟨rfl, hb3⟩; rw [HTE.out]; have HB3 := hide (bel_trans HB2.out hb3); clear hb3))
        go_roundw
        case rel =>
          refine ⟨k + 1, by omega, by go_num, fun j h => ?_, HB3.out⟩
          by_cases e : j = k
          · subst e; exact HZ.out
          · exact HN.out j (by omega)
        case measure => simp [intOf]; omega
      · have HR := hide (HPT.out te HP6.out h0)
        have hteb : (te == 0) = false := beq_eq_false_iff_ne.2 h0
        clear h0
        go_wp2_with (first
          | (go_at_call 27; refine (rtable_any x _ HXI2.out HCZ.out).mono ?_; rintro e w3 ⟨rfl, hb3⟩; rw [HTE.out]; have HB3 := hide (bel_trans HB2.out hb3); clear hb3))
        go_ret
        exact ⟨⟨te, rfl, HR.out⟩, HB0.out.trans (HB3.out.mono HB0.out.size)⟩
    · have HNT := hide (show ∀ j, j < s.tabs.length → tabAt s j = 0 from fun j hj => HN.out j (by omega))
      clear HN
      go_wp2
      go_loopw [7] (fun i wr => ∃ k : Nat, k ≤ s.tabs.length ∧ i = .int .i64 k ∧ Hid (∀ j, j < k → rowAt s j = 0) ∧ Hid (Below (w.alloc (.cells #[.slice s.th.ao s.tabs.length s.th.cap] 28)).heap.size (w.alloc (.cells #[.slice s.th.ao s.tabs.length s.th.cap] 28)) wr)) (fun i _ => s.tabs.length - (intOf i).toNat)
      case atStart => exact ⟨0, Nat.zero_le _, rfl, fun j h => absurd h (by omega), HBW.out⟩
      clear HBW HSR gs
      case round =>
        obtain ⟨k, hk, rfl, HN, HBW⟩ := hrel
        have HSR := hide (HS.out.mono HBW.out)
        have gs := HY.out _ HBW.out
        by_cases hlt2 : k < s.tabs.length
        · have hix := HIX.out k hlt2
          have HTK := hide (fun w' h => HTA.out w' h k hlt2)
          have HTX := hide (show ∀ w' : World, Below (w.alloc (.cells #[.slice s.th.ao s.tabs.length s.th.cap] 28)).heap.size (w.alloc (.cells #[.slice s.th.ao s.tabs.length s.th.cap] 28)) w' → (s.tabs[k]).In w' from fun w' h => (HS.out.mono h).ts _ (List.getElem_mem hlt2))
          have HKF := hide (tab_keys hlt2 (HNT.out k hlt2)).2
          have HTI := hide (fun (m : Nat) (hm : m < (s.tabs[k]).fors.length) => tgt_some (tgtN_hit s k m hlt2 hm))
          have HPR := hide (fun (m : Nat) (hm : m < (s.tabs[k]).fors.length) (hm0 : ∀ j, j < m → refAt s s.tabs[k] j = 0) (v : Int) (hv : refE s s.tabs[k] (s.tabs[k]).fors[m] = v) (hne : v ≠ 0) => pre_ref HN6.out HNT.out hlt2 HN.out hm hm0 hv hne)
          have HRZ := hide (fun h => row_zero (s := s) hlt2 h)
          have hbk := HSR.out.rt.blk hlt2
          obtain ⟨x, hx⟩ : ∃ x, s.tabs[k] = x := ⟨_, rfl⟩
          rw [hx] at HTK HTX HKF HTI HPR HRZ
          clear hx
          have hnf := (HTX.out _ HBW.out).rf.len
          go_wp2
          go_loopw [8] (fun i wz => ∃ m : Nat, m ≤ x.fors.length ∧ i = .int .i64 m ∧ Hid (∀ j, j < m → refAt s x j = 0) ∧ Hid (Below (w.alloc (.cells #[.slice s.th.ao s.tabs.length s.th.cap] 28)).heap.size (w.alloc (.cells #[.slice s.th.ao s.tabs.length s.th.cap] 28)) wz)) (fun i _ => x.fors.length - (intOf i).toNat)
          case atStart => exact ⟨0, Nat.zero_le _, rfl, fun j h => absurd h (by omega), HBW.out⟩
          clear HBW HSR gs hbk
          case round =>
            obtain ⟨m, hm, rfl, HM, HBZ⟩ := hrel
            have gs := HY.out _ HBZ.out
            have hsr := (HS.out.mono HBZ.out).rt
            have hbk := hsr.blk hlt2
            have k4 := (HTK.out _ HBZ.out).2.2.2.2.1
            clear hsr
            by_cases hlm : m < x.fors.length
            · obtain ⟨hti, htb⟩ := HTI.out m hlm
              have HTI2 := hide hti.symm
              have HTB2 := hide htb.symm
              obtain ⟨bf, hbf⟩ : ∃ b, fok (named (x.fors[m]).tab) s.tabs = b := ⟨_, rfl⟩
              have HBF := hide hbf
              clear hti htb hbf
              cases bf
              · have HR := hide (HPR.out m hlm HM.out 11 (by unfold refE; rw [if_pos HBF.out]) (by decide))
                go_wp2_with (go_at_call 28; refine (rtarget_any s k m _ (HS.out.mono HBZ.out)).mono ?_; rintro e w1 ⟨rfl, hb1⟩; rw [HTB2.out, HBF.out]; have HB1 := hide (bel_trans HBZ.out hb1); clear hb1)
                go_ret
                exact ⟨⟨11, rfl, HR.out⟩, HB0.out.trans (HB1.out.mono HB0.out.size)⟩
              obtain ⟨n, hfn, hnl⟩ := fi_in HBF.out
              have HFN := hide (HTI2.out.trans hfn)
              have HRE := hide (show refE s x x.fors[m] = if eqT x s.tabs[n] (x.fors[m]).cols.l (s.tabs[n]).prim.l then 0 else 6 by unfold refE; rw [if_neg (by rw [HBF.out]; simp), hfn]; simp [List.getD, hnl])
              clear hfn
              have hixn := HIX.out n hnl
              have HTN := hide (fun w' h => HTA.out w' h n hnl)
              have HTY := hide (show ∀ w' : World, Below (w.alloc (.cells #[.slice s.th.ao s.tabs.length s.th.cap] 28)).heap.size (w.alloc (.cells #[.slice s.th.ao s.tabs.length s.th.cap] 28)) w' → (s.tabs[n]).In w' from fun w' h => (HS.out.mono h).ts _ (List.getElem_mem hnl))
              have HKP := hide (tab_keys hnl (HNT.out n hnl)).1
              obtain ⟨y, hy⟩ : ∃ y, s.tabs[n] = y := ⟨_, rfl⟩
              rw [hy] at HRE HTN HTY HKP
              clear hy
              have HKC := hide (HKF.out _ (List.getElem_mem hlm))
              have HPM := hide (fun v hv hne => HPR.out m hlm HM.out v hv hne)
              have HRA := hide (refAt_eq (s := s) hlm)
              have HFI := hide (show ∀ w' : World, Below (w.alloc (.cells #[.slice s.th.ao s.tabs.length s.th.cap] 28)).heap.size (w.alloc (.cells #[.slice s.th.ao s.tabs.length s.th.cap] 28)) w' → (x.fors[m]).In w' from fun w' h => (HTX.out w' h).fs _ (List.getElem_mem hlm))
              have hixf := (HTX.out _ HBZ.out).rf.ix hlm Tryd.underlying36 sz61
              have HFC := hide (show ∀ w' : World, Below (w.alloc (.cells #[.slice s.th.ao s.tabs.length s.th.cap] 28)).heap.size (w.alloc (.cells #[.slice s.th.ao s.tabs.length s.th.cap] 28)) w' → w'.cell? ⟨x.fh.b, x.fh.o + m * 2, none⟩ = some (.slice (x.fors[m]).cols.h.ao (x.fors[m]).cols.l.length (x.fors[m]).cols.h.cap) from fun w' h => (frn_at (HTX.out w' h).rf hlm).1)
              have HFB := hide (show ∀ w' : World, Below (w.alloc (.cells #[.slice s.th.ao s.tabs.length s.th.cap] 28)).heap.size (w.alloc (.cells #[.slice s.th.ao s.tabs.length s.th.cap] 28)) w' → x.fh.b < w'.heap.size from fun w' h => (HTX.out w' h).rf.blk hlm)
              obtain ⟨f, hf⟩ : ∃ f, x.fors[m] = f := ⟨_, rfl⟩
              rw [hf] at HRE HKC HPM HRA HFI HFC
              clear hf
              have HBB := hide (show ∀ w' : World, Below (w.alloc (.cells #[.slice s.th.ao s.tabs.length s.th.cap] 28)).heap.size (w.alloc (.cells #[.slice s.th.ao s.tabs.length s.th.cap] 28)) w' → s.th.b < w'.heap.size from fun w' h => (HS.out.mono h).rt.blk hlt2)
              have hl1 := (HFI.out _ HBZ.out).1.1.len
              have hl2 := (HTY.out _ HBZ.out).rp.1.len
              by_cases hne : f.cols.l.length = y.prim.l.length
              rotate_left
              · have HR := hide (HPM.out 6 (HRE.out.trans (by rw [eqT_no (fun h => hne h.1)]; rfl)) (by decide))
                have hneb : ((f.cols.l.length : Int) != (y.prim.l.length : Int)) = true := by show (!(_ == _)) = true; rw [beq_eq_false_iff_ne.2 (by omega)]; rfl
                clear hne
                go_wp2_with (go_at_call 28; refine (rtarget_any s k m _ (HS.out.mono HBZ.out)).mono ?_; rintro e w1 ⟨rfl, hb1⟩; rw [HTB2.out, HBF.out, HFN.out]; have HB1 := hide (bel_trans HBZ.out hb1); clear hb1; have g0 := HY.out _ HB1.out; have g1 := (HTK.out _ HB1.out).2.2.2.2.1; have g2 := (HTN.out _ HB1.out).2.2.1; have g3 := HFC.out _ HB1.out; have g4 := HBB.out _ HB1.out; have g5 := HFB.out _ HB1.out)
                go_quiet (fail)
                go_wp2
                go_ret
                exact ⟨⟨6, rfl, HR.out⟩, HB0.out.trans ((below_drewN HB1.out _).mono HB0.out.size)⟩
              have HNE := hide hne
              have hneb : ((f.cols.l.length : Int) != (y.prim.l.length : Int)) = false := by show (!(_ == _)) = false; rw [beq_iff_eq.2 (by omega)]; rfl
              clear hne
              go_wp2_with (go_at_call 28; refine (rtarget_any s k m _ (HS.out.mono HBZ.out)).mono ?_; rintro e w1 ⟨rfl, hb1⟩; rw [HTB2.out, HBF.out, HFN.out]; have HB1 := hide (bel_trans HBZ.out hb1); clear hb1; have g0 := HY.out _ HB1.out; have g1 := (HTK.out _ HB1.out).2.2.2.2.1; have g2 := (HTN.out _ HB1.out).2.2.1; have g3 := HFC.out _ HB1.out; have g4 := HBB.out _ HB1.out; have g5 := HFB.out _ HB1.out)
              go_quiet (fail)
              go_wp2
              clear hneb g0 g1 g2 g3 g4 g5 k4 gs
              go_loopw [13] (fun i wy => ∃ j : Nat, j ≤ f.cols.l.length ∧ i = .int .i64 j ∧ Hid (∀ i (h : i < f.cols.l.length) (h' : i < y.prim.l.length), i < j → ct x f.cols.l[i] = ct y y.prim.l[i]) ∧ Hid (Below (w.alloc (.cells #[.slice s.th.ao s.tabs.length s.th.cap] 28)).heap.size (w.alloc (.cells #[.slice s.th.ao s.tabs.length s.th.cap] 28)) wy)) (fun i _ => f.cols.l.length - (intOf i).toNat)
              case atStart => exact ⟨0, Nat.zero_le _, rfl, fun i _ _ h => absurd h (by omega), below_drewN HB1.out _⟩
              clear HBZ HB1 hbk
              case round =>
                obtain ⟨j, hj, rfl, HE, HBY⟩ := hrel
                have gs := HY.out _ HBY.out
                have hbk := HBB.out _ HBY.out
                by_cases hlj : j < f.cols.l.length
                · have hlj2 : j < y.prim.l.length := by have := HNE.out; omega
                  have hjx := IL.ix (HFI.out _ HBY.out).1 hlj
                  have jc := int_at (HFI.out _ HBY.out).1.1 hlj
                  have jb := (HFI.out _ HBY.out).1.1.blk hlj
                  have hjy := IL.ix (HTY.out _ HBY.out).rp hlj2
                  have jd := int_at (HTY.out _ HBY.out).rp.1 hlj2
                  have je := (HTY.out _ HBY.out).rp.1.blk hlj2
                  obtain ⟨a, ha⟩ : ∃ a : Nat, f.cols.l[j] = a := ⟨(f.cols.l[j]).toNat, by have := (HKC.out.2 j hlj).1; omega⟩
                  obtain ⟨b, hb⟩ : ∃ b : Nat, y.prim.l[j] = b := ⟨(y.prim.l[j]).toNat, by have := (HKP.out.2 j hlj2).1; omega⟩
                  have hal : a < x.cols.length := by have := (HKC.out.2 j hlj).2.1; omega
                  have hbl : b < y.cols.length := by have := (HKP.out.2 j hlj2).2.1; omega
                  have HCA := hide (show ct x f.cols.l[j] = (x.cols[a]).typ by rw [ha]; simp [ct, List.getD, hal])
                  have HCB := hide (show ct y y.prim.l[j] = (y.cols[b]).typ by rw [hb]; simp [ct, List.getD, hbl])
                  rw [ha] at jc
                  rw [hb] at jd
                  clear ha hb
                  have cx := (HTK.out _ HBY.out).2.1
                  have cy := (HTN.out _ HBY.out).2.1
                  have hxa := (HTX.out _ HBY.out).rc.ix hal Tryd.underlying34 sz30
                  obtain ⟨xa0, xa1, xa2⟩ := col_at (HTX.out _ HBY.out).rc hal
                  have xab := (HTX.out _ HBY.out).rc.blk hal
                  have hyb := (HTY.out _ HBY.out).rc.ix hbl Tryd.underlying34 sz30
                  obtain ⟨yb0, yb1, yb2⟩ := col_at (HTY.out _ HBY.out).rc hbl
                  have ybb := (HTY.out _ HBY.out).rc.blk hbl
                  by_cases het : (x.cols[a]).typ = (y.cols[b]).typ
                  · have HET := hide (HCA.out.trans (het.trans HCB.out.symm))
                    have hetb : ((x.cols[a]).typ != (y.cols[b]).typ) = false := by show (!(_ == _)) = false; rw [beq_iff_eq.2 het]; rfl
                    clear het
                    go_wp2
                    go_quiet (fail)
                    go_wp2
                    go_roundw
                    case rel =>
                      refine ⟨j + 1, by omega, by go_num, fun i hi hi' h => ?_, below_drewN HBY.out _⟩
                      by_cases e : i = j
                      · subst e; exact HET.out
                      · exact HE.out i hi hi' (by omega)
                    case measure => simp [intOf]; omega
                  · have HR := hide (HPM.out 6 (HRE.out.trans (by rw [eqT_no (fun h => het (HCA.out.symm.trans ((h.2 j hlj hlj2).trans HCB.out)))]; rfl)) (by decide))
                    have hetb : ((x.cols[a]).typ != (y.cols[b]).typ) = true := by show (!(_ == _)) = true; rw [beq_eq_false_iff_ne.2 het]; rfl
                    clear het
                    go_wp2
                    go_quiet (fail)
                    go_wp2
                    go_ret
                    exact ⟨⟨6, rfl, HR.out⟩, HB0.out.trans ((below_drewN HBY.out _).mono HB0.out.size)⟩
                · have HZ := hide (HRA.out.trans (HRE.out.trans (show _ = (0 : Int) by rw [eqT_yes ⟨HNE.out, fun i h h' => HE.out i h h' (by omega)⟩]; rfl)))
                  go_wp2
                  go_roundw
                  case rel =>
                    refine ⟨m + 1, by omega, by go_num, fun i h => ?_, HBY.out⟩
                    by_cases e : i = m
                    · subst e; exact HZ.out
                    · exact HM.out i (by omega)
                  case measure => simp [intOf]; omega
            · have HZ := hide (HRZ.out (fun j hj => HM.out j (by omega)))
              go_wp2
              go_roundw
              case rel =>
                refine ⟨k + 1, by omega, by go_num, fun j h => ?_, HBZ.out⟩
                by_cases e : j = k
                · subst e; exact HZ.out
                · exact HN.out j (by omega)
              case measure => simp [intOf]; omega
        · go_wp2_with (go_at_call 29; refine (rorder_any s _ HSR.out (by omega)).mono ?_; rintro e w1 ⟨hr, hb1⟩; obtain ⟨l1, x1, rfl, hl1, ho1⟩ := ord_out hr; have HB1 := hide (bel_trans HBW.out hb1); have HO1 := hide ho1; clear hr hb1 hl1 ho1 gs)
          go_ret
          exact ⟨⟨x1, rfl, pre_ord HN6.out HNT.out (fun j hj => HN.out j (by omega)) HO1.out⟩, HB0.out.trans (HB1.out.mono HB0.out.size)⟩
end Go.Proofs.YtmnbhdhgjbgidaaDoor

/- The walk of law03.SchemaReferences: true for every list. -/
namespace Go.Proofs.YtmnbhdhgjbgidaaDoor
open Go.RowKit

theorem took_at {T : List (List Nat)} {D : List Nat} (h : Took T D) : ∀ (k : Nat) (hk : k < D.length), isNext T (D.take k) D[k] := by
  induction h with
  | nil => intro k hk; simp at hk
  | @snoc D i hD hi ih =>
    intro k hk
    by_cases e : k = D.length
    · subst e
      rw [List.take_append_of_le_length (Nat.le_refl _), List.take_length]
      simpa using hi
    · have hk' : k < D.length := by simp at hk; omega
      rw [List.take_append_of_le_length (Nat.le_of_lt hk'), List.getElem_append_left hk']
      exact ih k hk'
/-- A valid schema has its order. -/
theorem valid_ends {s : Sch} {l : List Int} {x : Int} (h : ValidE s 0) (h' : ordOut s l x) : x = 0 ∧ allFound s ∧ ∃ D, Ends (tgts s) D true ∧ l = D.map Int.ofNat := by
  rcases h with ⟨h0, h1⟩ | ⟨_, l0, h1⟩
  · exact absurd h1.symm h0
  · obtain ⟨e1, e2⟩ := ord_one h' h1
    rcases h1 with ⟨_, _, e⟩ | ⟨ha, D, ⟨_, _, e⟩ | ⟨h2, h3, _⟩⟩
    · exact absurd e (by decide)
    · exact absurd e (by decide)
    · exact ⟨e2, ha, D, h2, e1.trans h3⟩
theorem SchOut.sch {w z : World} {b a : Nat} {L : IL} {s : Sch} (o : SchOut w z b L a s.th s.tabs) : s.In z where
  rt := row_of_own (fun _ => rfl) (by decide) o.own
  ts := fun t ht => (o.tis t ht).1.inn
theorem SchOut.ok {w z : World} {b a : Nat} {L : IL} {s : Sch} (o : SchOut w z b L a s.th s.tabs) : SchOk s where
  us := fun t ht => by
    by_cases h : t.uniqs = []
    · right; rw [(o.tis t ht).2.nu h]; rfl
    · left; exact List.length_pos_iff.2 h
  cs := fun t ht c hc => Nat.le_trans ((o.tis t ht).1.ks c hc).2.2 (by decide)

/-- What lies in the world between two rounds. -/
structure RF (W : World) (n k : Nat) (D : List Nat) (wr : World) : Prop where
  don : wr.ownsRow W.heap.size 4 1 (.slice (some ⟨W.heap.size, 0, none⟩) n n) n (bits (D.take k) n)
  bw : Below W.heap.size W wr
theorem RF.next {W : World} {n k : Nat} {D : List Nat} {wr w' : World} (h : RF W n k D wr) (hb : Below wr.heap.size wr w') : RF W n k D w' :=
  ⟨h.don.kept (grown_of_below hb) (.inr (by simp [Value.ownBlock])), h.bw.trans (hb.mono h.bw.size)⟩
theorem RF.cell {W : World} {n k j : Nat} {D : List Nat} {wr : World} (h : RF W n k D wr) (hj : j < n) : wr.cell? ⟨W.heap.size, j, none⟩ = some (.bool (decide (j ∈ D.take k))) := by
  rw [h.don.cellAt j (by omega), bits_at _ hj]
theorem RF.mark {W : World} {n k : Nat} {D : List Nat} {wr : World} (h : RF W n k D wr) (hk : k < D.length) (hd : D[k] < n) : RF W n (k + 1) D (wr.setCell ⟨W.heap.size, D[k], none⟩ (.bool true)) := by
  obtain ⟨hd2, hg2⟩ := h.don.stored D[k] (.bool true)
  rw [bits_set _ hd] at hd2
  refine ⟨?_, h.bw.setCell (p := ⟨W.heap.size, D[k], none⟩) (Nat.le_refl _) _⟩
  rw [List.take_succ_eq_append_getElem hk]
  exact hd2

set_option maxRecDepth 100000 in
set_option maxHeartbeats 8000000 in
theorem refs_walk (HSA : Hid SchemaAt) (L : IL) (w : World) (hL : L.In w) (hf : OpsAt w) (hsh : w.ShapedOpen Tryd.prog) :
    Calls Tryd.prog 4 #[.slice L.h.ao L.l.length L.h.cap] w fun e w' => e = .returned (.bool true) ∧ Below w.heap.size w w' := by
  have HT := hide (show TapeIn (w.alloc (.cells #[.slice L.h.ao L.l.length L.h.cap, .int .i64 0] 25)) w.heap.size L 0 from ⟨(Box.new w _ _).cell (j := 0) rfl, (Box.new w _ _).cell (j := 1) rfl, (Box.new w _ _).fr 1, hL.mono (belA _), fun hp => by have := hL.1.blk hp; omega⟩)
  have HF := hide hf
  have HSH := hide hsh
  clear hf hsh hL
  go_enter Tryd.func4, Tryd.ntmps4
  go_upto_region 2 with (go_at_call 7; refine (HSA.out _ w.heap.size 0 L HT.out (by omega)).mono ?_; rintro e w2 ⟨h, ts, rfl, h1, h3, a', ha', hso⟩; obtain ⟨s, rfl, rfl⟩ : ∃ s : Sch, s.th = h ∧ s.tabs = ts := ⟨⟨h, ts⟩, rfl, rfl⟩; have HSO := hide hso; have HB2 := hide (grown1 (B := w.heap.size) (Below.refl _ _) (Nat.le_refl _) hso.gb (fun k hk => by injection hk with hk; omega)); clear hso ha')
  have HB3 := hide (HB2.out.trans ((belA (.cells #[.slice s.th.ao s.tabs.length s.th.cap] 28)).mono HB2.out.size))
  have HIN := hide (HSO.out.sch.mono (belA (.cells #[.slice s.th.ao s.tabs.length s.th.cap] 28)))
  have HOK := hide HSO.out.ok
  have HBX := hide (Box.new w2 #[.slice s.th.ao s.tabs.length s.th.cap] 28)
  generalize w2.alloc (.cells #[.slice s.th.ao s.tabs.length s.th.cap] 28) = W at *
  clear HSO HB2 HT
  generalize w2.heap.size = c at *
  have HF3 := hide (HF.out.mono HB3.out)
  have HSH3 := hide (HSH.out.keptBut (HB3.out.frame (fun _ => False)) (by simp))
  have y0 := HBX.out.cell (j := 0) rfl
  go_upto_if 18 with (go_at_call 8; refine (valid_any s _ HIN.out HOK.out HF3.out HSH3.out).mono ?_; rintro e w4 ⟨⟨v, rfl, hv⟩, hb4⟩; have HV := hide hv; have HB4 := hide hb4; clear hv hb4)
  clear y0
  have HBX4 := hide (HBX.out.below HB4.out)
  have HIN4 := hide (HIN.out.mono HB4.out)
  have HF4 := hide (HF3.out.mono HB4.out)
  have HSHX := hide (show ∀ w' : World, Below w4.heap.size w4 w' → w'.ShapedOpen Tryd.prog from fun w' h => HSH3.out.keptBut ((bel_trans HB4.out h).frame (fun _ => False)) (by simp))
  have HBW := hide (show Below w.heap.size w w4 from HB3.out.trans (HB4.out.mono HB3.out.size))
  have hcl := HBX4.out.lt
  clear HBX HIN HF3 HSH3 HB4 HB3 HF HSH
  by_cases hv0 : v = 0
  · subst hv0
    have y4 := HBX4.out.cell (j := 0) rfl
    go_upto_region 5 with (go_at_call 11; refine (oorder_any s _ HIN4.out (by omega)).mono ?_; rintro e w5 ⟨ho, hb5⟩; obtain ⟨r, x, rfl, hr, hord⟩ := ord_out ho; have HR := hide hr; have HE := hide (valid_ends HV.out hord); obtain ⟨rfl⟩ := (show x = 0 from HE.out.1); have HB5 := hide hb5; clear ho hr hord hb5)
    clear y4
    obtain ⟨-, haf, D, hD, hrl⟩ := HE.out
    have HAF := hide haf
    have HTK := hide hD.1
    have hDn : D.length = s.tabs.length := by have h2 := hD.2; rw [if_pos rfl, tgts_len] at h2; exact h2
    have HDN := hide hDn
    have hle : r.l.length = s.tabs.length := by rw [hrl, List.length_map, hDn]
    have HRL := hide hrl
    clear haf hD hrl hDn HE HV
    have HBX5 := hide (HBX4.out.below HB5.out)
    have HIN5 := hide (HIN4.out.mono HB5.out)
    have HBW5 := hide (show Below w.heap.size w w5 from HBW.out.trans (HB5.out.mono HBW.out.size))
    have hs5 := HB5.out.size
    have y5 := HBX5.out.cell (j := 0) rfl
    have hcl5 := HBX5.out.lt
    clear HBX4 HIN4 HF4 HSHX HBW HB5
    obtain ⟨bi, hbi, hbz, hbs, hbb⟩ := info_parts info_bool
    go_wp2_with (at_make; refine wpList_make_full _ rfl _ _ 49 rfl w5.heap.size 4 bi (.bool false) 1 Tryd.underlying49 hbi hbz hbs _ _ _ _ s.tabs.length rfl rfl rfl rfl (by rw [hbb]; omega) (by unfold maxLen; omega) (Nat.le_refl _) ?_; intro w6 hown hgrow; have HO := hide hown; have HG := hide hgrow; clear hown hgrow)
    have HRF := hide (show RF w5 s.tabs.length 0 D w6 from ⟨made_bits _ ▸ HO.out, (Below.refl _ _).grown HG.out (Nat.le_refl _) (fun b hb => by cases hb)⟩)
    clear HO HG hbi hbz hbs hbb y5
    go_loopw [7] (fun i wr => ∃ k : Nat, i = .int .i64 k ∧ k ≤ s.tabs.length ∧ Hid (RF w5 s.tabs.length k D wr)) (fun i _ => s.tabs.length - (intOf i).toNat)
    case atStart => exact ⟨0, rfl, Nat.zero_le _, HRF.out⟩
    case round =>
      obtain ⟨k, rfl, hk, HQ⟩ := hrel
      clear HRF
      by_cases hlt : k < s.tabs.length
      · have hlti : (k : Int) < s.tabs.length := by omega
        have hkD : k < D.length := by have := HDN.out; omega
        have hnx := took_at HTK.out k hkD
        have hd1 : D[k] < s.tabs.length := by have := hnx.1; rw [tgts_len] at this; exact this
        have hrk : r.l[k]'(by rw [hle]; exact hlt) = ((D[k] : Nat) : Int) := by
          have h1 : r.l[k]? = (D.map Int.ofNat)[k]? := by rw [HRL.out]
          rw [List.getElem?_eq_getElem (by rw [hle]; exact hlt), List.getElem?_map, List.getElem?_eq_getElem hkD] at h1
          injection h1
        have HMK := hide (show ∀ wx, Below wr.heap.size wr wx → RF w5 s.tabs.length (k + 1) D (wx.setCell ⟨w5.heap.size, D[k], none⟩ (.bool true)) from fun wx h => (HQ.out.next h).mark hkD hd1)
        have HRD := hide ((rdy_iff s (D.take k) hd1).1 hnx.2.1)
        have hri := HR.out.mono HQ.out.bw
        have hix := IL.ix hri (i := k) (by rw [hle]; exact hlt)
        have hc0 := int_at hri.1 (i := k) (by rw [hle]; exact hlt)
        have hbk := hri.1.blk (i := k) (by rw [hle]; exact hlt)
        rw [hrk] at hc0
        rw [hle] at hix
        have hdc := HQ.out.cell hd1
        rw [decide_eq_false HRD.out.1] at hdc
        clear hri hnx
        generalize D[k] = d at *
        obtain ⟨Vr, hVr⟩ : ∃ x, x = wr := ⟨_, rfl⟩
        subst hVr
        have hdi : (d : Int) < s.tabs.length := by omega
        have hd0 : ¬ (d : Int) < 0 := by omega
        have hd2 : ¬ (s.tabs.length : Int) ≤ d := by omega
        go_wp2
        clear hix hc0 hdc hbk
        go_loopw [9] (fun i wx => ∃ m : Nat, i = .int .i64 m ∧ m ≤ s.tabs[d].fors.length ∧ Hid (Below Vr.heap.size Vr wx)) (fun i _ => s.tabs[d].fors.length - (intOf i).toNat)
        case atStart => exact ⟨0, rfl, Nat.zero_le _, Below.refl _ _⟩
        case round =>
          obtain ⟨m, rfl, hm, HM⟩ := hrel
          have HQM := hide (HQ.out.next HM.out)
          have HINx := hide (HIN5.out.mono HQM.out.bw)
          have yx := (HBX5.out.below HQM.out.bw).cell (j := 0) rfl
          have hixt := HINx.out.rt.ix hd1 Tryd.underlying26 sz22
          have hbkt := HINx.out.rt.blk hd1
          obtain ⟨c0, c1, c2, c3, c4, c5⟩ := tab_at HINx.out.rt hd1
          have hfl := (HINx.out.ts _ (List.getElem_mem hd1)).rf.len
          by_cases hmt : m < s.tabs[d].fors.length
          · have hmi : (m : Int) < s.tabs[d].fors.length := by omega
            have hfk : fok (named s.tabs[d].fors[m].tab) s.tabs = true := HAF.out d hd1 m hmt
            have HFK := hide hfk
            have htl := tnum_lt hfk
            have HTD := hide (show ∀ wx, RF w5 s.tabs.length k D wx → wx.cell? ⟨w5.heap.size, tnum s s.tabs[d].fors[m].tab, none⟩ = some (.bool true) from fun wx h => by rw [h.cell htl, decide_eq_true (HRD.out.2 m hmt)])
            have hti : ((tnum s s.tabs[d].fors[m].tab : Nat) : Int) < s.tabs.length := by omega
            have ht0 : ¬ ((tnum s s.tabs[d].fors[m].tab : Nat) : Int) < 0 := by omega
            have ht2 : ¬ (s.tabs.length : Int) ≤ ((tnum s s.tabs[d].fors[m].tab : Nat) : Int) := by omega
            clear hfk
            go_wp2_with (go_at_call 12; refine (target_any s d m _ HINx.out).mono ?_; rintro e v ⟨rfl, hb1⟩; rw [tgtI_at s hd1 hmt, tgtB_at s hd1 hmt, HFK.out]; have HB1 := hide (bel_trans HM.out hb1); have hdt := HTD.out v (HQM.out.next hb1); clear hb1)
            go_roundw
            case rel => exact ⟨m + 1, by go_num, by omega, HB1.out⟩
            case measure => simp [intOf]; omega
          · have hmi : ¬ (m : Int) < s.tabs[d].fors.length := by omega
            have hdc := HQM.out.cell hd1
            have hdf := HQM.out.don.frozenAt d
            go_wp2
            go_roundw
            case rel => exact ⟨k + 1, by go_num, by omega, HMK.out _ HM.out⟩
            case measure => simp [intOf]; omega
      · have hlti : ¬ (k : Int) < s.tabs.length := by omega
        go_wp2
        go_ret
        exact ⟨rfl, HBW5.out.trans (HQ.out.bw.mono HBW5.out.size)⟩
  · have b1 : (v != 0) = true := bne_iff_ne.2 hv0
    have hy : ∀ w' : World, Below w4.heap.size w4 w' → w'.cell? ⟨c, 0, none⟩ = some (.slice s.th.ao s.tabs.length s.th.cap) := fun w' h => (HBX4.out.below h).cell (j := 0) rfl
    go_upto_region 3 with fail
    go_region_held3 (fun w' => Below w4.heap.size w4 w') ((first | exact (Below.refl _ _).drew | exact bel_trans (by assumption) (by assumption))) (first
      | (go_at_call 9; refine (rvalid_any s _ (HIN4.out.mono (by assumption)) HOK.out).mono ?_; rintro e w6 ⟨⟨v2, rfl, hv2⟩, hb6⟩; have HV2 := hide hv2; clear hv2)
      | (go_at_call 8; refine (valid_any s _ (HIN4.out.mono (by assumption)) HOK.out (HF4.out.mono (by assumption)) (HSHX.out _ (by assumption))).mono ?_; rintro e w7 ⟨⟨v1, rfl, hv1⟩, hb7⟩; have HV1 := hide hv1; clear hv1))
    have HFIN := hide (show Below w4.heap.size w4 w6 by assumption)
    obtain rfl : v1 = v2 := valid_one HV1.out HV2.out
    go_wp2
    go_ret
    exact ⟨by simp, HBW.out.trans (HFIN.out.mono HBW.out.size)⟩
end Go.Proofs.YtmnbhdhgjbgidaaDoor

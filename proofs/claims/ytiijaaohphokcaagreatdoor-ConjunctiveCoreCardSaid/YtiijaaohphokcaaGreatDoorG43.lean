/- The names that querylabfield.Plain gives; the schema that it makes is plain. -/
import Derived.Test.YtiijaaohphokcaaGreatDoorCjJ1K
namespace Go.Proofs.YtiijaaohphokcaaGreatDoor
open Go.RowKit

theorem cnm_eq (c : UInt8) : cnm c = ⟨#[99, c]⟩ := rfl
theorem name1_ok (a : UInt8) (h0 : lett (a.toNat : Int) = true ∧ vch (a.toNat : Int) = true) (hn : [a] ∉ words) : IsName ⟨#[a]⟩ :=
  ⟨by show 1 ≤ 1; decide, by show 1 ≤ 16; decide, fun _ => h0.1, fun j h => by
    have hj : j = 0 := by have h : j < 1 := h; omega
    subst hj
    exact h0.2, fun h => hn (mem_words.2 h)⟩
theorem name2_ok (a c : UInt8) (h0 : lett (a.toNat : Int) = true ∧ vch (a.toNat : Int) = true) (h2 : vch (c.toNat : Int) = true) (hn : [a, c] ∉ words) : IsName ⟨#[a, c]⟩ :=
  ⟨by show 1 ≤ 2; decide, by show 2 ≤ 16; decide, fun _ => h0.1, fun j h => by
    have hj : j = 0 ∨ j = 1 := by have h : j < 2 := h; omega
    rcases hj with rfl | rfl
    · exact h0.2
    · exact h2, fun h => hn (mem_words.2 h)⟩
theorem isname_k : IsName ⟨#[107]⟩ := name1_ok 107 (by decide) (by decide)
theorem isname_cb : IsName (cnm 98) := name2_ok 99 98 (by decide) (by decide) (by decide)
theorem isname_cc : IsName (cnm 99) := name2_ok 99 99 (by decide) (by decide) (by decide)
/-- The name of a table. -/
def tnm (c : UInt8) : ByteArray := (⟨#[112]⟩ : ByteArray) ++ ⟨#[c]⟩
theorem isname_pa : IsName (tnm 97) := name2_ok 112 97 (by decide) (by decide) (by decide)
theorem isname_pb : IsName (tnm 98) := name2_ok 112 98 (by decide) (by decide) (by decide)
/-- The names of the columns that stand when n are wanted and kk lack. -/
def colNames (n kk : Nat) : List ByteArray := ⟨#[107]⟩ :: ((List.range (n - kk)).map fun i => if n - i = 1 then cnm 98 else cnm 99)
theorem colNames_step {n kk : Nat} (h1 : 1 ≤ kk) (h2 : kk ≤ n) : colNames n (kk - 1) = colNames n kk ++ [if kk = 1 then cnm 98 else cnm 99] := by
  unfold colNames
  rw [show n - (kk - 1) = (n - kk) + 1 by omega, List.range_succ, List.map_append, List.cons_append]
  simp only [List.map_cons, List.map_nil]
  rw [show n - (n - kk) = kk by omega]
theorem fi_names {α : Type} {nm : α → ByteArray} {p : ByteArray → α → Bool} (hp : ∀ t x, p t x = ((nm x).toList == t.toList)) {xs : List α} (hd : (xs.map fun x => (nm x).data.toList).Nodup) : ∀ j (h : j < xs.length), fi (p (nm (xs[j]'h))) xs = j := fun j h => by
  refine (fi_hit h ?_ (fun i hi hij => ?_)).1
  · rw [hp]; exact beq_self_eq_true _
  · rw [hp]
    refine beq_eq_false_iff_ne.2 (fun e => ?_)
    rw [ByteArray.toList_eq, ByteArray.toList_eq] at e
    have h1 : i < (xs.map fun x => (nm x).data.toList).length := by simpa using hi
    have h2 : j < (xs.map fun x => (nm x).data.toList).length := by simpa using h
    have h3 : (xs.map fun x => (nm x).data.toList)[i] = (xs.map fun x => (nm x).data.toList)[j] := by rw [List.getElem_map, List.getElem_map]; exact e
    have h6 := List.Nodup.idxOf_getElem hd i h1
    have h7 := List.Nodup.idxOf_getElem hd j h2
    rw [h3, h7] at h6
    omega
/-- Columns that querylabfield.Plain makes. -/
def ColP (n kk : Nat) (cols : List Col) : Prop := cols.map Col.name = colNames n kk ∧ ∀ c ∈ cols, (c.typ = 1 ∨ c.typ = 3) ∧ c.nul = false
theorem ColP.start (n : Nat) : ColP n n [⟨⟨#[107]⟩, 1, false⟩] := ⟨by unfold colNames; rw [Nat.sub_self]; rfl, fun c hc => by rw [List.mem_singleton.1 hc]; exact ⟨.inl rfl, rfl⟩⟩
theorem ColP.step {n kk : Nat} {cols : List Col} (h : ColP n kk cols) (h1 : 1 ≤ kk) (h2 : kk ≤ n) {t : Int} (ht : t = 1 ∨ t = 3) : ColP n (kk - 1) (cols ++ [⟨if kk = 1 then cnm 98 else cnm 99, t, false⟩]) := by
  refine ⟨by rw [List.map_append, h.1, colNames_step h1 h2]; rfl, fun c hc => ?_⟩
  rcases List.mem_append.1 hc with hc | hc
  · exact h.2 c hc
  · rw [List.mem_singleton.1 hc]; exact ⟨ht, rfl⟩
theorem ColP.len {n kk : Nat} {cols : List Col} (h : ColP n kk cols) : cols.length = n - kk + 1 := by
  have := congrArg List.length h.1
  unfold colNames at this
  simpa using this
theorem ColP.wf {n kk : Nat} {cols : List Col} (h : ColP n kk cols) (hn : n ≤ 2) : ∀ c ∈ cols, c.wf ∧ IsName c.name := fun c hc => by
  have hm : c.name ∈ colNames n kk := by rw [← h.1]; exact List.mem_map_of_mem hc
  have hnm : c.name = ⟨#[107]⟩ ∨ c.name = cnm 98 ∨ c.name = cnm 99 := by
    unfold colNames at hm
    rcases List.mem_cons.1 hm with hm | hm
    · exact .inl hm
    · obtain ⟨i, _, hi⟩ := List.mem_map.1 hm
      right
      by_cases e : n - i = 1
      · rw [if_pos e] at hi; exact .inl hi.symm
      · rw [if_neg e] at hi; exact .inr hi.symm
  have hin : IsName c.name := by
    rcases hnm with e | e | e <;> rw [e]
    · exact isname_k
    · exact isname_cb
    · exact isname_cc
  refine ⟨?_, hin⟩
  have ht := (h.2 c hc).1
  have h64 : int64 c.typ := by rcases ht with e | e <;> rw [e] <;> (constructor <;> decide)
  exact ⟨Nat.le_trans hin.hi (by unfold maxLen; omega), h64⟩
theorem ColP.pcols {n : Nat} {cols : List Col} (h : ColP n 0 cols) (hn : n ≤ 2) : PCols cols := by
  have hl := h.len
  refine ⟨by omega, by omega, fun c hc => (h.wf hn c hc).2, fun c hc => (h.2 c hc).1, fun c hc => (h.2 c hc).2, fi_names (nm := Col.name) (fun _ _ => rfl) ?_⟩
  have e : (cols.map fun x => x.name.data.toList) = (colNames n 0).map fun s => s.data.toList := by rw [← h.1, List.map_map]; rfl
  rw [e]
  have hc : n = 0 ∨ n = 1 ∨ n = 2 := by omega
  rcases hc with rfl | rfl | rfl <;> decide
/-- A table that querylabfield.Plain makes. -/
def TabP (i : Nat) (t : Tab) : Prop := t.name = tnm (if i = 0 then 97 else 98) ∧ ∃ n, n ≤ 2 ∧ ColP n 0 t.cols
def TabsP (tabs : List Tab) : Prop := ∀ i (h : i < tabs.length), TabP i (tabs[i]'h)
theorem TabsP.snoc {tabs : List Tab} {t : Tab} (h : TabsP tabs) (ht : TabP tabs.length t) : TabsP (tabs ++ [t]) := fun i hi => by
  by_cases e : i < tabs.length
  · rw [List.getElem_append_left e]; exact h i e
  · have : i = tabs.length := by rw [List.length_append] at hi; simp only [List.length_cons, List.length_nil] at hi; omega
    subst this
    rw [List.getElem_append_right (Nat.le_refl _)]
    simpa using ht
theorem plain_psch {w z : World} {B1 : Nat} {s : Sch} (h1 : 1 ≤ s.tabs.length ∧ s.tabs.length ≤ 2) (hf : ∀ t ∈ s.tabs, FinT w B1 z t) (hp : TabsP s.tabs) : PSch s ∧ ∀ t ∈ s.tabs, t.cols.length ≤ 3 := by
  refine ⟨⟨by omega, by omega, fun t ht => ?_, fi_names (nm := Tab.name) (fun _ _ => rfl) ?_⟩, fun t ht => ?_⟩
  · obtain ⟨i, hi, rfl⟩ := List.getElem_of_mem ht
    obtain ⟨e, n, hn, hc⟩ := hp i hi
    refine ⟨_, _, _, _, (hf _ ht).eq, ?_, hc.pcols hn⟩
    rw [e]
    split
    · exact isname_pa
    · exact isname_pb
  · obtain ⟨th, tabs⟩ := s
    have hc : tabs.length = 1 ∨ tabs.length = 2 := by have : 1 ≤ tabs.length ∧ tabs.length ≤ 2 := h1; omega
    rcases hc with hc | hc
    · obtain ⟨t0, rfl⟩ := List.length_eq_one_iff.1 hc
      simp
    · obtain ⟨t0, t1, rfl⟩ : ∃ t0 t1, tabs = [t0, t1] := by
        match tabs, hc with
        | [t0, t1], _ => exact ⟨t0, t1, rfl⟩
      have e0 : t0.name = tnm 97 := (hp 0 (by simp)).1
      have e1 : t1.name = tnm 98 := (hp 1 (by simp)).1
      show ([t0.name.data.toList, t1.name.data.toList]).Nodup
      rw [e0, e1]
      decide
  · obtain ⟨i, hi, rfl⟩ := List.getElem_of_mem ht
    obtain ⟨_, n, hn, hc⟩ := hp i hi
    have := hc.len
    omega
theorem fin_in {w z : World} {B1 : Nat} {t : Tab} (h : FinT w B1 z t) : t.In z := by
  have e := h.eq
  have hp : t.prim = ⟨t.prim.h, [0]⟩ := by have := congrArg Tab.prim e; exact this
  have h1 : t.uniqs = [] := congrArg Tab.uniqs e
  have h2 : t.fors = [] := congrArg Tab.fors e
  have h3 : t.checks = [] := congrArg Tab.checks e
  have h4 : t.uh = nilHd := congrArg Tab.uh e
  have h5 : t.fh = nilHd := congrArg Tab.fh e
  have h6 : t.kh = nilHd := congrArg Tab.kh e
  refine ⟨Nat.le_trans h.nm (by unfold maxLen; omega), h.rc, h.wf, by rw [hp]; exact h.pr, ?_, ?_, ?_, ?_, ?_, ?_⟩
  · rw [h1, h4]; exact Row.nil _ _ _
  · rw [h1]; exact fun _ h => absurd h List.not_mem_nil
  · rw [h2, h5]; exact Row.nil _ _ _
  · rw [h2]; exact fun _ h => absurd h List.not_mem_nil
  · rw [h3, h6]; exact Row.nil _ _ _
  · rw [h3]; exact fun _ h => absurd h List.not_mem_nil
end Go.Proofs.YtiijaaohphokcaaGreatDoor

/- querylabfield.Plain: its walk. -/
namespace Go.Proofs.YtiijaaohphokcaaGreatDoor
open Go.RowKit

def PlPost (w : World) (b : Nat) (L : IL) (a : Nat) (e : Ending) (w' : World) : Prop := ∃ (s : Sch) (a' : Nat), e = .returned (.agg #[.slice s.th.ao s.tabs.length s.th.cap]) ∧ (∀ z, w'.grownBy z (some b) → s.In z) ∧ PSch s ∧ (∀ t ∈ s.tabs, t.cols.length ≤ 3) ∧ TapeIn w' b L a' ∧ a' ≤ a + 20 ∧ w.grownBy w' (some b)
theorem own_of_box {z : World} {g base n size : Nat} {cs : Array Value} {e : TypeId} (h : Box z g cs e) (hb : base ≤ g) (hs : cs.size = n * size) (hn : n ≤ maxLen) : z.ownsRow base e size (.slice (some ⟨g, 0, none⟩) n n) n cs.toList :=
  ⟨by rw [Array.length_toList]; exact hs, .inr ⟨g, n, cs, rfl, hb, h, Nat.le_refl _, hn, hs, by rw [← hs, ← Array.length_toList, List.take_length]⟩⟩
theorem info_tab6 : (Tryz.prog.info? 78).map (fun i => (i.zero, i.size, i.bytes)) = some (some (.agg #[.string ⟨#[]⟩, .slice none 0 0, .slice none 0 0, .slice none 0 0, .slice none 0 0, .slice none 0 0]), 6, 136) := by kernel_rfl
theorem tab_one {a : ByteArray} {b c d e f : Option Addr × Nat × Nat} : ∀ u ∈ [Value.string a, .slice b.1 b.2.1 b.2.2, .slice c.1 c.2.1 c.2.2, .slice d.1 d.2.1 d.2.2, .slice e.1 e.2.1 e.2.2, .slice f.1 f.2.1 f.2.2], u.oneCell' = true := fun u hu => by
  simp only [List.mem_cons, List.not_mem_nil, or_false] at hu
  rcases hu with rfl | rfl | rfl | rfl | rfl | rfl <;> rfl
theorem PSt.rebase {w z : World} {b a B1 B2 : Nat} {L : IL} {tabs : List Tab} {tv : Value} (h : PSt w b L a tabs tv B1 z) (hB : z.heap.size ≤ B2) : PSt w b L a tabs tv B2 z := ⟨h.gb, h.ll, h.tp, h.br, h.bs, h.ot, fun t ht => ⟨(h.fin t ht).eq, (h.fin t ht).rc, (h.fin t ht).pr, (h.fin t ht).tc, (h.fin t ht).tp, (h.fin t ht).gc, (h.fin t ht).gp, Nat.lt_of_lt_of_le (h.fin t ht).tc.lt hB, Nat.lt_of_lt_of_le (h.fin t ht).tp.lt hB, (h.fin t ht).wf, (h.fin t ht).nm⟩, Nat.le_trans (Nat.le_of_lt h.br.lt) hB⟩
/-- The table is appended: its row has grown, then its header is stored. -/
theorem PT.done {w z y : World} {b a B1 cx pg : Nat} {L : IL} {tabs : List Tab} {tv : Value} {nm : ByteArray} {cols : List Col} {chd : Hd} {v2 : Value} {n : Nat} (h : PT w b L a tabs tv B1 cx nm cols (.slice chd.ao cols.length chd.cap) pg z) (hc : ColP n 0 cols) (hn : n ≤ 2) (hnm : nm.size ≤ 1000)
    (hg : z.grownBy y tv.ownBlock) (ho : y.ownsRow w.heap.size 78 6 v2 (tabs.length + 1) (tabs.flatMap Tab.cells ++ Tab.cells (pt nm chd cols ⟨some ⟨pg, 0, none⟩, 1⟩))) :
    PSt w b L a (tabs ++ [pt nm chd cols ⟨some ⟨pg, 0, none⟩, 1⟩]) v2 (y.setCell ⟨w.heap.size + 1, 0, none⟩ v2).heap.size (y.setCell ⟨w.heap.size + 1, 0, none⟩ v2) ∧ Box y (w.heap.size + 1) #[tv] 27 := by
  have hl := h.ps.ll
  have hlo := h.ps.lo
  have hgl := h.gl
  have htv : ∀ {g T}, TyAt z g T → 78 ≠ T → tv.ownBlock ≠ some g := fun ht hne e => (TyAt.own h.ps.ot e).ne ht hne rfl
  have key : ∀ g T, TyAt z g T → 78 ≠ T → y.heap[g]? = z.heap[g]? := fun g T ht hne => hg.block g ht.lt (fun e => htv ht hne e.symm)
  have htp : TapeIn y b L a := by
    cases hv : tv.ownBlock with
    | none => rw [hv] at hg; exact h.ps.tp.mono ⟨hg.os, hg.tape, hg.output, hg.size, fun i hi => hg.block i hi (by simp)⟩
    | some j => rw [hv] at hg; exact tz2 h.ps.tp hg hl (h.ps.ot.lt j hv).1
  have hgb : w.grownBy y (some b) := h.ps.gb.andThen hg (fun j e => .inl (h.ps.ot.lt j e).1)
  have hbs := (key _ _ (TyAt.box h.ps.bs) (by decide)).trans h.ps.bs
  have hs := gb_set y (w.heap.size + 1) 0 v2
  have key2 : ∀ g T, TyAt z g T → 78 ≠ T → g ≠ w.heap.size + 1 → (y.setCell ⟨w.heap.size + 1, 0, none⟩ v2).heap[g]? = z.heap[g]? := fun g T ht hne h1 => (hs.block g (Nat.lt_of_lt_of_le ht.lt hg.size) (by intro e; injection e with e; exact h1 e)).trans (key g T ht hne)
  obtain ⟨chd2, e2, r2, o2⟩ := own_rowE (cells := Col.cells) (fun _ => rfl) (by decide) h.oc
  have ehd : chd = chd2 := by
    obtain ⟨a1, c1⟩ := chd
    obtain ⟨a2, c2⟩ := chd2
    injection e2 with h1 _ h2
    have h1 : a1 = a2 := h1
    have h2 : c1 = c2 := h2
    rw [h1, h2]
  subst ehd
  have hpos : 0 < cols.length := by have := hc.len; omega
  obtain ⟨ob1, ob2⟩ := o2 hpos
  have hty := TyAt.own h.oc ob2
  have hsz : z.heap.size ≤ (y.setCell ⟨w.heap.size + 1, 0, none⟩ v2).heap.size := Nat.le_trans hg.size hs.size
  have hsb := TyAt.box h.ps.bs
  have hfin : FinT w (y.setCell ⟨w.heap.size + 1, 0, none⟩ v2).heap.size (y.setCell ⟨w.heap.size + 1, 0, none⟩ v2) (pt nm chd cols ⟨some ⟨pg, 0, none⟩, 1⟩) := by
    have hbp := TyAt.box h.bp
    have k1 := key2 _ _ hty (by decide) (hty.ne hsb (by decide))
    have k2 := key2 _ _ hbp (by decide) (hbp.ne hsb (by decide))
    exact ⟨rfl, row_eqb r2 hsz k1, ⟨row_eqb (il_box (xs := [0]) h.bp (by decide) (fun n hn => by rw [List.mem_singleton.1 hn]; constructor <;> decide)).1 hsz k2, fun n hn => by rw [List.mem_singleton.1 hn]; constructor <;> decide⟩, hty.eqb k1, hbp.eqb k2, Nat.le_trans hlo ob1, Nat.le_trans hlo hgl, Nat.lt_of_lt_of_le hty.lt hsz, Nat.lt_of_lt_of_le hbp.lt hsz, fun c hc2 => (hc.wf hn c hc2).1, hnm⟩
  refine ⟨⟨hgb.andThen hs (fun j e => by injection e with e; left; omega), hl, tz2 htp hs hl (by omega), (key2 _ _ (TyAt.box h.ps.br) (by decide) (by omega)).trans h.ps.br, ?_, ?_, fun t ht => ?_, Nat.le_trans hlo (by have h1 := h.cl; have h2 := h.bx.lt; omega)⟩, hbs⟩
  · have := Box.set hbs 0 v2
    simpa only [List.setIfInBounds_toArray, List.set_cons_zero, List.set_cons_succ] using this
  · have e : (tabs ++ [pt nm chd cols ⟨some ⟨pg, 0, none⟩, 1⟩]).flatMap Tab.cells = tabs.flatMap Tab.cells ++ Tab.cells (pt nm chd cols ⟨some ⟨pg, 0, none⟩, 1⟩) := by rw [List.flatMap_append, List.flatMap_cons, List.flatMap_nil, List.append_nil]
    rw [e, List.length_append]
    exact ho.kept hs (.inr (fun e => (TyAt.own ho e).ne (show TyAt y (w.heap.size + 1) _ from TyAt.box hbs) (by decide) rfl))
  · rcases List.mem_append.1 ht with ht | ht
    · have h0 := h.ps.fin t ht
      have h1 := h0.eqb (y := y.setCell ⟨w.heap.size + 1, 0, none⟩ v2) hsz (key2 _ _ h0.tc (by decide) (h0.tc.ne hsb (by decide))) (key2 _ _ h0.tp (by decide) (h0.tp.ne hsb (by decide)))
      exact ⟨h1.eq, h1.rc, h1.pr, h1.tc, h1.tp, h1.gc, h1.gp, h1.tc.lt, h1.tp.lt, h1.wf, h1.nm⟩
    · rw [List.mem_singleton.1 ht]; exact hfin
end Go.Proofs.YtiijaaohphokcaaGreatDoor

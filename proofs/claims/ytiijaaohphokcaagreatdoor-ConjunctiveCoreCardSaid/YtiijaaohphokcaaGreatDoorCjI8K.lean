/- What querylabfield.Conjunctive makes, plainly. -/
import Derived.Test.YtiijaaohphokcaaGreatDoorCjI7K
namespace Go.Proofs.YtiijaaohphokcaaGreatDoor
open Go.RowKit

abbrev tyo (ts : List Int) : Nat → Int := fun n => ts.getD n 0
theorem tyo_push {ts : List Int} {x : Int} {n : Nat} (h : n < ts.length) : tyo (ts ++ [x]) n = tyo ts n := by
  show (ts ++ [x]).getD n 0 = ts.getD n 0
  rw [List.getD_eq_getElem?_getD, List.getD_eq_getElem?_getD, List.getElem?_append_left h]
theorem slotOk_push {ts : List Int} {x c : Int} {t : Tm V} (h : SlotOk ts.length (tyo ts) t c) : SlotOk (ts ++ [x]).length (tyo (ts ++ [x])) t c := by
  cases t with
  | c k => exact h
  | v n => exact ⟨by rw [List.length_append]; exact Nat.lt_succ_of_lt h.1, (tyo_push h.1).trans h.2⟩
/-- The literals that are done, and the slots of one that is made (its columns' types: ty). -/
structure Dat (T : List (List Int)) (ts : List Int) (lits : List Li) (ty : List Int) (cur : List (Tm V)) : Prop where
  ok : ∀ l ∈ lits, LitOk T ts.length (tyo ts) l.lt
  occ : ∀ n, n < ts.length → (∃ l ∈ lits, Tm.v n ∈ l.sl.l) ∨ Tm.v n ∈ cur
  wf : ∀ l ∈ lits, ∀ t ∈ l.sl.l, t.wf
  tb : ∀ l ∈ lits, l.tab ≤ 1000
  ln : ts.length ≤ 3 * lits.length + cur.length
  cok : ∀ (i : Nat) (t : Tm V) (c : Int), cur[i]? = some t → ty[i]? = some c → SlotOk ts.length (tyo ts) t c
  cwf : ∀ t ∈ cur, t.wf
theorem Dat.start (T : List (List Int)) (ty : List Int) : Dat T [] [] ty [] := ⟨fun _ h => absurd h List.not_mem_nil, fun _ h => absurd h (Nat.not_lt_zero _), fun _ h => absurd h List.not_mem_nil, fun _ h => absurd h List.not_mem_nil, Nat.zero_le _, fun _ _ _ h => (by simp at h), fun _ h => absurd h List.not_mem_nil⟩
theorem Dat.ty {T : List (List Int)} {ts : List Int} {lits : List Li} {ty ty2 : List Int} (h : Dat T ts lits ty []) : Dat T ts lits ty2 [] := ⟨h.ok, h.occ, h.wf, h.tb, h.ln, fun _ _ _ h => (by simp at h), h.cwf⟩
theorem Dat.slot {T : List (List Int)} {ts ts2 : List Int} {lits : List Li} {ty : List Int} {cur : List (Tm V)} {t : Tm V} {typ : Int} (h : Dat T ts lits ty cur) (hi : ty[cur.length]? = some typ) (tr : ts2 = ts ∨ (ts2 = ts ++ [typ] ∧ t = .v ts.length)) (ok : SlotOk ts2.length (fun n => ts2.getD n 0) t typ) (wf : t.wf) : Dat T ts2 lits ty (cur ++ [t]) := by
  have hc : ∀ (i : Nat) (u : Tm V) (c : Int), (cur ++ [t])[i]? = some u → ty[i]? = some c → (∀ (i : Nat) (t : Tm V) (c : Int), cur[i]? = some t → ty[i]? = some c → SlotOk ts2.length (tyo ts2) t c) → SlotOk ts2.length (tyo ts2) u c := fun i u c hu hc hk => by
    rcases Nat.lt_trichotomy i cur.length with hl | hl | hl
    · rw [List.getElem?_append_left hl] at hu
      exact hk i u c hu hc
    · subst hl
      rw [List.getElem?_append_right (Nat.le_refl _), Nat.sub_self] at hu
      injection hu with hu
      rw [hi] at hc
      injection hc with hc
      rw [← hu, ← hc]
      exact ok
    · rw [List.getElem?_eq_none (by rw [List.length_append]; show cur.length + 1 ≤ i; omega)] at hu
      cases hu
  have hw : ∀ u ∈ cur ++ [t], u.wf := fun u hu => by
    rcases List.mem_append.1 hu with hu | hu
    · exact h.cwf u hu
    · rw [List.mem_singleton.1 hu]; exact wf
  rcases tr with rfl | ⟨rfl, rfl⟩
  · exact ⟨h.ok, fun n hn => (h.occ n hn).imp id (fun h2 => List.mem_append_left _ h2), h.wf, h.tb, by rw [List.length_append]; have := h.ln; omega, fun i u c h1 h2 => hc i u c h1 h2 h.cok, hw⟩
  · refine ⟨fun l hl => ?_, fun n hn => ?_, h.wf, h.tb, by rw [List.length_append, List.length_append]; have := h.ln; simp only [List.length_cons, List.length_nil]; omega, fun i u c h1 h2 => hc i u c h1 h2 (fun i u c h1 h2 => slotOk_push (h.cok i u c h1 h2)), hw⟩
    · obtain ⟨ty2, t1, t2, t3⟩ := h.ok l hl
      exact ⟨ty2, t1, t2, fun i u c h1 h2 => slotOk_push (t3 i u c h1 h2)⟩
    · rw [List.length_append] at hn
      have hn : n < ts.length + 1 := hn
      by_cases e : n = ts.length
      · subst e; exact .inr (List.mem_append_right _ (List.mem_singleton.2 rfl))
      · exact (h.occ n (by omega)).imp id (fun h2 => List.mem_append_left _ h2)
theorem Dat.lit {T : List (List Int)} {ts : List Int} {lits : List Li} {ty : List Int} {cur : List (Tm V)} {tab : Nat} {hd : Hd} (h : Dat T ts lits ty cur) (ht : T[tab]? = some ty) (hl : cur.length = ty.length) (h3 : cur.length ≤ 3) (hb : tab ≤ 1000) : Dat T ts (lits ++ [⟨tab, ⟨hd, cur⟩⟩]) ty [] := by
  have key : ∀ {p : Li → Prop}, (∀ l ∈ lits, p l) → p ⟨tab, ⟨hd, cur⟩⟩ → ∀ l ∈ lits ++ [⟨tab, ⟨hd, cur⟩⟩], p l := fun h1 h2 l hl => by
    rcases List.mem_append.1 hl with hl | hl
    · exact h1 l hl
    · rw [List.mem_singleton.1 hl]; exact h2
  refine ⟨key h.ok ⟨ty, ht, hl, h.cok⟩, fun n hn => .inl ?_, key h.wf h.cwf, key h.tb hb, by rw [List.length_append]; have := h.ln; simp only [List.length_cons, List.length_nil]; omega, fun _ _ _ h => (by simp at h), fun _ h => absurd h List.not_mem_nil⟩
  rcases h.occ n hn with ⟨l, h1, h2⟩ | h2
  · exact ⟨l, List.mem_append_left _ h1, h2⟩
  · exact ⟨_, List.mem_append_right _ (List.mem_singleton.2 rfl), h2⟩
/-- The head's slots. -/
def HdOk (n : Nat) (hs : List (Tm V)) : Prop := ∀ t ∈ hs, HeadOk n t ∧ t.wf
theorem HdOk.snoc {n : Nat} {hs : List (Tm V)} {t : Tm V} (h : HdOk n hs) (h1 : HeadOk n t) (h2 : t.wf) : HdOk n (hs ++ [t]) := fun u hu => by
  rcases List.mem_append.1 hu with hu | hu
  · exact h u hu
  · rw [List.mem_singleton.1 hu]; exact ⟨h1, h2⟩
theorem Dat.right {T : List (List Int)} {ts : List Int} {lits : List Li} {ty : List Int} {q : Cq} (h : Dat T ts lits ty []) (h0 : 0 < lits.length) (h4 : lits.length ≤ 4) (hv : q.vars = ts.length) (hq : q.lits = lits) (hh : HdOk ts.length q.head.l) (h1 : 0 < q.head.l.length) (h24 : q.head.l.length ≤ 24) : Right T q.vars q.cj (tyo ts) := by
  have hlen : q.cj.lits.length = lits.length := by rw [← hq]; exact List.length_map _
  refine ⟨by omega, by omega, ?_, h1, h24, fun l hl => ?_, fun n hn => ?_, fun t ht => ?_⟩
  · have := h.ln; rw [hv]; simp only [List.length_nil] at this; omega
  · obtain ⟨l0, hl0, rfl⟩ := List.mem_map.1 hl
    rw [hv]
    exact h.ok l0 (hq ▸ hl0)
  · rcases h.occ n (hv ▸ hn) with ⟨l, k1, k2⟩ | k
    · exact ⟨l.lt, List.mem_map_of_mem (hq ▸ k1), k2⟩
    · exact absurd k List.not_mem_nil
  · rw [hv]; exact (hh t ht).1
end Go.Proofs.YtiijaaohphokcaaGreatDoor

/- The states of schema.Order: while the maps are filled, between two rounds, while a table is struck from the maps. -/
import Derived.Test.YtmnbhdhgjbgidaaOOrderT
namespace Go.Proofs.Ytmnbhdhgjbgidaa
open Go.RowKit

theorem info_map : (Try.prog.info? 84).map (fun i => (i.zero, i.size, i.bytes)) = some (some (.map none), 1, 8) := by kernel_rfl
theorem made_maps (n : Nat) : (madeCells (Value.map none).cells (n * 1)).toList = (List.replicate n (none : Option Nat)).map .map := by
  rw [show (Value.map none).cells = #[Value.map none] from rfl, toList_madeCells_one]
  simp

/-- The first k tables have their maps. -/
structure P1 (s : Sch) (w : World) (g : Nat) (bx : Obj) (k : Nat) (wr : World) (os : List (Option Nat)) (S : Nat → Nat → Prop) : Prop where
  bo : BO w s.tabs.length g bx wr os S
  has : ∀ j, j < k → ∃ b, os[j]? = some (some b)
  no : ∀ j, k ≤ j → j < s.tabs.length → os[j]? = some none
  fnd : ∀ j, j < k → found s j
  sets : ∀ j, j < k → ∀ t, S j t ↔ ∃ (hj : j < s.tabs.length) (q : Nat) (hq : q < s.tabs[j].fors.length), tnum s s.tabs[j].fors[q].tab = t

/-- .. and of table k the first q keys are in its map, block b. -/
structure P2 (s : Sch) (w : World) (g : Nat) (bx : Obj) (k q : Nat) (wr : World) (b : Nat) (os : List (Option Nat)) (S : Nat → Nat → Prop) : Prop where
  bo : BO w s.tabs.length g bx wr os S
  has : ∀ j, j < k + 1 → ∃ b, os[j]? = some (some b)
  no : ∀ j, k + 1 ≤ j → j < s.tabs.length → os[j]? = some none
  fnd : ∀ j, j < k → found s j
  fndq : ∀ (hk : k < s.tabs.length) p (hp : p < s.tabs[k].fors.length), p < q → fok (named s.tabs[k].fors[p].tab) s.tabs = true
  sets : ∀ j, j < k → ∀ t, S j t ↔ ∃ (hj : j < s.tabs.length) (q : Nat) (hq : q < s.tabs[j].fors.length), tnum s s.tabs[j].fors[q].tab = t
  setk : ∀ t, S k t ↔ ∃ (hk : k < s.tabs.length) (p : Nat) (hp : p < s.tabs[k].fors.length), p < q ∧ tnum s s.tabs[k].fors[p].tab = t
  at' : os[k]? = some (some b)
  ms : MS wr q b (S k)

section
variable {s : Sch} {w wr w' : World} {g k q b : Nat} {bx : Obj} {os : List (Option Nat)} {S : Nat → Nat → Prop}
theorem P1.start (h : P1 s w g bx k wr os S) (hk : k < s.tabs.length) (x : Obj) :
    ∃ S', P2 s w g bx k 0 (((wr.alloc x).alloc (.map #[] 0)).setCell ⟨g, k, none⟩ (.map (some (wr.heap.size + 1)))) (wr.heap.size + 1) (os.set k (some (wr.heap.size + 1))) S' := by
  have e : (wr.alloc x).heap.size = wr.heap.size + 1 := by simp
  have hko : k < os.length := by have := h.bo.len; omega
  have h1 := (h.bo.below (belA x)).made (S' := fun j => if j = k then fun _ => False else S j) hk (fun j hj => by simp [hj]) (fun t => by simp)
  rw [e] at h1
  refine ⟨_, h1.1, fun j hj => ?_, fun j hj hn => ?_, h.fnd, fun _ p _ hp => absurd hp (by omega), fun j hj t => ?_, fun t => ?_, ?_, ?_⟩
  · rw [set_at hko]
    by_cases e2 : j = k
    · exact ⟨_, by rw [if_pos e2]⟩
    · rw [if_neg e2]; exact h.has j (by omega)
  · rw [set_at hko, if_neg (by omega)]
    exact h.no j (by omega) hn
  · rw [if_neg (by omega)]
    exact h.sets j hj t
  · simp
  · rw [set_at hko, if_pos rfl]
  · simpa using h1.2
theorem P2.below (h : P2 s w g bx k q wr b os S) (hb : Below wr.heap.size wr w') : P2 s w g bx k q w' b os S :=
  ⟨h.bo.below hb, h.has, h.no, h.fnd, h.fndq, h.sets, h.setk, h.at', h.ms.kept (grown_of_below hb) (by simp)⟩
theorem P2.step (h : P2 s w g bx k q wr b os S) (hk : k < s.tabs.length) (hq : q < s.tabs[k].fors.length) (hf : fok (named s.tabs[k].fors[q].tab) s.tabs = true) (hg : wr.grownBy w' (some b))
    (hm : MS w' (q + 1) b (fun j => S k j ∨ j = tnum s s.tabs[k].fors[q].tab)) : ∃ S', P2 s w g bx k (q + 1) w' b os S' := by
  refine ⟨fun j => if j = k then fun t => S k t ∨ t = tnum s s.tabs[k].fors[q].tab else S j, h.bo.turn hg h.at' (m := q + 1) (by simpa using hm) (fun j hj => by simp [hj]), h.has, h.no, h.fnd, fun hk p hp hlt => ?_, fun j hj t => ?_, fun t => ?_, h.at', by simpa using hm⟩
  · by_cases e : p = q
    · subst e; exact hf
    · exact h.fndq hk p hp (by omega)
  · simp only [if_neg (show j ≠ k by omega)]
    exact h.sets j hj t
  · simp only [if_pos]
    rw [h.setk]
    constructor
    · rintro (⟨hk, p, hp, h1, h2⟩ | h1)
      · exact ⟨hk, p, hp, by omega, h2⟩
      · exact ⟨hk, q, hq, by omega, h1.symm⟩
    · rintro ⟨hk, p, hp, h1, h2⟩
      by_cases e : p = q
      · subst e; exact .inr h2.symm
      · exact .inl ⟨hk, p, hp, by omega, h2⟩
theorem P2.done (h : P2 s w g bx k q wr b os S) (hk : k < s.tabs.length) (hq : ¬ q < s.tabs[k].fors.length) : P1 s w g bx (k + 1) wr os S := by
  refine ⟨h.bo, h.has, h.no, fun j hj => ?_, fun j hj t => ?_⟩
  · by_cases e : j = k
    · subst e; intro hk p hp; exact h.fndq hk p hp (by omega)
    · exact h.fnd j (by omega)
  · by_cases e : j = k
    · subst e
      rw [h.setk]
      exact ⟨fun ⟨hk, p, hp, _, h2⟩ => ⟨hk, p, hp, h2⟩, fun ⟨hk, p, hp, h2⟩ => ⟨hk, p, hp, by omega, h2⟩⟩
    · exact h.sets j (by omega) t
end

theorem tn_wf (n : Nat) (h : n ≤ 10) : (Lit.int .i64 (n : Int)).wf = true := WalkArith.wf_i64 (by omega)


/-- What table j references. -/
def refs (s : Sch) (j t : Nat) : Prop := ∃ (hj : j < s.tabs.length) (q : Nat) (hq : q < s.tabs[j].fors.length), tnum s s.tabs[j].fors[q].tab = t
theorem rdy_refs (s : Sch) (D : List Nat) {j : Nat} (hj : j < s.tabs.length) : rdy (tgts s) D j ↔ j ∉ D ∧ ∀ t, refs s j t → t ∈ D := by
  rw [rdy_iff s D hj]
  refine and_congr Iff.rfl ⟨fun h t ⟨_, q, hq, e⟩ => by rw [← e]; exact h q hq, fun h q hq => h _ ⟨hj, q, hq, rfl⟩⟩
theorem least {P : Nat → Prop} : ∀ n, (∀ j, j < n → ¬ P j) ∨ ∃ m, m < n ∧ P m ∧ ∀ j, j < m → ¬ P j
  | 0 => .inl (fun j h => absurd h (by omega))
  | n + 1 => by
    rcases least (P := P) n with h | ⟨m, h1, h2, h3⟩
    · by_cases hp : P n
      · exact .inr ⟨n, by omega, hp, h⟩
      · refine .inl (fun j hj => ?_)
        by_cases e : j = n
        · subst e; exact hp
        · exact h j (by omega)
    · exact .inr ⟨m, by omega, h2, h3⟩

/-- Between two rounds: D is taken. -/
structure OO (s : Sch) (w : World) (g : Nat) (bx : Obj) (wr : World) (v : Value) (D : List Nat) (os : List (Option Nat)) (S : Nat → Nat → Prop) : Prop where
  bo : BO w s.tabs.length g bx wr os S
  out : wr.ownsRow (w.heap.size + 1) 3 1 v D.length ((D.map Int.ofNat).flatMap icells)
  hD : ∀ j, j < s.tabs.length → j ∈ D → os[j]? = some none
  hN : ∀ j, j < s.tabs.length → j ∉ D → ∃ b, os[j]? = some (some b)
  sets : ∀ j, j < s.tabs.length → j ∉ D → ∀ t, S j t ↔ refs s j t ∧ t ∉ D
/-- In the round of table m: it is struck from the first p maps. -/
structure DL (s : Sch) (w : World) (g : Nat) (bx : Obj) (m p : Nat) (wr : World) (v : Value) (D : List Nat) (os : List (Option Nat)) (S : Nat → Nat → Prop) : Prop where
  bo : BO w s.tabs.length g bx wr os S
  out : wr.ownsRow (w.heap.size + 1) 3 1 v (D ++ [m]).length (((D ++ [m]).map Int.ofNat).flatMap icells)
  hD : ∀ j, j < s.tabs.length → j ∈ D ++ [m] → os[j]? = some none
  hN : ∀ j, j < s.tabs.length → j ∉ D ++ [m] → ∃ b, os[j]? = some (some b)
  sets : ∀ j, j < s.tabs.length → j ∉ D ++ [m] → ∀ t, S j t ↔ refs s j t ∧ t ∉ D ∧ (j < p → t ≠ m)

section
variable {s : Sch} {w wr w' : World} {g m p b : Nat} {bx : Obj} {os : List (Option Nat)} {S : Nat → Nat → Prop} {v v' : Value} {D : List Nat}
theorem P1.rounds (h : P1 s w g bx s.tabs.length wr os S) : OO s w g bx wr (.slice none 0 0) [] os S :=
  ⟨h.bo, World.ownsRow_nil _ _ _ _, fun j _ h => (by cases h), fun j hj _ => h.has j hj, fun j hj _ t => by rw [h.sets j hj t]; simp [refs]⟩
theorem OO.below (h : OO s w g bx wr v D os S) (hb : Below wr.heap.size wr w') : OO s w g bx w' v D os S :=
  ⟨h.bo.below hb, h.out.kept (grown_of_below hb) (by cases v.ownBlock <;> simp), h.hD, h.hN, h.sets⟩
theorem OO.os_len (h : OO s w g bx wr v D os S) : os.length = s.tabs.length := h.bo.len
theorem OO.empty (h : OO s w g bx wr v D os S) {f : Nat → Bool} (hf : ∀ j, f j = true ↔ rdy (tgts s) D j) : ∀ j (hj : j < os.length), emptyM wr os[j] (f j) := by
  intro j hj
  have hjn : j < s.tabs.length := by have := h.os_len; omega
  by_cases hd : j ∈ D
  · have h1 := h.hD j hjn hd
    rw [List.getElem?_eq_getElem hj] at h1
    rw [Option.some.inj h1]
    show f j = false
    cases e : f j
    · rfl
    · exact absurd hd ((hf j).1 e).1
  · obtain ⟨b, hb⟩ := h.hN j hjn hd
    obtain ⟨-, n, hm⟩ := h.bo.sets j b hb
    rw [List.getElem?_eq_getElem hj] at hb
    rw [Option.some.inj hb]
    refine ⟨n, _, hm, ?_⟩
    rw [hf, rdy_refs s D hjn]
    constructor
    · rintro ⟨_, h2⟩ t ht
      have := (h.sets j hjn hd t).1 ht
      exact this.2 (h2 t this.1)
    · intro h2
      refine ⟨hd, fun t ht => ?_⟩
      by_cases e : t ∈ D
      · exact e
      · exact absurd ((h.sets j hjn hd t).2 ⟨ht, e⟩) (h2 t)
theorem OO.ne (h : OO s w g bx wr v D os S) : v.ownBlock ≠ some g := own_ne (by decide) h.out h.bo.row
/-- Behind the append. -/
theorem OO.app (h : OO s w g bx wr v D os S) {x : Obj} (hg : (wr.alloc x).grownBy w' v.ownBlock) : BO w s.tabs.length g bx w' os S :=
  (h.bo.below (belA x)).other (h.out.alloc x) h.ne (Nat.le_refl _) hg
/-- Behind the store of the nil map. -/
theorem OO.mark (h : OO s w g bx wr v D os S) {x : Obj} (hg : (wr.alloc x).grownBy w' v.ownBlock) (hm : m < s.tabs.length)
    (ho : w'.ownsRow (w.heap.size + 1) 3 1 v' (D.length + 1) ((D.map Int.ofNat).flatMap icells ++ [.int .i64 m])) :
    DL s w g bx m 0 (w'.setCell ⟨g, m, none⟩ (.map none)) v' D (os.set m none) S := by
  have h1 := h.app hg
  have hmo : m < os.length := by have := h.os_len; omega
  refine ⟨h1.nil hm, ?_, fun j hj hd => ?_, fun j hj hd => ?_, fun j hj hd t => ?_⟩
  · rw [List.length_append, List.map_append, List.flatMap_append]
    exact ho.kept (h1.row.stored m (.map none)).2 (.inr (own_ne (by decide) ho h1.row))
  · rw [set_at hmo]
    by_cases e : j = m
    · rw [if_pos e]
    · rw [if_neg e]
      rcases List.mem_append.1 hd with hd | hd
      · exact h.hD j hj hd
      · exact absurd (List.mem_singleton.1 hd) e
  · have h2 : j ∉ D := fun h => hd (List.mem_append_left _ h)
    have h3 : j ≠ m := fun h => hd (List.mem_append_right _ (by rw [h]; simp))
    rw [set_at hmo, if_neg h3]
    exact h.hN j hj h2
  · rw [h.sets j hj (fun h => hd (List.mem_append_left _ h)) t]
    exact and_congr Iff.rfl ⟨fun h => ⟨h, fun h => absurd h (by omega)⟩, fun h => h.1⟩
theorem DL.skip (h : DL s w g bx m p wr v D os S) (hp : os[p]? = some none) : DL s w g bx m (p + 1) wr v D os S :=
  ⟨h.bo, h.out, h.hD, h.hN, fun j hj hd t => by
    have : j ≠ p := by
      rintro rfl
      obtain ⟨b, hb⟩ := h.hN j hj hd
      rw [hp] at hb
      cases hb
    rw [h.sets j hj hd t]
    exact and_congr Iff.rfl (and_congr Iff.rfl ⟨fun h1 h2 => h1 (by omega), fun h1 h2 => h1 (by omega)⟩)⟩
theorem DL.strike (h : DL s w g bx m p wr v D os S) (hpn : p < s.tabs.length) (hp : os[p]? = some (some b)) {n : Nat} (hg : wr.grownBy w' (some b)) (hm : MS w' n b (fun t => S p t ∧ t ≠ m)) : ∃ S', DL s w g bx m (p + 1) w' v D os S' := by
  obtain ⟨-, n0, hm0⟩ := h.bo.sets p b hp
  refine ⟨fun j => if j = p then fun t => S p t ∧ t ≠ m else S j, h.bo.turn hg hp (m := n) (by simpa using hm) (fun j hj => by simp [hj]), h.out.kept hg (.inr (own_not_map h.out hm0)), h.hD, h.hN, fun j hj hd t => ?_⟩
  by_cases e : j = p
  · subst e
    simp only [if_pos]
    rw [h.sets j hj hd t]
    constructor
    · rintro ⟨⟨h1, h2, _⟩, h3⟩; exact ⟨h1, h2, fun _ => h3⟩
    · rintro ⟨h1, h2, h3⟩; exact ⟨⟨h1, h2, fun h => absurd h (by omega)⟩, h3 (by omega)⟩
  · simp only [if_neg e]
    rw [h.sets j hj hd t]
    exact and_congr Iff.rfl (and_congr Iff.rfl ⟨fun h1 h2 => h1 (by omega), fun h1 h2 => h1 (by omega)⟩)
theorem DL.done (h : DL s w g bx m s.tabs.length wr v D os S) : OO s w g bx wr v (D ++ [m]) os S :=
  ⟨h.bo, h.out, h.hD, h.hN, fun j hj hd t => by
    rw [h.sets j hj hd t]
    refine and_congr Iff.rfl ⟨fun ⟨h1, h2⟩ h3 => ?_, fun h1 => ⟨fun h => h1 (List.mem_append_left _ h), fun _ h => h1 (List.mem_append_right _ (by rw [h]; simp))⟩⟩
    rcases List.mem_append.1 h3 with h3 | h3
    · exact h1 h3
    · exact h2 hj (List.mem_singleton.1 h3)⟩
theorem P2.cell {k q : Nat} (h : P2 s w g bx k q wr b os S) : wr.cell? ⟨g, k, none⟩ = some (.map (some b)) := by
  obtain ⟨hk, e⟩ := List.getElem?_eq_some_iff.1 h.at'
  rw [h.bo.cell hk, e]
theorem DL.cell (h : DL s w g bx m p wr v D os S) {o : Option Nat} (hp : os[p]? = some o) : wr.cell? ⟨g, p, none⟩ = some (.map o) := by
  obtain ⟨hk, e⟩ := List.getElem?_eq_some_iff.1 hp
  rw [h.bo.cell hk, e]
end

end Go.Proofs.Ytmnbhdhgjbgidaa

/- Sorted lists of strings, each once: what the two Tables agree on. Plain lists. -/
import Derived.Test.YtmnbhdhgjbgidaaKit
import Derived.Lib.SlicesCompact
namespace Go.Proofs.Ytmnbhdhgjbgidaa

abbrev Str := List UInt8
/-- Ascending, each once. -/
def Asc (l : List Str) : Prop := l.Pairwise (· < ·)
theorem slt_irrefl (a : Str) : ¬ a < a := List.lt_irrefl a
theorem slt_trans {a b c : Str} (h : a < b) (h2 : b < c) : a < c := List.lt_trans h h2
theorem slt_tri {a b : Str} (h : ¬ a < b) (h2 : a ≠ b) : b < a := by
  have h1 : b ≤ a := List.not_lt.1 h
  rcases Classical.em (b < a) with h3 | h3
  · exact h3
  · exact absurd (List.le_antisymm (List.not_lt.1 h3) h1) h2

/-- Two ascending lists with the same members are one. -/
theorem asc_ext : ∀ {a b : List Str}, Asc a → Asc b → (∀ x, x ∈ a ↔ x ∈ b) → a = b
  | [], [], _, _, _ => rfl
  | [], y :: b, _, _, h => by have := (h y).2 (by simp); cases this
  | x :: a, [], _, _, h => by have := (h x).1 (by simp); cases this
  | x :: a, y :: b, ha, hb, h => by
    have ha' := List.pairwise_cons.1 ha
    have hb' := List.pairwise_cons.1 hb
    have hxy : x = y := by
      rcases List.mem_cons.1 ((h x).1 (by simp)) with e | e
      · exact e
      · rcases List.mem_cons.1 ((h y).2 (by simp)) with e2 | e2
        · exact e2.symm
        · exact absurd (slt_trans (hb'.1 x e) (ha'.1 y e2)) (slt_irrefl _)
    subst hxy
    congr 1
    refine asc_ext ha'.2 hb'.2 (fun z => ⟨fun hz => ?_, fun hz => ?_⟩)
    · rcases List.mem_cons.1 ((h z).1 (List.mem_cons_of_mem _ hz)) with e | e
      · subst e; exact absurd (ha'.1 z hz) (slt_irrefl _)
      · exact e
    · rcases List.mem_cons.1 ((h z).2 (List.mem_cons_of_mem _ hz)) with e | e
      · subst e; exact absurd (hb'.1 z hz) (slt_irrefl _)
      · exact e

/-- Insertion. -/
def ins : List Str → Str → List Str
  | [], s => [s]
  | a :: l, s => if a < s then a :: ins l s else if a = s then a :: l else s :: a :: l
theorem ins_mem : ∀ (l : List Str) (s x : Str), x ∈ ins l s ↔ x = s ∨ x ∈ l
  | [], s, x => by simp [ins]
  | a :: l, s, x => by
    unfold ins
    split
    · rw [List.mem_cons, ins_mem l s x, List.mem_cons]
      constructor
      · rintro (h | h | h)
        · exact .inr (.inl h)
        · exact .inl h
        · exact .inr (.inr h)
      · rintro (h | h | h)
        · exact .inr (.inl h)
        · exact .inl h
        · exact .inr (.inr h)
    · split
      · rename_i h
        rw [List.mem_cons, h]
        constructor
        · rintro (h | h)
          · exact .inl h
          · exact .inr (.inr h)
        · rintro (h | h | h)
          · exact .inl h
          · exact .inl h
          · exact .inr h
      · rw [List.mem_cons]
theorem ins_asc : ∀ {l : List Str} (s : Str), Asc l → Asc (ins l s)
  | [], s, _ => List.pairwise_singleton _ _
  | a :: l, s, h => by
    have h' := List.pairwise_cons.1 h
    unfold ins
    split
    · rename_i hlt
      refine List.pairwise_cons.2 ⟨fun x hx => ?_, ins_asc s h'.2⟩
      rcases (ins_mem l s x).1 hx with e | e
      · subst e; exact hlt
      · exact h'.1 x e
    · split
      · exact h
      · rename_i h1 h2
        refine List.pairwise_cons.2 ⟨fun x hx => ?_, h⟩
        have h3 := slt_tri h1 h2
        rcases List.mem_cons.1 hx with e | e
        · subst e; exact h3
        · exact slt_trans h3 (h'.1 x e)
/-- What the loop of ref04.insert comes to. -/
theorem ins_at : ∀ {l : List Str} {s : Str} {k : Nat}, k ≤ l.length → (∀ j (hj : j < l.length), j < k → l[j] < s) → (∀ h : k < l.length, ¬ l[k] < s) →
    ins l s = if h : k < l.length then (if l[k] = s then l else l.take k ++ s :: l.drop k) else l ++ [s]
  | [], s, k, hk, _, _ => by simp [ins]
  | a :: l, s, 0, hk, _, h2 => by
    have h3 := h2 (by simp)
    simp only [List.getElem_cons_zero] at h3
    unfold ins
    rw [if_neg h3]
    simp
  | a :: l, s, k + 1, hk, h1, h2 => by
    have h3 := h1 0 (by simp) (by omega)
    simp only [List.getElem_cons_zero] at h3
    unfold ins
    rw [if_pos h3]
    have hk' : k ≤ l.length := by simpa using hk
    rw [ins_at hk' (fun j hj hlt => h1 (j + 1) (by simpa using hj) (by omega)) (fun h => h2 (by simpa using h))]
    by_cases hlt : k < l.length
    · rw [dif_pos hlt, dif_pos (by simpa using hlt)]
      simp only [List.getElem_cons_succ]
      split <;> simp
    · rw [dif_neg hlt, dif_neg (by simpa using hlt)]
      simp

/-- Many insertions. -/
theorem inss_mem : ∀ (m l : List Str) (x : Str), x ∈ m.foldl ins l ↔ x ∈ l ∨ x ∈ m
  | [], l, x => by simp
  | s :: m, l, x => by
    rw [List.foldl_cons, inss_mem m, ins_mem, List.mem_cons]
    constructor
    · rintro ((h | h) | h)
      · exact .inr (.inl h)
      · exact .inl h
      · exact .inr (.inr h)
    · rintro (h | h | h)
      · exact .inl (.inr h)
      · exact .inl (.inl h)
      · exact .inr h
theorem inss_asc : ∀ (m : List Str) {l : List Str}, Asc l → Asc (m.foldl ins l)
  | [], l, h => h
  | s :: m, l, h => by rw [List.foldl_cons]; exact inss_asc m (ins_asc s h)

/-- Sorted and compacted. -/
def sorted (l : List Str) : List Str := l.mergeSort fun x y => decide (x ≤ y)
theorem sorted_mem (l : List Str) (x : Str) : x ∈ sorted l ↔ x ∈ l := (List.mergeSort_perm l _).mem_iff
theorem sorted_le (l : List Str) : (sorted l).Pairwise (fun a b => ¬ b < a) := by
  have h := List.pairwise_mergeSort (le := fun x y : Str => decide (x ≤ y)) (fun a b c h1 h2 => by
    simp only [decide_eq_true_iff] at *
    exact List.le_trans h1 h2) (fun a b => by
    simp only [Bool.or_eq_true, decide_eq_true_iff]
    exact List.le_total a b) l
  exact h.imp (fun {a b} hab => by
    simp only [decide_eq_true_iff] at hab
    exact List.not_lt.2 hab)
theorem comp_inv (d : Array Str) (hd : ∀ i j, i < j → j < d.size → ¬ d[j]! < d[i]!) : ∀ m, m ≤ d.size →
    Asc (Lib.compactUpTo d m) ∧ (∀ x, x ∈ Lib.compactUpTo d m ↔ ∃ j, j < m ∧ x = d[j]!)
  | 0, _ => by
    refine ⟨?_, fun x => ?_⟩
    · simp [Lib.compactUpTo, Asc]
    · simp [Lib.compactUpTo]
  | m + 1, hm => by
    obtain ⟨h1, h2⟩ := comp_inv d hd m (by omega)
    rw [Lib.compactUpTo_succ]
    by_cases hk : Lib.keeps d m = true
    · rw [if_pos hk]
      refine ⟨?_, fun x => ?_⟩
      · refine List.pairwise_append.2 ⟨h1, List.pairwise_singleton _ _, fun a ha b hb => ?_⟩
        rw [List.mem_singleton.1 hb]
        obtain ⟨j, hj, rfl⟩ := (h2 a).1 ha
        have hn := hd j m hj (by omega)
        have hne : d[m]! ≠ d[j]! := by
          intro e
          have hk2 := hk
          unfold Lib.keeps at hk2
          rw [decide_eq_true_iff] at hk2
          rcases hk2 with h | h
          · omega
          · -- d[m-1] lies between d[j] and d[m]
            by_cases e2 : j = m - 1
            · rw [e2] at e; exact h e
            · have h3 := hd j (m - 1) (by omega) (by omega)
              have h4 := hd (m - 1) m (by omega) (by omega)
              have h5 := slt_tri h4 h
              rw [e] at h5
              exact h3 h5
        exact slt_tri hn hne
      · rw [List.mem_append, h2, List.mem_singleton]
        constructor
        · rintro (⟨j, hj, e⟩ | e)
          · exact ⟨j, by omega, e⟩
          · exact ⟨m, by omega, e⟩
        · rintro ⟨j, hj, e⟩
          by_cases e2 : j = m
          · subst e2; exact .inr e
          · exact .inl ⟨j, by omega, e⟩
    · rw [if_neg hk, List.append_nil]
      refine ⟨h1, fun x => ?_⟩
      rw [h2]
      constructor
      · rintro ⟨j, hj, e⟩; exact ⟨j, by omega, e⟩
      · rintro ⟨j, hj, e⟩
        by_cases e2 : j = m
        · have hk2 : ¬ (m = 0 ∨ d[m]! ≠ d[m - 1]!) := by unfold Lib.keeps at hk; simpa using hk
          have h3 : d[m]! = d[m - 1]! := Classical.byContradiction (fun h => hk2 (.inr h))
          have h4 : m ≠ 0 := fun h => hk2 (.inl h)
          exact ⟨m - 1, by omega, by rw [e, e2, h3]⟩
        · exact ⟨j, by omega, e⟩
theorem comp_sorted (l : List Str) : Asc (Lib.compact (sorted l)) ∧ ∀ x, x ∈ Lib.compact (sorted l) ↔ x ∈ l := by
  have hp := sorted_le l
  have h := comp_inv (sorted l).toArray (fun i j hij hj => by
    have hj' : j < (sorted l).length := by simpa using hj
    have := List.pairwise_iff_getElem.1 hp i j (by omega) hj' hij
    simpa [getElem!_pos, hj', show i < (sorted l).length by omega] using this) (sorted l).length (by simp)
  refine ⟨h.1, fun x => ?_⟩
  unfold Lib.compact
  rw [h.2, ← sorted_mem]
  constructor
  · rintro ⟨j, hj, rfl⟩
    simp [hj]
  · intro hx
    obtain ⟨j, hj, rfl⟩ := List.getElem_of_mem hx
    exact ⟨j, hj, by simp [hj]⟩

end Go.Proofs.Ytmnbhdhgjbgidaa

/- The order of tables: T holds the targets of each table. Plain lists. -/
import Derived.Test.YtmnbhdhgjbgidaaKit
namespace Go.Proofs.Ytmnbhdhgjbgidaa

/-- Table i is not taken, and all that it references are. -/
def rdy (T : List (List Nat)) (D : List Nat) (i : Nat) : Prop := i ∉ D ∧ ∀ (h : i < T.length), ∀ t ∈ T[i], t ∈ D
/-- i is the least table that is ready. -/
def isNext (T : List (List Nat)) (D : List Nat) (i : Nat) : Prop := i < T.length ∧ rdy T D i ∧ ∀ j, j < i → ¬ rdy T D j
def noNext (T : List (List Nat)) (D : List Nat) : Prop := ∀ j, j < T.length → ¬ rdy T D j

/-- D is what k rounds take. -/
inductive Took (T : List (List Nat)) : List Nat → Prop where
  | nil : Took T []
  | snoc {D : List Nat} {i : Nat} : Took T D → isNext T D i → Took T (D ++ [i])

theorem next_one {T : List (List Nat)} {D : List Nat} {i j : Nat} (hi : isNext T D i) (hj : isNext T D j) : i = j := by
  rcases Nat.lt_trichotomy i j with h | h | h
  · exact absurd hi.2.1 (hj.2.2 i h)
  · exact h
  · exact absurd hj.2.1 (hi.2.2 j h)
theorem next_no {T : List (List Nat)} {D : List Nat} {i : Nat} (hi : isNext T D i) (hn : noNext T D) : False := hn i hi.1 hi.2.1

theorem snoc_cases {α : Type} {D : List α} {i : α} {E : List α} (h : E = D ++ [i]) : E.length = D.length + 1 := by subst h; simp

/-- What is taken is told by how many are. -/
theorem took_one {T : List (List Nat)} {D : List Nat} (h : Took T D) : ∀ {E : List Nat}, Took T E → D.length = E.length → D = E := by
  induction h with
  | nil => intro E hE hl; exact (List.eq_nil_of_length_eq_zero hl.symm).symm
  | snoc hD hi ih =>
    intro E hE hl
    cases hE with
    | nil => simp at hl
    | snoc hE' hj =>
      have e := ih hE' (by simpa using hl)
      subst e
      rw [next_one hi hj]

/-- Two ends: both have run out of rounds, or both have no next table. -/
def Ends (T : List (List Nat)) (D : List Nat) (ok : Bool) : Prop := Took T D ∧ (if ok = true then D.length = T.length else D.length < T.length ∧ noNext T D)

theorem took_take {T : List (List Nat)} {D : List Nat} (h : Took T D) : ∀ k, k ≤ D.length → Took T (D.take k) := by
  induction h with
  | nil => intro k hk; have : k = 0 := by simpa using hk
           subst this; exact .nil
  | @snoc D i hD hi ih =>
    intro k hk
    by_cases e : k = D.length + 1
    · subst e
      rw [List.take_of_length_le (by simp)]
      exact .snoc hD hi
    · have hk' : k ≤ D.length := by simp at hk; omega
      rw [List.take_append_of_le_length hk']
      exact ih k hk'

theorem took_next {T : List (List Nat)} {D : List Nat} (h : Took T D) : ∀ k, k < D.length → ∃ i, isNext T (D.take k) i := by
  induction h with
  | nil => intro k hk; simp at hk
  | @snoc D i hD hi ih =>
    intro k hk
    by_cases e : k = D.length
    · subst e
      rw [List.take_append_of_le_length (Nat.le_refl _), List.take_length]
      exact ⟨i, hi⟩
    · have hk' : k < D.length := by simp at hk; omega
      rw [List.take_append_of_le_length (Nat.le_of_lt hk')]
      exact ih k hk'

/-- The two orders agree: in what they answer, and in whether they have all. -/
theorem ends_one {T : List (List Nat)} {D E : List Nat} {p q : Bool} (hD : Ends T D p) (hE : Ends T E q) : p = q ∧ D = E := by
  have key : ∀ {D E : List Nat} {p q : Bool}, Ends T D p → Ends T E q → D.length ≤ E.length → p = q ∧ D = E := by
    intro D E p q hD hE hle
    have hpre := took_take hE.1 D.length hle
    have e := took_one hD.1 hpre (by simp; omega)
    by_cases hl : D.length < E.length
    · obtain ⟨i, hi⟩ := took_next hE.1 D.length hl
      rw [← e] at hi
      cases p with
      | false => exact (next_no hi hD.2.2).elim
      | true =>
        have h1 : D.length = T.length := hD.2
        have h2 : E.length ≤ T.length := by cases q with
          | true => exact Nat.le_of_eq hE.2
          | false => exact Nat.le_of_lt hE.2.1
        omega
    · have hl' : D.length = E.length := by omega
      have e2 := took_one hD.1 hE.1 hl'
      subst e2
      refine ⟨?_, rfl⟩
      cases p <;> cases q <;> try rfl
      · have h1 : D.length < T.length := hD.2.1
        have h2 : D.length = T.length := hE.2
        omega
      · have h1 : D.length = T.length := hD.2
        have h2 : D.length < T.length := hE.2.1
        omega
  rcases Nat.le_total D.length E.length with h | h
  · exact key hD hE h
  · have := key hE hD h
    exact ⟨this.1.symm, this.2.symm⟩

end Go.Proofs.Ytmnbhdhgjbgidaa

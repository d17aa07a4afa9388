/- A region that draws its order, makes memory, and ends in one operation that may be anything. -/
import Derived.Test.YtlkhiihehaiinaaDoorRegionMono
namespace Go
open Go.RowKit
/-- The code at a place: 0, 1: of two in a row; 2, 3: of a branch; 4: in a block; 5: in a loop. -/
def codeIn : List Nat → Code → Code
  | [], c => c
  | 0 :: l, .seq x _ => codeIn l x
  | 1 :: l, .seq _ y => codeIn l y
  | 2 :: l, .cond _ x _ => codeIn l x
  | 3 :: l, .cond _ _ y => codeIn l y
  | 4 :: l, .block _ x => codeIn l x
  | 5 :: l, .loop x => codeIn l x
  | _, c => c
section
variable {P : Program} {ops : Array Oper} {Q : Exit → Act → World → Prop}
/-- Each operation ahead of the last is bound by a later one. -/
def lastOk (ops : Array Oper) (n : Nat) : Bool := (List.range n).all fun i => (List.range (n + 1)).any fun j => decide (i < j) && ((ops[j]?).map fun o => o.after.toList.any fun e => (e.on == i) && Region.binds .any e).getD false
theorem lastOk_at {n : Nat} (h : lastOk ops n = true) {i : Nat} (hi : i < n) : ∃ j o, i < j ∧ j ≤ n ∧ ops[j]? = some o ∧ ∃ e ∈ o.after.toList, e.on = i ∧ Region.binds .any e = true := by
  unfold lastOk at h
  have h1 := List.all_eq_true.1 h i (List.mem_range.2 hi)
  obtain ⟨j, hj, h2⟩ := List.any_eq_true.1 h1
  rw [Bool.and_eq_true] at h2
  have hjn := List.mem_range.1 hj
  cases ho : ops[j]? with
  | none => rw [ho] at h2; cases h2.2
  | some o =>
    rw [ho] at h2
    simp only [Option.map_some, Option.getD_some] at h2
    obtain ⟨e, he, h3⟩ := List.any_eq_true.1 h2.2
    rw [Bool.and_eq_true] at h3
    exact ⟨j, o, of_decide_eq_true h2.1, by omega, ho, e, he, by simpa using h3.1, h3.2⟩
theorem last_all {n : Nat} (h : lastOk ops n = true) (L : Nat → Bool) (hcl : ∀ (i : Nat) (o : Oper), ops[i]? = some o → L i = true → ∀ e ∈ o.after.toList, Region.binds .any e = true → L e.on = true)
    (hn : ∀ (o : Oper), ops[n]? = some o → ∀ e ∈ o.after.toList, Region.binds .any e = true → L e.on = true) : ∀ i, i < n → L i = true := by
  have key : ∀ (d i : Nat), i + d = n → 0 < d → L i = true := by
    intro d
    induction d using Nat.strongRecOn with
    | _ d ih =>
      intro i hid hd
      obtain ⟨j, o, hij, hjn, ho, e, he, he2, hb⟩ := lastOk_at h (i := i) (by omega)
      by_cases hj : j = n
      · subst hj
        have := hn o ho e he hb
        rwa [he2] at this
      · have h1 := ih (n - j) (by omega) j (by omega) (by omega)
        have := hcl j o ho h1 e he hb
        rwa [he2] at this
  exact fun i hi => key (n - i) i (by omega) (by omega)
/-- As wp_region_mono, but the last operation, which stands behind all others, may be anything. -/
theorem wp_region_last {id : Nat} {a : Act} {w : World} (hm : P.follows .mixedOrders = true) (hok : regionOk ops = true) (n : Nat) (hn : ops.size = n + 1) (hall : lastOk ops n = true) (mk : (Nat → Value) → Act) (s0 : Nat → Value) (ha : a = mk s0)
    (Φ : Nat → Value → World → Prop) (hmono : ∀ i v x y, Φ i v x → Below x.heap.size x y → Φ i v y) (sl : Nat → Nat) (hinj : ∀ i j, i < n → j < n → sl i = sl j → i = j)
    (hstep : ∀ (i : Nat) (o : Oper) (s : Nat → Value) (x : World), i < n → ops[i]? = some o → (∀ e ∈ o.after.toList, Region.binds .any e = true → Φ e.on (s (sl e.on)) x) → Below w.heap.size w x →
      o.wp P (mk s) x (fun a' y => ∃ v, a' = mk (fun k => if k = sl i then v else s k) ∧ Below x.heap.size x y ∧ Φ i v y) Q)
    (hlast : ∀ (o : Oper) (s : Nat → Value) (x : World), ops[n]? = some o → (∀ i, i < n → Φ i (s (sl i)) x) → Below w.heap.size w x → o.wp P (mk s) x (Q .normal) Q) : (Code.region id ops true).wp P Q a w := by
  refine wp_region_ok hm hok (fun L a x => (∀ (i : Nat) (o : Oper), ops[i]? = some o → L i = true → ∀ e ∈ o.after.toList, Region.binds .any e = true → L e.on = true) ∧ (L n = false → ∃ s, a = mk s ∧ Below w.heap.size w x ∧ ∀ i, i < n → L i = true → Φ i (s (sl i)) x) ∧ (L n = true → (∀ i, i < n → L i = true) ∧ Q .normal a x)) ⟨fun _ _ _ h => (by cases h), fun _ => ⟨s0, ha, (Below.refl _ _).drew, fun i _ h => by cases h⟩, fun h => by cases h⟩ ?_ ?_
  · rintro i o L a x ho hL he ⟨hC, hI, hD⟩
    have hC2 : ∀ (j : Nat) (o2 : Oper), ops[j]? = some o2 → upd L i j = true → ∀ e ∈ o2.after.toList, Region.binds .any e = true → upd L i e.on = true := by
      intro j o2 ho2 hj e h1 h2
      have hold : L e.on = true := by
        by_cases hji : j = i
        · subst hji; rw [ho] at ho2; injection ho2 with ho2; subst ho2; exact he e h1 h2
        · unfold upd at hj; rw [if_neg hji] at hj; exact hC j o2 ho2 hj e h1 h2
      unfold upd; split; rfl; exact hold
    have hi := (Array.getElem?_eq_some_iff.1 ho).1
    by_cases hin : i = n
    · subst hin
      obtain ⟨s, rfl, hb, hΦ⟩ := hI hL
      have hdone : ∀ j, j < i → L j = true := last_all hall L hC (fun o2 ho2 => by rw [ho] at ho2; injection ho2 with ho2; subst ho2; exact he)
      refine Oper.wp_mono ?_ (hlast o s x ho (fun j hj => hΦ j hj (hdone j hj)) hb)
      intro a' y hq
      refine ⟨hC2, fun h => ?_, fun _ => ⟨fun j hj => ?_, hq⟩⟩
      · unfold upd at h; rw [if_pos rfl] at h; cases h
      · unfold upd; rw [if_neg (by omega)]; exact hdone j hj
    · have hlt : i < n := by omega
      have hLn : L n = false := by
        cases h : L n with
        | false => rfl
        | true => rw [(hD h).1 i hlt] at hL; cases hL
      obtain ⟨s, rfl, hb, hΦ⟩ := hI hLn
      refine Oper.wp_mono ?_ (hstep i o s x hlt ho (fun e h1 h2 => hΦ _ (Nat.lt_trans ((regionOk_at hok ho).2 e h1) hlt) (he e h1 h2)) hb)
      rintro a' y ⟨v, rfl, hb2, hv⟩
      refine ⟨hC2, fun _ => ⟨_, rfl, hb.trans (hb2.mono hb.size), fun j hj hLj => ?_⟩, fun h => ?_⟩
      · by_cases hji : j = i
        · subst hji
          show Φ j (if sl j = sl j then v else s (sl j)) y
          rw [if_pos rfl]; exact hv
        · show Φ j (if sl j = sl i then v else s (sl j)) y
          rw [if_neg (fun h => hji (hinj _ _ hj hlt h))]
          exact hmono _ _ _ _ (hΦ j hj (by unfold upd at hLj; rwa [if_neg hji] at hLj)) hb2
      · unfold upd at h; rw [if_neg (fun e => hin e.symm)] at h; rw [h] at hLn; cases hLn
  · rintro L a x hL ⟨_, _, hD⟩
    exact (hD (hL n (by omega))).2
end
end Go

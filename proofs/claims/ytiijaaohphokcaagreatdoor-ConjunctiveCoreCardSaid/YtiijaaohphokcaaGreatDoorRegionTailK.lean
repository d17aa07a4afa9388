/- A region that draws its order: operations in any order that make memory at most, then some that stand one behind another and may do anything. -/
import Derived.Test.YtiijaaohphokcaaGreatDoorG11
namespace Go
open Go.RowKit
section
variable {P : Program} {ops : Array Oper} {Q : Exit → Act → World → Prop}
def tailWp (P : Program) (Q : Exit → Act → World → Prop) : List Oper → Act → World → Prop
  | [], a, w => Q .normal a w
  | o :: r, a, w => o.wp P a w (tailWp P Q r) Q
def onOk (ops : Array Oper) (i j : Nat) : Bool := ((ops[j]?).map fun o => o.after.toList.any fun e => (e.on == i) && Region.binds .any e).getD false
theorem onOk_at {i j : Nat} (h : onOk ops i j = true) : ∃ o, ops[j]? = some o ∧ ∃ e ∈ o.after.toList, e.on = i ∧ Region.binds .any e = true := by
  unfold onOk at h
  cases ho : ops[j]? with
  | none => rw [ho] at h; cases h
  | some o =>
    rw [ho] at h
    simp only [Option.map_some, Option.getD_some] at h
    obtain ⟨e, he, h3⟩ := List.any_eq_true.1 h
    rw [Bool.and_eq_true] at h3
    exact ⟨o, rfl, e, he, by simpa using h3.1, h3.2⟩
/-- The operations from n on stand one behind another. -/
def chainOk (ops : Array Oper) (n : Nat) : Bool := (List.range (ops.size - n - 1)).all fun j => onOk ops (n + j) (n + j + 1)
theorem wp_region_tail {id : Nat} {a : Act} {w : World} (hm : P.follows .mixedOrders = true) (hok : regionOk2 ops = true) (n : Nat) (hn : n < ops.size) (hall : lastOk ops n = true) (hch : chainOk ops n = true) (mk : (Nat → Value) → Act) (s0 : Nat → Value) (ha : a = mk s0)
    (Φ : Nat → Value → World → Prop) (hmono : ∀ i v x y, Φ i v x → Below x.heap.size x y → Φ i v y) (sl : Nat → Nat) (hinj : ∀ i j, i < n → j < n → sl i = sl j → i = j)
    (hstep : ∀ (i : Nat) (o : Oper) (s : Nat → Value) (x : World), i < n → ops[i]? = some o → (∀ e ∈ o.after.toList, Region.binds .any e = true → Φ e.on (s (sl e.on)) x) → Below w.heap.size w x →
      o.wp P (mk s) x (fun a' y => ∃ v, a' = mk (fun k => if k = sl i then v else s k) ∧ Below x.heap.size x y ∧ Φ i v y) Q)
    (hlast : ∀ (s : Nat → Value) (x : World), (∀ i, i < n → Φ i (s (sl i)) x) → Below w.heap.size w x → tailWp P Q (ops.toList.drop n) (mk s) x) : (Code.region id ops true).wp P Q a w := by
  have hchain : ∀ j, n ≤ j → j + 1 < ops.size → onOk ops j (j + 1) = true := by
    intro j hj hs
    have h := List.all_eq_true.1 hch (j - n) (List.mem_range.2 (by omega))
    rw [show n + (j - n) = j by omega] at h
    exact h
  refine wp_region_inv2 hm (fun _ _ ho => (regionOk2_at hok ho).1) (fun _ _ ho => (regionOk2_at hok ho).2) (fun L a x => (∀ (i : Nat) (o : Oper), ops[i]? = some o → L i = true → ∀ e ∈ o.after.toList, Region.binds .any e = true → L e.on = true) ∧ (L n = false → ∃ s, a = mk s ∧ Below w.heap.size w x ∧ ∀ i, i < n → L i = true → Φ i (s (sl i)) x) ∧
    (∀ m, n ≤ m → m < ops.size → L m = true → (m + 1 < ops.size → L (m + 1) = false) → tailWp P Q (ops.toList.drop (m + 1)) a x)) ⟨fun _ _ _ h => (by cases h), fun _ => ⟨s0, ha, (Below.refl _ _).drew, fun i _ h => (by cases h)⟩, fun _ _ _ h => (by cases h)⟩ ?_ ?_
  · rintro i o L a x ho hL he ⟨hC, hI, hD⟩
    have hi := (Array.getElem?_eq_some_iff.1 ho).1
    have hC2 : ∀ (j : Nat) (o2 : Oper), ops[j]? = some o2 → upd L i j = true → ∀ e ∈ o2.after.toList, Region.binds .any e = true → upd L i e.on = true := by
      intro j o2 ho2 hj e h1 h2
      have hold : L e.on = true := by
        by_cases hji : j = i
        · subst hji; rw [ho] at ho2; injection ho2 with ho2; subst ho2; exact he e h1 h2
        · unfold upd at hj; rw [if_neg hji] at hj; exact hC j o2 ho2 hj e h1 h2
      unfold upd; split; rfl; exact hold
    have hdown : ∀ d, n + d < ops.size → L (n + d) = true → L n = true := by
      intro d
      induction d with
      | zero => intro _ h; exact h
      | succ d ih =>
        intro hs h
        obtain ⟨o2, ho2, e, he2, h3, h4⟩ := onOk_at (hchain (n + d) (by omega) (by omega))
        have := hC _ o2 ho2 h e he2 h4
        rw [h3] at this
        exact ih (by omega) this
    have htl : ∀ m (o2 : Oper), ops[m]? = some o2 → ops.toList.drop m = o2 :: ops.toList.drop (m + 1) := by
      intro m o2 h2
      obtain ⟨h3, h4⟩ := Array.getElem?_eq_some_iff.1 h2
      rw [List.drop_eq_getElem_cons (by simpa using h3)]
      simp [h4]
    by_cases hin : i < n
    · have hLn : L n = false := by
        cases h : L n with
        | false => rfl
        | true =>
          have := last_all hall L hC (fun o2 ho2 e h1 h2 => hC n o2 ho2 h e h1 h2) i hin
          rw [this] at hL; cases hL
      obtain ⟨s, rfl, hb, hΦ⟩ := hI hLn
      refine Oper.wp_mono ?_ (hstep i o s x hin ho (fun e h1 h2 => hΦ _ (Nat.lt_trans ((regionOk2_at hok ho).2 e h1 h2) hin) (he e h1 h2)) hb)
      rintro a' y ⟨v, rfl, hb2, hv⟩
      refine ⟨hC2, fun _ => ⟨_, rfl, hb.trans (hb2.mono hb.size), fun j hj hLj => ?_⟩, fun m hm1 hm2 hm3 => ?_⟩
      · by_cases hji : j = i
        · subst hji
          show Φ j (if sl j = sl j then v else s (sl j)) y
          rw [if_pos rfl]; exact hv
        · show Φ j (if sl j = sl i then v else s (sl j)) y
          rw [if_neg (fun h => hji (hinj _ _ hj hin h))]
          exact hmono _ _ _ _ (hΦ j hj (by unfold upd at hLj; rwa [if_neg hji] at hLj)) hb2
      · exfalso
        unfold upd at hm3
        rw [if_neg (by omega)] at hm3
        have h9 := hdown (m - n) (by omega) (by rw [show n + (m - n) = m by omega]; exact hm3)
        rw [hLn] at h9; cases h9
    · have hT : tailWp P Q (o :: ops.toList.drop (i + 1)) a x := by
        by_cases hie : i = n
        · subst hie
          obtain ⟨s, rfl, hb, hΦ⟩ := hI hL
          rw [← htl _ o ho]
          exact hlast s x (fun j hj => hΦ j hj (last_all hall L hC (fun o2 ho2 => by rw [ho] at ho2; injection ho2 with ho2; subst ho2; exact he) j hj)) hb
        · obtain ⟨o2, ho2, e, he2, h3, h4⟩ := onOk_at (hchain (i - 1) (by omega) (by omega))
          rw [show i - 1 + 1 = i by omega] at ho2
          rw [ho] at ho2; injection ho2 with ho2; subst ho2
          have h5 := he e he2 h4
          rw [h3] at h5
          have h6 := hD (i - 1) (by omega) (by omega) h5 (fun _ => by rw [show i - 1 + 1 = i by omega]; exact hL)
          rw [show i - 1 + 1 = i by omega, htl _ o ho] at h6
          exact h6
      refine Oper.wp_mono ?_ hT
      intro a' y hy
      refine ⟨hC2, fun h => ?_, fun m hm1 hm2 hm3 hm4 => ?_⟩
      · exfalso
        by_cases hie : i = n
        · subst hie; unfold upd at h; rw [if_pos rfl] at h; cases h
        · unfold upd at h
          rw [if_neg (by omega)] at h
          obtain ⟨o2, ho2, e, he2, h3, h4⟩ := onOk_at (hchain (i - 1) (by omega) (by omega))
          rw [show i - 1 + 1 = i by omega] at ho2
          rw [ho] at ho2; injection ho2 with ho2; subst ho2
          have h5 := he e he2 h4
          rw [h3] at h5
          have h9 := hdown (i - 1 - n) (by omega) (by rw [show n + (i - 1 - n) = i - 1 by omega]; exact h5)
          rw [h] at h9; cases h9
      · by_cases hmi : m = i
        · subst hmi; exact hy
        · exfalso
          unfold upd at hm3
          rw [if_neg hmi] at hm3
          have hlt : m < i := by
            rcases Nat.lt_or_ge m i with h | h
            · exact h
            · have key : ∀ d, i + d < ops.size → L (i + d) = true → L i = true := by
                intro d
                induction d with
                | zero => intro _ h; exact h
                | succ d ih =>
                  intro hs h
                  obtain ⟨o2, ho2, e, he2, h3, h4⟩ := onOk_at (hchain (i + d) (by omega) (by omega))
                  have := hC _ o2 ho2 h e he2 h4
                  rw [h3] at this
                  exact ih (by omega) this
              have := key (m - i) (by omega) (by rw [show i + (m - i) = m by omega]; exact hm3)
              rw [hL] at this; cases this
          have h7 := hm4 (by omega)
          have key : ∀ d, i - d ≥ m + 1 → upd L i (i - d) = true := by
            intro d
            induction d with
            | zero => intro _; unfold upd; exact if_pos rfl
            | succ d ih =>
              intro hs
              have h8 := ih (by omega)
              obtain ⟨o2, ho2, e, he2, h3, h4⟩ := onOk_at (hchain (i - (d + 1)) (by omega) (by omega))
              rw [show i - (d + 1) + 1 = i - d by omega] at ho2
              have h9 := hC2 _ o2 ho2 h8 e he2 h4
              rw [h3] at h9
              exact h9
          have h8 := key (i - (m + 1)) (by omega)
          rw [show i - (i - (m + 1)) = m + 1 by omega, h7] at h8
          cases h8
  · rintro L a x hL ⟨_, _, hD⟩
    have h := hD (ops.size - 1) (by omega) (by omega) (hL _ (by omega)) (fun h => by omega)
    rw [show ops.size - 1 + 1 = ops.size by omega, List.drop_of_length_le (by simp)] at h
    exact h
end
end Go

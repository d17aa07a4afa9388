/- Maps of a slice of maps, as schema.Order keeps them: what they hold, as sets; the closure that asks for an empty map, and slices.IndexFunc over the slice. -/
import Derived.Test.YtmnbhdhgjbgidaaROrder
import Derived.Maps.OwnSet
import Derived.Laws.Cover3
namespace Go.Proofs.Ytmnbhdhgjbgidaa
open Go.RowKit

abbrev key (k : Nat) : Lit := .int .i64 (k : Int)

/-- Block b is a map of at most n entries whose keys are the numbers of S. -/
def MS (w : World) (n b : Nat) (S : Nat → Prop) : Prop :=
  ∃ D : DataW Unit, w.ownsMap Try.prog 3 (plainElem (H := Unit) Try.prog 4) b n D ∧ ∃ es, D = .map es ∧ (∀ p ∈ es, ∃ k, S k ∧ p.1 = key k) ∧ (∀ k, S k → Maps.has D (key k) = true)

theorem mem_ins {x p : Lit × DataW Unit} : ∀ {l : List (Lit × DataW Unit)}, p ∈ DataW.insert x l → p = x ∨ p ∈ l
  | [], h => by simp [DataW.insert] at h; exact .inl h
  | y :: r, h => by
    unfold DataW.insert at h
    split at h
    · rcases List.mem_cons.1 h with h | h
      · exact .inl h
      · exact .inr h
    · rcases List.mem_cons.1 h with h | h
      · exact .inr (by rw [h]; simp)
      · rcases mem_ins h with h | h
        · exact .inl h
        · exact .inr (List.mem_cons_of_mem _ h)
theorem key_inj {i j : Nat} (h : key i = key j) : i = j := by simp [key] at h; omega
theorem keylit (k : Nat) : WideAt.IsKeyLit (key k) := by simp [WideAt.IsKeyLit]
theorem ms_size {S : Nat → Prop} {D : DataW Unit} {es : List (Lit × DataW Unit)} (he : D = .map es) (h1 : ∀ p ∈ es, ∃ k, S k ∧ p.1 = key k) (h2 : ∀ k, S k → Maps.has D (key k) = true) :
    Maps.size D = 0 ↔ ∀ k, ¬ S k := by
  subst he
  rw [Maps.size_eq]
  constructor
  · intro h k hk
    have := h2 k hk
    rw [List.eq_nil_of_length_eq_zero h] at this
    simp [Maps.has_eq] at this
  · intro h
    cases es with
    | nil => rfl
    | cons p r => obtain ⟨k, hk, -⟩ := h1 p (by simp); exact absurd hk (h k)
theorem ms_put {w : World} {n b : Nat} {S : Nat → Prop} {D : DataW Unit} {es : List (Lit × DataW Unit)} (k : Nat) (d : DataW Unit) (h : w.ownsMap Try.prog 3 (plainElem (H := Unit) Try.prog 4) b n (D.put (key k) d)) (he : D = .map es) (h1 : ∀ p ∈ es, ∃ k, S k ∧ p.1 = key k)
    (h2 : ∀ k, S k → Maps.has D (key k) = true) : MS w n b (fun j => S j ∨ j = k) := by
  refine ⟨_, h, ?_⟩
  subst he
  refine ⟨_, rfl, fun p hp => ?_, fun j hj => ?_⟩
  · rcases mem_ins hp with rfl | hp
    · exact ⟨k, .inr rfl, rfl⟩
    · obtain ⟨j, hj, e⟩ := h1 p (List.mem_filter.1 hp).1
      exact ⟨j, .inl hj, e⟩
  · by_cases e : j = k
    · subst e; exact Maps.has_put_same ⟨_, rfl⟩ (keylit _) _
    · rw [Maps.has_put_other (fun h => e (key_inj h))]
      rcases hj with hj | hj
      · exact h2 j hj
      · exact absurd hj e
theorem ms_del {w : World} {n b : Nat} {S : Nat → Prop} {D : DataW Unit} {es : List (Lit × DataW Unit)} (k : Nat) (h : w.ownsMap Try.prog 3 (plainElem (H := Unit) Try.prog 4) b n (D.del (key k))) (he : D = .map es) (h1 : ∀ p ∈ es, ∃ k, S k ∧ p.1 = key k)
    (h2 : ∀ k, S k → Maps.has D (key k) = true) : MS w n b (fun j => S j ∧ j ≠ k) := by
  refine ⟨_, h, ?_⟩
  subst he
  refine ⟨_, rfl, fun p hp => ?_, fun j hj => ?_⟩
  · obtain ⟨j, hj, e⟩ := h1 p (List.mem_filter.1 hp).1
    refine ⟨j, ⟨hj, fun e2 => ?_⟩, e⟩
    have := (List.mem_filter.1 hp).2
    rw [e, e2, WideAt.sameKey_self (keylit _)] at this
    cases this
  · rw [Maps.has_del_other (fun h => hj.2 (key_inj h))]
    exact h2 j hj.1
theorem MS.congr {w : World} {n b : Nat} {S S' : Nat → Prop} (h : MS w n b S) (e : ∀ k, S k ↔ S' k) : MS w n b S' := by
  have : S = S' := funext fun k => propext (e k)
  rw [← this]; exact h
theorem MS.kept {w w' : World} {n b : Nat} {S : Nat → Prop} {row : Option Nat} (h : MS w n b S) (hg : w.grownBy w' row) (hne : some b ≠ row) : MS w' n b S := by
  obtain ⟨D, ho, r⟩ := h
  exact ⟨D, ho.kept hg hne, r⟩
theorem MS.mono {w : World} {n m b : Nat} {S : Nat → Prop} (h : MS w n b S) (hm : n ≤ m) : MS w m b S := by
  obtain ⟨D, ho, r⟩ := h
  exact ⟨D, ho.mono hm, r⟩
theorem MS.block {w : World} {n b : Nat} {S : Nat → Prop} (h : MS w n b S) : ∃ es clock, w.heap[b]? = some (.map es clock) := by
  obtain ⟨D, ⟨es, clock, hb, _⟩, r⟩ := h
  exact ⟨es, clock, hb⟩
theorem MS.lt {w : World} {n b : Nat} {S : Nat → Prop} (h : MS w n b S) : b < w.heap.size := by
  obtain ⟨D, ho, r⟩ := h
  exact ho.lt
theorem ms_made (w : World) : MS (w.alloc (.map #[] 0)) 0 w.heap.size (fun _ => False) :=
  ⟨_, World.ownsMap_made w _ _ _, [], rfl, fun p hp => by simp at hp, fun k hk => hk.elim⟩
/-- A row of cells does not lie in a map's block. -/
theorem own_not_map {w : World} {base k m b : Nat} {e : TypeId} {size : Nat} {v : Value} {xs : List Value} {S : Nat → Prop} (h : w.ownsRow base e size v k xs) (hm : MS w m b S) : v.ownBlock ≠ some b := by
  obtain ⟨es, clock, hb⟩ := hm.block
  obtain ⟨-, ⟨rfl, -⟩ | ⟨g', cap, cur, rfl, -, hh, -⟩⟩ := h
  · simp [Value.ownBlock]
  · intro e1
    simp [Value.ownBlock] at e1
    subst e1
    rw [hh] at hb
    cases hb

/-- What the closure asks of a map. -/
def emptyM (w : World) (o : Option Nat) (r : Bool) : Prop := match o with
  | none => r = false
  | some b => ∃ (n : Nat) (S : Nat → Prop), MS w n b S ∧ (r = true ↔ ∀ k, ¬ S k)

set_option maxRecDepth 100000 in
set_option maxHeartbeats 400000 in
theorem oclo_none (w : World) : Calls Try.prog 53 #[.map none] w fun e w' => e = .returned (.bool false) ∧ Below w.heap.size w w' := by
  have hnq := fun W : World => run_neq_map_nil (P := Try.prog) (w := W) 84 3 4 none Try.underlying84
  go_enter Try.func53, Try.ntmps53
  go_wp2
  go_ret
  exact ⟨rfl, Below.refl _ _⟩
set_option maxRecDepth 100000 in
set_option maxHeartbeats 400000 in
theorem oclo_some (w : World) (b n : Nat) (S : Nat → Prop) (r : Bool) (h : MS w n b S) (hr : r = true ↔ ∀ k, ¬ S k) : Calls Try.prog 53 #[.map (some b)] w fun e w' => e = .returned (.bool r) ∧ Below w.heap.size w w' := by
  obtain ⟨D, ho, es, he, h1, h2⟩ := h
  have hsz := ms_size he h1 h2
  rw [← hr] at hsz
  have HR := hide hsz
  clear hr hsz
  have hnq := fun W : World => run_neq_map_nil (P := Try.prog) (w := W) 84 3 4 (some b) Try.underlying84
  have hln := ho.len Try.underlying84 3
  go_enter Try.func53, Try.ntmps53
  go_wp2
  go_ret
  refine ⟨congrArg (fun x => Ending.returned (Value.bool x)) ?_, Below.refl _ _⟩
  subst he
  rw [Bool.eq_iff_iff, ← HR.out, beq_iff_eq]
  exact Int.natCast_eq_zero

theorem emptyM.mono {w w' : World} {o : Option Nat} {r : Bool} (h : emptyM w o r) (hb : Below w.heap.size w w') : emptyM w' o r := by
  cases o with
  | none => exact h
  | some b =>
    obtain ⟨n, S, hm, hr⟩ := h
    exact ⟨n, S, hm.kept (grown_of_below hb) (by simp), hr⟩

/-- The closure's own law, whatever the map. -/
theorem oclo_any (w : World) (o : Option Nat) (r : Bool) (h : emptyM w o r) : Calls Try.prog 53 #[.map o] w fun e w' => e = .returned (.bool r) ∧ Below w.heap.size w w' := by
  cases o with
  | none => have h2 : r = false := h
            subst h2
            exact oclo_none w
  | some b =>
    obtain ⟨n, S, hm, hr⟩ := h
    exact oclo_some w b n S r hm hr

theorem fx_range_hit {p : Nat → Bool} {n m : Nat} (hm : m < n) (hp : p m = true) (hn : ∀ j, j < m → p j = false) : fx p (List.range n) = m :=
  fx_hit (by simpa using hm) (by simpa using hp) (fun j hj h => by simpa using hn j h)
theorem fx_range_miss {p : Nat → Bool} {n : Nat} (hn : ∀ j, j < n → p j = false) : fx p (List.range n) = -1 :=
  fx_miss (fun j hj => by simpa using hn j (by simpa using hj))

set_option maxRecDepth 100000 in
set_option maxHeartbeats 400000 in
theorem oindex_any (w : World) (g n : Nat) (os : List (Option Nat)) (p : Nat → Bool) (hl : os.length = n) (hn : n ≤ 10) (hg : g < w.heap.size) (hc : ∀ j (hj : j < os.length), w.cell? ⟨g, j, none⟩ = some (.map os[j])) (hE : ∀ j (hj : j < os.length), emptyM w os[j] (p j)) :
    Calls Try.prog 52 #[.slice (some ⟨g, 0, none⟩) n n, .func (.func 53) #[] #[]] w
      fun e w' => e = .returned (.int .i64 (fx p (List.range n))) ∧ Below w.heap.size w w' := by
  have HC := hide hc
  have HE := hide hE
  clear hc hE
  go_enter Try.func52, Try.ntmps52
  go_wp2
  go_loopw [5, 8] (fun _ i wr => ∃ k : Nat, k ≤ n ∧ i = .int .i64 k ∧ (∀ j, j < k → p j = false) ∧ Below w.heap.size w wr) (fun _ i _ => n - (intOf i).toNat)
  case atStart => exact ⟨0, Nat.zero_le _, rfl, fun j h => absurd h (by omega), Below.refl _ _⟩
  case round =>
    obtain ⟨k, hk, rfl, hno, hbw⟩ := hrel
    have HN := hide hno
    have HB := hide hbw
    clear hno hbw
    by_cases hlt : k < n
    · have hko : k < os.length := by omega
      have hki : (k : Int) < n := by omega
      have hcell : wr.cell? ⟨g, k, none⟩ = some (.map os[k]) := by rw [HB.out.cell (p := ⟨g, k, none⟩) hg]; exact HC.out k hko
      have HM := hide ((HE.out k hko).mono HB.out)
      generalize os[k] = o at *
      cases hp : p k
      all_goals
        have HP := hide hp
        clear hp
        go_wp2_with (go_at_call 53; refine (oclo_any _ o _ HM.out).mono ?_; rintro e w1 ⟨rfl, hb1⟩; rw [HP.out])
      · go_roundw
        case rel =>
          refine ⟨k + 1, by omega, by go_num, fun j h => ?_, HB.out.trans (hb1.mono HB.out.size)⟩
          by_cases e : j = k
          · subst e; exact HP.out
          · exact HN.out j (by omega)
        case measure => simp [intOf]; omega
      · go_ret
        exact ⟨ret1 (fx_range_hit hlt HP.out (fun j h => HN.out j h)).symm, HB.out.trans (hb1.mono HB.out.size)⟩
    · have hki : ¬ (k : Int) < n := by omega
      go_wp2
      go_ret
      exact ⟨ret1 (fx_range_miss (fun j hj => HN.out j (by omega))).symm, HB.out⟩

end Go.Proofs.Ytmnbhdhgjbgidaa

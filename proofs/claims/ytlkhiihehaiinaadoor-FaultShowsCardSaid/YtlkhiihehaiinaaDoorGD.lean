/- A region that draws its order, by an invariant over what has been carried out: no order is enumerated. -/
import Derived.Orders
import Derived.WalkKit
import Derived.ArgAppend
namespace Go
section
variable {P : Program} {ops : Array Oper} {Q : Exit → Act → World → Prop}

/-- .. and i too. -/
def upd (L : Nat → Bool) (i : Nat) : Nat → Bool := fun j => if j = i then true else L j

theorem ready_mem {md : Region.Mode} {listed : Array Bool} {i : Nat} (h : i ∈ Region.ready md ops listed) :
    ∃ o, ops[i]? = some o ∧ listed.getD i true = false ∧ ∀ e ∈ o.after.toList, Region.binds md e = true → listed.getD e.on false = true := by
  unfold Region.ready at h
  rw [List.mem_filter] at h
  obtain ⟨h1, h2⟩ := h
  rw [Bool.and_eq_true] at h2
  obtain ⟨h3, h4⟩ := h2
  cases ho : ops[i]? with
  | none => rw [ho] at h4; cases h4
  | some o =>
    rw [ho] at h4
    simp only [Option.map_some, Option.getD_some, Array.all_eq_true'] at h4
    refine ⟨o, rfl, by simpa using h3, fun e he hb => ?_⟩
    have := h4 e (by simpa using he)
    rw [hb] at this
    simpa using this

theorem ready_low {md : Region.Mode} {listed : Array Bool} (hlow : ∀ (i : Nat) (o : Oper), ops[i]? = some o → ∀ e ∈ o.after.toList, e.on < i) (hr : Region.ready md ops listed = []) (hsz : listed.size = ops.size) :
    ∀ i, i < ops.size → listed.getD i false = true := by
  intro i
  induction i using Nat.strongRecOn with
  | _ i ih =>
  intro hi
  cases hl : listed.getD i false with
  | true => rfl
  | false =>
    exfalso
    have hmem : i ∈ Region.ready md ops listed := by
      unfold Region.ready
      rw [List.mem_filter]
      refine ⟨List.mem_range.2 hi, ?_⟩
      have ho : ops[i]? = some ops[i] := Array.getElem?_eq_getElem hi
      have h1 : listed.getD i true = false := by
        simp only [Array.getD, hsz, hi] at hl ⊢
        simpa using hl
      rw [ho, h1]
      simp only [Option.map_some, Option.getD_some, Bool.not_false, Bool.true_and, Array.all_eq_true']
      intro e he
      have h2 := hlow i _ ho e (by simpa using he)
      rw [ih e.on h2 (by omega)]
      simp
    rw [hr] at hmem
    cases hmem

theorem wp_region_inv {id : Nat} {a : Act} {w : World} (hm : P.follows .mixedOrders = true) (hng : ∀ (i : Nat) (o : Oper), ops[i]? = some o → o.guard = none)
    (hlow : ∀ (i : Nat) (o : Oper), ops[i]? = some o → ∀ e ∈ o.after.toList, e.on < i) (Inv : (Nat → Bool) → Act → World → Prop) (h0 : Inv (fun _ => false) a w.drew)
    (hstep : ∀ (i : Nat) (o : Oper) (L : Nat → Bool) (a : Act) (w : World), ops[i]? = some o → L i = false → (∀ e ∈ o.after.toList, Region.binds .any e = true → L e.on = true) → Inv L a w → o.wp P a w (fun a' w' => Inv (upd L i) a' w') Q)
    (hend : ∀ (L : Nat → Bool) (a : Act) (w : World), (∀ i, i < ops.size → L i = true) → Inv L a w → Q .normal a w) : (Code.region id ops true).wp P Q a w := by
  refine wp_region_any hm ?_
  have key : ∀ (fuel : Nat) (listed : Array Bool) (a : Act) (w : World), listed.size = ops.size → listed.toList.count false ≤ fuel → Inv (fun i => listed.getD i false) a w → wpAny P .any ops Q fuel listed a w := by
    intro fuel
    induction fuel with
    | zero =>
      intro listed a w hsz hc hI
      have hall : ∀ i, i < ops.size → listed.getD i false = true := by
        intro i hi
        cases hl : listed.getD i false with
        | true => rfl
        | false =>
          have hi' : i < listed.size := by omega
          have hm : false ∈ listed.toList := by
            have : listed[i] = false := by simpa [Array.getD, hi'] using hl
            rw [← this]
            exact Array.getElem_mem_toList hi'
          have := List.count_pos_iff.2 hm
          omega
      refine ⟨?_, hend _ a w hall hI⟩
      cases hr : Region.ready .any ops listed with
      | nil => rfl
      | cons i r =>
        obtain ⟨o, ho, h1, _⟩ := ready_mem (i := i) (by rw [hr]; simp)
        have hi := (Array.getElem?_eq_some_iff.1 ho).1
        have h2 := hall i hi
        have hi' : i < listed.size := by omega
        simp [Array.getD, hi'] at h1 h2
        rw [h1] at h2
        cases h2
    | succ fuel ih =>
      intro listed a w hsz hc hI
      refine ⟨fun hr => hend _ a w (ready_low hlow hr hsz) hI, fun i hi => ?_⟩
      obtain ⟨o, ho, h1, h2⟩ := ready_mem hi
      have his := (Array.getElem?_eq_some_iff.1 ho).1
      have hi' : i < listed.size := by omega
      have hlf : listed.getD i false = false := by
        simp [Array.getD, hi'] at h1 ⊢
        exact h1
      refine wpOp_mono (K := fun a' w' => Inv (upd (fun i => listed.getD i false) i) a' w') (fun a' w' h => ?_) ?_
      · refine ih _ a' w' (by simpa using hsz) ?_ ?_
        · have hlc : listed[i] = false := by simpa [Array.getD, hi'] using hlf
          rw [Array.toList_setIfInBounds]
          have h3 := List.count_set (l := listed.toList) (a := true) (b := false) (i := i) (by simpa using hi')
          rw [h3]
          have h4 : listed.toList[i]'(by simpa using hi') = false := by simpa using hlc
          rw [h4]
          show (List.count false listed.toList - 1) + 0 ≤ fuel
          omega
        · have e : (fun j => (listed.setIfInBounds i true).getD j false) = upd (fun j => listed.getD j false) i := by
            funext j
            unfold upd
            by_cases hj : j = i
            · subst hj
              simp [Array.getD, hi']
            · rw [if_neg hj]
              simp only [Array.getD, Array.size_setIfInBounds]
              by_cases hjs : j < listed.size
              · rw [dif_pos hjs, dif_pos hjs]
                simp only [Array.getInternal_eq_getElem]
                rw [Array.getElem_setIfInBounds_ne (hj := hjs) (h := fun h => hj h.symm)]
              · rw [dif_neg hjs, dif_neg hjs]
          rw [e]
          exact h
      · unfold wpOp
        rw [ho]
        have hw : Region.wanted o (yielded ops a.tmps) = true := by simp [Region.wanted, hng i o ho]
        show if Region.wanted o (yielded ops a.tmps) = true then _ else _
        rw [if_pos hw]
        exact .inl (hstep i o _ a w ho hlf h2 hI)
  exact key ops.size _ a w.drew (by simp) (by simp) (by
    have e : (fun i => (Array.replicate ops.size false).getD i false) = fun _ => false := by
      funext i
      simp [Array.getD]
    rw [e]
    exact h0)

/-- No guard, and each edge leads back. -/
def regionOk (ops : Array Oper) : Bool := (List.range ops.size).all fun i => ((ops[i]?).map fun o => o.guard.isNone && o.after.toList.all (fun e => decide (e.on < i))).getD true
theorem regionOk_at (h : regionOk ops = true) {i : Nat} {o : Oper} (ho : ops[i]? = some o) : o.guard = none ∧ ∀ e ∈ o.after.toList, e.on < i := by
  unfold regionOk at h
  have h1 := List.all_eq_true.1 h i (List.mem_range.2 (Array.getElem?_eq_some_iff.1 ho).1)
  rw [ho] at h1
  simp only [Option.map_some, Option.getD_some, Bool.and_eq_true] at h1
  refine ⟨by simpa using h1.1, fun e he => ?_⟩
  have := List.all_eq_true.1 h1.2 e he
  simpa using this
theorem wp_region_ok {id : Nat} {a : Act} {w : World} (hm : P.follows .mixedOrders = true) (hok : regionOk ops = true) (Inv : (Nat → Bool) → Act → World → Prop) (h0 : Inv (fun _ => false) a w.drew)
    (hstep : ∀ (i : Nat) (o : Oper) (L : Nat → Bool) (a : Act) (w : World), ops[i]? = some o → L i = false → (∀ e ∈ o.after.toList, Region.binds .any e = true → L e.on = true) → Inv L a w → o.wp P a w (fun a' w' => Inv (upd L i) a' w') Q)
    (hend : ∀ (L : Nat → Bool) (a : Act) (w : World), (∀ i, i < ops.size → L i = true) → Inv L a w → Q .normal a w) : (Code.region id ops true).wp P Q a w :=
  wp_region_inv hm (fun _ _ ho => (regionOk_at hok ho).1) (fun _ _ ho => (regionOk_at hok ho).2) Inv h0 hstep hend
end
end Go

/- A region that draws its order and whose operations only make memory: what is said of each operation's value is said behind all of them. -/
namespace Go
open Go.RowKit
section
variable {P : Program} {ops : Array Oper} {Q : Exit → Act → World → Prop}

/-- 'sl i': the slot of operation i; 'Φ i v x': what is said of its value v in the world x. -/
theorem wp_region_mono {id : Nat} {a : Act} {w : World} (hm : P.follows .mixedOrders = true) (hok : regionOk ops = true) (mk : (Nat → Value) → Act) (s0 : Nat → Value) (ha : a = mk s0)
    (Φ : Nat → Value → World → Prop) (hmono : ∀ i v x y, Φ i v x → Below x.heap.size x y → Φ i v y) (sl : Nat → Nat) (hinj : ∀ i j, i < ops.size → j < ops.size → sl i = sl j → i = j)
    (hstep : ∀ (i : Nat) (o : Oper) (s : Nat → Value) (x : World), ops[i]? = some o → (∀ e ∈ o.after.toList, Region.binds .any e = true → Φ e.on (s (sl e.on)) x) → Below w.heap.size w x →
      o.wp P (mk s) x (fun a' y => ∃ v, a' = mk (fun k => if k = sl i then v else s k) ∧ Below x.heap.size x y ∧ Φ i v y) Q)
    (hend : ∀ (s : Nat → Value) (x : World), (∀ i, i < ops.size → Φ i (s (sl i)) x) → Below w.heap.size w x → Q .normal (mk s) x) : (Code.region id ops true).wp P Q a w := by
  refine wp_region_ok hm hok (fun L a x => ∃ s, a = mk s ∧ Below w.heap.size w x ∧ ∀ i, i < ops.size → L i = true → Φ i (s (sl i)) x) ⟨s0, ha, (Below.refl _ _).drew, fun i _ h => by cases h⟩ ?_ ?_
  · rintro i o L a x ho hL he ⟨s, rfl, hb, hI⟩
    have hi := (Array.getElem?_eq_some_iff.1 ho).1
    refine Oper.wp_mono ?_ (hstep i o s x ho (fun e h1 h2 => hI _ (Nat.lt_trans ((regionOk_at hok ho).2 e h1) hi) (he e h1 h2)) hb)
    rintro a' y ⟨v, rfl, hb2, hv⟩
    refine ⟨_, rfl, hb.trans (hb2.mono hb.size), fun j hj hLj => ?_⟩
    by_cases hji : j = i
    · subst hji
      show Φ j (if sl j = sl j then v else s (sl j)) y
      rw [if_pos rfl]; exact hv
    · show Φ j (if sl j = sl i then v else s (sl j)) y
      rw [if_neg (fun h => hji (hinj _ _ hj hi h))]
      exact hmono _ _ _ _ (hI j hj (by unfold upd at hLj; rwa [if_neg hji] at hLj)) hb2
  · rintro L a x hL ⟨s, rfl, hb, hI⟩
    exact hend s x (fun i hi => hI i hi (hL i hi)) hb
theorem opwp_K {o : Oper} {a : Act} {w : World} {K : Act → World → Prop} (h : ∀ K' : Act → World → Prop, (∀ a w, K a w → K' a w) → o.wp P a w K' Q) : o.wp P a w K Q := h K (fun _ _ h => h)
theorem opwp_append_grows {K : Act → World → Prop} (w : World) {o : Oper} {a : Act}
    (s x : Operand) (t : TypeId) (hop : o.op = Op.call { callee := Callee.builtin Builtin.append, args := #[s, x], argTypes := #[t, t] })
    (e : TypeId) (i : TypeInfo) (z : Value) (size bytes : Nat) (h1 : P.underlying t = some (.slice e)) (h2 : P.info? e = some i) (h3 : i.zero = some z) (h4 : i.size = size) (h5 : i.bytes = bytes) (h6 : z.cells.size = size) (h7 : 0 < size)
    (b : Addr) (n cap : Nat) (olds : List Value) (hs : a.eval s = .slice (some b) n cap) (hlo : olds.length = n * size) (holds : ∀ j u, olds[j]? = some u → w.cell? (b.add j) = some u)
    (ad : Addr) (m c : Nat) (news : List Value) (hx : a.eval x = .slice (some ad) m c) (hn : news.length = m * size) (hc : ∀ j u, news[j]? = some u → w.cell? (ad.add j) = some u)
    (hfull : cap < n + m) (b1 : n + m ≤ maxLen) (b2 : (n + m) * bytes ≤ 140737488355328)
    (hK : ∀ v' w', w'.ownsRow w.heap.size e size v' (n + m) (olds ++ news) → w.grownBy w' none → K (a.put o.dst v') w') : o.wp P a w K Q := by
  obtain ⟨v', w', hrun, r1, r2⟩ := run_append_arg_grows (P := P) w t o.type e i z size bytes h1 h2 h3 h4 h5 h6 h7 b n cap olds hlo holds ad m c news hn hc hfull b1 b2
  unfold Oper.wp
  simp [execOp, hop, resolve, invoke, builtin, hs, hx, hrun, Result.andThen]
  exact hK v' w' r1 r2
end
end Go

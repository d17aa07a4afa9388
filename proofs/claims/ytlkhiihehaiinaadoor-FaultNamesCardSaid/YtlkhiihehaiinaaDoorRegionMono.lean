/- A region that draws its order and whose operations only make memory: what is said of each operation's value is said behind all of them. -/
import Derived.Test.YtlkhiihehaiinaaDoorRegionInv
import Derived.ArgAppend
namespace Go
open Go.RowKit
section
variable {P : Program} {ops : Array Oper} {Q : Exit → Act → World → Prop}

/-- 'sl i': the slot of operation i; 'Φ i v x': what is said of its value v in the world x. -/
theorem wp_region_mono {id : Nat} {a : Act} {w : World} (hm : P.follows .mixedOrders = true) (hok : regionOk ops = true) (mk : (Nat → Value) → Act) (s0 : Nat → Value) (ha : a = mk s0)
    (Φ : Nat → Value → World → Prop) (hmono : ∀ i v x y, Φ i v x → Below x.heap.size x y → Φ i v y) (sl : Nat → Nat) (hinj : ∀ i j, i < ops.size → j < ops.size → sl i = sl j → i = j)
    (hstep : ∀ (i : Nat) (o : Oper) (s : Nat → Value) (x : World), ops[i]? = some o → (∀ e ∈ o.after.toList, Region.binds .any e = true → Φ e.on (s (sl e.on)) x) → Below w.heap.size w x →
      o.wp P (mk s) x (fun a' y => ∃ v, a' = mk (fun k => if k = sl i then v else s k) ∧ Below x.heap.size x y ∧ Φ i v y) Q)
    (hend : ∀ (s : Nat → Value) (x : World), (∀ i, i < ops.size → Φ i (s (sl i)) x) → Below w.heap.size w x → Q .normal (mk s) x) : (Code.region id ops true).wp P Q a w := by
  refine wp_region_ok hm hok (fun L a x => ∃ s, a = mk s ∧ Below w.heap.size w x ∧ ∀ i, i < ops.size → L i = true → Φ i (s (sl i)) x) ⟨s0, ha, (Below.refl _ _).drew, fun i _ h => by cases h⟩ ?_ ?_
  · rintro i o L a x ho hL he ⟨s, rfl, hb, hI⟩
    have hi := (Array.getElem?_eq_some_iff.1 ho).1
    refine Oper.wp_mono ?_ (hstep i o s x ho (fun e h1 h2 => hI _ (Nat.lt_trans ((regionOk_at hok ho).2 e h1) hi) (he e h1 h2)) hb)
    rintro a' y ⟨v, rfl, hb2, hv⟩
    refine ⟨_, rfl, hb.trans (hb2.mono hb.size), fun j hj hLj => ?_⟩
    by_cases hji : j = i
    · subst hji
      show Φ j (if sl j = sl j then v else s (sl j)) y
      rw [if_pos rfl]; exact hv
    · show Φ j (if sl j = sl i then v else s (sl j)) y
      rw [if_neg (fun h => hji (hinj _ _ hj hi h))]
      exact hmono _ _ _ _ (hI j hj (by unfold upd at hLj; rwa [if_neg hji] at hLj)) hb2
  · rintro L a x hL ⟨s, rfl, hb, hI⟩
    exact hend s x (fun i hi => hI i hi (hL i hi)) hb
theorem opwp_K {o : Oper} {a : Act} {w : World} {K : Act → World → Prop} (h : ∀ K' : Act → World → Prop, (∀ a w, K a w → K' a w) → o.wp P a w K' Q) : o.wp P a w K Q := h K (fun _ _ h => h)
theorem opwp_append_grows {K : Act → World → Prop} (w : World) {o : Oper} {a : Act}
    (s x : Operand) (t : TypeId) (hop : o.op = Op.call { callee := Callee.builtin Builtin.append, args := #[s, x], argTypes := #[t, t] })
    (e : TypeId) (i : TypeInfo) (z : Value) (size bytes : Nat) (h1 : P.underlying t = some (.slice e)) (h2 : P.info? e = some i) (h3 : i.zero = some z) (h4 : i.size = size) (h5 : i.bytes = bytes) (h6 : z.cells.size = size) (h7 : 0 < size)
    (b : Addr) (n cap : Nat) (olds : List Value) (hs : a.eval s = .slice (some b) n cap) (hlo : olds.length = n * size) (holds : ∀ j u, olds[j]? = some u → w.cell? (b.add j) = some u)
    (ad : Addr) (m c : Nat) (news : List Value) (hx : a.eval x = .slice (some ad) m c) (hn : news.length = m * size) (hc : ∀ j u, news[j]? = some u → w.cell? (ad.add j) = some u)
    (hfull : cap < n + m) (b1 : n + m ≤ maxLen) (b2 : (n + m) * bytes ≤ 140737488355328)
    (hK : ∀ v' w', w'.ownsRow w.heap.size e size v' (n + m) (olds ++ news) → w.grownBy w' none → K (a.put o.dst v') w') : o.wp P a w K Q := by
  obtain ⟨v', w', hrun, r1, r2⟩ := run_append_arg_grows (P := P) w t o.type e i z size bytes h1 h2 h3 h4 h5 h6 h7 b n cap olds hlo holds ad m c news hn hc hfull b1 b2
  unfold Oper.wp
  simp [execOp, hop, resolve, invoke, builtin, hs, hx, hrun, Result.andThen]
  exact hK v' w' r1 r2
end
end Go

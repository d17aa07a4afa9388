/- A region that draws its order: of the edges only those that bind have to lead back. -/
import Derived.Test.YtlkhiihehaiinaaDoorGD
import Derived.Test.YtlkhiihehaiinaaDoorGK
import Derived.Test.YtlkhiihehaiinaaDoorGF
import Derived.Test.YtlkhiihehaiinaaDoorGL
import Derived.Deep.QuietTactic
import Derived.BigQuiet
namespace Go
section
variable {P : Program} {ops : Array Oper} {Q : Exit → Act → World → Prop}

theorem ready_low2 {md : Region.Mode} {listed : Array Bool} (hlow : ∀ (i : Nat) (o : Oper), ops[i]? = some o → ∀ e ∈ o.after.toList, Region.binds md e = true → e.on < i) (hr : Region.ready md ops listed = []) (hsz : listed.size = ops.size) :
    ∀ i, i < ops.size → listed.getD i false = true := by
  intro i
  induction i using Nat.strongRecOn with
  | _ i ih =>
  intro hi
  cases hl : listed.getD i false with
  | true => rfl
  | false =>
    exfalso
    have hmem : i ∈ Region.ready md ops listed := by
      unfold Region.ready
      rw [List.mem_filter]
      refine ⟨List.mem_range.2 hi, ?_⟩
      have ho : ops[i]? = some ops[i] := Array.getElem?_eq_getElem hi
      have h1 : listed.getD i true = false := by
        simp only [Array.getD, hsz, hi] at hl ⊢
        simpa using hl
      rw [ho, h1]
      simp only [Option.map_some, Option.getD_some, Bool.not_false, Bool.true_and, Array.all_eq_true']
      intro e he
      cases hbd : Region.binds md e with
      | false => simp
      | true =>
        have h2 := hlow i _ ho e (by simpa using he) hbd
        rw [ih e.on h2 (by omega)]
        simp
    rw [hr] at hmem
    cases hmem

theorem wp_region_inv2 {id : Nat} {a : Act} {w : World} (hm : P.follows .mixedOrders = true) (hng : ∀ (i : Nat) (o : Oper), ops[i]? = some o → o.guard = none)
    (hlow : ∀ (i : Nat) (o : Oper), ops[i]? = some o → ∀ e ∈ o.after.toList, Region.binds .any e = true → e.on < i) (Inv : (Nat → Bool) → Act → World → Prop) (h0 : Inv (fun _ => false) a w.drew)
    (hstep : ∀ (i : Nat) (o : Oper) (L : Nat → Bool) (a : Act) (w : World), ops[i]? = some o → L i = false → (∀ e ∈ o.after.toList, Region.binds .any e = true → L e.on = true) → Inv L a w → o.wp P a w (fun a' w' => Inv (upd L i) a' w') Q)
    (hend : ∀ (L : Nat → Bool) (a : Act) (w : World), (∀ i, i < ops.size → L i = true) → Inv L a w → Q .normal a w) : (Code.region id ops true).wp P Q a w := by
  refine wp_region_any hm ?_
  have key : ∀ (fuel : Nat) (listed : Array Bool) (a : Act) (w : World), listed.size = ops.size → listed.toList.count false ≤ fuel → Inv (fun i => listed.getD i false) a w → wpAny P .any ops Q fuel listed a w := by
    intro fuel
    induction fuel with
    | zero =>
      intro listed a w hsz hc hI
      have hall : ∀ i, i < ops.size → listed.getD i false = true := by
        intro i hi
        cases hl : listed.getD i false with
        | true => rfl
        | false =>
          have hi' : i < listed.size := by omega
          have hm : false ∈ listed.toList := by
            have : listed[i] = false := by simpa [Array.getD, hi'] using hl
            rw [← this]
            exact Array.getElem_mem_toList hi'
          have := List.count_pos_iff.2 hm
          omega
      refine ⟨?_, hend _ a w hall hI⟩
      cases hr : Region.ready .any ops listed with
      | nil => rfl
      | cons i r =>
        obtain ⟨o, ho, h1, _⟩ := ready_mem (i := i) (by rw [hr]; simp)
        have hi := (Array.getElem?_eq_some_iff.1 ho).1
        have h2 := hall i hi
        have hi' : i < listed.size := by omega
        simp [Array.getD, hi'] at h1 h2
        rw [h1] at h2
        cases h2
    | succ fuel ih =>
      intro listed a w hsz hc hI
      refine ⟨fun hr => hend _ a w (ready_low2 hlow hr hsz) hI, fun i hi => ?_⟩
      obtain ⟨o, ho, h1, h2⟩ := ready_mem hi
      have his := (Array.getElem?_eq_some_iff.1 ho).1
      have hi' : i < listed.size := by omega
      have hlf : listed.getD i false = false := by
        simp [Array.getD, hi'] at h1 ⊢
        exact h1
      refine wpOp_mono (K := fun a' w' => Inv (upd (fun i => listed.getD i false) i) a' w') (fun a' w' h => ?_) ?_
      · refine ih _ a' w' (by simpa using hsz) ?_ ?_
        · have hlc : listed[i] = false := by simpa [Array.getD, hi'] using hlf
          rw [Array.toList_setIfInBounds]
          have h3 := List.count_set (l := listed.toList) (a := true) (b := false) (i := i) (by simpa using hi')
          rw [h3]
          have h4 : listed.toList[i]'(by simpa using hi') = false := by simpa using hlc
          rw [h4]
          show (List.count false listed.toList - 1) + 0 ≤ fuel
          omega
        · have e : (fun j => (listed.setIfInBounds i true).getD j false) = upd (fun j => listed.getD j false) i := by
            funext j
            unfold upd
            by_cases hj : j = i
            · subst hj
              simp [Array.getD, hi']
            · rw [if_neg hj]
              simp only [Array.getD, Array.size_setIfInBounds]
              by_cases hjs : j < listed.size
              · rw [dif_pos hjs, dif_pos hjs]
                simp only [Array.getInternal_eq_getElem]
                rw [Array.getElem_setIfInBounds_ne (hj := hjs) (h := fun h => hj h.symm)]
              · rw [dif_neg hjs, dif_neg hjs]
          rw [e]
          exact h
      · unfold wpOp
        rw [ho]
        have hw : Region.wanted o (yielded ops a.tmps) = true := by simp [Region.wanted, hng i o ho]
        show if Region.wanted o (yielded ops a.tmps) = true then _ else _
        rw [if_pos hw]
        exact .inl (hstep i o _ a w ho hlf h2 hI)
  exact key ops.size _ a w.drew (by simp) (by simp) (by
    have e : (fun i => (Array.replicate ops.size false).getD i false) = fun _ => false := by
      funext i
      simp [Array.getD]
    rw [e]
    exact h0)

/-- No guard, and each edge that binds leads back. -/
def regionOk2 (ops : Array Oper) : Bool := (List.range ops.size).all fun i => ((ops[i]?).map fun o => o.guard.isNone && o.after.toList.all (fun e => !Region.binds .any e || decide (e.on < i))).getD true
theorem regionOk2_at (h : regionOk2 ops = true) {i : Nat} {o : Oper} (ho : ops[i]? = some o) : o.guard = none ∧ ∀ e ∈ o.after.toList, Region.binds .any e = true → e.on < i := by
  unfold regionOk2 at h
  have h1 := List.all_eq_true.1 h i (List.mem_range.2 (Array.getElem?_eq_some_iff.1 ho).1)
  rw [ho] at h1
  simp only [Option.map_some, Option.getD_some, Bool.and_eq_true] at h1
  refine ⟨by simpa using h1.1, fun e he hb => ?_⟩
  have := List.all_eq_true.1 h1.2 e he
  rw [hb] at this
  simpa using this
/-- A region whose values are known ahead: the slot of operation i (where it has one: quiet) gets V i; what the world is, says ST, by what has been carried out. -/
theorem wp_region_st {id : Nat} {a : Act} {w : World} (hm : P.follows .mixedOrders = true) (hok : regionOk2 ops = true) (n : Nat) (hn : ops.size = n) (mk : (Nat → Value) → Act) (s0 : Nat → Value) (ha : a = mk s0)
    (sl : Nat → Nat) (qt : Nat → Bool) (hinj : ∀ i j, i < n → j < n → qt i = true → qt j = true → sl i = sl j → i = j) (V : Nat → Value) (ST : (Nat → Bool) → World → Prop) (h0 : ST (fun _ => false) w.drew)
    (hstep : ∀ (i : Nat) (o : Oper) (s : Nat → Value) (L : Nat → Bool) (x : World), ops[i]? = some o → L i = false → (∀ e ∈ o.after.toList, Region.binds .any e = true → L e.on = true) →
      (∀ (j : Nat) (o2 : Oper), ops[j]? = some o2 → L j = true → ∀ e ∈ o2.after.toList, Region.binds .any e = true → L e.on = true) → (∀ j, qt j = true → L j = true → s (sl j) = V j) → ST L x →
      o.wp P (mk s) x (fun a' y => ((qt i = true ∧ a' = mk (fun k => if k = sl i then V i else s k)) ∨ (qt i = false ∧ a' = mk s)) ∧ ST (upd L i) y) Q)
    (hend : ∀ (s : Nat → Value) (L : Nat → Bool) (x : World), (∀ i, i < n → L i = true) → (∀ j, j < n → qt j = true → s (sl j) = V j) → ST L x → Q .normal (mk s) x) : (Code.region id ops true).wp P Q a w := by
  subst hn
  refine wp_region_inv2 hm (fun _ _ ho => (regionOk2_at hok ho).1) (fun _ _ ho => (regionOk2_at hok ho).2) (fun L a x => (∀ (j : Nat) (o2 : Oper), ops[j]? = some o2 → L j = true → ∀ e ∈ o2.after.toList, Region.binds .any e = true → L e.on = true) ∧ (∀ j, L j = true → j < ops.size) ∧
    ∃ s, a = mk s ∧ (∀ j, qt j = true → L j = true → s (sl j) = V j) ∧ ST L x) ⟨fun _ _ _ h => (by cases h), fun _ h => (by cases h), s0, ha, fun _ _ h => (by cases h), h0⟩ ?_ ?_
  · rintro i o L a x ho hL he ⟨hC, hlo, s, rfl, hv, hst⟩
    have hi := (Array.getElem?_eq_some_iff.1 ho).1
    refine Oper.wp_mono ?_ (hstep i o s L x ho hL he hC hv hst)
    rintro a' y ⟨hq, hy⟩
    refine ⟨?_, ?_, ?_⟩
    · intro j o2 ho2 hj e h1 h2
      have hold : L e.on = true := by
        by_cases hji : j = i
        · subst hji; rw [ho] at ho2; injection ho2 with ho2; subst ho2; exact he e h1 h2
        · unfold upd at hj; rw [if_neg hji] at hj; exact hC j o2 ho2 hj e h1 h2
      unfold upd; split; rfl; exact hold
    · intro j hj
      by_cases hji : j = i
      · subst hji; exact hi
      · unfold upd at hj; rw [if_neg hji] at hj; exact hlo j hj
    · rcases hq with ⟨hqi, rfl⟩ | ⟨hqi, rfl⟩
      · refine ⟨_, rfl, fun j hqj hj => ?_, hy⟩
        by_cases hji : j = i
        · subst hji; show (if sl j = sl j then V j else s (sl j)) = V j; rw [if_pos rfl]
        · unfold upd at hj
          rw [if_neg hji] at hj
          show (if sl j = sl i then V i else s (sl j)) = V j
          rw [if_neg (fun h => hji (hinj j i (hlo j hj) hi hqj hqi h))]
          exact hv j hqj hj
      · refine ⟨_, rfl, fun j hqj hj => ?_, hy⟩
        by_cases hji : j = i
        · subst hji; rw [hqi] at hqj; cases hqj
        · unfold upd at hj; rw [if_neg hji] at hj; exact hv j hqj hj
  · rintro L a x hL ⟨_, _, s, rfl, hv, hst⟩
    exact hend s L x hL (fun j hj hq => hv j hq (hL j hj)) hst
end
end Go

/- (*fault.switches).eval: the operands' row is written; the first two change places. -/
namespace Go.Proofs.YtlkhiihehaiinaaDoor
open Go.RowKit

noncomputable def evBody : Code := Tryd.f27.body.getD .skip
theorem set_flat : ∀ (l : List V) (k : Nat) (v : V), (((l.flatMap V.cells).set (k * 3) (.int .i64 v.kind)).set (k * 3 + 1) (.int .i64 v.num)).set (k * 3 + 2) (.string v.text) = (l.set k v).flatMap V.cells
  | [], _, _ => rfl
  | _ :: _, 0, _ => rfl
  | a :: l, k + 1, v => by
    have ih := set_flat l k v
    rw [show (k + 1) * 3 = k * 3 + 1 + 1 + 1 by omega]
    show (Value.int .i64 a.kind) :: (.int .i64 a.num) :: (.string a.text) :: ((((l.flatMap V.cells).set (k * 3) (.int .i64 v.kind)).set (k * 3 + 1) (.int .i64 v.num)).set (k * 3 + 2) (.string v.text)) = (Value.int .i64 a.kind) :: (.int .i64 a.num) :: (.string a.text) :: ((l.set k v).flatMap V.cells)
    rw [ih]
/-- eval's boxes, and the operands' row: its own. -/
structure SWR (w : World) (cs : Array Value) (g2 cap n : Nat) (l : List V) (x : World) : Prop where
  se : SE w cs x
  own : x.ownsRow (w.heap.size + 2) 24 3 (.slice (some ⟨g2, 0, none⟩) n cap) n (l.flatMap V.cells)
  len : l.length = n
  wf : ∀ v ∈ l, v.wf
section
variable {w x y : World} {cs : Array Value} {g2 cap n : Nat} {l : List V}
theorem SWR.call (h : SWR w cs g2 cap n l x) (hb : Below x.heap.size x y) : SWR w cs g2 cap n l y := ⟨h.se.call hb, h.own.kept (only_below hb none) (Classical.em _), h.len, h.wf⟩
theorem SWR.drew (h : SWR w cs g2 cap n l x) : SWR w cs g2 cap n l x.drew := h.call (Below.refl _ _).drew
theorem SWR.ge (h : SWR w cs g2 cap n l x) : w.heap.size + 2 ≤ g2 ∧ g2 < x.heap.size := h.own.lt g2 rfl
theorem SWR.vl (h : SWR w cs g2 cap n l x) : VL.In x ⟨⟨some ⟨g2, 0, none⟩, cap⟩, l⟩ := by
  obtain ⟨⟨ao, c⟩, hv, hr⟩ := own_row (size := 3) (cells := V.cells) (fun _ => rfl) (by decide) h.own
  dsimp only at hv
  injection hv with h1 h2 h3
  subst h1 h3
  exact ⟨hr, h.wf⟩
theorem SWR.put (h : SWR w cs g2 cap n l x) (k : Nat) (v : V) (hv : v.wf) : SWR w cs g2 cap n (l.set k v) (((x.setCell ⟨g2, k * 3, none⟩ (.int .i64 v.kind)).setCell ⟨g2, k * 3 + 1, none⟩ (.int .i64 v.num)).setCell ⟨g2, k * 3 + 2, none⟩ (.string v.text)) := by
  have hg : x.grownBy (((x.setCell ⟨g2, k * 3, none⟩ (.int .i64 v.kind)).setCell ⟨g2, k * 3 + 1, none⟩ (.int .i64 v.num)).setCell ⟨g2, k * 3 + 2, none⟩ (.string v.text)) (some g2) := ((gb_set _ _ _ _).trans (gb_set _ _ _ _)).trans (gb_set _ _ _ _)
  have h2 := h.ge
  refine ⟨⟨h.se.bel.grown hg h.se.bel.size (fun j hj => by injection hj with hj; omega), h.se.be.grown hg (by simp; omega), h.se.br.grown hg (by simp; omega)⟩, ?_, by rw [List.length_set]; exact h.len, fun u hu => ?_⟩
  · rw [← set_flat]
    exact ((((h.own.stored (k * 3) _).1).stored (k * 3 + 1) _).1.stored (k * 3 + 2) _).1
  · rcases List.mem_or_eq_of_mem_set hu with hu | rfl
    · exact h.wf u hu
    · exact hv
theorem SWR.cell (h : SWR w cs g2 cap n l x) {k : Nat} (hk : k < l.length) : x.cell? ⟨g2, k * 3, none⟩ = some (.int .i64 l[k].kind) ∧ x.cell? ⟨g2, k * 3 + 1, none⟩ = some (.int .i64 l[k].num) ∧ x.cell? ⟨g2, k * 3 + 2, none⟩ = some (.string l[k].text) := by
  have := val_at h.vl.1 hk
  simpa only [show (⟨some ⟨g2, 0, none⟩, cap⟩ : Hd).b = g2 from rfl, show (⟨some ⟨g2, 0, none⟩, cap⟩ : Hd).o = 0 from rfl, Nat.zero_add] using this
theorem SWR.ix (h : SWR w cs g2 cap n l x) {k : Nat} (hk : k < n) : ∀ U, (Instr.indexAt 28 (.slice (some ⟨g2, 0, none⟩) n cap) (.int .i64 k)).run Tryd.prog U = .ok (.pointer (some ⟨g2, k * 3, none⟩)) U := by
  intro U
  have h1 := h.vl.1.ix (i := k) (by rw [h.len]; exact hk) Tryd.underlying28 szval U
  dsimp only at h1
  rw [h.len] at h1
  simpa only [show (⟨some ⟨g2, 0, none⟩, cap⟩ : Hd).b = g2 from rfl, show (⟨some ⟨g2, 0, none⟩, cap⟩ : Hd).o = 0 from rfl, Nat.zero_add] using h1
theorem SWR.fr (h : SWR w cs g2 cap n l x) (j : Nat) : x.frozen? ⟨g2, j, none⟩ = false := h.own.frozenAt j
end
def swST (w : World) (cs : Array Value) (g2 cap n : Nat) (a b : V) (t : List V) (p9 p11 : Bool) (x : World) : Prop :=
  match p11, p9 with
  | true, _ => SWR w cs g2 cap n (b :: a :: t) x
  | false, true => SWR w cs g2 cap n (b :: b :: t) x
  | false, false => SWR w cs g2 cap n (a :: b :: t) x

set_option maxRecDepth 100000 in
set_option maxHeartbeats 4000000 in
theorem sw_reg {w : World} {cs : Array Value} {g2 cap n : Nat} {a b : V} {t : List V} (ha : a.wf) (hb : b.wf) (hix0 : ∀ U, (Instr.indexAt 28 (.slice (some ⟨g2, 0, none⟩) (n : Nat) cap) (.int .i64 0)).run Tryd.prog U = .ok (.pointer (some ⟨g2, 0, none⟩)) U) (hix1 : ∀ U, (Instr.indexAt 28 (.slice (some ⟨g2, 0, none⟩) (n : Nat) cap) (.int .i64 1)).run Tryd.prog U = .ok (.pointer (some ⟨g2, 3, none⟩)) U) {W : World} (HW : Hid (SWR w cs g2 cap n (a :: b :: t) W)) {Q : Exit → Act → World → Prop} {c : Code} {u0 u1 u2 u3 u4 u5 u6 u8 u9 u10 u11 u12 u13 u14 u15 u16 u17 u18 u19 u20 u21 u22 u23 u24 u25 u26 u27 u28 u29 u30 u31 u32 u33 u34 u35 u36 u37 u38 u39 u40 u41 u42 u43 u44 u45 u46 u47 u48 u49 u50 u51 u52 u53 u54 u55 u56 u57 u58 u59 u60 u61 u62 u63 u64 u65 u66 u67 u68 u69 u70 u71 u72 u73 u74 u75 u76 u77 u78 u79 u80 u81 u82 u83 u84 u85 u86 u87 u88 u89 u90 u91 u92 u93 u94 u95 u96 u97 u98 u99 u100 u101 u102 u103 u104 u105 u106 u107 u108 u109 u110 u111 u112 u113 u114 u115 u116 u117 u118 u119 u120 u121 u122 u123 u124 u125 u126 u127 u128 u129 u130 : Value} (hc : c = codeIn [1, 1, 1, 1, 1, 1, 0, 1, 2] evBody) (hend : ∀ x, SWR w cs g2 cap n (b :: a :: t) x → Q .normal { tmps := (u0 :: u1 :: u2 :: u3 :: u4 :: u5 :: u6 :: (.slice (some ⟨g2, 0, none⟩) (n : Nat) cap) :: u8 :: u9 :: u10 :: u11 :: u12 :: u13 :: u14 :: u15 :: u16 :: u17 :: u18 :: u19 :: u20 :: u21 :: u22 :: u23 :: u24 :: u25 :: u26 :: u27 :: u28 :: u29 :: u30 :: u31 :: u32 :: u33 :: u34 :: u35 :: u36 :: u37 :: u38 :: u39 :: u40 :: u41 :: u42 :: u43 :: u44 :: u45 :: u46 :: u47 :: u48 :: u49 :: u50 :: u51 :: u52 :: u53 :: u54 :: u55 :: u56 :: u57 :: u58 :: u59 :: u60 :: u61 :: u62 :: u63 :: u64 :: u65 :: .slice (some ⟨g2, 0, none⟩) (n : Nat) cap :: .slice (some ⟨g2, 0, none⟩) (n : Nat) cap :: .slice (some ⟨g2, 0, none⟩) (n : Nat) cap :: .pointer (some ⟨g2, 3, none⟩) :: .agg #[.int .i64 b.kind, .int .i64 b.num, .string b.text] :: .slice (some ⟨g2, 0, none⟩) (n : Nat) cap :: .pointer (some ⟨g2, 0, none⟩) :: .agg #[.int .i64 a.kind, .int .i64 a.num, .string a.text] :: .pointer (some ⟨g2, 0, none⟩) :: .pointer (some ⟨g2, 3, none⟩) :: u76 :: u77 :: u78 :: u79 :: u80 :: u81 :: u82 :: u83 :: u84 :: u85 :: u86 :: u87 :: u88 :: u89 :: u90 :: u91 :: u92 :: u93 :: u94 :: u95 :: u96 :: u97 :: u98 :: u99 :: u100 :: u101 :: u102 :: u103 :: u104 :: u105 :: u106 :: u107 :: u108 :: u109 :: u110 :: u111 :: u112 :: u113 :: u114 :: u115 :: u116 :: u117 :: u118 :: u119 :: u120 :: u121 :: u122 :: u123 :: u124 :: u125 :: u126 :: u127 :: u128 :: u129 :: u130 :: []).toArray, defers := [] } x) : Code.wp Tryd.prog c Q { tmps := (u0 :: u1 :: u2 :: u3 :: u4 :: u5 :: u6 :: (.slice (some ⟨g2, 0, none⟩) (n : Nat) cap) :: u8 :: u9 :: u10 :: u11 :: u12 :: u13 :: u14 :: u15 :: u16 :: u17 :: u18 :: u19 :: u20 :: u21 :: u22 :: u23 :: u24 :: u25 :: u26 :: u27 :: u28 :: u29 :: u30 :: u31 :: u32 :: u33 :: u34 :: u35 :: u36 :: u37 :: u38 :: u39 :: u40 :: u41 :: u42 :: u43 :: u44 :: u45 :: u46 :: u47 :: u48 :: u49 :: u50 :: u51 :: u52 :: u53 :: u54 :: u55 :: u56 :: u57 :: u58 :: u59 :: u60 :: u61 :: u62 :: u63 :: u64 :: u65 :: u66 :: u67 :: u68 :: u69 :: u70 :: u71 :: u72 :: u73 :: u74 :: u75 :: u76 :: u77 :: u78 :: u79 :: u80 :: u81 :: u82 :: u83 :: u84 :: u85 :: u86 :: u87 :: u88 :: u89 :: u90 :: u91 :: u92 :: u93 :: u94 :: u95 :: u96 :: u97 :: u98 :: u99 :: u100 :: u101 :: u102 :: u103 :: u104 :: u105 :: u106 :: u107 :: u108 :: u109 :: u110 :: u111 :: u112 :: u113 :: u114 :: u115 :: u116 :: u117 :: u118 :: u119 :: u120 :: u121 :: u122 :: u123 :: u124 :: u125 :: u126 :: u127 :: u128 :: u129 :: u130 :: []).toArray, defers := [] } W := by
  have HAB := hide (And.intro ha hb)
  clear ha hb
  subst hc
  conv => enter [2]; whnf
  refine wp_region_st (by kernel_rfl) (by kernel_rfl) 12 (by kernel_rfl) (fun s : Nat → Value => ({ tmps := (u0 :: u1 :: u2 :: u3 :: u4 :: u5 :: u6 :: (.slice (some ⟨g2, 0, none⟩) (n : Nat) cap) :: u8 :: u9 :: u10 :: u11 :: u12 :: u13 :: u14 :: u15 :: u16 :: u17 :: u18 :: u19 :: u20 :: u21 :: u22 :: u23 :: u24 :: u25 :: u26 :: u27 :: u28 :: u29 :: u30 :: u31 :: u32 :: u33 :: u34 :: u35 :: u36 :: u37 :: u38 :: u39 :: u40 :: u41 :: u42 :: u43 :: u44 :: u45 :: u46 :: u47 :: u48 :: u49 :: u50 :: u51 :: u52 :: u53 :: u54 :: u55 :: u56 :: u57 :: u58 :: u59 :: u60 :: u61 :: u62 :: u63 :: u64 :: u65 :: s 66 :: s 67 :: s 68 :: s 69 :: s 70 :: s 71 :: s 72 :: s 73 :: s 74 :: s 75 :: u76 :: u77 :: u78 :: u79 :: u80 :: u81 :: u82 :: u83 :: u84 :: u85 :: u86 :: u87 :: u88 :: u89 :: u90 :: u91 :: u92 :: u93 :: u94 :: u95 :: u96 :: u97 :: u98 :: u99 :: u100 :: u101 :: u102 :: u103 :: u104 :: u105 :: u106 :: u107 :: u108 :: u109 :: u110 :: u111 :: u112 :: u113 :: u114 :: u115 :: u116 :: u117 :: u118 :: u119 :: u120 :: u121 :: u122 :: u123 :: u124 :: u125 :: u126 :: u127 :: u128 :: u129 :: u130 :: []).toArray, defers := [] } : Act)) (fun k => if k = 66 then u66 else if k = 67 then u67 else if k = 68 then u68 else if k = 69 then u69 else if k = 70 then u70 else if k = 71 then u71 else if k = 72 then u72 else if k = 73 then u73 else if k = 74 then u74 else if k = 75 then u75 else undef) rfl (fun i => ([66, 67, 68, 69, 70, 71, 72, 73, 74, 0, 75, 0] : List Nat).getD i 0) (fun i => (i != 9) && (i != 11)) ?inj (fun i => ([.slice (some ⟨g2, 0, none⟩) (n : Nat) cap, .slice (some ⟨g2, 0, none⟩) (n : Nat) cap, .slice (some ⟨g2, 0, none⟩) (n : Nat) cap, .pointer (some ⟨g2, 3, none⟩), .agg #[.int .i64 b.kind, .int .i64 b.num, .string b.text], .slice (some ⟨g2, 0, none⟩) (n : Nat) cap, .pointer (some ⟨g2, 0, none⟩), .agg #[.int .i64 a.kind, .int .i64 a.num, .string a.text], .pointer (some ⟨g2, 0, none⟩), undef, .pointer (some ⟨g2, 3, none⟩), undef] : List Value).getD i undef) (fun L x => swST w cs g2 cap n a b t (L 9) (L 11) x) HW.out.drew ?step ?fin
  case inj =>
    intro i j hi hj hqi hqj h
    have hI : i = 0 ∨ i = 1 ∨ i = 2 ∨ i = 3 ∨ i = 4 ∨ i = 5 ∨ i = 6 ∨ i = 7 ∨ i = 8 ∨ i = 9 ∨ i = 10 ∨ i = 11 := by omega
    have hJ : j = 0 ∨ j = 1 ∨ j = 2 ∨ j = 3 ∨ j = 4 ∨ j = 5 ∨ j = 6 ∨ j = 7 ∨ j = 8 ∨ j = 9 ∨ j = 10 ∨ j = 11 := by omega
    rcases hI with rfl | rfl | rfl | rfl | rfl | rfl | rfl | rfl | rfl | rfl | rfl | rfl <;> rcases hJ with rfl | rfl | rfl | rfl | rfl | rfl | rfl | rfl | rfl | rfl | rfl | rfl <;> first | rfl | (exact absurd h (by decide)) | (exact absurd hqi (by decide)) | (exact absurd hqj (by decide))
  case fin =>
    intro s L x hL hv hst
    have z0 : s 66 = .slice (some ⟨g2, 0, none⟩) (n : Nat) cap := hv 0 (by decide) (by decide)
    have z1 : s 67 = .slice (some ⟨g2, 0, none⟩) (n : Nat) cap := hv 1 (by decide) (by decide)
    have z2 : s 68 = .slice (some ⟨g2, 0, none⟩) (n : Nat) cap := hv 2 (by decide) (by decide)
    have z3 : s 69 = .pointer (some ⟨g2, 3, none⟩) := hv 3 (by decide) (by decide)
    have z4 : s 70 = .agg #[.int .i64 b.kind, .int .i64 b.num, .string b.text] := hv 4 (by decide) (by decide)
    have z5 : s 71 = .slice (some ⟨g2, 0, none⟩) (n : Nat) cap := hv 5 (by decide) (by decide)
    have z6 : s 72 = .pointer (some ⟨g2, 0, none⟩) := hv 6 (by decide) (by decide)
    have z7 : s 73 = .agg #[.int .i64 a.kind, .int .i64 a.num, .string a.text] := hv 7 (by decide) (by decide)
    have z8 : s 74 = .pointer (some ⟨g2, 0, none⟩) := hv 8 (by decide) (by decide)
    have z10 : s 75 = .pointer (some ⟨g2, 3, none⟩) := hv 10 (by decide) (by decide)
    clear hv
    rw [hL 9 (by omega), hL 11 (by omega)] at hst
    have h := hend x hst
    first | exact h | (simp only [z0, z1, z2, z3, z4, z5, z6, z7, z8, z10]; exact h)
  case step =>
    intro i o s L x ho hL he hC hv hst
    have hi : i < 12 := (Array.getElem?_eq_some_iff.1 ho).1
    have hcase : i = 0 ∨ i = 1 ∨ i = 2 ∨ i = 3 ∨ i = 4 ∨ i = 5 ∨ i = 6 ∨ i = 7 ∨ i = 8 ∨ i = 9 ∨ i = 10 ∨ i = 11 := by omega
    rcases hcase with rfl | rfl | rfl | rfl | rfl | rfl | rfl | rfl | rfl | rfl | rfl | rfl
    · injection ho with ho
      subst ho
      have HST := hide hst
      clear he hC hv hst
      refine opwp_K (fun K2 hK2 => ?_)
      go_simp
      exact hK2 _ _ ⟨.inl ⟨rfl, by first | rfl | (simp [List.getD]; done)⟩, HST.out⟩
    · injection ho with ho
      subst ho
      have HST := hide hst
      clear he hC hv hst
      refine opwp_K (fun K2 hK2 => ?_)
      go_simp
      exact hK2 _ _ ⟨.inl ⟨rfl, by first | rfl | (simp [List.getD]; done)⟩, HST.out⟩
    · injection ho with ho
      subst ho
      have HST := hide hst
      clear he hC hv hst
      refine opwp_K (fun K2 hK2 => ?_)
      go_simp
      exact hK2 _ _ ⟨.inl ⟨rfl, by first | rfl | (simp [List.getD]; done)⟩, HST.out⟩
    · injection ho with ho
      subst ho
      have z2 : s 68 = .slice (some ⟨g2, 0, none⟩) (n : Nat) cap := hv 2 (by decide) (he ⟨2, .data⟩ (by simp) rfl)
      have HST := hide hst
      clear he hC hv hst
      refine opwp_K (fun K2 hK2 => ?_)
      go_simp
      exact hK2 _ _ ⟨.inl ⟨rfl, by first | rfl | (simp [z2]; done)⟩, HST.out⟩
    · injection ho with ho
      subst ho
      have h9 : L 9 = false := by
        cases h : L 9 with
        | false => rfl
        | true => have h2 := hC 9 _ rfl h ⟨4, .data⟩ (by simp) rfl; rw [hL] at h2; cases h2
      have h11 : L 11 = false := by
        cases h : L 11 with
        | false => rfl
        | true => have h2 := hC 11 _ rfl h ⟨4, .phase⟩ (by simp) rfl; rw [hL] at h2; cases h2
      have HS := hide (show SWR w cs g2 cap n (a :: b :: t) x from by rw [h9, h11] at hst; exact hst)
      have z3 : s 69 = .pointer (some ⟨g2, 3, none⟩) := hv 3 (by decide) (he ⟨3, .data⟩ (by simp) rfl)
      obtain ⟨c0, c1, c2⟩ := HS.out.cell (k := 1) (by simp)
      have k0 : x.cell? ⟨g2, 3, none⟩ = some (.int .i64 b.kind) := c0
      have k1 : x.cell? ⟨g2, 4, none⟩ = some (.int .i64 b.num) := c1
      have k2 : x.cell? ⟨g2, 5, none⟩ = some (.string b.text) := c2
      have HST := hide hst
      clear c0 c1 c2 he hC hv hst
      refine opwp_K (fun K2 hK2 => ?_)
      go_simp
      exact hK2 _ _ ⟨.inl ⟨rfl, by first | rfl | (simp [z3]; done)⟩, HST.out⟩
    · injection ho with ho
      subst ho
      have HST := hide hst
      clear he hC hv hst
      refine opwp_K (fun K2 hK2 => ?_)
      go_simp
      exact hK2 _ _ ⟨.inl ⟨rfl, by first | rfl | (simp [List.getD]; done)⟩, HST.out⟩
    · injection ho with ho
      subst ho
      have z5 : s 71 = .slice (some ⟨g2, 0, none⟩) (n : Nat) cap := hv 5 (by decide) (he ⟨5, .data⟩ (by simp) rfl)
      have HST := hide hst
      clear he hC hv hst
      refine opwp_K (fun K2 hK2 => ?_)
      go_simp
      exact hK2 _ _ ⟨.inl ⟨rfl, by first | rfl | (simp [z5]; done)⟩, HST.out⟩
    · injection ho with ho
      subst ho
      have h9 : L 9 = false := by
        cases h : L 9 with
        | false => rfl
        | true => have h2 := hC 9 _ rfl h ⟨7, .phase⟩ (by simp) rfl; rw [hL] at h2; cases h2
      have h11 : L 11 = false := by
        cases h : L 11 with
        | false => rfl
        | true => have h2 := hC 11 _ rfl h ⟨7, .data⟩ (by simp) rfl; rw [hL] at h2; cases h2
      have HS := hide (show SWR w cs g2 cap n (a :: b :: t) x from by rw [h9, h11] at hst; exact hst)
      have z6 : s 72 = .pointer (some ⟨g2, 0, none⟩) := hv 6 (by decide) (he ⟨6, .data⟩ (by simp) rfl)
      obtain ⟨c0, c1, c2⟩ := HS.out.cell (k := 0) (by simp)
      have k0 : x.cell? ⟨g2, 0, none⟩ = some (.int .i64 a.kind) := c0
      have k1 : x.cell? ⟨g2, 1, none⟩ = some (.int .i64 a.num) := c1
      have k2 : x.cell? ⟨g2, 2, none⟩ = some (.string a.text) := c2
      have HST := hide hst
      clear c0 c1 c2 he hC hv hst
      refine opwp_K (fun K2 hK2 => ?_)
      go_simp
      exact hK2 _ _ ⟨.inl ⟨rfl, by first | rfl | (simp [z6]; done)⟩, HST.out⟩
    · injection ho with ho
      subst ho
      have z0 : s 66 = .slice (some ⟨g2, 0, none⟩) (n : Nat) cap := hv 0 (by decide) (he ⟨0, .data⟩ (by simp) rfl)
      have HST := hide hst
      clear he hC hv hst
      refine opwp_K (fun K2 hK2 => ?_)
      go_simp
      exact hK2 _ _ ⟨.inl ⟨rfl, by first | rfl | (simp [z0]; done)⟩, HST.out⟩
    · injection ho with ho
      subst ho
      have h11 : L 11 = false := by
        cases h : L 11 with
        | false => rfl
        | true => have h2 := hC 11 _ rfl h ⟨9, .phase⟩ (by simp) rfl; rw [hL] at h2; cases h2
      have HS := hide (show SWR w cs g2 cap n (a :: b :: t) x from by rw [hL, h11] at hst; exact hst)
      have z8 : s 74 = .pointer (some ⟨g2, 0, none⟩) := hv 8 (by decide) (he ⟨8, .data⟩ (by simp) rfl)
      have z4 : s 70 = .agg #[.int .i64 b.kind, .int .i64 b.num, .string b.text] := hv 4 (by decide) (he ⟨4, .data⟩ (by simp) rfl)
      obtain ⟨c0, c1, c2⟩ := HS.out.cell (k := 0) (by simp)
      have k0 := c0
      have f0 := HS.out.fr 0
      have k1 := c1
      have f1 := HS.out.fr 1
      have k2 := c2
      have f2 := HS.out.fr 2
      change x.cell? ⟨g2, 0, none⟩ = _ at k0
      change x.cell? ⟨g2, 1, none⟩ = _ at k1
      change x.cell? ⟨g2, 2, none⟩ = _ at k2
      have HF := hide (show SWR w cs g2 cap n (b :: b :: t) (((x.setCell ⟨g2, 0, none⟩ (.int .i64 b.kind)).setCell ⟨g2, 1, none⟩ (.int .i64 b.num)).setCell ⟨g2, 2, none⟩ (.string b.text)) from HS.out.put 0 b HAB.out.2)
      clear c0 c1 c2 he hC hv hst
      refine opwp_K (fun K2 hK2 => ?_)
      go_simp
      exact hK2 _ _ ⟨.inr ⟨rfl, by first | rfl | (simp [z8, z4]; done)⟩, (by show swST w cs g2 cap n a b t true (L 11) _; rw [h11]; exact HF.out)⟩
    · injection ho with ho
      subst ho
      have z1 : s 67 = .slice (some ⟨g2, 0, none⟩) (n : Nat) cap := hv 1 (by decide) (he ⟨1, .data⟩ (by simp) rfl)
      have HST := hide hst
      clear he hC hv hst
      refine opwp_K (fun K2 hK2 => ?_)
      go_simp
      exact hK2 _ _ ⟨.inl ⟨rfl, by first | rfl | (simp [z1]; done)⟩, HST.out⟩
    · injection ho with ho
      subst ho
      have h9 : L 9 = true := he ⟨9, .phase⟩ (by simp) rfl
      have HS := hide (show SWR w cs g2 cap n (b :: b :: t) x from by rw [h9, hL] at hst; exact hst)
      have z10 : s 75 = .pointer (some ⟨g2, 3, none⟩) := hv 10 (by decide) (he ⟨10, .data⟩ (by simp) rfl)
      have z7 : s 73 = .agg #[.int .i64 a.kind, .int .i64 a.num, .string a.text] := hv 7 (by decide) (he ⟨7, .data⟩ (by simp) rfl)
      obtain ⟨c0, c1, c2⟩ := HS.out.cell (k := 1) (by simp)
      have k0 := c0
      have f0 := HS.out.fr 3
      have k1 := c1
      have f1 := HS.out.fr 4
      have k2 := c2
      have f2 := HS.out.fr 5
      change x.cell? ⟨g2, 3, none⟩ = _ at k0
      change x.cell? ⟨g2, 4, none⟩ = _ at k1
      change x.cell? ⟨g2, 5, none⟩ = _ at k2
      have HF := hide (show SWR w cs g2 cap n (b :: a :: t) (((x.setCell ⟨g2, 3, none⟩ (.int .i64 a.kind)).setCell ⟨g2, 4, none⟩ (.int .i64 a.num)).setCell ⟨g2, 5, none⟩ (.string a.text)) from HS.out.put 1 a HAB.out.1)
      clear c0 c1 c2 he hC hv hst
      refine opwp_K (fun K2 hK2 => ?_)
      go_simp
      exact hK2 _ _ ⟨.inr ⟨rfl, by first | rfl | (simp [z10, z7]; done)⟩, (by show swST w cs g2 cap n a b t (L 9) true _; exact HF.out)⟩
end Go.Proofs.YtlkhiihehaiinaaDoor

/- (*fault.switches).eval: an operation over leaves whose only fault is 'swapped'. -/
namespace Go.Proofs.YtlkhiihehaiinaaDoor
open Go.RowKit

def swapL : List V → List V
  | a :: b :: t => b :: a :: t
  | l => l
set_option maxRecDepth 100000 in
set_option maxHeartbeats 16000000 in
theorem fnode_B (g m : Nat) (F : Nat → Bool) (S : ByteArray → Bool) (o : Nat) (typ num : Int) (text : ByteArray) (col : Int) (kh : Hd) (kids : List Ex) (r : VL) (w : World) (hs : SwW w g m F S) (he : Ex.In w ⟨o, typ, num, text, col, kh, kids⟩) (hl : Ex.Low ⟨o, typ, num, text, col, kh, kids⟩) (hr : r.In w)
    (ho : o < 29) (hfit : fitsB o kids.length = true) (hkf : ∀ k ∈ kids, fitsB k.op k.kids.length = false) (hb4 : F (116 + o) = false) (hpos2 : 2 ≤ kids.length) (hb3 : F (87 + o) = true) (hb2 : F (58 + o) = false) (hb1 : F (29 + o) = false) (hb0 : F (0 + o) = false) :
    Calls Tryd.prog 27 #[.pointer (some ⟨g, 0, none⟩), .agg #[.int .i64 (o : Nat), .int .i64 typ, .int .i64 num, .string text, .int .i64 col, .slice kh.ao kids.length kh.cap], .slice r.h.ao r.l.length r.h.cap] w
      fun e' w' => e' = .returned (.agg #[.int .i64 (appV o (swapL (kids.map (Ex.va r.l)))).kind, .int .i64 (appV o (swapL (kids.map (Ex.va r.l)))).num, .string (appV o (swapL (kids.map (Ex.va r.l)))).text]) ∧ Below w.heap.size w w' := by
  have hpos : 0 < kids.length := by omega
  have HE := hide he
  have HL := hide hl
  have HR := hide hr
  have HSW := hide hs
  have HKF := hide hkf
  have hrow := he.row
  dsimp only at hrow
  have hkn := hl.len
  dsimp only at hkn
  obtain ⟨v, hv⟩ : ∃ v, appV o (swapL (kids.map (Ex.va r.l))) = v := ⟨_, rfl⟩
  have HV := hide hv
  rw [hv]
  have HFT := hide (fun W => fits_any o typ num text col kh.ao kids.length kh.cap W)
  rw [hfit] at HFT
  obtain ⟨i0, hi, hz0, hz1, hz2⟩ := info_parts info_val
  have HI := hide (And.intro hi (And.intro hz0 (And.intro hz1 hz2)))
  clear hi hz0 hz1 hz2 he hl hr hs hv hfit hkf
  have HB0 := hide (belAA (w := w) (.cells #[.int .i64 (o : Nat), .int .i64 typ, .int .i64 num, .string text, .int .i64 col, .slice kh.ao kids.length kh.cap] 31) (.cells #[.int .i64 0, .int .i64 0, .string ⟨#[]⟩] 24))
  have hp := (HSW.out.below HB0.out).sw.ptr
  have hgl := HSW.out.sw.lt
  obtain ⟨n, D, hn, hown, hat, hsz⟩ := (HSW.out.below HB0.out).tx
  have HOWN := hide hown
  have hD : ((Maps.size D : Int) == 0) = false := beq_eq_false_iff_ne.2 (fun h => by have h2 := hsz.1 (by omega); cases h2)
  clear hn hown hat hsz
  have HS0 := hide (SE.start (w := w) (cs := #[.int .i64 (o : Nat), .int .i64 typ, .int .i64 num, .string text, .int .i64 col, .slice kh.ao kids.length kh.cap]) (Below.refl _ _))
  go_enter Tryd.func27, Tryd.ntmps27
  go_wp2_with (first
    | (at_len; refine wpList_len_own _ rfl _ 71 rfl 9 4 Tryd.underlying71 (plainElem (H := Unit) Tryd.prog 4) m n D rfl HOWN.out ?_)
    | (go_at_call 49; refine (HFT.out _).mono ?_; rintro e x1 ⟨rfl, hb⟩; have HS1 := hide (HS0.out.call hb); clear hb; obtain ⟨sl0, sl1⟩ := HS1.out.lt; have k0 := HS1.out.be.cell (j := 0) rfl; have k1 := HS1.out.be.cell (j := 1) rfl; have k2 := HS1.out.be.cell (j := 2) rfl; have k3 := HS1.out.be.cell (j := 3) rfl; have k4 := HS1.out.be.cell (j := 4) rfl; have k5 := HS1.out.be.cell (j := 5) rfl))
  clear hp hD
  go_loopw [33, 7] (fun i v wr => ∃ (k : Nat) (u : Value), u = v ∧ k ≤ kids.length ∧ i = .int .i64 k ∧ wr.ownsRow (w.heap.size + 2) 24 3 v k ((kids.take k).flatMap (fun k => V.cells (k.va r.l))) ∧ Hid (SE w #[.int .i64 (o : Nat), .int .i64 typ, .int .i64 num, .string text, .int .i64 col, .slice kh.ao kids.length kh.cap] wr)) (fun i _ _ => kids.length - (intOf i).toNat)
  case atStart => exact ⟨0, _, rfl, Nat.zero_le _, rfl, World.ownsRow_nil _ _ _ _, HS1⟩
  case round =>
    clear sl0 sl1 k0 k1 k2 k3 k4 k5
    obtain ⟨k, u, rfl, hk, rfl, hown, HS2⟩ := hrel
    have HO := hide hown
    clear hown
    by_cases hlt : k < kids.length
    · have hlti : (k : Int) < kids.length := by omega
      obtain ⟨y, hy⟩ : ∃ y, kids[k] = y := ⟨_, rfl⟩
      obtain ⟨p, hix, KC⟩ := kid_at hrow k hlt k rfl hy
      obtain ⟨kb, a0, a1, a2, a3, a4, a5⟩ := KC _ HS2.out.bel
      have HYI := hide (hy ▸ HE.out.kid _ (List.getElem_mem hlt) : y.In w)
      have HYL := hide (hy ▸ HL.out.kid _ (List.getElem_mem hlt) : y.Low)
      have HYF := hide (hy ▸ HKF.out _ (List.getElem_mem hlt) : fitsB y.op y.kids.length = false)
      have HTK := hide (show (kids.take (k + 1)).flatMap (fun k => V.cells (k.va r.l)) = (kids.take k).flatMap (fun k => V.cells (k.va r.l)) ++ V.cells (y.va r.l) from by rw [take_snoc kids hlt, List.flatMap_append, hy]; simp)
      have sl := HS2.out.lt
      clear KC hy
      go_wp2_with (first
        | (go_at_call 27; refine (fleaf g m F S y r _ (HSW.out.below (HS2.out.call (belA _)).bel) (HYI.out.mono (HS2.out.call (belA _)).bel) HYL.out (HR.out.mono (HS2.out.call (belA _)).bel) HYF.out).mono ?_; rintro e x3 ⟨rfl, hb⟩; have HB3 := hide (bel1 hb); have HS3 := hide (HS2.out.call HB3.out); clear hb)
        | (at_builtin; refine wpList_append_own _ rfl _ _ 28 rfl (w.heap.size + 2) 24 i0 (.agg #[.int .i64 0, .int .i64 0, .string ByteArray.empty]) 3 32 Tryd.underlying28 HI.out.1 HI.out.2.1 HI.out.2.2.1 HI.out.2.2.2 rfl (by decide) _ _ _ rfl ((HO.out.kept (only_below HB3.out none) (Classical.em _)).alloc _) ⟨x3.heap.size, 0, none⟩ 1 1 (V.cells (y.va r.l)) rfl rfl (new_cells (l := V.cells (y.va r.l))) (v_one _) (by unfold maxLen; omega) (by omega) (by have := HS3.out.lt; simp; omega) ?_; intro v' x4 hown' hgrow _; have HO4 := hide (show x4.ownsRow (w.heap.size + 2) 24 3 v' (k + 1) ((kids.take (k + 1)).flatMap (fun k => V.cells (k.va r.l))) from by rw [HTK.out]; exact hown'); have HG4 := hide hgrow; clear hown' hgrow))
      go_roundw
      case rel =>
        refine ⟨k + 1, _, rfl, by omega, by go_num, HO4.out, hide ?_⟩
        have hg := HG4.out
        have h1 := HS3.out.call (belA (.cells (V.cells (y.va r.l)).toArray 24))
        have hlo := HO.out.lt
        exact ⟨h1.bel.grown hg h1.bel.size (fun j hj => by have := (hlo j hj).1; omega), h1.be.grown hg (fun e => by have := (hlo _ e.symm).1; omega), h1.br.grown hg (fun e => by have := (hlo _ e.symm).1; omega)⟩
      case measure => simp [intOf]; omega
    · have hke : k = kids.length := by omega
      have hlti : ¬ (k : Int) < kids.length := by omega
      have hoo := HO.out
      rw [hke, List.take_length, ← flat_map] at hoo
      obtain ⟨g2, cap, hvq, _, _⟩ := hoo.form hpos
      subst hvq
      have HSR := hide (show SWR w #[.int .i64 (o : Nat), .int .i64 typ, .int .i64 num, .string text, .int .i64 col, .slice kh.ao kids.length kh.cap] g2 cap kids.length (kids.map (Ex.va r.l)) wr from ⟨HS2.out, hoo, List.length_map _, fun x hx => by obtain ⟨z, hz, rfl⟩ := List.mem_map.1 hx; exact Ex.va_wf HR.out.2 (HE.out.kid z hz)⟩)
      clear hoo HO hke
      have HW2 := hide (HSW.out.below HS2.out.bel)
      have k0 := HS2.out.be.cell (j := 0) rfl
      have b4 := bit_4 HW2.out.sw ho hb4
      have b3 := bit_3 HW2.out.sw ho hb3
      have b2 := bit_2 HW2.out.sw ho hb2
      have b1 := bit_1 HW2.out.sw ho hb1
      obtain ⟨r0, r1, r2, r3, r4⟩ := ix_row g
      have o4 := ix_op g 117 o ho
      have o3 := ix_op g 88 o ho
      have o2 := ix_op g 59 o ho
      have o1 := ix_op g 30 o ho
      have o0 := ix_op g 1 o ho
      obtain ⟨a, b, t, hL⟩ : ∃ a b t, kids.map (Ex.va r.l) = a :: b :: t := by
        have h : 2 ≤ (kids.map (Ex.va r.l)).length := by rw [List.length_map]; exact hpos2
        match kids.map (Ex.va r.l), h with
        | a :: b :: t, _ => exact ⟨a, b, t, rfl⟩
      rw [hL] at HSR HV
      have HV := hide (show appV o (b :: a :: t) = v from HV.out)
      have hwa := HSR.out.wf a (by simp)
      have hwb := HSR.out.wf b (by simp)
      have hix0 := HSR.out.ix (k := 0) (by omega)
      have hix1 := HSR.out.ix (k := 1) (by omega)
      have HIX := hide (And.intro hwa (And.intro hwb (And.intro hix0 hix1)))
      clear hL hwa hwb hix0 hix1
      go_wp2
      go_quiet (fail)
      generalize nq = n1
      go_wp2
      go_quiet (fail)
      generalize nq = n2
      clear b4 b3 b2 b1 k0
      have HS3 := hide (HSR.out.call (below_drewN (below_drewN (Below.refl wr.heap.size wr) n1) n2))
      go_wp2
      obtain ⟨hwa, hwb, hix0, hix1⟩ := HIX.out
      refine sw_reg (w := w) (g2 := g2) (cap := cap) (n := kids.length) (a := a) (b := b) (t := t) hwa hwb hix0 hix1 HS3 ?hc ?hend
      case hc => rfl
      case hend =>
      intro x4 hx4
      have HS4 := hide hx4
      clear hx4 hix0 hix1 hwa hwb HS3
      have HW4 := hide (HSW.out.below HS4.out.se.bel)
      have k0 := HS4.out.se.be.cell (j := 0) rfl
      have b2 := bit_2 HW4.out.sw ho hb2
      have hgl := HW4.out.sw.lt
      obtain ⟨sl0, sl1⟩ := HS4.out.se.lt
      go_wp2
      go_quiet (fail)
      generalize hZ : x4.drewN nq = Z
      have HZ := hide (show Below x4.heap.size x4 Z from by rw [← hZ]; exact below_drewN (Below.refl _ _) _)
      clear hZ k0 b2 hgl sl0 sl1
      have HSR5 := hide (HS4.out.call HZ.out)
      have hqn : (b :: a :: t).length = kids.length := HSR5.out.len
      have HW5 := hide (HSW.out.below HSR5.out.se.bel)
      have HAP := hide (applied_any o (by constructor <;> omega) ⟨⟨some ⟨g2, 0, none⟩, cap⟩, b :: a :: t⟩ Z HSR5.out.vl (by show (b :: a :: t).length ≤ _; rw [hqn]; exact hkn) HW5.out.nn HW5.out.op)
      dsimp only at HAP
      rw [hqn] at HAP
      have HS5 := hide HSR5.out.se
      clear hqn
      have k0 := HS5.out.be.cell (j := 0) rfl
      go_wp2_with (go_at_call 54; refine HAP.out.mono ?_; rintro e x5 ⟨rfl, hb⟩; have HS6 := hide (HS5.out.call hb); clear hb; clear k0; obtain ⟨sl0, sl1⟩ := HS6.out.lt; have k0 := HS6.out.be.cell (j := 0) rfl; have b1 := bit_1 (HSW.out.below HS6.out.bel).sw ho hb1; have b0 := bit_0 (HSW.out.below HS6.out.bel).sw ho hb0; have gl5 := (HSW.out.below HS6.out.bel).sw.lt)
      obtain ⟨av, hav⟩ : ∃ av, appV o (b :: a :: t) = av := ⟨_, rfl⟩
      have HIV := hide (show av = v from by rw [← hav]; exact HV.out)
      rw [hav]
      clear hav
      have HXB := hide (belA (w := x5) (.cells #[.int .i64 av.kind, .int .i64 av.num, .string av.text] 24))
      go_quiet (fail)
      generalize nq = n3
      go_wp2
      go_quiet (fail)
      clear b1 b0 k0 r0 r1 r2 r3 r4 o1 o0
      generalize hZ2 : ((x5.alloc (.cells #[.int .i64 av.kind, .int .i64 av.num, .string av.text] 24)).drewN n3).drewN nq = Z2
      have HZ2 := hide (show Below (x5.alloc (.cells #[.int .i64 av.kind, .int .i64 av.num, .string av.text] 24)).heap.size (x5.alloc (.cells #[.int .i64 av.kind, .int .i64 av.num, .string av.text] 24)) Z2 from by rw [← hZ2]; exact below_drewN (below_drewN (Below.refl _ _) _) _)
      clear hZ2
      have hq7 := (Box.new x5 #[.int .i64 av.kind, .int .i64 av.num, .string av.text] 24).below HZ2.out
      have v0 := hq7.cell (j := 0) rfl
      have v1 := hq7.cell (j := 1) rfl
      have v2 := hq7.cell (j := 2) rfl
      have HS7 := hide ((HS6.out.call HXB.out).call HZ2.out)
      clear hq7
      have e0 := HS7.out.br.cell (j := 0) rfl
      have e1 := HS7.out.br.cell (j := 1) rfl
      have e2 := HS7.out.br.cell (j := 2) rfl
      have f0 := HS7.out.br.fr 0
      have f1 := HS7.out.br.fr 1
      have f2 := HS7.out.br.fr 2
      go_wp2
      exact bodyPost_ret (v := .agg #[.int .i64 av.kind, .int .i64 av.num, .string av.text]) (by simp [results, Tryd.results27, go_sem, e0, e1, e2]) rfl ⟨by rw [HIV.out], HS7.out.fin _ _ _⟩
end Go.Proofs.YtlkhiihehaiinaaDoor

/- expression.apply: the rest. -/
import Derived.Test.YtlkhiihehaiinaaDoorFAppK
import Derived.Test.YtlkhiihehaiinaaDoorGD
import Derived.LoopTactic
namespace Go.Proofs.YtlkhiihehaiinaaDoor
open Go.RowKit


set_option maxRecDepth 100000 in
set_option maxHeartbeats 4000000 in
theorem ap_13 (r : VL) (w : World) (hr : r.In w) (hl : 0 < r.l.length) : Calls Tryd.prog 71 #[.int .i64 13, .slice r.h.ao r.l.length r.h.cap] w fun e w' => e = .returned (.agg #[.int .i64 (applyV 13 r.l).kind, .int .i64 (applyV 13 r.l).num, .string (applyV 13 r.l).text]) ∧ Below w.heap.size w w' := by
  have h0 : 0 < r.l.length := by omega
  obtain ⟨hix0, hbb, c0, c1, c2⟩ := apl0 hr h0
  have hwf := hr.2
  obtain ⟨a, ha⟩ : ∃ a, r.l[0] = a := ⟨_, rfl⟩
  have hga := getD_of h0 ha
  rw [ha] at c0 c1 c2
  have hasz : (a.text.size : Int) ≤ 9223372036854775807 := by have := (hwf a (ha ▸ List.getElem_mem h0)).2.2; unfold maxLen at this; omega
  have hres : applyV 13 r.l = if a.kind = 3 then numV a.text.size else nulV := by unfold applyV; dsimp only; rw [hga]; simp
  rw [hres]
  obtain ⟨ak, an, av⟩ := a
  dsimp only at *
  clear hga hres ha hwf hr
  by_cases h3 : ak = 3
  · subst h3
    rw [if_pos rfl]
    go_enter Tryd.func71, Tryd.ntmps71
    go_wp2
    exact bodyPost_ret (v := .agg #[.int .i64 1, .int .i64 av.size, .string ⟨#[]⟩]) (by simp [results, Tryd.results71, go_sem]) rfl ⟨rfl, belA _⟩
  · rw [if_neg h3]
    have hb : (ak == 3) = false := beq_eq_false_iff_ne.2 h3
    clear h3
    go_enter Tryd.func71, Tryd.ntmps71
    go_wp2
    exact bodyPost_ret (v := .agg #[.int .i64 0, .int .i64 0, .string ⟨#[]⟩]) (by simp [results, Tryd.results71, go_sem]) rfl ⟨rfl, belA _⟩

set_option maxRecDepth 100000 in
set_option maxHeartbeats 4000000 in
theorem ap_27 (r : VL) (w : World) (hr : r.In w) (hl : 1 < r.l.length) : Calls Tryd.prog 71 #[.int .i64 27, .slice r.h.ao r.l.length r.h.cap] w fun e w' => e = .returned (.agg #[.int .i64 (applyV 27 r.l).kind, .int .i64 (applyV 27 r.l).num, .string (applyV 27 r.l).text]) ∧ Below w.heap.size w w' := by
  have h0 : 0 < r.l.length := by omega
  obtain ⟨hix0, hbb, c0, c1, c2⟩ := apl0 hr h0
  have hwf := hr.2
  obtain ⟨a, ha⟩ : ∃ a, r.l[0] = a := ⟨_, rfl⟩
  have hga := getD_of h0 ha
  rw [ha] at c0 c1 c2
  obtain ⟨p, hix1, d0, d1, d2⟩ := apl1 hr hl
  obtain ⟨b, hb⟩ : ∃ b, r.l[1] = b := ⟨_, rfl⟩
  have hgb := getD_of hl hb
  rw [hb] at d0 d1 d2
  have hres : applyV 27 r.l = if a.kind = 0 then b else a := by unfold applyV; dsimp only; rw [hga, hgb]; simp
  rw [hres]
  obtain ⟨ak, an, av⟩ := a
  dsimp only at *
  clear hga hgb hres ha hb hwf hr
  by_cases h3 : ak = 0
  · subst h3
    rw [if_pos rfl]
    go_enter Tryd.func71, Tryd.ntmps71
    go_wp2
    exact bodyPost_ret (v := .agg #[.int .i64 b.kind, .int .i64 b.num, .string b.text]) (by simp [results, Tryd.results71, go_sem]) rfl ⟨rfl, belA _⟩
  · rw [if_neg h3]
    have hb : (ak == 0) = false := beq_eq_false_iff_ne.2 h3
    clear h3
    go_enter Tryd.func71, Tryd.ntmps71
    go_wp2
    exact bodyPost_ret (v := .agg #[.int .i64 ak, .int .i64 an, .string av]) (by simp [results, Tryd.results71, go_sem]) rfl ⟨rfl, belA _⟩

set_option maxRecDepth 100000 in
theorem ap_1 (r : VL) (w : World) : Calls Tryd.prog 71 #[.int .i64 1, .slice r.h.ao r.l.length r.h.cap] w fun e w' => e = .returned (.agg #[.int .i64 (applyV 1 r.l).kind, .int .i64 (applyV 1 r.l).num, .string (applyV 1 r.l).text]) ∧ Below w.heap.size w w' := by
  have hres : applyV 1 r.l = nulV := by unfold applyV; simp
  rw [hres]
  · go_enter Tryd.func71, Tryd.ntmps71
    go_wp2
    exact bodyPost_ret (v := .agg #[.int .i64 0, .int .i64 0, .string ⟨#[]⟩]) (by simp [results, Tryd.results71, go_sem]) rfl ⟨rfl, belA _⟩

theorem vl_tail {w : World} {b o cap : Nat} {l : List V} (hM : VL.In w ⟨⟨some ⟨b, o, none⟩, cap⟩, l⟩) (h1 : 1 ≤ l.length) : VL.In w ⟨⟨some ⟨b, o + 3, none⟩, cap - 1⟩, l.tail⟩ := by
  obtain ⟨⟨g1, g2, g3, g4⟩, g5⟩ := hM
  dsimp only at g1 g2 g3 g4 g5
  refine ⟨⟨by show l.tail.length ≤ cap - 1; rw [List.length_tail]; omega, by show cap - 1 ≤ maxLen; omega, fun hp => ⟨rfl, (g3 (by omega)).2⟩, fun i hi j v hv => ?_⟩, fun n hn => g5 n (List.mem_of_mem_tail hn)⟩
  have hi1 : i < l.tail.length := hi
  have hi2 : i + 1 < l.length := by rw [List.length_tail] at hi1; omega
  dsimp only at hv
  rw [List.getElem_tail] at hv
  have h6 : w.cell? ⟨b, o + (i + 1) * 3 + j, none⟩ = some v := g4 (i + 1) hi2 j v hv
  show w.cell? ⟨b, o + 3 + i * 3 + j, none⟩ = some v
  rw [← h6]
  congr 2
  omega
def inF (a : V) (l : List V) (k : Nat) : V := (l.take k).foldl (fun o x => orV o (eqV a x)) (bV false)
theorem inF_succ (a : V) (l : List V) {k : Nat} (hk : k < l.length) : inF a l (k + 1) = orV (inF a l k) (eqV a l[k]) := by
  unfold inF
  rw [List.take_succ_eq_append_getElem hk, List.foldl_append]
  rfl
theorem inF_all (a : V) (l : List V) : inF a l l.length = inV a l := by unfold inF inV; rw [List.take_length]
end Go.Proofs.YtlkhiihehaiinaaDoor

/- A region that draws its order, makes memory, and ends in one operation that may be anything. -/
namespace Go
open Go.RowKit
/-- The code at a place: 0, 1: of two in a row; 2, 3: of a branch; 4: in a block; 5: in a loop. -/
def codeIn : List Nat → Code → Code
  | [], c => c
  | 0 :: l, .seq x _ => codeIn l x
  | 1 :: l, .seq _ y => codeIn l y
  | 2 :: l, .cond _ x _ => codeIn l x
  | 3 :: l, .cond _ _ y => codeIn l y
  | 4 :: l, .block _ x => codeIn l x
  | 5 :: l, .loop x => codeIn l x
  | _, c => c
section
variable {P : Program} {ops : Array Oper} {Q : Exit → Act → World → Prop}
/-- Each operation ahead of the last is bound by a later one. -/
def lastOk (ops : Array Oper) (n : Nat) : Bool := (List.range n).all fun i => (List.range (n + 1)).any fun j => decide (i < j) && ((ops[j]?).map fun o => o.after.toList.any fun e => (e.on == i) && Region.binds .any e).getD false
theorem lastOk_at {n : Nat} (h : lastOk ops n = true) {i : Nat} (hi : i < n) : ∃ j o, i < j ∧ j ≤ n ∧ ops[j]? = some o ∧ ∃ e ∈ o.after.toList, e.on = i ∧ Region.binds .any e = true := by
  unfold lastOk at h
  have h1 := List.all_eq_true.1 h i (List.mem_range.2 hi)
  obtain ⟨j, hj, h2⟩ := List.any_eq_true.1 h1
  rw [Bool.and_eq_true] at h2
  have hjn := List.mem_range.1 hj
  cases ho : ops[j]? with
  | none => rw [ho] at h2; cases h2.2
  | some o =>
    rw [ho] at h2
    simp only [Option.map_some, Option.getD_some] at h2
    obtain ⟨e, he, h3⟩ := List.any_eq_true.1 h2.2
    rw [Bool.and_eq_true] at h3
    exact ⟨j, o, of_decide_eq_true h2.1, by omega, ho, e, he, by simpa using h3.1, h3.2⟩
theorem last_all {n : Nat} (h : lastOk ops n = true) (L : Nat → Bool) (hcl : ∀ (i : Nat) (o : Oper), ops[i]? = some o → L i = true → ∀ e ∈ o.after.toList, Region.binds .any e = true → L e.on = true)
    (hn : ∀ (o : Oper), ops[n]? = some o → ∀ e ∈ o.after.toList, Region.binds .any e = true → L e.on = true) : ∀ i, i < n → L i = true := by
  have key : ∀ (d i : Nat), i + d = n → 0 < d → L i = true := by
    intro d
    induction d using Nat.strongRecOn with
    | _ d ih =>
      intro i hid hd
      obtain ⟨j, o, hij, hjn, ho, e, he, he2, hb⟩ := lastOk_at h (i := i) (by omega)
      by_cases hj : j = n
      · subst hj
        have := hn o ho e he hb
        rwa [he2] at this
      · have h1 := ih (n - j) (by omega) j (by omega) (by omega)
        have := hcl j o ho h1 e he hb
        rwa [he2] at this
  exact fun i hi => key (n - i) i (by omega) (by omega)
/-- As wp_region_mono, but the last operation, which stands behind all others, may be anything. -/
theorem wp_region_last {id : Nat} {a : Act} {w : World} (hm : P.follows .mixedOrders = true) (hok : regionOk ops = true) (n : Nat) (hn : ops.size = n + 1) (hall : lastOk ops n = true) (mk : (Nat → Value) → Act) (s0 : Nat → Value) (ha : a = mk s0)
    (Φ : Nat → Value → World → Prop) (hmono : ∀ i v x y, Φ i v x → Below x.heap.size x y → Φ i v y) (sl : Nat → Nat) (hinj : ∀ i j, i < n → j < n → sl i = sl j → i = j)
    (hstep : ∀ (i : Nat) (o : Oper) (s : Nat → Value) (x : World), i < n → ops[i]? = some o → (∀ e ∈ o.after.toList, Region.binds .any e = true → Φ e.on (s (sl e.on)) x) → Below w.heap.size w x →
      o.wp P (mk s) x (fun a' y => ∃ v, a' = mk (fun k => if k = sl i then v else s k) ∧ Below x.heap.size x y ∧ Φ i v y) Q)
    (hlast : ∀ (o : Oper) (s : Nat → Value) (x : World), ops[n]? = some o → (∀ i, i < n → Φ i (s (sl i)) x) → Below w.heap.size w x → o.wp P (mk s) x (Q .normal) Q) : (Code.region id ops true).wp P Q a w := by
  refine wp_region_ok hm hok (fun L a x => (∀ (i : Nat) (o : Oper), ops[i]? = some o → L i = true → ∀ e ∈ o.after.toList, Region.binds .any e = true → L e.on = true) ∧ (L n = false → ∃ s, a = mk s ∧ Below w.heap.size w x ∧ ∀ i, i < n → L i = true → Φ i (s (sl i)) x) ∧ (L n = true → (∀ i, i < n → L i = true) ∧ Q .normal a x)) ⟨fun _ _ _ h => (by cases h), fun _ => ⟨s0, ha, (Below.refl _ _).drew, fun i _ h => by cases h⟩, fun h => by cases h⟩ ?_ ?_
  · rintro i o L a x ho hL he ⟨hC, hI, hD⟩
    have hC2 : ∀ (j : Nat) (o2 : Oper), ops[j]? = some o2 → upd L i j = true → ∀ e ∈ o2.after.toList, Region.binds .any e = true → upd L i e.on = true := by
      intro j o2 ho2 hj e h1 h2
      have hold : L e.on = true := by
        by_cases hji : j = i
        · subst hji; rw [ho] at ho2; injection ho2 with ho2; subst ho2; exact he e h1 h2
        · unfold upd at hj; rw [if_neg hji] at hj; exact hC j o2 ho2 hj e h1 h2
      unfold upd; split; rfl; exact hold
    have hi := (Array.getElem?_eq_some_iff.1 ho).1
    by_cases hin : i = n
    · subst hin
      obtain ⟨s, rfl, hb, hΦ⟩ := hI hL
      have hdone : ∀ j, j < i → L j = true := last_all hall L hC (fun o2 ho2 => by rw [ho] at ho2; injection ho2 with ho2; subst ho2; exact he)
      refine Oper.wp_mono ?_ (hlast o s x ho (fun j hj => hΦ j hj (hdone j hj)) hb)
      intro a' y hq
      refine ⟨hC2, fun h => ?_, fun _ => ⟨fun j hj => ?_, hq⟩⟩
      · unfold upd at h; rw [if_pos rfl] at h; cases h
      · unfold upd; rw [if_neg (by omega)]; exact hdone j hj
    · have hlt : i < n := by omega
      have hLn : L n = false := by
        cases h : L n with
        | false => rfl
        | true => rw [(hD h).1 i hlt] at hL; cases hL
      obtain ⟨s, rfl, hb, hΦ⟩ := hI hLn
      refine Oper.wp_mono ?_ (hstep i o s x hlt ho (fun e h1 h2 => hΦ _ (Nat.lt_trans ((regionOk_at hok ho).2 e h1) hlt) (he e h1 h2)) hb)
      rintro a' y ⟨v, rfl, hb2, hv⟩
      refine ⟨hC2, fun _ => ⟨_, rfl, hb.trans (hb2.mono hb.size), fun j hj hLj => ?_⟩, fun h => ?_⟩
      · by_cases hji : j = i
        · subst hji
          show Φ j (if sl j = sl j then v else s (sl j)) y
          rw [if_pos rfl]; exact hv
        · show Φ j (if sl j = sl i then v else s (sl j)) y
          rw [if_neg (fun h => hji (hinj _ _ hj hlt h))]
          exact hmono _ _ _ _ (hΦ j hj (by unfold upd at hLj; rwa [if_neg hji] at hLj)) hb2
      · unfold upd at h; rw [if_neg (fun e => hin e.symm)] at h; rw [h] at hLn; cases hLn
  · rintro L a x hL ⟨_, _, hD⟩
    exact (hD (hL n (by omega))).2
end
end Go

/- expression.apply: 'in'. -/
namespace Go.Proofs.YtlkhiihehaiinaaDoor
open Go.RowKit

noncomputable def apBody : Code := Tryd.f71.body.getD .skip
/-- In the loop of 'in': the result's box, the box that collects, the old blocks. -/
structure AI (w : World) (g : Nat) (o : V) (x : World) : Prop where
  bel : Below w.heap.size w x
  bx : Box x w.heap.size #[.int .i64 0, .int .i64 0, .string ⟨#[]⟩] 24
  bo : Box x g #[.int .i64 o.kind, .int .i64 o.num, .string o.text] 24
  lt : w.heap.size < g
theorem AI.call {w x y : World} {g : Nat} {o : V} (h : AI w g o x) (hb : Below x.heap.size x y) : AI w g o y := ⟨bel_trans h.bel (hb.mono (Nat.le_refl _)), h.bx.below hb, h.bo.below hb, h.lt⟩
theorem AI.set {w x : World} {g : Nat} {o : V} (h : AI w g o x) (o' : V) : AI w g o' (((x.setCell ⟨g, 0, none⟩ (.int .i64 o'.kind)).setCell ⟨g, 1, none⟩ (.int .i64 o'.num)).setCell ⟨g, 2, none⟩ (.string o'.text)) :=
  ⟨h.bel.grown (set3 _ _ _ _ _) h.bel.size (fun k hk => by injection hk with hk; have := h.lt; omega), h.bx.grown (set3 _ _ _ _ _) (by have := h.lt; simp; omega), boxs3 h.bo _ _ _, h.lt⟩


set_option maxRecDepth 100000 in
set_option maxHeartbeats 4000000 in
theorem apin_reg {w : World} {r : VL} {a o y : V} {g xb : Nat} (hbb : r.h.b < w.heap.size) (c0 : w.cell? ⟨r.h.b, r.h.o, none⟩ = some (.int .i64 a.kind)) (c1 : w.cell? ⟨r.h.b, r.h.o + 1, none⟩ = some (.int .i64 a.num)) (c2 : w.cell? ⟨r.h.b, r.h.o + 2, none⟩ = some (.string a.text)) (hix0 : ∀ U, (Instr.indexAt 28 (.slice r.h.ao r.l.length r.h.cap) (.int .i64 0)).run Tryd.prog U = .ok (.pointer (some ⟨r.h.b, r.h.o, none⟩)) U) (HW : Hid (NulAt w)) {W : World} (HI : Hid (AI w g o W)) (HY : Hid (Box W xb #[.int .i64 y.kind, .int .i64 y.num, .string y.text] 24)) {Q : Exit → Act → World → Prop} {c : Code} {u0 u2 u3 u4 u6 u8 u9 u10 u11 u12 u13 u14 u15 u16 u17 u18 u19 u20 u21 u22 u23 u24 u25 u26 u27 u28 u29 u30 u31 u32 u33 u34 u35 u36 u37 u38 u39 u40 u41 u42 u43 u44 u45 u46 u47 u48 u49 u50 u51 u52 u53 u54 u55 u56 u57 u58 u59 u60 u61 u62 u63 u64 u65 u66 u67 u68 u69 u70 u71 u72 u73 u74 u75 u76 u77 u78 u79 u80 u81 u82 u83 u84 u85 u86 u87 u88 u89 u90 u91 u92 u93 u94 u95 u96 u97 u98 u99 u100 u101 u102 u103 u104 u105 u106 u107 u108 u109 u110 u111 u112 u113 u114 u115 u116 u117 u118 u119 u120 u121 u122 u123 u124 u125 u126 u127 u128 u129 u130 u131 u132 u133 u134 u135 u136 u137 u138 u139 u140 u141 u142 u143 u144 u145 u146 u147 u148 u149 u150 u151 u152 u153 u154 u155 u156 u157 u158 u159 u160 u161 u162 u163 u164 u165 u166 u167 u168 u169 u170 u171 u172 u173 u174 u175 u176 u177 u178 u179 u180 u181 u182 u183 : Value} (hc : c = codeIn [1, 0, 1, 4, 1, 3, 1, 3, 1, 3, 1, 3, 1, 3, 1, 3, 1, 3, 1, 3, 1, 3, 1, 3, 1, 3, 1, 3, 1, 3, 1, 3, 1, 3, 1, 3, 1, 2, 1, 0, 1, 4, 5, 1, 1, 0, 4, 1] apBody) (hend : ∀ x, AI w g (orV o (eqV a y)) x → Q .normal { tmps := (u0 :: (.slice r.h.ao r.l.length r.h.cap) :: u2 :: u3 :: u4 :: (.pointer (some ⟨g, 0, none⟩)) :: u6 :: (.pointer (some ⟨xb, 0, none⟩)) :: u8 :: u9 :: u10 :: u11 :: u12 :: u13 :: u14 :: u15 :: u16 :: u17 :: u18 :: u19 :: u20 :: u21 :: u22 :: u23 :: u24 :: u25 :: u26 :: u27 :: u28 :: u29 :: u30 :: u31 :: u32 :: u33 :: u34 :: u35 :: u36 :: u37 :: u38 :: u39 :: u40 :: u41 :: u42 :: u43 :: u44 :: u45 :: u46 :: u47 :: u48 :: u49 :: u50 :: u51 :: u52 :: u53 :: u54 :: u55 :: u56 :: u57 :: u58 :: u59 :: u60 :: u61 :: u62 :: u63 :: u64 :: u65 :: u66 :: u67 :: u68 :: u69 :: u70 :: u71 :: u72 :: u73 :: u74 :: u75 :: u76 :: u77 :: u78 :: u79 :: u80 :: u81 :: u82 :: u83 :: u84 :: u85 :: u86 :: u87 :: u88 :: u89 :: u90 :: u91 :: u92 :: u93 :: u94 :: u95 :: u96 :: u97 :: u98 :: u99 :: u100 :: u101 :: u102 :: u103 :: u104 :: u105 :: u106 :: u107 :: u108 :: u109 :: u110 :: u111 :: u112 :: u113 :: u114 :: u115 :: u116 :: u117 :: u118 :: u119 :: u120 :: u121 :: u122 :: u123 :: u124 :: u125 :: u126 :: u127 :: u128 :: u129 :: u130 :: u131 :: u132 :: u133 :: u134 :: u135 :: u136 :: u137 :: u138 :: u139 :: u140 :: u141 :: u142 :: u143 :: u144 :: u145 :: u146 :: u147 :: u148 :: u149 :: u150 :: u151 :: u152 :: u153 :: u154 :: u155 :: u156 :: u157 :: u158 :: u159 :: u160 :: u161 :: u162 :: u163 :: u164 :: u165 :: u166 :: u167 :: u168 :: u169 :: u170 :: u171 :: u172 :: u173 :: .agg #[.int .i64 o.kind, .int .i64 o.num, .string o.text] :: .slice r.h.ao r.l.length r.h.cap :: .pointer (some ⟨r.h.b, r.h.o, none⟩) :: .agg #[.int .i64 a.kind, .int .i64 a.num, .string a.text] :: .agg #[.int .i64 y.kind, .int .i64 y.num, .string y.text] :: .agg #[.int .i64 (eqV a y).kind, .int .i64 (eqV a y).num, .string (eqV a y).text] :: .agg #[.int .i64 (orV o (eqV a y)).kind, .int .i64 (orV o (eqV a y)).num, .string (orV o (eqV a y)).text] :: u181 :: u182 :: u183 :: []).toArray, defers := [] } x) : Code.wp Tryd.prog c Q { tmps := (u0 :: (.slice r.h.ao r.l.length r.h.cap) :: u2 :: u3 :: u4 :: (.pointer (some ⟨g, 0, none⟩)) :: u6 :: (.pointer (some ⟨xb, 0, none⟩)) :: u8 :: u9 :: u10 :: u11 :: u12 :: u13 :: u14 :: u15 :: u16 :: u17 :: u18 :: u19 :: u20 :: u21 :: u22 :: u23 :: u24 :: u25 :: u26 :: u27 :: u28 :: u29 :: u30 :: u31 :: u32 :: u33 :: u34 :: u35 :: u36 :: u37 :: u38 :: u39 :: u40 :: u41 :: u42 :: u43 :: u44 :: u45 :: u46 :: u47 :: u48 :: u49 :: u50 :: u51 :: u52 :: u53 :: u54 :: u55 :: u56 :: u57 :: u58 :: u59 :: u60 :: u61 :: u62 :: u63 :: u64 :: u65 :: u66 :: u67 :: u68 :: u69 :: u70 :: u71 :: u72 :: u73 :: u74 :: u75 :: u76 :: u77 :: u78 :: u79 :: u80 :: u81 :: u82 :: u83 :: u84 :: u85 :: u86 :: u87 :: u88 :: u89 :: u90 :: u91 :: u92 :: u93 :: u94 :: u95 :: u96 :: u97 :: u98 :: u99 :: u100 :: u101 :: u102 :: u103 :: u104 :: u105 :: u106 :: u107 :: u108 :: u109 :: u110 :: u111 :: u112 :: u113 :: u114 :: u115 :: u116 :: u117 :: u118 :: u119 :: u120 :: u121 :: u122 :: u123 :: u124 :: u125 :: u126 :: u127 :: u128 :: u129 :: u130 :: u131 :: u132 :: u133 :: u134 :: u135 :: u136 :: u137 :: u138 :: u139 :: u140 :: u141 :: u142 :: u143 :: u144 :: u145 :: u146 :: u147 :: u148 :: u149 :: u150 :: u151 :: u152 :: u153 :: u154 :: u155 :: u156 :: u157 :: u158 :: u159 :: u160 :: u161 :: u162 :: u163 :: u164 :: u165 :: u166 :: u167 :: u168 :: u169 :: u170 :: u171 :: u172 :: u173 :: u174 :: u175 :: u176 :: u177 :: u178 :: u179 :: u180 :: u181 :: u182 :: u183 :: []).toArray, defers := [] } W := by
  subst hc
  conv => enter [2]; whnf
  refine wp_region_last (by kernel_rfl) (by kernel_rfl) 7 (by kernel_rfl) (by kernel_rfl) (fun s : Nat → Value => ({ tmps := (u0 :: (.slice r.h.ao r.l.length r.h.cap) :: u2 :: u3 :: u4 :: (.pointer (some ⟨g, 0, none⟩)) :: u6 :: (.pointer (some ⟨xb, 0, none⟩)) :: u8 :: u9 :: u10 :: u11 :: u12 :: u13 :: u14 :: u15 :: u16 :: u17 :: u18 :: u19 :: u20 :: u21 :: u22 :: u23 :: u24 :: u25 :: u26 :: u27 :: u28 :: u29 :: u30 :: u31 :: u32 :: u33 :: u34 :: u35 :: u36 :: u37 :: u38 :: u39 :: u40 :: u41 :: u42 :: u43 :: u44 :: u45 :: u46 :: u47 :: u48 :: u49 :: u50 :: u51 :: u52 :: u53 :: u54 :: u55 :: u56 :: u57 :: u58 :: u59 :: u60 :: u61 :: u62 :: u63 :: u64 :: u65 :: u66 :: u67 :: u68 :: u69 :: u70 :: u71 :: u72 :: u73 :: u74 :: u75 :: u76 :: u77 :: u78 :: u79 :: u80 :: u81 :: u82 :: u83 :: u84 :: u85 :: u86 :: u87 :: u88 :: u89 :: u90 :: u91 :: u92 :: u93 :: u94 :: u95 :: u96 :: u97 :: u98 :: u99 :: u100 :: u101 :: u102 :: u103 :: u104 :: u105 :: u106 :: u107 :: u108 :: u109 :: u110 :: u111 :: u112 :: u113 :: u114 :: u115 :: u116 :: u117 :: u118 :: u119 :: u120 :: u121 :: u122 :: u123 :: u124 :: u125 :: u126 :: u127 :: u128 :: u129 :: u130 :: u131 :: u132 :: u133 :: u134 :: u135 :: u136 :: u137 :: u138 :: u139 :: u140 :: u141 :: u142 :: u143 :: u144 :: u145 :: u146 :: u147 :: u148 :: u149 :: u150 :: u151 :: u152 :: u153 :: u154 :: u155 :: u156 :: u157 :: u158 :: u159 :: u160 :: u161 :: u162 :: u163 :: u164 :: u165 :: u166 :: u167 :: u168 :: u169 :: u170 :: u171 :: u172 :: u173 :: s 174 :: s 175 :: s 176 :: s 177 :: s 178 :: s 179 :: s 180 :: u181 :: u182 :: u183 :: []).toArray, defers := [] } : Act)) (fun k => if k = 174 then u174 else if k = 175 then u175 else if k = 176 then u176 else if k = 177 then u177 else if k = 178 then u178 else if k = 179 then u179 else if k = 180 then u180 else undef) rfl (fun i v _ => ([.agg #[.int .i64 o.kind, .int .i64 o.num, .string o.text], .slice r.h.ao r.l.length r.h.cap, .pointer (some ⟨r.h.b, r.h.o, none⟩), .agg #[.int .i64 a.kind, .int .i64 a.num, .string a.text], .agg #[.int .i64 y.kind, .int .i64 y.num, .string y.text], .agg #[.int .i64 (eqV a y).kind, .int .i64 (eqV a y).num, .string (eqV a y).text], .agg #[.int .i64 (orV o (eqV a y)).kind, .int .i64 (orV o (eqV a y)).num, .string (orV o (eqV a y)).text]] : List Value)[i]? = some v) (fun _ _ _ _ h _ => h) (fun i => ([174, 175, 176, 177, 178, 179, 180] : List Nat).getD i 0) ?inj ?step ?last
  case inj =>
    intro i j hi hj h
    have hI : i = 0 ∨ i = 1 ∨ i = 2 ∨ i = 3 ∨ i = 4 ∨ i = 5 ∨ i = 6 := by omega
    have hJ : j = 0 ∨ j = 1 ∨ j = 2 ∨ j = 3 ∨ j = 4 ∨ j = 5 ∨ j = 6 := by omega
    rcases hI with rfl | rfl | rfl | rfl | rfl | rfl | rfl <;> rcases hJ with rfl | rfl | rfl | rfl | rfl | rfl | rfl <;> first | rfl | (exact absurd h (by decide))
  case last =>
    intro o s x ho hv hb
    have HB := hide hb
    clear hb
    injection ho with ho
    subst ho
    have z0 : s 174 = .agg #[.int .i64 o.kind, .int .i64 o.num, .string o.text] := by have h := hv 0 (by decide); injection h with h; exact h.symm
    have z1 : s 175 = .slice r.h.ao r.l.length r.h.cap := by have h := hv 1 (by decide); injection h with h; exact h.symm
    have z2 : s 176 = .pointer (some ⟨r.h.b, r.h.o, none⟩) := by have h := hv 2 (by decide); injection h with h; exact h.symm
    have z3 : s 177 = .agg #[.int .i64 a.kind, .int .i64 a.num, .string a.text] := by have h := hv 3 (by decide); injection h with h; exact h.symm
    have z4 : s 178 = .agg #[.int .i64 y.kind, .int .i64 y.num, .string y.text] := by have h := hv 4 (by decide); injection h with h; exact h.symm
    have z5 : s 179 = .agg #[.int .i64 (eqV a y).kind, .int .i64 (eqV a y).num, .string (eqV a y).text] := by have h := hv 5 (by decide); injection h with h; exact h.symm
    have z6 : s 180 = .agg #[.int .i64 (orV o (eqV a y)).kind, .int .i64 (orV o (eqV a y)).num, .string (orV o (eqV a y)).text] := by have h := hv 6 (by decide); injection h with h; exact h.symm
    clear hv
    have hI := HI.out.call HB.out
    have hb := hI.bo
    have o0 := hb.cell (j := 0) rfl
    have o1 := hb.cell (j := 1) rfl
    have o2 := hb.cell (j := 2) rfl
    have f0 := hb.fr 0
    have f1 := hb.fr 1
    have f2 := hb.fr 2
    have HF := hide (hI.set (orV o (eqV a y)))
    clear hI hb
    refine opwp_K (fun K2 hK2 => ?_)
    go_simp
    refine hK2 _ _ ?_
    have h := hend _ HF.out
    first | exact h | (simp only [z0, z1, z2, z3, z4, z5, z6]; exact h)
  case step =>
    intro i o s x hin ho he hb
    have HB := hide hb
    clear hb
    have hcase : i = 0 ∨ i = 1 ∨ i = 2 ∨ i = 3 ∨ i = 4 ∨ i = 5 ∨ i = 6 := by omega
    rcases hcase with rfl | rfl | rfl | rfl | rfl | rfl | rfl
    · injection ho with ho
      subst ho
      clear he
      have hb := HI.out.bo.below HB.out
      have o0 := hb.cell (j := 0) rfl
      have o1 := hb.cell (j := 1) rfl
      have o2 := hb.cell (j := 2) rfl
      refine opwp_K (fun K2 hK2 => ?_)
      go_simp
      exact hK2 _ _ ⟨(.agg #[.int .i64 o.kind, .int .i64 o.num, .string o.text]), (by first | rfl | (simp [List.getD]; done)), Below.refl _ _, rfl⟩
    · injection ho with ho
      subst ho
      clear he
      refine opwp_K (fun K2 hK2 => ?_)
      go_simp
      exact hK2 _ _ ⟨(.slice r.h.ao r.l.length r.h.cap), (by first | rfl | (simp [List.getD]; done)), Below.refl _ _, rfl⟩
    · injection ho with ho
      subst ho
      have z1 : s 175 = .slice r.h.ao r.l.length r.h.cap := by have h := he ⟨1, .data⟩ (by simp) rfl; injection h with h; exact h.symm
      clear he
      refine opwp_K (fun K2 hK2 => ?_)
      go_simp
      exact hK2 _ _ ⟨(.pointer (some ⟨r.h.b, r.h.o, none⟩)), (by first | rfl | (simp [z1]; done)), Below.refl _ _, rfl⟩
    · injection ho with ho
      subst ho
      have z2 : s 176 = .pointer (some ⟨r.h.b, r.h.o, none⟩) := by have h := he ⟨2, .data⟩ (by simp) rfl; injection h with h; exact h.symm
      clear he
      have hb := HI.out.bel.size
      have hq := HB.out.cell (p := ⟨r.h.b, r.h.o, none⟩) (by show r.h.b < W.heap.size; omega)
      have hq1 := HB.out.cell (p := ⟨r.h.b, r.h.o + 1, none⟩) (by show r.h.b < W.heap.size; omega)
      have hq2 := HB.out.cell (p := ⟨r.h.b, r.h.o + 2, none⟩) (by show r.h.b < W.heap.size; omega)
      rw [HI.out.bel.cell (p := ⟨r.h.b, r.h.o, none⟩) hbb, c0] at hq
      rw [HI.out.bel.cell (p := ⟨r.h.b, r.h.o + 1, none⟩) hbb, c1] at hq1
      rw [HI.out.bel.cell (p := ⟨r.h.b, r.h.o + 2, none⟩) hbb, c2] at hq2
      refine opwp_K (fun K2 hK2 => ?_)
      go_simp
      exact hK2 _ _ ⟨(.agg #[.int .i64 a.kind, .int .i64 a.num, .string a.text]), (by first | rfl | (simp [z2]; done)), Below.refl _ _, rfl⟩
    · injection ho with ho
      subst ho
      clear he
      have hb := HY.out.below HB.out
      have o0 := hb.cell (j := 0) rfl
      have o1 := hb.cell (j := 1) rfl
      have o2 := hb.cell (j := 2) rfl
      refine opwp_K (fun K2 hK2 => ?_)
      go_simp
      exact hK2 _ _ ⟨(.agg #[.int .i64 y.kind, .int .i64 y.num, .string y.text]), (by first | rfl | (simp [List.getD]; done)), Below.refl _ _, rfl⟩
    · injection ho with ho
      subst ho
      have z3 : s 177 = .agg #[.int .i64 a.kind, .int .i64 a.num, .string a.text] := by have h := he ⟨3, .data⟩ (by simp) rfl; injection h with h; exact h.symm
      have z4 : s 178 = .agg #[.int .i64 y.kind, .int .i64 y.num, .string y.text] := by have h := he ⟨4, .data⟩ (by simp) rfl; injection h with h; exact h.symm
      clear he
      refine opwp_K (fun K2 hK2 => ?_)
      go_simp
      go_at_call 82
      refine (veq_any a y x ((HW.out.mono HI.out.bel).mono HB.out)).mono ?_
      rintro _ z ⟨rfl, hz⟩
      go_simp
      exact hK2 _ _ ⟨(.agg #[.int .i64 (eqV a y).kind, .int .i64 (eqV a y).num, .string (eqV a y).text]), (by first | rfl | (simp [z3, z4]; done)), hz, rfl⟩
    · injection ho with ho
      subst ho
      have z0 : s 174 = .agg #[.int .i64 o.kind, .int .i64 o.num, .string o.text] := by have h := he ⟨0, .data⟩ (by simp) rfl; injection h with h; exact h.symm
      have z5 : s 179 = .agg #[.int .i64 (eqV a y).kind, .int .i64 (eqV a y).num, .string (eqV a y).text] := by have h := he ⟨5, .data⟩ (by simp) rfl; injection h with h; exact h.symm
      clear he
      refine opwp_K (fun K2 hK2 => ?_)
      go_simp
      go_at_call 87
      refine (vor_any o (eqV a y) x ((HW.out.mono HI.out.bel).mono HB.out)).mono ?_
      rintro _ z ⟨rfl, hz⟩
      go_simp
      exact hK2 _ _ ⟨(.agg #[.int .i64 (orV o (eqV a y)).kind, .int .i64 (orV o (eqV a y)).num, .string (orV o (eqV a y)).text]), (by first | rfl | (simp [z0, z5]; done)), hz, rfl⟩


set_option maxRecDepth 100000 in
set_option maxHeartbeats 8000000 in
theorem ap_28 (r : VL) (w : World) (hr : r.In w) (hl : 1 < r.l.length) (hw : NulAt w) : Calls Tryd.prog 71 #[.int .i64 28, .slice r.h.ao r.l.length r.h.cap] w fun e w' => e = .returned (.agg #[.int .i64 (applyV 28 r.l).kind, .int .i64 (applyV 28 r.l).num, .string (applyV 28 r.l).text]) ∧ Below w.heap.size w w' := by
  obtain ⟨⟨ao, cap⟩, l⟩ := r
  have h0 : 0 < l.length := by have : 1 < l.length := hl; omega
  have hao := (hr.1.2.2.1 h0).1
  dsimp only at hao
  obtain ⟨ad, had⟩ : ∃ ad : Addr, ao = some ad := ⟨_, hao⟩
  subst had
  injection hao with hao
  generalize (⟨some ad, cap⟩ : Hd).b = b at hao
  generalize (⟨some ad, cap⟩ : Hd).o = o at hao
  subst hao
  obtain ⟨hix0, hbb, c0, c1, c2⟩ := apl0 hr h0
  have hlen := hr.1.len
  have hcap : l.length ≤ cap := hr.1.1
  obtain ⟨a, ha⟩ : ∃ a, l[0] = a := ⟨_, rfl⟩
  have hga := getD_of h0 ha
  dsimp only at c0 c1 c2 hix0 hbb hlen hl
  rw [ha] at c0 c1 c2
  have hres : applyV 28 l = inV a l.tail := by unfold applyV; dsimp only; rw [hga]; simp
  show Calls Tryd.prog 71 #[.int .i64 28, .slice (some ⟨b, o, none⟩) l.length cap] w fun e w' => e = .returned (.agg #[.int .i64 (applyV 28 l).kind, .int .i64 (applyV 28 l).num, .string (applyV 28 l).text]) ∧ Below w.heap.size w w'
  rw [hres, ← inF_all]
  have HT := hide (vl_tail hr (by omega))
  have htl : l.tail.length = l.length - 1 := List.length_tail
  generalize l.tail = t at *
  have HW := hide hw
  have HW1 := hide (hw.mono (belA (.cells #[.int .i64 0, .int .i64 0, .string ⟨#[]⟩] 24)))
  have HC := hide (And.intro hix0 (And.intro hbb (And.intro c0 (And.intro c1 c2))))
  clear hr hw ha hga hres hix0 c0 c1 c2
  have hi1 : (1 : Int) ≤ l.length := by omega
  have hi2 : (l.length : Int) ≤ cap := by omega
  go_enter Tryd.func71, Tryd.ntmps71
  go_wp2_with (go_at_call 88; refine (vbool_any 0 _ HW1.out).mono ?_; rintro e x1 ⟨rfl, hb⟩; have HB := hide hb; have hs1 := hb.size; clear hb)
  have HA0 := hide (show AI w x1.heap.size (inF a t 0) (x1.alloc (.cells #[.int .i64 (boolV 0).kind, .int .i64 (boolV 0).num, .string (boolV 0).text] 24)) from
    ⟨(bel1 HB.out).trans ((belA _).mono (bel1 HB.out).size), ((Box.new _ _ _).below HB.out).below (belA _), Box.new _ _ _, by simp at hs1; omega⟩)
  go_loopw [170] (fun i wr => ∃ k : Nat, k ≤ t.length ∧ i = .int .i64 k ∧ Hid (AI w x1.heap.size (inF a t k) wr)) (fun i _ => t.length - (intOf i).toNat)
  case atStart => exact ⟨0, Nat.zero_le _, rfl, HA0⟩
  case round =>
    obtain ⟨k, hk, rfl, HI⟩ := hrel
    by_cases hlt : k < t.length
    · have hlti : (k : Int) < (l.length : Int) - 1 := by omega
      have hltn : k < l.length - 1 := by omega
      have hT := HT.out.mono HI.out.bel
      have hixT := hT.1.ix hlt Tryd.underlying28 szval
      have hbT : b < wr.heap.size := hT.1.blk hlt
      obtain ⟨d0, d1, d2⟩ := val_at hT.1 hlt
      obtain ⟨y, hy⟩ : ∃ y, t[k] = y := ⟨_, rfl⟩
      rw [hy] at d0 d1 d2
      have HS := hide (show inF a t (k + 1) = orV (inF a t k) (eqV a y) from by rw [inF_succ a t hlt, hy])
      dsimp only at hixT
      rw [htl] at hixT
      clear hT hy
      obtain ⟨o2, ho2⟩ : ∃ o2, inF a t k = o2 := ⟨_, rfl⟩
      rw [ho2] at HI HS
      have HY := hide (Box.new wr #[.int .i64 y.kind, .int .i64 y.num, .string y.text] 24)
      have HI2 := hide (HI.out.call (belA (.cells #[.int .i64 y.kind, .int .i64 y.num, .string y.text] 24)))
      clear ho2
      go_wp2
      clear d0 d1 d2 hixT
      obtain ⟨hix0, hbb0, c0, c1, c2⟩ := HC.out
      refine apin_reg (w := w) (r := ⟨⟨some ⟨b, o, none⟩, cap⟩, l⟩) (a := a) (o := o2) (y := y) (g := x1.heap.size) (xb := wr.heap.size) hbb0 c0 c1 c2 hix0 HW HI2 HY ?hc ?hend
      case hc => rfl
      case hend =>
        intro x hx
        have HX := hide hx
        clear hx hix0 c0 c1 c2
        go_wp2
        go_roundw
        case rel => exact ⟨k + 1, by omega, by go_num, hide (by rw [HS.out]; exact HX.out)⟩
        case measure => simp [intOf]; omega
    · have hlti : ¬ (k : Int) < (l.length : Int) - 1 := by omega
      have hltn : ¬ k < l.length - 1 := by omega
      have hke : k = t.length := by omega
      subst hke
      obtain ⟨o2, ho2⟩ : ∃ o2, inF a t t.length = o2 := ⟨_, rfl⟩
      rw [ho2] at HI
      have HO2 := hide ho2
      have e0 := HI.out.bo.cell (j := 0) rfl
      have e1 := HI.out.bo.cell (j := 1) rfl
      have e2 := HI.out.bo.cell (j := 2) rfl
      have g0 := HI.out.bx.cell (j := 0) rfl
      have g1 := HI.out.bx.cell (j := 1) rfl
      have g2 := HI.out.bx.cell (j := 2) rfl
      have f0 := HI.out.bx.fr 0
      have f1 := HI.out.bx.fr 1
      have f2 := HI.out.bx.fr 2
      clear ho2
      go_wp2
      exact bodyPost_ret (v := .agg #[.int .i64 o2.kind, .int .i64 o2.num, .string o2.text]) (by simp [results, Tryd.results71, go_sem, g0, g1, g2]) rfl ⟨by rw [← htl, HO2.out], belset3 HI.out.bel (Nat.le_refl _) (Nat.le_refl _) _ _ _⟩

/-- The operations that 'apply' is asked. -/
def opNeed (op : Int) : Nat := if op = 1 then 0 else if op = 11 ∨ op = 13 ∨ op = 21 ∨ op = 24 ∨ op = 25 then 1 else 2
theorem apply_any (op : Int) (r : VL) (w : World) (hr : r.In w) (hop : op = 1 ∨ (6 ≤ op ∧ op ≤ 28 ∧ op ≠ 26)) (hl : opNeed op ≤ r.l.length) (hw : NulAt w) : Calls Tryd.prog 71 #[.int .i64 op, .slice r.h.ao r.l.length r.h.cap] w fun e w' => e = .returned (.agg #[.int .i64 (applyV op r.l).kind, .int .i64 (applyV op r.l).num, .string (applyV op r.l).text]) ∧ Below w.heap.size w w' := by
  have hc : op = 1 ∨ op = 6 ∨ op = 7 ∨ op = 8 ∨ op = 9 ∨ op = 10 ∨ op = 11 ∨ op = 12 ∨ op = 13 ∨ op = 14 ∨ op = 15 ∨ op = 16 ∨ op = 17 ∨ op = 18 ∨ op = 19 ∨ op = 20 ∨ op = 21 ∨ op = 22 ∨ op = 23 ∨ op = 24 ∨ op = 25 ∨ op = 27 ∨ op = 28 := by omega
  rcases hc with rfl | rfl | rfl | rfl | rfl | rfl | rfl | rfl | rfl | rfl | rfl | rfl | rfl | rfl | rfl | rfl | rfl | rfl | rfl | rfl | rfl | rfl | rfl
  · exact ap_1 r w
  · exact ap_6 r w hr (by have h : 2 ≤ r.l.length := hl; omega) hw
  · exact ap_7 r w hr (by have h : 2 ≤ r.l.length := hl; omega) hw
  · exact ap_8 r w hr (by have h : 2 ≤ r.l.length := hl; omega) hw
  · exact ap_9 r w hr (by have h : 2 ≤ r.l.length := hl; omega) hw
  · exact ap_10 r w hr (by have h : 2 ≤ r.l.length := hl; omega) hw
  · exact ap_11 r w hr (by have h : 1 ≤ r.l.length := hl; omega) hw
  · exact ap_12 r w hr (by have h : 2 ≤ r.l.length := hl; omega) hw
  · exact ap_13 r w hr (by have h : 1 ≤ r.l.length := hl; omega)
  · exact ap_14 r w hr (by have h : 2 ≤ r.l.length := hl; omega) hw
  · exact ap_15 r w hr (by have h : 2 ≤ r.l.length := hl; omega) hw
  · exact ap_16 r w hr (by have h : 2 ≤ r.l.length := hl; omega) hw
  · exact ap_17 r w hr (by have h : 2 ≤ r.l.length := hl; omega) hw
  · exact ap_18 r w hr (by have h : 2 ≤ r.l.length := hl; omega) hw
  · exact ap_19 r w hr (by have h : 2 ≤ r.l.length := hl; omega) hw
  · exact ap_20 r w hr (by have h : 2 ≤ r.l.length := hl; omega) hw
  · exact ap_21 r w hr (by have h : 1 ≤ r.l.length := hl; omega) hw
  · exact ap_22 r w hr (by have h : 2 ≤ r.l.length := hl; omega) hw
  · exact ap_23 r w hr (by have h : 2 ≤ r.l.length := hl; omega) hw
  · exact ap_24 r w hr (by have h : 1 ≤ r.l.length := hl; omega) hw
  · exact ap_25 r w hr (by have h : 1 ≤ r.l.length := hl; omega) hw
  · exact ap_27 r w hr (by have h : 2 ≤ r.l.length := hl; omega)
  · exact ap_28 r w hr (by have h : 2 ≤ r.l.length := hl; omega) hw
end Go.Proofs.YtlkhiihehaiinaaDoor

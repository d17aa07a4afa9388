/- querylabfield.Put: ascending numbers with one more. -/
import Derived.Test.YtlkhiihehaiinaaDoorFRFind
namespace Go
open Go.RowKit
theorem run_append_zero {P : Program} {w : World} (base : Nat) (t ty e : TypeId) (i : TypeInfo) (size : Nat) (ht : P.underlying t = some (.slice e)) (hi : P.info? e = some i)
    (v : Value) (n : Nat) (xs : List Value) (hown : w.ownsRow base e size v n xs) (ao : Option Addr) (c : Nat) : (Builtin.append_ #[t, t] ty #[v, .slice ao 0 c]).run P w = .ok v w := by
  rcases hown.2 with ⟨rfl, rfl⟩ | ⟨g, cap, cur, rfl, _, _, hnc, _⟩
  · cases ao <;> simp [Builtin.append_, run_underlying ht, sizeOf, typeInfo, hi, Builtin.lenOf, Builtin.firstCells, loadCells, loadCellsFrom]
  · cases ao <;> simp [Builtin.append_, run_underlying ht, sizeOf, typeInfo, hi, Builtin.lenOf, Builtin.firstCells, loadCells, loadCellsFrom, hnc, storeCells]
theorem wpList_append_zero {P : Program} {w : World} {ops : Array Oper} {rest : List Oper} {o : Oper} {a : Act} {Q : Exit → Act → World → Prop} (hgd : o.guard = none) (s x : Operand) (t : TypeId)
    (ho : o.op = .call { callee := .builtin .append, args := #[s, x], argTypes := #[t, t] })
    (base : Nat) (e : TypeId) (i : TypeInfo) (size : Nat) (ht : P.underlying t = some (.slice e)) (hi : P.info? e = some i)
    (v : Value) (n : Nat) (xs : List Value) (hs : a.eval s = v) (hown : w.ownsRow base e size v n xs) (ao : Option Addr) (c : Nat) (hx : a.eval x = .slice ao 0 c)
    (h : wpList P ops Q rest (a.put o.dst v) w) : wpList P ops Q (o :: rest) a w := by
  refine wpList_plain hgd fun K hK => ?_
  have hrun := run_append_zero (P := P) (w := w) base t o.type e i size ht hi v n xs hown ao c
  unfold Oper.wp
  simp [execOp, ho, resolve, invoke, builtin, hs, hx, hrun, Result.andThen]
  exact hK _ _ h
end Go
namespace Go.Proofs.YtlkhiihehaiinaaDoor
open Go.RowKit

/-- l with x where it belongs. -/
def putL : List Int → Int → List Int
  | [], x => [x]
  | a :: r, x => if a < x then a :: putL r x else if a = x then a :: r else x :: a :: r
theorem putL_at : ∀ (l : List Int) (x : Int) (k : Nat), k ≤ l.length → (∀ j (hj : j < l.length), j < k → l[j] < x) → (∀ h : k < l.length, x ≤ l[k]) → putL l x = if h : k < l.length then (if l[k] = x then l else l.take k ++ [x] ++ l.drop k) else l ++ [x]
  | [], x, k, _, _, _ => by simp [putL]
  | a :: r, x, 0, _, h1, h2 => by
    have h3 : x ≤ a := h2 (by simp)
    have h4 : ¬ a < x := by omega
    simp [putL, h4]
  | a :: r, x, k + 1, hk, h1, h2 => by
    have h3 : a < x := h1 0 (by simp) (by omega)
    have ih := putL_at r x k (by simpa using hk) (fun j hj hjk => h1 (j + 1) (by simpa using hj) (by omega)) (fun h => h2 (by simpa using h))
    unfold putL
    rw [if_pos h3, ih]
    by_cases hkl : k < r.length
    · rw [dif_pos hkl, dif_pos (by simpa using hkl)]
      by_cases he : r[k] = x
      · rw [if_pos he, if_pos (by simpa using he)]
      · rw [if_neg he, if_neg (by simpa using he)]; simp
    · rw [dif_neg hkl, dif_neg (by simpa using hkl)]; simp
theorem int_cells {l : List Int} {w : World} {b o : Nat} (h : ∀ j (hj : j < l.length), w.cell? ⟨b, o + j, none⟩ = some (.int .i64 l[j])) : ∀ j u, (l.flatMap icells)[j]? = some u → w.cell? ⟨b, o + j, none⟩ = some u := by
  intro j u hu
  obtain ⟨hj, rfl⟩ := icells_at _ _ _ hu
  exact h j hj
theorem ilis_own {W : World} {base : Nat} {v : Value} {n : Nat} {l : List Int} (h : W.ownsRow base 3 1 v n (l.flatMap icells)) (hl : ∀ x ∈ l, int64 x) : ILis l v W := il_mk h hl
/-- A list of numbers that lies at or behind block n₀. -/
def ILf (n₀ : Nat) (l : List Int) (v : Value) (w : World) : Prop := ∃ r : IL, v = .slice r.h.ao r.l.length r.h.cap ∧ r.l = l ∧ r.In w ∧ (0 < l.length → n₀ ≤ r.h.b) ∧ (l = [] → r.h = nilHd)
theorem ilf_own {W : World} {base n₀ : Nat} {v : Value} {n : Nat} {l : List Int} (h : W.ownsRow base 3 1 v n (l.flatMap icells)) (hl : ∀ x ∈ l, int64 x) (hb : n₀ ≤ base) (hne : 0 < l.length) : ILf n₀ l v W := by
  obtain ⟨r, hv, hr, hin⟩ := ilis_own h hl
  refine ⟨r, hv, hr, hin, fun _ => ?_, fun e => by rw [e] at hne; simp at hne⟩
  rcases h.2 with ⟨rfl, h0⟩ | ⟨g, cap, cur, rfl, hg, _⟩
  · have h1 := h.1
    rw [icells_len] at h1
    omega
  · injection hv with h1 h2 h3
    show n₀ ≤ (r.h.ao.getD ⟨0, 0, none⟩).block
    rw [← h1]
    exact Nat.le_trans hb hg
theorem ILf.mono {n₀ : Nat} {l : List Int} {v : Value} {w w' : World} (h : ILf n₀ l v w) (hb : Below w.heap.size w w') : ILf n₀ l v w' := by
  obtain ⟨r, h1, h2, h3, h4⟩ := h
  exact ⟨r, h1, h2, h3.mono hb, h4⟩
theorem own_new1 {w : World} {x : Int} : (w.alloc (.cells #[.int .i64 x] 3)).ownsRow w.heap.size 3 1 (.slice (some ⟨w.heap.size, 0, none⟩) 1 1) 1 [.int .i64 x] :=
  ⟨rfl, .inr ⟨w.heap.size, 1, #[.int .i64 x], rfl, Nat.le_refl _, heap_alloc_new w _, Nat.le_refl _, by decide, rfl, rfl⟩⟩

set_option maxRecDepth 100000 in
set_option maxHeartbeats 2000000 in
theorem fput_nil (n₀ : Nat) (x : Int) (w : World) (hx : int64 x) (hn0 : n₀ ≤ w.heap.size) : Calls Tryd.prog 45 #[.slice none 0 0, .int .i64 x] w fun e w' => (∃ v, e = .returned v ∧ ILf n₀ [x] v w') ∧ Below w.heap.size w w' := by
  obtain ⟨i0, hi, hz0, hz1, hz2⟩ := info_parts info3
  have HI := hide (And.intro hi (And.intro hz0 (And.intro hz1 hz2)))
  have HX := hide hx
  clear hi hz0 hz1 hz2 hx
  go_enter Tryd.func45, Tryd.ntmps45
  go_wp2
  go_loopw [5] (fun i wr => i = .int .i64 0 ∧ Hid (Below w.heap.size w wr)) (fun _ _ => 0)
  case atStart => exact ⟨rfl, hide (Below.refl _ _)⟩
  case round =>
    obtain ⟨rfl, HB⟩ := hrel
    go_wp2_with (at_builtin; first
      | refine wpList_append_zero rfl _ _ 34 rfl wr.heap.size 3 i0 1 Tryd.underlying34 HI.out.1 _ _ _ rfl own_new1 none 0 rfl ?_
      | (refine wpList_append_own _ rfl _ _ 34 rfl w.heap.size 3 i0 (.int .i64 0) 1 8 Tryd.underlying34 HI.out.1 HI.out.2.1 HI.out.2.2.1 HI.out.2.2.2 rfl (by decide) _ _ _ rfl (World.ownsRow_nil _ _ _ _) ⟨wr.heap.size, 0, none⟩ 1 1 [.int .i64 x] rfl rfl (new_cells (l := [_])) one_int (by decide) (by decide) (by have := HB.out.size; simp; omega) ?_; intro v' w1 hown' hgrow _; have HO := hide hown'; have HG := hide hgrow; clear hown' hgrow))
    have HF := hide (show ILf n₀ [x] v' w1 from ilf_own (l := [x]) HO.out (by intro n hn; simp at hn; subst hn; exact HX.out) hn0 (by simp))
    have HB2 := hide (grown1 HB.out HB.out.size HG.out (fun k h => by cases h))
    go_ret
    exact ⟨⟨_, rfl, HF.out⟩, HB2.out⟩

theorem il_take {w : World} {h : Hd} {l : List Int} (hM : IL.In w ⟨h, l⟩) (k : Nat) : IL.In w ⟨h, l.take k⟩ := by
  obtain ⟨⟨h1, h2, h3, h4⟩, h5⟩ := hM
  dsimp only at h1 h2 h3 h4 h5
  refine ⟨⟨Nat.le_trans (by show (l.take k).length ≤ l.length; rw [List.length_take]; omega) h1, h2, fun hp => h3 (by have hp2 : 0 < (l.take k).length := hp; rw [List.length_take] at hp2; omega), fun i hi j v hv => ?_⟩, fun n hn => h5 n (List.mem_of_mem_take hn)⟩
  have hi1 : i < (l.take k).length := hi
  have hi2 : i < l.length := by rw [List.length_take] at hi1; omega
  dsimp only at hv
  rw [List.getElem_take] at hv
  exact h4 i hi2 j v hv
theorem il_drop {w : World} {b o cap : Nat} {l : List Int} (hM : IL.In w ⟨⟨some ⟨b, o, none⟩, cap⟩, l⟩) {k : Nat} (hk : k ≤ l.length) : IL.In w ⟨⟨some ⟨b, o + k, none⟩, cap - k⟩, l.drop k⟩ := by
  obtain ⟨⟨h1, h2, h3, h4⟩, h5⟩ := hM
  dsimp only at h1 h2 h3 h4 h5
  refine ⟨⟨by show (l.drop k).length ≤ cap - k; rw [List.length_drop]; omega, by show cap - k ≤ maxLen; omega, fun hp => ⟨rfl, (h3 (by have hp2 : 0 < (l.drop k).length := hp; rw [List.length_drop] at hp2; omega)).2⟩, fun i hi j v hv => ?_⟩, fun n hn => h5 n (List.mem_of_mem_drop hn)⟩
  have hi1 : i < (l.drop k).length := hi
  have hi2 : k + i < l.length := by rw [List.length_drop] at hi1; omega
  have hj : j < 1 := (List.getElem?_eq_some_iff.1 hv).1
  have e : j = 0 := by omega
  subst e
  dsimp only at hv
  rw [List.getElem_drop] at hv
  have h6 := h4 (k + i) hi2 0 v hv
  have h7 : w.cell? ⟨b, o + (k + i) * 1 + 0, none⟩ = some v := h6
  show w.cell? ⟨b, o + k + i * 1 + 0, none⟩ = some v
  rw [← h7]
  congr 2
  omega
theorem put_tail {w1 : World} {base m : Nat} {v1 : Value} {x : Int} {l : List Int} {h : Hd} {W : World} (hown : w1.ownsRow base 3 1 v1 (1 + m) ([.int .i64 x] ++ l.flatMap icells)) (hx : int64 x) (hl : IL.In W ⟨h, l⟩) : ∃ g1 cap1, v1 = .slice (some ⟨g1, 0, none⟩) (m + 1) cap1 ∧ Hid (IL.In w1 ⟨⟨some ⟨g1, 0, none⟩, cap1⟩, x :: l⟩) := by
  rw [Nat.add_comm] at hown
  obtain ⟨r, hv, hr, hin⟩ := ilis_own (l := x :: l) hown (by intro n hn; rcases List.mem_cons.1 hn with rfl | hn; exact hx; exact hl.2 n hn)
  obtain ⟨g', cap', rfl⟩ := ownsRow_succ hown
  obtain ⟨⟨ao, cap⟩, rl⟩ := r
  dsimp only at hr hv
  subst hr
  injection hv with h1 h2 h3
  subst h1 h3
  exact ⟨g', cap', rfl, hide hin⟩
theorem il_cells2 {w : World} {b o cap : Nat} {l : List Int} (h : IL.In w ⟨⟨some ⟨b, o, none⟩, cap⟩, l⟩) : ∀ j u, (l.flatMap icells)[j]? = some u → w.cell? ((⟨b, o, none⟩ : Addr).add j) = some u := il_cells h

set_option maxRecDepth 100000 in
set_option maxHeartbeats 4000000 in
theorem fput_some (n₀ b o cap : Nat) (l : List Int) (x : Int) (w : World) (hM : IL.In w ⟨⟨some ⟨b, o, none⟩, cap⟩, l⟩) (h0 : 0 < l.length) (hl : l.length ≤ 1000) (hx : int64 x) (hn0 : n₀ ≤ w.heap.size) (hb0 : n₀ ≤ b) :
    Calls Tryd.prog 45 #[.slice (some ⟨b, o, none⟩) l.length cap, .int .i64 x] w fun e w' => (∃ v, e = .returned v ∧ ILf n₀ (putL l x) v w') ∧ Below w.heap.size w w' := by
  obtain ⟨i0, hi, hz0, hz1, hz2⟩ := info_parts info3
  have HI := hide (And.intro hi (And.intro hz0 (And.intro hz1 hz2)))
  have HX := hide hx
  have HM := hide hM
  have hcap : l.length ≤ cap := hM.1.1
  clear hi hz0 hz1 hz2 hx hM
  go_enter Tryd.func45, Tryd.ntmps45
  go_wp2
  go_loopw [5] (fun i wr => ∃ k : Nat, k ≤ l.length ∧ i = .int .i64 k ∧ Hid (∀ j (hj : j < l.length), j < k → l[j] < x) ∧ Hid (Below w.heap.size w wr)) (fun i _ => l.length - (intOf i).toNat)
  case atStart => exact ⟨0, by omega, rfl, hide (fun j _ h => absurd h (by omega)), hide (Below.refl _ _)⟩
  case round =>
    obtain ⟨k, hk, rfl, HO, HB⟩ := hrel
    have HIN := hide (HM.out.mono HB.out)
    have hcapi : (l.length : Int) ≤ cap := by omega
    have hki : (k : Int) ≤ l.length := by omega
    have hkc : (k : Int) ≤ cap := by omega
    by_cases hlt : k < l.length
    · have hlti : (k : Int) < l.length := by omega
      have hix : ∀ W, (Instr.indexAt 34 (.slice (some ⟨b, o, none⟩) l.length cap) (.int .i64 k)).run Tryd.prog W = .ok (.pointer (some ⟨b, o + k, none⟩)) W := fun W => by simpa [Hd.b, Hd.o] using HIN.out.1.ix hlt Tryd.underlying34 szil W
      have c0 : wr.cell? ⟨b, o + k, none⟩ = some (.int .i64 l[k]) := int_at HIN.out.1 hlt
      obtain ⟨y, hy⟩ : ∃ y, l[k] = y := ⟨_, rfl⟩
      rw [hy] at c0
      have HY := hide hy
      clear hy
      by_cases hyx : y < x
      · have hw1 : IntKind.i64.wrap ((k : Int) + 1) = ((k + 1 : Nat) : Int) := by rw [IntKind.wrap_i64]; omega
        go_wp2
        go_roundw
        case rel => exact ⟨k + 1, by omega, by go_num, hide (fun j hj h => if e : j = k then (by subst e; rw [HY.out]; exact hyx) else HO.out j hj (by omega)), HB⟩
        case measure => simp [intOf]; omega
      · have HPA := hide (putL_at l x k hk HO.out (fun h => by rw [HY.out]; omega))
        by_cases hye : y = x
        · subst hye
          have HF := hide (show ILf n₀ (putL l y) (.slice (some ⟨b, o, none⟩) l.length cap) wr from by
            rw [HPA.out, dif_pos hlt, if_pos HY.out]; exact ⟨⟨⟨some ⟨b, o, none⟩, cap⟩, l⟩, rfl, rfl, HIN.out, fun _ => hb0, fun e => by rw [e] at h0; simp at h0⟩)
          go_wp2
          go_ret
          exact ⟨⟨_, rfl, HF.out⟩, HB.out⟩
        · have HPE := hide (show putL l x = l.take k ++ [x] ++ l.drop k from by rw [HPA.out, dif_pos hlt, if_neg (fun e => hye (HY.out.symm.trans e))])
          have hxy : (y == x) = false := beq_eq_false_iff_ne.2 hye
          clear HPA
          have hmul : l.length - k + 1 ≤ 1001 := by omega
          go_wp2_with (at_builtin; first
            | (refine wpList_append_grows _ rfl _ _ 34 rfl 3 i0 (.int .i64 0) 1 8 Tryd.underlying34 HI.out.1 HI.out.2.1 HI.out.2.2.1 HI.out.2.2.2 rfl (by decide) (some ⟨wr.heap.size, 0, none⟩) 1 1 [.int .i64 x] rfl (by simp) rfl ?a1 ⟨b, o + k, none⟩ (l.length - k) (cap - k) ((l.drop k).flatMap icells) rfl ?a2 ?a3 (icells_one _) ?a4 ?a5 ?a6 ?_
               case a1 => (rintro _ ⟨rfl⟩; exact new_cells (l := [_]))
               case a2 => rw [icells_len, List.length_drop]; omega
               case a3 => exact il_cells2 (il_drop (HIN.out.mono (belA _)) hk)
               case a4 => omega
               case a5 => unfold maxLen; omega
               case a6 => omega
               intro v1 w1 hown1 hgr1
               have HG1 := hide (HB.out.trans (((belA _).trans ((below_grown hgr1).mono (by simp))).mono HB.out.size))
               obtain ⟨g1, cap1, hv1, HO1⟩ : ∃ g1 cap1, v1 = .slice (some ⟨g1, 0, none⟩) (l.length - k + 1) cap1 ∧ Hid (IL.In w1 ⟨⟨some ⟨g1, 0, none⟩, cap1⟩, x :: l.drop k⟩) := put_tail hown1 HX.out (il_drop HIN.out hk)
               subst hv1
               clear hown1 hgr1)
            | (refine wpList_append_grows _ rfl _ _ 34 rfl 3 i0 (.int .i64 0) 1 8 Tryd.underlying34 HI.out.1 HI.out.2.1 HI.out.2.2.1 HI.out.2.2.2 rfl (by decide) (some ⟨b, o, none⟩) k k ((l.take k).flatMap icells) rfl (by simp) ?b0 ?b1 ⟨g1, 0, none⟩ (l.length - k + 1) cap1 ((x :: l.drop k).flatMap icells) rfl ?b2 ?b3 (icells_one _) ?b4 ?b5 ?b6 ?_
               case b0 => rw [icells_len, List.length_take]; omega
               case b1 => (rintro _ ⟨rfl⟩; exact il_cells2 (il_take (HM.out.mono HG1.out) k))
               case b2 => rw [icells_len, List.length_cons, List.length_drop]; omega
               case b3 => exact il_cells2 HO1.out
               case b4 => omega
               case b5 => unfold maxLen; omega
               case b6 => omega
               intro v2 w2 hown2 hgr2
               have HG2 := hide (HG1.out.trans ((below_grown hgr2).mono HG1.out.size))
               have HO2 := hide hown2
               clear hown2 hgr2))
          have HF := hide (show ILf n₀ (putL l x) v2 w2 from by
            rw [HPE.out]
            refine ilf_own (base := w1.heap.size) (n := k + (l.length - k + 1)) (l := l.take k ++ [x] ++ l.drop k) ?_ ?_ (by have := HG1.out.size; omega) (by simp only [List.length_append, List.length_cons]; omega)
            · have := HO2.out
              rw [← List.flatMap_append] at this
              rw [List.append_assoc]; exact this
            · intro n hn
              rcases List.mem_append.1 hn with h | h
              · rcases List.mem_append.1 h with h | h
                · exact HM.out.2 n (List.mem_of_mem_take h)
                · simp at h; subst h; exact HX.out
              · exact HM.out.2 n (List.mem_of_mem_drop h))
          go_ret
          exact ⟨⟨_, rfl, HF.out⟩, HG2.out⟩
    · have hke : k = l.length := by omega
      subst hke
      have hlti : ¬ (l.length : Int) < l.length := by omega
      have HPE := hide (show putL l x = l ++ [x] from by rw [putL_at l x l.length (Nat.le_refl _) HO.out (fun h => absurd h (by omega)), dif_neg hlt])
      go_wp2_with (at_builtin; first
        | (refine wpList_append_zero rfl _ _ 34 rfl wr.heap.size 3 i0 1 Tryd.underlying34 HI.out.1 _ _ _ rfl own_new1 (some ⟨b, o + l.length, none⟩) (cap - l.length) (by first | rfl | (simp; done)) ?_)
        | (refine wpList_append_grows _ rfl _ _ 34 rfl 3 i0 (.int .i64 0) 1 8 Tryd.underlying34 HI.out.1 HI.out.2.1 HI.out.2.2.1 HI.out.2.2.2 rfl (by decide) (some ⟨b, o, none⟩) l.length l.length (l.flatMap icells) rfl (by simp) ?b0 ?b1 ⟨wr.heap.size, 0, none⟩ 1 1 [.int .i64 x] rfl rfl ?b3 one_int ?b4 ?b5 ?b6 ?_
           case b0 => rw [icells_len]; omega
           case b1 => (rintro _ ⟨rfl⟩; exact il_cells2 (HIN.out.mono (belA _)))
           case b3 => exact new_cells (l := [_])
           case b4 => omega
           case b5 => unfold maxLen; omega
           case b6 => omega
           intro v2 w2 hown2 hgr2
           have HG2 := hide (HB.out.trans (((belA _).trans ((below_grown hgr2).mono (by simp))).mono HB.out.size))
           have HO2 := hide hown2
           clear hown2 hgr2))
      all_goals
        have HF := hide (show ILf n₀ (putL l x) v2 w2 from by
          rw [HPE.out]
          refine ilf_own (n := l.length + 1) (l := l ++ [x]) (by rw [flat_snoc]; exact HO2.out) ?_ (by have := HB.out.size; simp; omega) (by simp)
          intro n hn
          rcases List.mem_append.1 hn with h | h
          · exact HM.out.2 n h
          · simp at h; subst h; exact HX.out)
        go_ret
        exact ⟨⟨_, rfl, HF.out⟩, HG2.out⟩
/-- At any list whose header is nil if it is empty. -/
theorem fput_any (n₀ : Nat) (M : IL) (x : Int) (w : World) (hM : M.In w) (hn : M.l = [] → M.h = nilHd) (hl : M.l.length ≤ 1000) (hx : int64 x) (hn0 : n₀ ≤ w.heap.size) (hb0 : 0 < M.l.length → n₀ ≤ M.h.b) :
    Calls Tryd.prog 45 #[.slice M.h.ao M.l.length M.h.cap, .int .i64 x] w fun e w' => (∃ v, e = .returned v ∧ ILf n₀ (putL M.l x) v w') ∧ Below w.heap.size w w' := by
  obtain ⟨⟨ao, cap⟩, l⟩ := M
  cases l with
  | nil =>
    have h := hn rfl
    injection h with h1 h2
    subst h1 h2
    exact fput_nil n₀ x w hx hn0
  | cons a r =>
    have h := (hM.1.2.2.1 (by simp)).1
    dsimp only at h
    obtain ⟨ad, had⟩ : ∃ ad : Addr, ao = some ad := ⟨_, h⟩
    subst had
    injection h with h
    have hb2 := hb0 (by simp)
    rw [h]
    rw [h] at hM
    exact fput_some n₀ _ _ cap (a :: r) x w hM (by simp) hl hx hn0 hb2
end Go.Proofs.YtlkhiihehaiinaaDoor

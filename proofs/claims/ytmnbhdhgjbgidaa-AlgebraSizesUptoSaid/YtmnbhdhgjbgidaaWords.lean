/- Rows of strings; law04.words: whether two lists of strings are equal; ref04.insert. -/
import Derived.Test.YtmnbhdhgjbgidaaTabsPlain
import Derived.Test.YtmnbhdhgjbgidaaASizeT
import Derived.Sort.Walk0
import Derived.Sort.EncStr
namespace Go.Proofs.Ytmnbhdhgjbgidaa
open Go.RowKit

abbrev scells (x : Str) : List Value := [.string ⟨x.toArray⟩]
theorem szstr : (Try.prog.info? 9).map (·.size) = some 1 := by kernel_rfl
theorem info_str : (Try.prog.info? 9).map (fun i => (i.zero, i.size, i.bytes)) = some (some (.string ByteArray.empty), 1, 16) := by kernel_rfl
structure SL where
  h : Hd
  l : List Str
def SL.In (w : World) (x : SL) : Prop := Row w 1 scells x.h x.l
theorem SL.In.mono {w w' : World} {x : SL} (h : x.In w) (hb : Below w.heap.size w w') : x.In w' := Row.mono h hb
theorem SL.ix {w : World} {x : SL} (hx : x.In w) {i : Nat} (hi : i < x.l.length) : ∀ W, (Instr.indexAt 52 (.slice x.h.ao x.l.length x.h.cap) (.int .i64 (i : Int))).run Try.prog W = .ok (.pointer (some ⟨x.h.b, x.h.o + i, none⟩)) W := by
  have := Row.ix hx hi Try.underlying52 szstr
  simpa using this
theorem str_at {w : World} {x : SL} (hx : x.In w) {i : Nat} (hi : i < x.l.length) : w.cell? ⟨x.h.b, x.h.o + i, none⟩ = some (.string ⟨x.l[i].toArray⟩) := by
  have := hx.2.2.2 i hi 0 _ rfl
  simpa using this
theorem ba_list (x : Str) : (⟨x.toArray⟩ : ByteArray).toList = x := by rw [Lib.toList_data]
theorem sc_len (x : Str) : (scells x).length = 1 := rfl
theorem sc_ones {l : List Str} : ∀ u ∈ l.flatMap scells, u.oneCell' = true := by
  intro u hu
  obtain ⟨x, _, hx⟩ := List.mem_flatMap.1 hu
  rw [List.mem_singleton.1 hx]; rfl
theorem sc_map (l : List Str) : l.flatMap scells = l.map encStr := by
  induction l with
  | nil => rfl
  | cons x l ih => rw [List.flatMap_cons, ih]; rfl

set_option maxHeartbeats 400000 in
theorem words_any (a b : SL) (w : World) (ha : a.In w) (hb : b.In w) :
    Calls Try.prog 30 #[.slice a.h.ao a.l.length a.h.cap, .slice b.h.ao b.l.length b.h.cap] w fun e w' => e = .returned (.bool (decide (a.l = b.l))) ∧ Below w.heap.size w w' := by
  have hna := Row.len ha
  have hnb := Row.len hb
  by_cases hl : a.l.length = b.l.length
  · have hl' : (((a.l.length : Nat) : Int) != ((b.l.length : Nat) : Int)) = false := by simp [hl]
    have HL := hide hl
    clear hl
    go_enter Try.func30, Try.ntmps30
    go_wp2
    clear hl'
    go_loopw [5] (fun i wr => ∃ k : Nat, k ≤ a.l.length ∧ i = .int .i64 k ∧ (∀ j (ha : j < a.l.length) (hb : j < b.l.length), j < k → a.l[j] = b.l[j]) ∧ Below w.heap.size w wr) (fun i _ => a.l.length - (intOf i).toNat)
    case atStart => exact ⟨0, Nat.zero_le _, rfl, fun j _ _ h => absurd h (by omega), Below.refl _ _⟩
    case round =>
      obtain ⟨k, hk, rfl, hno, hbw⟩ := hrel
      have HN := hide hno
      have HB := hide hbw
      have ha' := ha.mono hbw
      have hb' := hb.mono hbw
      clear hno hbw
      by_cases hlt : k < a.l.length
      · have hltb : k < b.l.length := by rw [← HL.out]; exact hlt
        have hix := SL.ix ha' hlt
        have hjx := SL.ix hb' hltb
        have c0 := str_at ha' hlt
        have d0 := str_at hb' hltb
        by_cases hp : a.l[k] = b.l[k]
        · have hp' : (a.l[k] == b.l[k]) = true := by simp [hp]
          have HP := hide hp
          clear hp
          go_wp2
          go_quiet (fail)
          go_wp2
          go_roundw
          case rel =>
            refine ⟨k + 1, by omega, by go_num, fun j hj hj2 h => ?_, below_drewN HB.out _⟩
            by_cases e : j = k
            · subst e; exact HP.out
            · exact HN.out j hj hj2 (by omega)
          case measure => simp [intOf]; omega
        · have hp' : (a.l[k] == b.l[k]) = false := by simpa using hp
          have HP := hide hp
          clear hp
          go_wp2
          go_quiet (fail)
          go_wp2
          go_ret
          exact ⟨retb (decide_eq_false (ne_of_at hlt hltb HP.out)).symm, below_drewN HB.out _⟩
      · go_wp2
        go_ret
        exact ⟨retb (decide_eq_true (eq_of_all HL.out (fun j h1 h2 => HN.out j h1 h2 (by omega)))).symm, HB.out⟩
  · have hl' : (((a.l.length : Nat) : Int) != ((b.l.length : Nat) : Int)) = true := by simp; omega
    have HL := hide hl
    clear hl
    go_enter Try.func30, Try.ntmps30
    go_wp2
    go_ret
    exact ⟨retb (decide_eq_false (fun e => HL.out (by rw [e]))).symm, Below.refl _ _⟩

theorem sl_mk {w : World} {base : Nat} {v : Value} {n : Nat} {xs : List Str} {e : TypeId} (h : w.ownsRow base e 1 v n (xs.flatMap scells)) : ∃ r : SL, v = .slice r.h.ao r.l.length r.h.cap ∧ r.l = xs ∧ r.In w := by
  obtain ⟨hd, rfl, hr⟩ := own_row (size := 1) (cells := scells) (fun _ => rfl) (by decide) h
  exact ⟨⟨hd, xs⟩, rfl, rfl, hr⟩

set_option maxRecDepth 100000 in
set_option maxHeartbeats 2000000 in
theorem insert_any (a : SL) (s : Str) (w : World) (ha : a.In w) (hn : a.l.length ≤ 1048576) :
    Calls Try.prog 61 #[.slice a.h.ao a.l.length a.h.cap, .string ⟨s.toArray⟩] w fun e w' => (∃ r : SL, e = .returned (.slice r.h.ao r.l.length r.h.cap) ∧ r.l = ins a.l s ∧ r.In w') ∧ Below w.heap.size w w' := by
  obtain ⟨i0, hi, hz0, hz1, hz2⟩ := info_parts info_str
  have HI := hide (And.intro hi (And.intro hz0 (And.intro hz1 hz2)))
  clear hi hz0 hz1 hz2
  go_enter Try.func61, Try.ntmps61
  go_wp2
  go_loopw [5] (fun i wr => ∃ k : Nat, k ≤ a.l.length ∧ i = .int .i64 k ∧ (∀ j (hj : j < a.l.length), j < k → a.l[j] < s) ∧ Below w.heap.size w wr) (fun i _ => a.l.length - (intOf i).toNat)
  case atStart => exact ⟨0, Nat.zero_le _, rfl, fun j _ h => absurd h (by omega), Below.refl _ _⟩
  case round =>
    obtain ⟨k, hk, rfl, hno, hbw⟩ := hrel
    replace ha := ha.mono hbw
    have HB := hide hbw
    clear hbw
    have HN := hide hno
    clear hno
    by_cases hlt : k < a.l.length
    · have hlti : (k : Int) < a.l.length := by omega
      have hix := SL.ix ha hlt
      have c0 := str_at ha hlt
      by_cases hp : a.l[k] < s
      · have hp' : Op.bytesLess a.l[k] s = true := by rw [bytesLess_eq]; simpa using hp
        have HP := hide hp
        clear hp
        go_wp2
        go_roundw
        case rel =>
          refine ⟨k + 1, by omega, by go_num, fun j hj h => ?_, HB.out⟩
          by_cases e : j = k
          · subst e; exact HP.out
          · exact HN.out j hj (by omega)
        case measure => simp [intOf]; omega
      · have hp' : Op.bytesLess a.l[k] s = false := by rw [bytesLess_eq]; simpa using hp
        have HI2 := hide (ins_at hk HN.out (fun _ => hp))
        clear hp
        by_cases hs : a.l[k] = s
        · have hs' : (a.l[k] == s) = true := by simp [hs]
          have HS := hide (show ins a.l s = a.l by rw [HI2.out, dif_pos hlt, if_pos hs])
          clear hs
          go_wp2
          go_ret
          exact ⟨⟨a, rfl, HS.out.symm, ha⟩, HB.out⟩
        · have hs' : (a.l[k] == s) = false := by simpa using hs
          have HS := hide (show ins a.l s = a.l.take k ++ s :: a.l.drop k by rw [HI2.out, dif_pos hlt, if_neg hs])
          clear hs
          obtain ⟨hao, hnw⟩ := row_news sc_len (by decide) ha (by omega)
          have HK1 := hide (show ∀ j u, ((a.l.take k).flatMap scells)[j]? = some u → wr.cell? ((⟨a.h.b, a.h.o, none⟩ : Addr).add j) = some u from fun j u hj => hnw j u (by
            rw [← List.take_append_drop k a.l, List.flatMap_append, List.getElem?_append_left (List.getElem?_eq_some_iff.1 hj).1]; exact hj))
          have HK2 := hide (show ∀ W, Below wr.heap.size wr W → ∀ j u, ((a.l.drop k).flatMap scells)[j]? = some u → W.cell? ((⟨a.h.b, a.h.o + k, none⟩ : Addr).add j) = some u from fun W hW j u hj => by
            have h1 : (a.l.flatMap scells)[k + j]? = some u := by
              rw [← List.take_append_drop k a.l, List.flatMap_append, List.getElem?_append_right (by rw [flatMap_len sc_len, List.length_take]; omega)]
              rw [show k + j - ((a.l.take k).flatMap scells).length = j by rw [flatMap_len sc_len, List.length_take]; omega]
              exact hj
            have h2 := hnw (k + j) u h1
            rw [Addr.add_lit] at h2
            rw [Addr.add_lit, Nat.add_assoc, hW.cell (p := ⟨a.h.b, a.h.o + (k + j), none⟩) (Row.blk ha hlt)]
            exact h2)
          have hkc : ¬ k = a.h.cap := by have := ha.1; omega
          have hkc' : ¬ a.h.cap = k := by omega
          have hkc2 : k < a.h.cap := by have := ha.1; omega
          have hcl := ha.1
          by_cases hk0 : k = 0
          · have H0 := hide hk0
            clear hk0
            go_wp2_with (first | (at_builtin; refine wpList_append_zero rfl (.tmp 34) (.tmp 37) 52 rfl wr.heap.size 9 i0 1 Try.underlying52 HI.out.1 _ _ _ rfl (World.ownsRow_nil _ _ _ _) _ _ (congrArg (fun n => Value.slice (some ⟨a.h.b, a.h.o, none⟩) n a.h.cap) H0.out) ?_) | (at_builtin; refine wpList_append_own _ rfl (.tmp 39) (.tmp 41) 52 rfl wr.heap.size 9 i0 (.string ByteArray.empty) 1 16 Try.underlying52 HI.out.1 HI.out.2.1 HI.out.2.2.1 HI.out.2.2.2 rfl (by decide) _ _ _ rfl (World.ownsRow_nil _ _ _ _) ⟨wr.heap.size, 0, none⟩ 1 1 [.string ⟨s.toArray⟩] rfl rfl (new_cells (l := [_])) (by intro u hu; rw [List.mem_singleton.1 hu]; rfl) (by unfold maxLen; omega) (by omega) (by simp) ?_; intro v2 w2 hown2 hgrow2 _; have HB2 := hide (grown1 (Below.refl _ _) (Nat.le_refl _) hgrow2 (fun b hb => by cases hb)) ) | (at_builtin; refine wpList_append_own _ rfl (.tmp 43) (.tmp 46) 52 rfl wr.heap.size 9 i0 (.string ByteArray.empty) 1 16 Try.underlying52 HI.out.1 HI.out.2.1 HI.out.2.2.1 HI.out.2.2.2 rfl (by decide) _ _ _ rfl hown2 ⟨a.h.b, a.h.o + k, none⟩ (a.l.length - k) (a.h.cap - k) ((a.l.drop k).flatMap scells) rfl (by simp [flatMap_len sc_len]) (HK2.out _ HB2.out) sc_ones (by unfold maxLen; omega) (by omega) (Nat.le_trans (Nat.le_of_eq rfl) HB2.out.size) ?_; intro v3 w3 hown3 hgrow3 _))
            have HB3 := hide (HB2.out.grown hgrow3 HB2.out.size (fun b hb => (hown2.lt b hb).1))
            have HO3 := hide hown3
            clear hown3 hgrow3
            go_ret
            have ho := HO3.out
            rw [show [] ++ [Value.string ⟨s.toArray⟩] ++ (a.l.drop k).flatMap scells = (ins a.l s).flatMap scells by rw [HS.out, List.flatMap_append, List.flatMap_cons]; rw [H0.out]; simp] at ho
            obtain ⟨r, hv, hr, hin2⟩ := sl_mk ho
            exact ⟨⟨r, congrArg Ending.returned hv, hr, hin2⟩, bel_trans HB.out HB3.out⟩
          · go_wp2_with (first | (at_builtin; refine wpList_append_own _ rfl (.tmp 34) (.tmp 37) 52 rfl wr.heap.size 9 i0 (.string ByteArray.empty) 1 16 Try.underlying52 HI.out.1 HI.out.2.1 HI.out.2.2.1 HI.out.2.2.2 rfl (by decide) _ _ _ rfl (World.ownsRow_nil _ _ _ _) ⟨a.h.b, a.h.o, none⟩ k a.h.cap ((a.l.take k).flatMap scells) rfl (by simp [flatMap_len sc_len]; omega) HK1.out sc_ones (by unfold maxLen; omega) (by omega) (Nat.le_refl _) ?_; intro v1 w1 hown1 hgrow1 _; have HB1 := hide ((Below.refl _ _).grown hgrow1 (Nat.le_refl _) (fun b hb => by cases hb)); clear hgrow1; have hs1 := HB1.out.size) | (at_builtin; refine wpList_append_own _ rfl (.tmp 39) (.tmp 41) 52 rfl wr.heap.size 9 i0 (.string ByteArray.empty) 1 16 Try.underlying52 HI.out.1 HI.out.2.1 HI.out.2.2.1 HI.out.2.2.2 rfl (by decide) _ _ _ rfl (hown1.alloc _) ⟨w1.heap.size, 0, none⟩ 1 1 [.string ⟨s.toArray⟩] rfl rfl (new_cells (l := [_])) (by intro u hu; rw [List.mem_singleton.1 hu]; rfl) (by unfold maxLen; omega) (by omega) (by simp; omega) ?_; intro v2 w2 hown2 hgrow2 _; have HB2 := hide (grown1 HB1.out hs1 hgrow2 (fun b hb => (hown1.lt b hb).1)) ) | (at_builtin; refine wpList_append_own _ rfl (.tmp 43) (.tmp 46) 52 rfl wr.heap.size 9 i0 (.string ByteArray.empty) 1 16 Try.underlying52 HI.out.1 HI.out.2.1 HI.out.2.2.1 HI.out.2.2.2 rfl (by decide) _ _ _ rfl hown2 ⟨a.h.b, a.h.o + k, none⟩ (a.l.length - k) (a.h.cap - k) ((a.l.drop k).flatMap scells) rfl (by simp [flatMap_len sc_len]) (HK2.out _ HB2.out) sc_ones (by unfold maxLen; omega) (by omega) (Nat.le_trans (Nat.le_of_eq rfl) HB2.out.size) ?_; intro v3 w3 hown3 hgrow3 _))
            have HB3 := hide (HB2.out.grown hgrow3 HB2.out.size (fun b hb => (hown2.lt b hb).1))
            have HO3 := hide hown3
            clear hown3 hgrow3
            go_ret
            have ho := HO3.out
            rw [show [] ++ (a.l.take k).flatMap scells ++ [Value.string ⟨s.toArray⟩] ++ (a.l.drop k).flatMap scells = (ins a.l s).flatMap scells by rw [HS.out, List.flatMap_append, List.flatMap_cons]; simp] at ho
            obtain ⟨r, hv, hr, hin2⟩ := sl_mk ho
            exact ⟨⟨r, congrArg Ending.returned hv, hr, hin2⟩, bel_trans HB.out HB3.out⟩
    · have hke : k = a.l.length := by omega
      subst hke
      have HS := hide (show ins a.l s = a.l ++ [s] by rw [ins_at hk HN.out (fun h => absurd h hlt), dif_neg hlt])
      have hcl := ha.1
      by_cases h0 : a.l.length = 0
      · have H0 := hide h0
        clear h0
        go_wp2_with (first | (at_builtin; refine wpList_append_zero rfl (.tmp 34) (.tmp 37) 52 rfl wr.heap.size 9 i0 1 Try.underlying52 HI.out.1 _ _ _ rfl (World.ownsRow_nil _ _ _ _) _ _ (congrArg (fun n => Value.slice a.h.ao n a.h.cap) H0.out) ?_) | (at_builtin; refine wpList_append_own _ rfl (.tmp 39) (.tmp 41) 52 rfl wr.heap.size 9 i0 (.string ByteArray.empty) 1 16 Try.underlying52 HI.out.1 HI.out.2.1 HI.out.2.2.1 HI.out.2.2.2 rfl (by decide) _ _ _ rfl (World.ownsRow_nil _ _ _ _) ⟨wr.heap.size, 0, none⟩ 1 1 [.string ⟨s.toArray⟩] rfl rfl (new_cells (l := [_])) (by intro u hu; rw [List.mem_singleton.1 hu]; rfl) (by unfold maxLen; omega) (by omega) (by simp) ?_; intro v2 w2 hown2 hgrow2 _; have HB2 := hide (grown1 (Below.refl _ _) (Nat.le_refl _) hgrow2 (fun b hb => by cases hb))) | (at_builtin; refine wpList_append_zero rfl (.tmp 43) (.tmp 46) 52 rfl wr.heap.size 9 i0 1 Try.underlying52 HI.out.1 _ _ _ rfl hown2 _ _ rfl ?_))
        all_goals
          go_ret
          have ho := hown2
          rw [show [] ++ [Value.string ⟨s.toArray⟩] = (ins a.l s).flatMap scells by rw [HS.out, List.flatMap_append]; rw [List.eq_nil_of_length_eq_zero H0.out]; simp] at ho
          obtain ⟨r, hv, hr, hin2⟩ := sl_mk ho
          exact ⟨⟨r, congrArg Ending.returned hv, hr, hin2⟩, bel_trans HB.out HB2.out⟩
      · obtain ⟨hao, hnw⟩ := row_news sc_len (by decide) ha (by omega)
        go_wp2_with (first | (at_builtin; refine wpList_append_own _ rfl (.tmp 34) (.tmp 37) 52 rfl wr.heap.size 9 i0 (.string ByteArray.empty) 1 16 Try.underlying52 HI.out.1 HI.out.2.1 HI.out.2.2.1 HI.out.2.2.2 rfl (by decide) _ _ _ rfl (World.ownsRow_nil _ _ _ _) ⟨a.h.b, a.h.o, none⟩ a.l.length a.h.cap (a.l.flatMap scells) rfl (flatMap_len sc_len _) hnw sc_ones (by unfold maxLen; omega) (by omega) (Nat.le_refl _) ?_; intro v1 w1 hown1 hgrow1 _; have HB1 := hide ((Below.refl _ _).grown hgrow1 (Nat.le_refl _) (fun b hb => by cases hb)); clear hgrow1; have hs1 := HB1.out.size) | (at_builtin; refine wpList_append_own _ rfl (.tmp 39) (.tmp 41) 52 rfl wr.heap.size 9 i0 (.string ByteArray.empty) 1 16 Try.underlying52 HI.out.1 HI.out.2.1 HI.out.2.2.1 HI.out.2.2.2 rfl (by decide) _ _ _ rfl (hown1.alloc _) ⟨w1.heap.size, 0, none⟩ 1 1 [.string ⟨s.toArray⟩] rfl rfl (new_cells (l := [_])) (by intro u hu; rw [List.mem_singleton.1 hu]; rfl) (by unfold maxLen; omega) (by omega) (by simp; omega) ?_; intro v2 w2 hown2 hgrow2 _; have HB2 := hide (grown1 HB1.out hs1 hgrow2 (fun b hb => (hown1.lt b hb).1))) | (at_builtin; refine wpList_append_zero rfl (.tmp 43) (.tmp 46) 52 rfl wr.heap.size 9 i0 1 Try.underlying52 HI.out.1 _ _ _ rfl hown2 _ _ rfl ?_))
        all_goals
          go_ret
          have ho := hown2
          rw [show [] ++ a.l.flatMap scells ++ [Value.string ⟨s.toArray⟩] = (ins a.l s).flatMap scells by rw [HS.out, List.flatMap_append]; simp] at ho
          obtain ⟨r, hv, hr, hin2⟩ := sl_mk ho
          exact ⟨⟨r, congrArg Ending.returned hv, hr, hin2⟩, bel_trans HB.out HB2.out⟩

end Go.Proofs.Ytmnbhdhgjbgidaa

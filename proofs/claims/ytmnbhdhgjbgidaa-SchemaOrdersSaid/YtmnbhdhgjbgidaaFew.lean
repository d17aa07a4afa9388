/- law03.Few. -/
import Derived.Test.YtmnbhdhgjbgidaaSize
import Derived.Test.YtmnbhdhgjbgidaaFind2
import Derived.Test.YtmnbhdhgjbgidaaTarget
namespace Go.Proofs.Ytmnbhdhgjbgidaa
open Go.RowKit

structure FewT (t : Tab) : Prop where
  c : t.cols.length ≤ 20
  p : t.prim.l.length ≤ 20
  u : t.uniqs.length ≤ 8
  f : t.fors.length ≤ 8
  k : t.checks.length ≤ 8
structure FewS (s : Sch) : Prop where
  n : s.tabs.length ≤ 10
  t : ∀ t ∈ s.tabs, FewT t

theorem sz32 : (Try.prog.info? 31).map (·.size) = some 1 := by kernel_rfl
theorem few_end {s : Sch} {k : Nat} (h : ∀ j (hj : j < s.tabs.length), j < k → FewT s.tabs[j]) (hk : s.tabs.length ≤ k) : ∀ t ∈ s.tabs, FewT t := by
  intro t ht
  obtain ⟨i, hi, rfl⟩ := List.getElem_of_mem ht
  exact h i hi (by omega)

set_option maxRecDepth 100000 in
set_option maxHeartbeats 2000000 in
theorem few_any (s : Sch) (w : World) (hin : s.In w) :
    Calls Try.prog 8 #[.agg #[.slice s.th.ao s.tabs.length s.th.cap]] w fun e w' => BoolPost (FewS s) e ∧ Below w.heap.size w w' := by
  have hn := hin.rt.len
  by_cases h1 : 10 < (s.tabs.length : Int)
  · go_enter Try.func8, Try.ntmps8
    go_wp2
    go_ret
    exact ⟨bp_false, belA _⟩
  go_enter Try.func8, Try.ntmps8
  go_wp2
  go_loopw [3] (fun i wr => ∃ k : Nat, k ≤ s.tabs.length ∧ i = .int .i64 k ∧ (∀ j (hj : j < s.tabs.length), j < k → FewT s.tabs[j]) ∧ Below (w.heap.size + 1) (w.alloc (.cells #[.slice s.th.ao s.tabs.length s.th.cap] 24)) wr) (fun i _ => s.tabs.length - (intOf i).toNat)
  case atStart => exact ⟨0, Nat.zero_le _, rfl, fun j _ h => absurd h (by omega), Below.refl _ _⟩
  case round =>
    obtain ⟨k, hk, rfl, hno, hbw0⟩ := hrel
    have hbw : Below w.heap.size w wr := (belA _).trans (hbw0.mono (by omega))
    have HB := hide hbw
    have HB0 := hide hbw0
    have HN := hide hno
    have hin' := hin.mono hbw
    have hbox : wr.cell? ⟨w.heap.size, 0, none⟩ = some (.slice s.th.ao s.tabs.length s.th.cap) := by rw [hbw0.cell (by simp)]; simp [go_sem]
    have hszl : w.heap.size + 1 ≤ wr.heap.size := by have := hbw0.size; simpa using this
    clear hbw0 hbw hno
    by_cases hlt : k < s.tabs.length
    · have hix := hin'.rt.ix hlt Try.underlying22 sz22
      obtain ⟨c0, c1, c2, c3, c4, c5⟩ := tab_at hin'.rt hlt
      have htin := hin'.ts _ (List.getElem_mem hlt)
      obtain ⟨x, hx⟩ : ∃ x : Tab, x = s.tabs[k] := ⟨_, rfl⟩
      rw [← hx] at c0 c1 c2 c3 c4 c5 htin
      have HX := hide hx
      clear hx
      have hl1 := htin.rc.len
      have hl2 := htin.rp.1.len
      have hl3 := htin.ru.len
      have hl4 := htin.rf.len
      have hl5 := htin.rk.len
      by_cases g1 : 20 < (x.cols.length : Int)
      · go_wp2
        go_ret
        exact ⟨bp_false, HB.out.trans ((belA _).mono HB.out.size)⟩
      by_cases g2 : 20 < (x.prim.l.length : Int)
      · go_wp2
        go_ret
        exact ⟨bp_false, HB.out.trans ((belA _).mono HB.out.size)⟩
      by_cases g3 : 8 < (x.uniqs.length : Int)
      · go_wp2
        go_ret
        exact ⟨bp_false, HB.out.trans ((belA _).mono HB.out.size)⟩
      by_cases g4 : 8 < (x.fors.length : Int)
      · go_wp2
        go_ret
        exact ⟨bp_false, HB.out.trans ((belA _).mono HB.out.size)⟩
      by_cases g5 : 8 < (x.checks.length : Int)
      · go_wp2
        go_ret
        exact ⟨bp_false, HB.out.trans ((belA _).mono HB.out.size)⟩
      obtain ⟨wo, rfl⟩ : ∃ wo : World, wo = wr := ⟨_, rfl⟩
      go_wp2
      go_loopw [5] (fun i wr => ∃ j : Nat, j ≤ x.checks.length ∧ i = .int .i64 j ∧ Below (wo.heap.size + 1) (wo.alloc (.cells #[.string x.name, .slice x.ch.ao x.cols.length x.ch.cap, .slice x.prim.h.ao x.prim.l.length x.prim.h.cap, .slice x.uh.ao x.uniqs.length x.uh.cap, .slice x.fh.ao x.fors.length x.fh.cap, .slice x.kh.ao x.checks.length x.kh.cap] 36)) wr) (fun i _ => x.checks.length - (intOf i).toNat)
      case atStart => exact ⟨0, Nat.zero_le _, rfl, Below.refl _ _⟩
      case round =>
        obtain ⟨j, hj, rfl, hcw0⟩ := hrel
        have hcw : Below wo.heap.size wo wr := (belA _).trans (hcw0.mono (by omega))
        have HC := hide hcw
        have HC0 := hide hcw0
        have htin' := htin.mono hcw
        have tb5 : wr.cell? ⟨wo.heap.size, 5, none⟩ = some (.slice x.kh.ao x.checks.length x.kh.cap) := by rw [hcw0.cell (by simp)]; simp [go_sem]
        have tb4 : wr.cell? ⟨wo.heap.size, 4, none⟩ = some (.slice x.fh.ao x.fors.length x.fh.cap) := by rw [hcw0.cell (by simp)]; simp [go_sem]
        have tb3 : wr.cell? ⟨wo.heap.size, 3, none⟩ = some (.slice x.uh.ao x.uniqs.length x.uh.cap) := by rw [hcw0.cell (by simp)]; simp [go_sem]
        have hszc : wo.heap.size + 1 ≤ wr.heap.size := by have := hcw0.size; simpa using this
        clear hcw0 hcw c0 c1 c2 c3 c4 c5 hbox hix
        by_cases hjt : j < x.checks.length
        · have hjx := htin'.rk.ix hjt Try.underlying34 sz41
          obtain ⟨d0, d1, d2, d3, d4, d5⟩ := ex_at htin'.rk hjt
          have hkin := hide (htin'.ks _ (List.getElem_mem hjt))
          go_wp2_with (go_at_call 33; refine (eFew_any _ _ hkin.out).mono ?_; rintro r w1 ⟨⟨b, rfl, -⟩, hb1⟩; have HB1 := hide hb1; clear hb1)
          · go_ret
            exact ⟨bp_false, HB.out.trans ((bel_trans HC.out HB1.out).mono HB.out.size)⟩
          · go_roundw
            case rel => exact ⟨j + 1, by omega, by go_num, HC0.out.trans (HB1.out.mono hszc)⟩
            case measure => simp [intOf]; omega
        · go_wp2
          go_loop [6] (fun i => ∃ j : Nat, j ≤ x.fors.length ∧ i = .int .i64 j) (fun i => x.fors.length - (intOf i).toNat)
          case atStart => exact ⟨0, Nat.zero_le _, rfl⟩
          case round =>
            obtain ⟨a, hja, rfl⟩ := hrel
            by_cases hat : a < x.fors.length
            · have hjx := htin'.rf.ix hat Try.underlying33 sz61
              obtain ⟨d0, d1⟩ := frn_at htin'.rf hat
              have hfl := (htin'.fs _ (List.getElem_mem hat)).1.1.len
              by_cases g6 : 20 < (x.fors[a].cols.l.length : Int)
              · go_wp2
                go_ret
                exact ⟨bp_false, HB.out.trans (HC.out.mono HB.out.size)⟩
              · go_wp2
                go_round
                case rel => exact ⟨a + 1, by omega, by go_num⟩
                case measure => simp [intOf]; omega
            · go_wp2
              go_loop [7] (fun i => ∃ j : Nat, j ≤ x.uniqs.length ∧ i = .int .i64 j) (fun i => x.uniqs.length - (intOf i).toNat)
              case atStart => exact ⟨0, Nat.zero_le _, rfl⟩
              case round =>
                obtain ⟨b, hjb, rfl⟩ := hrel
                by_cases hbt : b < x.uniqs.length
                · have hjx := htin'.ru.ix hbt Try.underlying32 sz32
                  have d0 := il_at htin'.ru hbt
                  have hfl := (htin'.us _ (List.getElem_mem hbt)).1.len
                  simp only [Nat.mul_one] at hjx
                  by_cases g7 : 20 < (x.uniqs[b].l.length : Int)
                  · go_wp2
                    go_ret
                    exact ⟨bp_false, HB.out.trans (HC.out.mono HB.out.size)⟩
                  · go_wp2
                    go_round
                    case rel => exact ⟨b + 1, by omega, by go_num⟩
                    case measure => simp [intOf]; omega
                · go_wp2
                  go_roundw
                  case rel =>
                    refine ⟨k + 1, by omega, by go_num, fun j hj h => ?_, HB0.out.trans (HC.out.mono hszl)⟩
                    by_cases e : j = k
                    · subst e; rw [← HX.out]; exact ⟨by omega, by omega, by omega, by omega, by omega⟩
                    · exact HN.out j hj (by omega)
                  case measure => simp [intOf]; omega
    · go_wp2
      go_ret
      exact ⟨bp_true ⟨by omega, few_end HN.out (by omega)⟩, HB.out⟩

end Go.Proofs.Ytmnbhdhgjbgidaa

/- The walk of law04.AlgebraDeep: true for every n. -/
import Derived.Test.YtmnbhdhgjbgidaaDoorDeepT
namespace Go.Proofs.YtmnbhdhgjbgidaaDoor
open Go.RowKit

set_option maxRecDepth 100000 in
set_option maxHeartbeats 4000000 in
theorem deep_walk (m : Nat) (hm : m ≤ 255) (w : World) (hf : FormsAt w) (hsh : w.ShapedOpen Tryd.prog) :
    Calls Tryd.prog 6 #[.int .u8 (m : Nat)] w fun e w' => e = .returned (.bool true) ∧ Below w.heap.size w w' := by
  obtain ⟨K, hk, hkl⟩ : ∃ K : Nat, (m : Int).tmod 30 = (K : Int) ∧ K ≤ 29 := ⟨m % 30, by rw [Int.tmod_eq_emod_of_nonneg (by omega)]; omega, by omega⟩
  have hwr : IntKind.i64.wrap (m : Int) = (m : Int) := by simp [IntKind.wrap, IntKind.signed, IntKind.bits]; omega
  have HT := hide (show TapeIn (w.alloc (.cells #[.slice none 0 0, .int .i64 0] 25)) w.heap.size E0 0 from ⟨(Box.new w _ _).cell (j := 0) rfl, (Box.new w _ _).cell (j := 1) rfl, (Box.new w _ _).fr 1, ⟨Row.nil _ _ _, fun n h => by cases h⟩, fun h => by cases h⟩)
  have HF := hide hf
  have HSH := hide hsh
  clear hf hsh
  go_enter Tryd.func6, Tryd.ntmps6
  go_wp2_with (first
    | (go_at_call 7; refine (schema_zero _ w.heap.size 0 HT.out (by omega)).mono ?_; rintro e w2 ⟨⟨s, tb, rfl, hs, htb, hnm, hcl⟩, hg⟩; have HS := hide hs; have HTB := hide htb; have HNM := hide hnm; have HCL := hide hcl; have HB2 := hide (grown1 (B := w.heap.size) (Below.refl _ _) (Nat.le_refl _) hg (fun k hk => by injection hk with hk; omega)); clear hs htb hnm hcl hg))
  have HB3 := hide (HB2.out.trans ((belA (.cells #[.slice s.th.ao s.tabs.length s.th.cap] 28)).mono HB2.out.size))
  go_loopw [6] (fun i wr => ∃ (j : Nat) (q : Qu), i = .int .i64 j ∧ j ≤ K ∧ Hid (Chain j q) ∧ Hid (FarIn (w2.heap.size + 1) q.In wr) ∧ Hid (Box wr (w2.heap.size + 1) #[.int .i64 q.op, .string q.table, .int .i64 q.kind, .bool q.all, .int .i64 q.cond.op, .int .i64 q.cond.typ, .int .i64 q.cond.num, .string q.cond.text, .int .i64 q.cond.col, .slice q.cond.kh.ao q.cond.kids.length q.cond.kh.cap, .slice q.eh.ao q.exprs.length q.eh.cap, .slice q.ah.ao q.aggs.length q.ah.cap, .slice q.types.h.ao q.types.l.length q.types.h.cap, .slice q.rh.ao q.rows.length q.rh.cap, .slice q.qh.ao q.kids.length q.qh.cap] 57) ∧ Hid (Below (w2.heap.size + 1) (w2.alloc (.cells #[.slice s.th.ao s.tabs.length s.th.cap] 28)) wr)) (fun i _ => K - (intOf i).toNat)
  case atStart =>
    refine ⟨0, scanQ, rfl, Nat.zero_le _, .zero, far_scan _ _, ?_, ?_⟩
    · have := Box.new (w2.alloc (.cells #[.slice s.th.ao s.tabs.length s.th.cap] 28)) #[.int .i64 1, .string ⟨#[116, 48]⟩, .int .i64 0, .bool false, .int .i64 0, .int .i64 0, .int .i64 0, .string ⟨#[]⟩, .int .i64 0, .slice none 0 0, .slice none 0 0, .slice none 0 0, .slice none 0 0, .slice none 0 0, .slice none 0 0] 57
      simp only [World.size_alloc] at this
      exact this
    · exact (belA (w := w2.alloc (.cells #[.slice s.th.ao s.tabs.length s.th.cap] 28)) _).mono (by simp)
  case round =>
    obtain ⟨j, q, rfl, hj, HC, HFQ, HBQ, HBW⟩ := hrel
    have hlt := HBQ.out.lt
    by_cases hjk : j < K
    · have hjk2 : (j : Int) < (K : Int) := by omega
      have y0 := HBQ.out.cell (j := 0) rfl
      have y1 := HBQ.out.cell (j := 1) rfl
      have y2 := HBQ.out.cell (j := 2) rfl
      have y3 := HBQ.out.cell (j := 3) rfl
      have y4 := HBQ.out.cell (j := 4) rfl
      have y5 := HBQ.out.cell (j := 5) rfl
      have y6 := HBQ.out.cell (j := 6) rfl
      have y7 := HBQ.out.cell (j := 7) rfl
      have y8 := HBQ.out.cell (j := 8) rfl
      have y9 := HBQ.out.cell (j := 9) rfl
      have y10 := HBQ.out.cell (j := 10) rfl
      have y11 := HBQ.out.cell (j := 11) rfl
      have y12 := HBQ.out.cell (j := 12) rfl
      have y13 := HBQ.out.cell (j := 13) rfl
      have y14 := HBQ.out.cell (j := 14) rfl
      have f0 := HBQ.out.fr 0
      have f1 := HBQ.out.fr 1
      have f2 := HBQ.out.fr 2
      have f3 := HBQ.out.fr 3
      have f4 := HBQ.out.fr 4
      have f5 := HBQ.out.fr 5
      have f6 := HBQ.out.fr 6
      have f7 := HBQ.out.fr 7
      have f8 := HBQ.out.fr 8
      have f9 := HBQ.out.fr 9
      have f10 := HBQ.out.fr 10
      have f11 := HBQ.out.fr 11
      have f12 := HBQ.out.fr 12
      have f13 := HBQ.out.fr 13
      have f14 := HBQ.out.fr 14
      go_wp2_with fail
      go_roundw
      case rel =>
        exact ⟨j + 1, more q wr.heap.size, by go_num, by omega, .succ HC.out, deep_far HFQ.out hlt (set15 wr (w2.heap.size + 1) (.int .i64 9) (.string ⟨#[]⟩) (.int .i64 0) (.bool false) (.int .i64 0) (.int .i64 0) (.int .i64 0) (.string ⟨#[]⟩) (.int .i64 0) (.slice none 0 0) (.slice none 0 0) (.slice none 0 0) (.slice none 0 0) (.slice none 0 0) (.slice (some ⟨wr.heap.size, 0, none⟩) 1 1)) (size15 wr (w2.heap.size + 1) (.int .i64 9) (.string ⟨#[]⟩) (.int .i64 0) (.bool false) (.int .i64 0) (.int .i64 0) (.int .i64 0) (.string ⟨#[]⟩) (.int .i64 0) (.slice none 0 0) (.slice none 0 0) (.slice none 0 0) (.slice none 0 0) (.slice none 0 0) (.slice (some ⟨wr.heap.size, 0, none⟩) 1 1)), (box15 HBQ.out (.int .i64 9) (.string ⟨#[]⟩) (.int .i64 0) (.bool false) (.int .i64 0) (.int .i64 0) (.int .i64 0) (.string ⟨#[]⟩) (.int .i64 0) (.slice none 0 0) (.slice none 0 0) (.slice none 0 0) (.slice none 0 0) (.slice none 0 0) (.slice (some ⟨wr.heap.size, 0, none⟩) 1 1)).below (belA _), deep_bel HBW.out (by omega) (set15 wr (w2.heap.size + 1) (.int .i64 9) (.string ⟨#[]⟩) (.int .i64 0) (.bool false) (.int .i64 0) (.int .i64 0) (.int .i64 0) (.string ⟨#[]⟩) (.int .i64 0) (.slice none 0 0) (.slice none 0 0) (.slice none 0 0) (.slice none 0 0) (.slice none 0 0) (.slice (some ⟨wr.heap.size, 0, none⟩) 1 1))⟩
      case measure => simp [intOf]; omega
    · obtain rfl : j = K := by omega
      have hjk2 : ¬ (j : Int) < (j : Int) := by omega
      have HQ := hide HFQ.out.here
      have HBV := hide ((belA (w := w2) (.cells #[.slice s.th.ao s.tabs.length s.th.cap] 28)).trans (HBW.out.mono (by omega)))
      have HBS := hide (show Box wr w2.heap.size #[.slice s.th.ao s.tabs.length s.th.cap] 28 from (HBW.out.block w2.heap.size (by omega)).trans (Box.new w2 _ _))
      have HSI := hide (HS.out.mono HBV.out)
      have HBT := hide (bel_trans HB2.out HBV.out)
      have HW := hide (show q.wt ≤ 1048576 by rw [chain_wt HC.out]; omega)
      have HD := hide (chain_dep HC.out)
      have y0 := HBQ.out.cell (j := 0) rfl
      have y1 := HBQ.out.cell (j := 1) rfl
      have y2 := HBQ.out.cell (j := 2) rfl
      have y3 := HBQ.out.cell (j := 3) rfl
      have y4 := HBQ.out.cell (j := 4) rfl
      have y5 := HBQ.out.cell (j := 5) rfl
      have y6 := HBQ.out.cell (j := 6) rfl
      have y7 := HBQ.out.cell (j := 7) rfl
      have y8 := HBQ.out.cell (j := 8) rfl
      have y9 := HBQ.out.cell (j := 9) rfl
      have y10 := HBQ.out.cell (j := 10) rfl
      have y11 := HBQ.out.cell (j := 11) rfl
      have y12 := HBQ.out.cell (j := 12) rfl
      have y13 := HBQ.out.cell (j := 13) rfl
      have y14 := HBQ.out.cell (j := 14) rfl
      have z0 := HBS.out.cell (j := 0) rfl
      by_cases h23 : 23 < j
      · have h24 : (24 : Int) < (j : Int) + 1 := by omega
        go_wp2_with (first
          | (go_at_call 14; refine (type_chain s _ (t0cols_one HTB.out HNM.out HCL.out) HC.out (by omega) _ HSI.out HQ.out (HF.out.mono HBT.out) (HSH.out.keptBut (HBT.out.frame (fun _ => False)) (by simp))).mono ?_; rintro e w3 ⟨hr, hb3⟩; obtain ⟨-, rfl⟩ | ⟨h, -⟩ := hr; rotate_left; exact absurd h (by omega); have HB3 := hide (bel_trans HBT.out hb3); clear hb3 y0 y1 y2 y3 y4 y5 y6 y7 y8 y9 y10 y11 y12 y13 y14 z0))
        go_ret
        exact ⟨rfl, HB3.out⟩
      · have h24 : ¬ (24 : Int) < (j : Int) + 1 := by omega
        have hl1 : s.tabs.length = 1 := by rw [HTB.out]; rfl
        have hpos : 0 < s.tabs.length := by omega
        have hl2 : s.tabs[0].cols.length = 2 := by
          have h0 : s.tabs[0] = tb := by simp [HTB.out]
          rw [h0]; exact HCL.out
        have HL2 := hide hl2
        clear hl1 hl2
        go_wp2_with (first
          | (go_at_call 14; refine (type_chain s _ (t0cols_one HTB.out HNM.out HCL.out) HC.out (by omega) _ HSI.out HQ.out (HF.out.mono HBT.out) (HSH.out.keptBut (HBT.out.frame (fun _ => False)) (by simp))).mono ?_; rintro e w3 ⟨hr, hb3⟩; obtain ⟨h, -⟩ | ⟨-, r, rfl, hrl, hri⟩ := hr; exact absurd h (by omega); have HB3 := hide (bel_trans HBT.out hb3); have HS3 := hide (HSI.out.mono hb3); have HQ3 := hide (HQ.out.mono hb3); have HBQ3 := hide (HBQ.out.below hb3); have hrl2 : r.l.length = 2 := (by rw [hrl, List.length_map]; exact HCL.out); have hl2 := HL2.out; have HRL := hide hrl; have z3 := (HBS.out.below hb3).cell (j := 0) rfl; have hix0 := HS3.out.rt.ix hpos Tryd.underlying26 sz22; obtain ⟨-, c1, -⟩ := tab_at HS3.out.rt hpos; have hbk := HS3.out.rt.blk hpos; have hix : ∀ U, (Instr.indexAt 26 (.slice s.th.ao s.tabs.length s.th.cap) (.int .i64 0)).run Tryd.prog U = .ok (.pointer (some ⟨s.th.b, s.th.o, none⟩)) U := (fun U => by simpa using hix0 U); simp only [Nat.zero_mul, Nat.add_zero] at c1; clear hix0 hb3 hrl hri z0 y0 y1 y2 y3 y4 y5 y6 y7 y8 y9 y10 y11 y12 y13 y14; have v0 := HBQ3.out.cell (j := 0) rfl; have v1 := HBQ3.out.cell (j := 1) rfl; have v2 := HBQ3.out.cell (j := 2) rfl; have v3 := HBQ3.out.cell (j := 3) rfl; have v4 := HBQ3.out.cell (j := 4) rfl; have v5 := HBQ3.out.cell (j := 5) rfl; have v6 := HBQ3.out.cell (j := 6) rfl; have v7 := HBQ3.out.cell (j := 7) rfl; have v8 := HBQ3.out.cell (j := 8) rfl; have v9 := HBQ3.out.cell (j := 9) rfl; have v10 := HBQ3.out.cell (j := 10) rfl; have v11 := HBQ3.out.cell (j := 11) rfl; have v12 := HBQ3.out.cell (j := 12) rfl; have v13 := HBQ3.out.cell (j := 13) rfl; have v14 := HBQ3.out.cell (j := 14) rfl)
          | (go_at_call 17; refine (adep_any HQ3.out _ HQ3.out HW.out).mono ?_; rintro e w4 ⟨rfl, hb4⟩; rw [HD.out]; have HB4 := hide (bel_trans HB3.out hb4); clear hb4))
        go_ret
        exact ⟨rfl, HB4.out⟩
end Go.Proofs.YtmnbhdhgjbgidaaDoor

/- The walk of law03.SchemaOrders: true for every schema that lies in the world. -/
import Derived.Test.YtmnbhdhgjbgidaaOOrder
namespace Go.Proofs.Ytmnbhdhgjbgidaa
open Go.RowKit

/-- What an order answers: the list and the error. -/
def ordOut (s : Sch) (l : List Int) (e : Int) : Prop := (¬ allFound s ∧ l = [] ∧ e = 11) ∨ (allFound s ∧ ∃ D, (Ends (tgts s) D false ∧ l = [] ∧ e = 7) ∨ (Ends (tgts s) D true ∧ l = D.map Int.ofNat ∧ e = 0))
theorem ord_one {s : Sch} {l l' : List Int} {e e' : Int} (h : ordOut s l e) (h' : ordOut s l' e') : l = l' ∧ e = e' := by
  rcases h with ⟨hn, rfl, rfl⟩ | ⟨ha, D, h⟩
  · rcases h' with ⟨_, rfl, rfl⟩ | ⟨ha, -⟩
    · exact ⟨rfl, rfl⟩
    · exact absurd ha hn
  · rcases h' with ⟨hn, -⟩ | ⟨_, D', h'⟩
    · exact absurd ha hn
    · rcases h with ⟨h1, rfl, rfl⟩ | ⟨h1, rfl, rfl⟩
      · rcases h' with ⟨h2, rfl, rfl⟩ | ⟨h2, rfl, rfl⟩
        · exact ⟨rfl, rfl⟩
        · cases (ends_one h1 h2).1
      · rcases h' with ⟨h2, rfl, rfl⟩ | ⟨h2, rfl, rfl⟩
        · cases (ends_one h1 h2).1
        · rw [(ends_one h1 h2).2]; exact ⟨rfl, rfl⟩
theorem ord_out {s : Sch} {w' : World} {e : Ending} (h : (e = .returned (.tuple #[.slice none 0 0, .int .i64 11]) ∧ ¬ allFound s) ∨ (allFound s ∧ ∃ D, (Ends (tgts s) D false ∧ e = .returned (.tuple #[.slice none 0 0, .int .i64 7])) ∨
        (Ends (tgts s) D true ∧ ∃ r : IL, r.l = D.map Int.ofNat ∧ r.In w' ∧ e = .returned (.tuple #[.slice r.h.ao r.l.length r.h.cap, .int .i64 0])))) :
    ∃ (r : IL) (x : Int), e = .returned (.tuple #[.slice r.h.ao r.l.length r.h.cap, .int .i64 x]) ∧ r.In w' ∧ ordOut s r.l x := by
  rcases h with ⟨rfl, hn⟩ | ⟨ha, D, ⟨h1, rfl⟩ | ⟨h1, r, h2, h3, rfl⟩⟩
  · exact ⟨⟨nilHd, []⟩, 11, rfl, ⟨Row.nil _ _ _, fun n h => by cases h⟩, .inl ⟨hn, rfl, rfl⟩⟩
  · exact ⟨⟨nilHd, []⟩, 7, rfl, ⟨Row.nil _ _ _, fun n h => by cases h⟩, .inr ⟨ha, D, .inl ⟨h1, rfl, rfl⟩⟩⟩
  · exact ⟨r, 0, rfl, h3, .inr ⟨ha, D, .inr ⟨h1, h2, rfl⟩⟩⟩

set_option maxRecDepth 100000 in
set_option maxHeartbeats 2000000 in
theorem orders_walk (s : Sch) (w : World) (hin : s.In w) :
    Calls Try.prog 5 #[.agg #[.slice s.th.ao s.tabs.length s.th.cap]] w fun e w' => e = .returned (.bool true) ∧ Below w.heap.size w w' := by
  have hn := hin.rt.len
  have hin1 := hide (hin.mono (belA (.cells #[.slice s.th.ao s.tabs.length s.th.cap] 24)))
  go_enter Try.func5, Try.ntmps5
  go_wp2_with (first
    | (go_at_call 8; refine (few_any s _ hin1.out).mono ?_; rintro r w1 ⟨⟨b, rfl, hfew⟩, hb1⟩; have HFW := hide hfew; have HB1 := hide hb1; have hx1 := box_cell hb1 (j := 0) rfl; clear hb1 hfew; cases b)
    | (go_at_call 21; refine (oorder_any s _ (hin1.out.mono HB1.out) (HFW.out (by trivial)).n).mono ?_; rintro r w2 ⟨hr, hb2⟩; obtain ⟨l1, x1, rfl, hl1, ho1⟩ := ord_out hr; have HB2 := hide (bel_trans HB1.out hb2); have hx2 := box_cell HB2.out (j := 0) rfl; have HL1 := hide hl1; have HO1 := hide ho1; clear hb2 hx1 hl1 ho1 hr)
    | (go_at_call 22; refine (rorder_any s _ (hin1.out.mono HB2.out) (HFW.out (by trivial)).n).mono ?_; rintro r w3 ⟨hr, hb3⟩; obtain ⟨l2, x2, rfl, hl2, ho2⟩ := ord_out hr; have HB3 := hide (bel_trans HB2.out hb3); have hx3 := box_cell HB3.out (j := 0) rfl; have HL1' := hide (HL1.out.mono hb3); have HL2 := hide hl2; have HE := hide (ord_one HO1.out ho2); obtain ⟨HEL, HEX⟩ := (show Hid (l1.l = l2.l) ∧ x1 = x2 from ⟨hide HE.out.1, HE.out.2⟩); clear HE; clear hb3 hx2 hl2 ho2 hr)
    | (go_at_call 15; refine (same_any l1 l2 _ HL1'.out HL2.out).mono ?_; rintro r w4 ⟨rfl, hb4⟩; rw [decide_eq_true HEL.out]; have HB4 := hide (bel_trans HB3.out hb4); clear hb4 hx3))
  · go_ret
    exact ⟨rfl, bel1 HB1.out⟩
  go_ret
  exact ⟨rfl, bel1 HB4.out⟩
end Go.Proofs.Ytmnbhdhgjbgidaa

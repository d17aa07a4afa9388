/- conjunctive.match answers whether there is a map. -/
import Derived.Test.YtiijaaohphokcaaGreatDoorCjHK
import Derived.Deep.DeepCutAuto
namespace Go.Proofs.YtiijaaohphokcaaGreatDoor
open Go.RowKit
def Matches (single : Bool) (q r : Cj V) : Prop := if single = true then ∃ h, IsEmb h q r else Hom q r
def MatchPost (q r : Cq) (single : Bool) (w : World) (e : Ending) (w' : World) : Prop := ∃ (v : Value) (b : Bool), e = .returned (.tuple #[v, .bool b]) ∧ (b = true ↔ Matches single q.cj r.cj) ∧ Below w.heap.size w w'
theorem set10 (x : World) (g : Nat) (a b c d e f h i j k : Value) : x.grownBy ((((((((((x.setCell ⟨g, 0, none⟩ a).setCell ⟨g, 1, none⟩ b).setCell ⟨g, 2, none⟩ c).setCell ⟨g, 3, none⟩ d).setCell ⟨g, 4, none⟩ e).setCell ⟨g, 5, none⟩ f).setCell ⟨g, 6, none⟩ h).setCell ⟨g, 7, none⟩ i).setCell ⟨g, 8, none⟩ j).setCell ⟨g, 9, none⟩ k) (some g) :=
  (((((((((gb_set _ _ _ _).trans (gb_set _ _ _ _)).trans (gb_set _ _ _ _)).trans (gb_set _ _ _ _)).trans (gb_set _ _ _ _)).trans (gb_set _ _ _ _)).trans (gb_set _ _ _ _)).trans (gb_set _ _ _ _)).trans (gb_set _ _ _ _)).trans (gb_set _ _ _ _)
theorem boxset10 {x : World} {g : Nat} {T : TypeId} {p0 p1 p2 p3 p4 p5 p6 p7 p8 p9 : Value} (h0 : Box x g #[p0, p1, p2, p3, p4, p5, p6, p7, p8, p9] T) (a b c d e f h i j k : Value) : Box ((((((((((x.setCell ⟨g, 0, none⟩ a).setCell ⟨g, 1, none⟩ b).setCell ⟨g, 2, none⟩ c).setCell ⟨g, 3, none⟩ d).setCell ⟨g, 4, none⟩ e).setCell ⟨g, 5, none⟩ f).setCell ⟨g, 6, none⟩ h).setCell ⟨g, 7, none⟩ i).setCell ⟨g, 8, none⟩ j).setCell ⟨g, 9, none⟩ k) g #[a, b, c, d, e, f, h, i, j, k] T := by
  have := (((((((((h0.set 0 a).set 1 b).set 2 c).set 3 d).set 4 e).set 5 f).set 6 h).set 7 i).set 8 j).set 9 k
  simpa only [List.setIfInBounds_toArray, List.set_cons_zero, List.set_cons_succ] using this
theorem repl_get {n j : Nat} {z : Value} (h : j < n) : (List.replicate n z)[j]? = some z := by rw [List.getElem?_replicate, if_pos h]
theorem mw_start {w W x Y : World} {b10 c10 b11 : Nat} {q r : Cq} {single : Bool} (hW : Below w.heap.size w W) (hb : Below W.heap.size W x) (hr1 : x.ownsRow W.heap.size 172 1 (.slice (some ⟨b10, 0, none⟩) q.vars q.vars) q.vars (madeCells (Value.pointer none).cells (q.vars * 1)).toList)
    (hr2 : x.ownsRow W.heap.size 4 1 (.slice (some ⟨c10, 0, none⟩) r.lits.length r.lits.length) r.lits.length (madeCells (Value.bool false).cells (r.lits.length * 1)).toList) (hne : b10 ≠ b11 ∧ c10 ≠ b11 ∧ b10 ≠ c10) (h11 : W.heap.size ≤ b11) (hg : x.grownBy Y (some b11)) (hbox : Box Y b11 (mcells q r single b10 c10 (.slice none 0 0)) 135) :
    MW w b11 b10 c10 q r single sb0 (fun _ => false) 0 (.slice none 0 0) Y := by
  have h1 := hr1.kept hg (.inr (fun e => hne.1 (Option.some.inj e)))
  have h2 := hr2.kept hg (.inr (fun e => hne.2.1 (Option.some.inj e)))
  have l1 := h1.lt b10 rfl
  have l2 := h2.lt c10 rfl
  have hs := hW.size
  rw [made_cells _ rfl] at h1 h2
  refine ⟨(bel_trans hW hb).grown hg (bel_trans hW hb).size (fun j e => by injection e with e; omega), hbox, ⟨[], World.ownsRow_nil _ _ _ _⟩, fun y hy => ⟨fun _ => ?_, fun t e => by cases e⟩, fun y t e => (by cases e), fun j => h1.frozenAt j, fun j hj => ?_, fun j => h2.frozenAt j, ⟨by omega, by omega, by omega⟩, ⟨hbox.lt, l1.2, l2.2⟩, ⟨fun e => hne.1 e.symm, fun e => hne.2.1 e.symm, hne.2.2, by simp [Value.ownBlock], by simp [Value.ownBlock], by simp [Value.ownBlock]⟩⟩
  · rw [h1.cellAt y (by omega)]; exact repl_get hy
  · rw [h2.cellAt j (by omega)]; exact repl_get hj
set_option maxRecDepth 100000 in
set_option maxHeartbeats 8000000 in
theorem match_any (q r : Cq) (single : Bool) (w : World) (hq : QOk w q r) (hv : ∀ x, Tm.v x ∈ q.head.l → x < q.vars) (hc : ∀ x, Tm.v x ∈ q.head.l → Occ q.cj x) (hhl : q.head.l.length ≤ 1000) :
    Calls Tryz.prog 47 #[.agg #[.int .i64 (q.vars : Nat), .slice q.lh.ao q.lits.length q.lh.cap, .slice q.head.h.ao q.head.l.length q.head.h.cap], .agg #[.int .i64 (r.vars : Nat), .slice r.lh.ao r.lits.length r.lh.cap, .slice r.head.h.ao r.head.l.length r.head.h.cap], .bool single] w (MatchPost q r single w) := by
  have HQ := hide hq
  have HV := hide hv
  have HC := hide hc
  have hqv := hq.qi.vr
  have hrl := hq.rl
  obtain ⟨W, hW⟩ : ∃ W, (w.alloc (.cells #[.int .i64 (q.vars : Nat), .slice q.lh.ao q.lits.length q.lh.cap, .slice q.head.h.ao q.head.l.length q.head.h.cap] 32)).alloc (.cells #[.int .i64 (r.vars : Nat), .slice r.lh.ao r.lits.length r.lh.cap, .slice r.head.h.ao r.head.l.length r.head.h.cap] 32) = W := ⟨_, rfl⟩
  have HW := hide (show Below w.heap.size w W from by rw [← hW]; exact belAA _ _)
  have HQB := hide (show Box W w.heap.size #[.int .i64 (q.vars : Nat), .slice q.lh.ao q.lits.length q.lh.cap, .slice q.head.h.ao q.head.l.length q.head.h.cap] 32 from by rw [← hW]; exact (Box.new _ _ _).below (belA _))
  have HRB := hide (show Box W (w.heap.size + 1) #[.int .i64 (r.vars : Nat), .slice r.lh.ao r.lits.length r.lh.cap, .slice r.head.h.ao r.head.l.length r.head.h.cap] 32 from by rw [← hW]; have h := Box.new (w.alloc (.cells #[.int .i64 (q.vars : Nat), .slice q.lh.ao q.lits.length q.lh.cap, .slice q.head.h.ao q.head.l.length q.head.h.cap] 32)) #[.int .i64 (r.vars : Nat), .slice r.lh.ao r.lits.length r.lh.cap, .slice r.head.h.ao r.head.l.length r.head.h.cap] 32; simpa only [World.size_alloc] using h)
  clear hq hv hc
  go_enter Tryz.func47, Tryz.ntmps47
  go_wp2
  clear hW
  refine mt_reg (g3 := w.heap.size) (g4 := w.heap.size + 1) (q := q) (r := r) (single := single) (W := W) hqv hrl HQB HRB ?hc ?hend
  case hc => rfl
  case hend =>
  intro b5 c9 gs gu gm x hb hbox hr1 hr2 hne h11
  have hg := set10 x gm (.int .i64 (q.vars : Nat)) (.slice q.lh.ao q.lits.length q.lh.cap) (.slice q.head.h.ao q.head.l.length q.head.h.cap) (.int .i64 (r.vars : Nat)) (.slice r.lh.ao r.lits.length r.lh.cap) (.slice r.head.h.ao r.head.l.length r.head.h.cap) (.bool single) (.slice (some ⟨gs, 0, none⟩) q.vars q.vars) (.slice (some ⟨gu, 0, none⟩) r.lits.length r.lits.length) (.slice none 0 0)
  have hbx := boxset10 hbox (.int .i64 (q.vars : Nat)) (.slice q.lh.ao q.lits.length q.lh.cap) (.slice q.head.h.ao q.head.l.length q.head.h.cap) (.int .i64 (r.vars : Nat)) (.slice r.lh.ao r.lits.length r.lh.cap) (.slice r.head.h.ao r.head.l.length r.head.h.cap) (.bool single) (.slice (some ⟨gs, 0, none⟩) q.vars q.vars) (.slice (some ⟨gu, 0, none⟩) r.lits.length r.lits.length) (.slice none 0 0)
  generalize ((((((((((x.setCell ⟨gm, 0, none⟩ (.int .i64 (q.vars : Nat))).setCell ⟨gm, 1, none⟩ (.slice q.lh.ao q.lits.length q.lh.cap)).setCell ⟨gm, 2, none⟩ (.slice q.head.h.ao q.head.l.length q.head.h.cap)).setCell ⟨gm, 3, none⟩ (.int .i64 (r.vars : Nat))).setCell ⟨gm, 4, none⟩ (.slice r.lh.ao r.lits.length r.lh.cap)).setCell ⟨gm, 5, none⟩ (.slice r.head.h.ao r.head.l.length r.head.h.cap)).setCell ⟨gm, 6, none⟩ (.bool single)).setCell ⟨gm, 7, none⟩ (.slice (some ⟨gs, 0, none⟩) q.vars q.vars)).setCell ⟨gm, 8, none⟩ (.slice (some ⟨gu, 0, none⟩) r.lits.length r.lits.length)).setCell ⟨gm, 9, none⟩ (.slice none 0 0)) = Y at *
  have HM := hide (mw_start HW.out hb hr1 hr2 hne h11 hg hbx)
  have k2 : Y.cell? ⟨w.heap.size, 2, none⟩ = some (.slice q.head.h.ao q.head.l.length q.head.h.cap) := ((HQB.out.below hb).grown hg (by have := HQB.out.lt; intro e; injection e with e; omega)).cell (j := 2) rfl
  have k5 : Y.cell? ⟨w.heap.size + 1, 2, none⟩ = some (.slice r.head.h.ao r.head.l.length r.head.h.cap) := ((HRB.out.below hb).grown hg (by have := HRB.out.lt; intro e; injection e with e; omega)).cell (j := 2) rfl
  have HBE := hide (becomes_any w gm gs gu 0 (.slice none 0 0) q r single sb0 (fun _ => false) q.head r.head Y HM.out HQ.out.qi.hd.row HQ.out.ri.hd.row HV.out hqv hhl)
  clear hb hbox hr1 hr2 hne h11 hg hbx
  go_upto_region 3 with (go_at_call 86; refine HBE.out.mono ?_; rintro e Y1 ⟨σ', now, nl, ok, rfl, _, _, _, _, _, hM1, hres, _⟩; have HM1 := hide hM1; have HRES := hide hres; clear hM1 hres)
  clear k2 k5 HBE
  cases ok with
  | false =>
    have HNO := hide (show ¬ Matches single q.cj r.cj from by
      have hb := HRES.out
      rw [if_neg (by decide)] at hb
      unfold Matches
      cases hs : single with
      | false => rw [if_neg (by decide)]; rw [hs] at hb; exact bars_hom hb
      | true => rw [if_pos rfl]; rw [hs] at hb; exact bars_emb HC.out hb)
    go_wp2
    go_ret2
    exact ⟨_, false, rfl, ⟨fun h => (by cases h), fun h => absurd h HNO.out⟩, HM1.out.bel⟩
  | true =>
    have HBC := hide (show Became single sb0 q.head.l r.head.l σ' from by have h := HRES.out; rwa [if_pos rfl] at h)
    have HIFF := hide (show Fits single r.cj.lits σ' (fun _ => false) (q.cj.lits.drop 0) ↔ Matches single q.cj r.cj from by
      rw [List.drop_zero]
      unfold Matches
      have hb := HBC.out
      cases hs : single with
      | false => rw [if_neg (by decide)]; rw [hs] at hb; exact fits_hom hb
      | true => rw [if_pos rfl]; rw [hs] at hb; exact fits_emb hb (fun _ => rfl) HC.out)
    have HRS := hide (rest_any w gm gs gu q r single HQ.out q.lits.length 0 σ' (fun _ => false) _ Y1 (by omega) HM1.out (HBC.out.ok (sbok0 single)))
    go_upto_if 35 with (go_at_call 87; refine HRS.out.mono ?_; rintro e Y2 ⟨b2, rfl, hb2, hT, hF⟩; have HB2 := hide hb2; have HT := hide hT; have HF := hide hF; clear hb2 hT hF)
    clear HRS
    cases b2 with
    | false =>
      have HNO := hide (show ¬ Matches single q.cj r.cj from fun h => (HF.out (by trivial)).1 (HIFF.out.2 h))
      go_wp2
      go_ret2
      exact ⟨_, false, rfl, ⟨fun h => (by cases h), fun h => absurd h HNO.out⟩, HB2.out⟩
    | true =>
      obtain ⟨hfit, u, hu⟩ := HT.out (by trivial)
      have HYES := hide (HIFF.out.1 hfit)
      clear hfit HT
      go_wp2
      go_ret2
      exact ⟨_, true, rfl, ⟨fun _ => HYES.out, fun _ => rfl⟩, HB2.out⟩
end Go.Proofs.YtiijaaohphokcaaGreatDoor

/- conjunctive.both, Contains, Alike: of queries that are valid. -/
namespace Go.Proofs.YtiijaaohphokcaaGreatDoor
open Go.RowKit
def Fine (w : World) (s : Sch) (q : Cq) : Prop := ∀ W, Below w.heap.size w W → Calls Tryz.prog 31 #[.agg #[.slice s.th.ao s.tabs.length s.th.cap], .agg #[.int .i64 (q.vars : Nat), .slice q.lh.ao q.lits.length q.lh.cap, .slice q.head.h.ao q.head.l.length q.head.h.cap]] W fun e w' => e = .returned (.int .i64 0) ∧ Below W.heap.size W w'
theorem Fine.mono {w x : World} {s : Sch} {q : Cq} (h : Fine w s q) (hb : Below w.heap.size w x) : Fine x s q := fun W h2 => h W (bel_trans hb h2)
theorem boxes3X {w X : World} {c0 c1 c2 : Array Value} {T0 T1 T2 : TypeId} (h : ((w.alloc (.cells c0 T0)).alloc (.cells c1 T1)).alloc (.cells c2 T2) = X) : Box X w.heap.size c0 T0 ∧ Box X (w.heap.size + 1) c1 T1 ∧ Box X (w.heap.size + 1 + 1) c2 T2 := by
  subst h
  have h1 := Box.new (w.alloc (.cells c0 T0)) c1 T1
  have h2 := Box.new ((w.alloc (.cells c0 T0)).alloc (.cells c1 T1)) c2 T2
  simp only [World.size_alloc] at h1 h2
  exact ⟨((Box.new w c0 T0).below (belA _)).below (belA _), h1.below (belA _), h2⟩
set_option maxRecDepth 100000 in
set_option maxHeartbeats 2000000 in
theorem both_any (s : Sch) (a b : Cq) (w : World) (ha : Fine w s a) (hb : Fine w s b) : Calls Tryz.prog 49 #[.agg #[.slice s.th.ao s.tabs.length s.th.cap], .agg #[.int .i64 (a.vars : Nat), .slice a.lh.ao a.lits.length a.lh.cap, .slice a.head.h.ao a.head.l.length a.head.h.cap], .agg #[.int .i64 (b.vars : Nat), .slice b.lh.ao b.lits.length b.lh.cap, .slice b.head.h.ao b.head.l.length b.head.h.cap]] w fun e w' => e = .returned (.int .i64 0) ∧ Below w.heap.size w w' := by
  unfold Fine at ha hb
  have HA := hide ha
  have HB := hide hb
  obtain ⟨X, hX⟩ : ∃ X, ((w.alloc (.cells #[.slice s.th.ao s.tabs.length s.th.cap] 27)).alloc (.cells #[.int .i64 (a.vars : Nat), .slice a.lh.ao a.lits.length a.lh.cap, .slice a.head.h.ao a.head.l.length a.head.h.cap] 32)).alloc (.cells #[.int .i64 (b.vars : Nat), .slice b.lh.ao b.lits.length b.lh.cap, .slice b.head.h.ao b.head.l.length b.head.h.cap] 32) = X := ⟨_, rfl⟩
  have HBX := hide (show Below w.heap.size w X from by rw [← hX]; exact bel3 (Below.refl _ _))
  have hbs := boxes3X hX
  have HS := hide hbs.1
  have HB1 := hide hbs.2.1
  have HB2 := hide hbs.2.2
  have s0 := hbs.1.cell (j := 0) rfl
  have a0 := hbs.2.1.cell (j := 0) rfl
  have a1 := hbs.2.1.cell (j := 1) rfl
  have a2 := hbs.2.1.cell (j := 2) rfl
  clear ha hb hbs
  go_enter Tryz.func49, Tryz.ntmps49
  go_upto_region 1 with fail
  try rw [hX]
  clear hX
  go_wp2_with (first
    | (go_at_call 31; with_reducible refine (HA.out _ HBX.out).mono ?_; rintro e Y ⟨rfl, hb⟩; have HBY := hide hb; clear hb s0 a0 a1 a2; have s0 := (HS.out.below HBY.out).cell (j := 0) rfl; have b0 := (HB2.out.below HBY.out).cell (j := 0) rfl; have b1 := (HB2.out.below HBY.out).cell (j := 1) rfl; have b2 := (HB2.out.below HBY.out).cell (j := 2) rfl)
    | (go_at_call 31; with_reducible refine (HB.out _ (bel_trans HBX.out HBY.out)).mono ?_; rintro e Z ⟨rfl, hb⟩; have HBZ := hide hb; clear hb))
  go_ret
  exact ⟨rfl, bel_trans HBX.out (bel_trans HBY.out HBZ.out)⟩
structure RightQ (w : World) (T : List (List Int)) (q : Cq) (B : Nat) : Prop where
  qi : q.In w B
  ri : ∃ τ, Right T q.vars q.cj τ
  tl : ∀ ty ∈ T, ty.length ≤ 1000
theorem RightQ.mono {w x : World} {T : List (List Int)} {q : Cq} {B : Nat} (h : RightQ w T q B) (hb : Below w.heap.size w x) : RightQ x T q B := ⟨h.qi.mono hb, h.ri, h.tl⟩
theorem RightQ.grown {w x : World} {T : List (List Int)} {q : Cq} {B b : Nat} (h : RightQ w T q B) (hg : w.grownBy x (some b)) (hb : b < B) : RightQ x T q B := ⟨h.qi.grown hg hb, h.ri, h.tl⟩
theorem RightQ.hv {w : World} {T : List (List Int)} {q : Cq} {B : Nat} (h : RightQ w T q B) : ∀ x, Tm.v x ∈ q.head.l → x < q.vars := fun x hx => by obtain ⟨τ, hr⟩ := h.ri; exact hr.hd _ hx
theorem RightQ.hc {w : World} {T : List (List Int)} {q : Cq} {B : Nat} (h : RightQ w T q B) : ∀ x, Tm.v x ∈ q.head.l → Occ q.cj x := fun x hx => by obtain ⟨τ, hr⟩ := h.ri; exact hr.cov.1 x hx
theorem RightQ.hl {w : World} {T : List (List Int)} {q : Cq} {B : Nat} (h : RightQ w T q B) : q.head.l.length ≤ 24 ∧ q.lits.length ≤ 8 := by
  obtain ⟨τ, hr⟩ := h.ri
  have h1 := hr.n8
  exact ⟨hr.h24, by rwa [show q.cj.lits.length = q.lits.length from List.length_map _] at h1⟩
theorem RightQ.ok {w : World} {T : List (List Int)} {q r : Cq} {B C : Nat} (h : RightQ w T q B) (k : RightQ w T r C) : QOk w q r := by
  obtain ⟨τ, hr⟩ := h.ri
  refine ⟨h.qi.le (Nat.zero_le _), k.qi.le (Nat.zero_le _), fun l hl x hx => ?_, by have := h.hl; omega, by have := k.hl; omega, fun l hl => ?_⟩
  · exact hr.lt ⟨l.lt, List.mem_map_of_mem hl, hx⟩
  · obtain ⟨ty, h1, h2, _⟩ := hr.lit l.lt (List.mem_map_of_mem hl)
    have h3 : l.sl.l.length = ty.length := h2
    rw [h3]
    exact h.tl ty (List.mem_of_getElem? h1)
def ContPost (a b : Cq) (w : World) (e : Ending) (w' : World) : Prop := ∃ c : Bool, e = .returned (.tuple #[.bool c, .int .i64 0]) ∧ (c = true ↔ Hom b.cj a.cj) ∧ Below w.heap.size w w'
def AlikePost (a b : Cq) (w : World) (e : Ending) (w' : World) : Prop := ∃ c : Bool, e = .returned (.tuple #[.bool c, .int .i64 0]) ∧ (c = true ↔ (a.vars = b.vars ∧ a.lits.length = b.lits.length ∧ ∃ h, IsEmb h a.cj b.cj)) ∧ Below w.heap.size w w'
set_option maxRecDepth 100000 in
set_option maxHeartbeats 2000000 in
theorem contains_any (s : Sch) (T : List (List Int)) (a b : Cq) (B C : Nat) (w : World) (ha : Fine w s a) (hb : Fine w s b) (ra : RightQ w T a B) (rb : RightQ w T b C) : Calls Tryz.prog 13 #[.agg #[.slice s.th.ao s.tabs.length s.th.cap], .agg #[.int .i64 (a.vars : Nat), .slice a.lh.ao a.lits.length a.lh.cap, .slice a.head.h.ao a.head.l.length a.head.h.cap], .agg #[.int .i64 (b.vars : Nat), .slice b.lh.ao b.lits.length b.lh.cap, .slice b.head.h.ao b.head.l.length b.head.h.cap]] w (ContPost a b w) := by
  have HBT := hide (fun (W : World) (h : Below w.heap.size w W) => both_any s a b W (ha.mono h) (hb.mono h))
  have HMT := hide (fun (W : World) (h : Below w.heap.size w W) => match_any b a false W ((rb.mono h).ok (ra.mono h)) rb.hv rb.hc (by have := rb.hl; omega))
  obtain ⟨X, hX⟩ : ∃ X, ((w.alloc (.cells #[.slice s.th.ao s.tabs.length s.th.cap] 27)).alloc (.cells #[.int .i64 (a.vars : Nat), .slice a.lh.ao a.lits.length a.lh.cap, .slice a.head.h.ao a.head.l.length a.head.h.cap] 32)).alloc (.cells #[.int .i64 (b.vars : Nat), .slice b.lh.ao b.lits.length b.lh.cap, .slice b.head.h.ao b.head.l.length b.head.h.cap] 32) = X := ⟨_, rfl⟩
  have HBX := hide (show Below w.heap.size w X from by rw [← hX]; exact bel3 (Below.refl _ _))
  have hbs := boxes3X hX
  have HB1 := hide hbs.2.1
  have HB2 := hide hbs.2.2
  have s0 := hbs.1.cell (j := 0) rfl
  have a0 := hbs.2.1.cell (j := 0) rfl
  have a1 := hbs.2.1.cell (j := 1) rfl
  have a2 := hbs.2.1.cell (j := 2) rfl
  have b0 := hbs.2.2.cell (j := 0) rfl
  have b1 := hbs.2.2.cell (j := 1) rfl
  have b2 := hbs.2.2.cell (j := 2) rfl
  clear ha hb hbs ra rb
  go_enter Tryz.func13, Tryz.ntmps13
  go_upto_region 1 with fail
  try rw [hX]
  clear hX
  go_upto_region 5 with (first
    | (go_at_call 49; with_reducible refine (HBT.out _ HBX.out).mono ?_; rintro e Y ⟨rfl, hb⟩; have HBY := hide (bel_trans HBX.out hb); have hb2 := HB2.out.below hb; have hb1 := HB1.out.below hb; clear s0 a0 a1 a2 b0 b1 b2; have a0 := hb1.cell (j := 0) rfl; have a1 := hb1.cell (j := 1) rfl; have a2 := hb1.cell (j := 2) rfl; have b0 := hb2.cell (j := 0) rfl; have b1 := hb2.cell (j := 1) rfl; have b2 := hb2.cell (j := 2) rfl; clear hb hb1 hb2)
    | (go_at_call 47; (with_reducible refine (HMT.out _ HBY.out).mono ?_); (rintro e Z ⟨v, c, rfl, hc, hb⟩; have HC := hide hc; have HBZ := hide (bel_trans HBY.out hb); clear hc hb)))
  clear a0 a1 a2 b0 b1 b2
  go_wp2
  go_ret2
  exact ⟨c, rfl, by rw [HC.out]; unfold Matches; rw [if_neg (by decide)], HBZ.out⟩
set_option maxRecDepth 100000 in
set_option maxHeartbeats 2000000 in
theorem alike_any (s : Sch) (T : List (List Int)) (a b : Cq) (B C : Nat) (w : World) (ha : Fine w s a) (hb : Fine w s b) (ra : RightQ w T a B) (rb : RightQ w T b C) : Calls Tryz.prog 15 #[.agg #[.slice s.th.ao s.tabs.length s.th.cap], .agg #[.int .i64 (a.vars : Nat), .slice a.lh.ao a.lits.length a.lh.cap, .slice a.head.h.ao a.head.l.length a.head.h.cap], .agg #[.int .i64 (b.vars : Nat), .slice b.lh.ao b.lits.length b.lh.cap, .slice b.head.h.ao b.head.l.length b.head.h.cap]] w (AlikePost a b w) := by
  have HBT := hide (fun (W : World) (h : Below w.heap.size w W) => both_any s a b W (ha.mono h) (hb.mono h))
  have HMT := hide (fun (W : World) (h : Below w.heap.size w W) => match_any a b true W ((ra.mono h).ok (rb.mono h)) ra.hv ra.hc (by have := ra.hl; omega))
  obtain ⟨X, hX⟩ : ∃ X, ((w.alloc (.cells #[.slice s.th.ao s.tabs.length s.th.cap] 27)).alloc (.cells #[.int .i64 (a.vars : Nat), .slice a.lh.ao a.lits.length a.lh.cap, .slice a.head.h.ao a.head.l.length a.head.h.cap] 32)).alloc (.cells #[.int .i64 (b.vars : Nat), .slice b.lh.ao b.lits.length b.lh.cap, .slice b.head.h.ao b.head.l.length b.head.h.cap] 32) = X := ⟨_, rfl⟩
  have HBX := hide (show Below w.heap.size w X from by rw [← hX]; exact bel3 (Below.refl _ _))
  have hbs := boxes3X hX
  have HB1 := hide hbs.2.1
  have HB2 := hide hbs.2.2
  have s0 := hbs.1.cell (j := 0) rfl
  have a0 := hbs.2.1.cell (j := 0) rfl
  have a1 := hbs.2.1.cell (j := 1) rfl
  have a2 := hbs.2.1.cell (j := 2) rfl
  have b0 := hbs.2.2.cell (j := 0) rfl
  have b1 := hbs.2.2.cell (j := 1) rfl
  have b2 := hbs.2.2.cell (j := 2) rfl
  clear ha hb hbs ra rb
  by_cases hv : a.vars = b.vars ∧ a.lits.length = b.lits.length
  case neg =>
    have HNO := hide (show ¬ (a.vars = b.vars ∧ a.lits.length = b.lits.length ∧ ∃ h, IsEmb h a.cj b.cj) from fun h => hv ⟨h.1, h.2.1⟩)
    have ht : (a.vars = b.vars ∧ ¬ a.lits.length = b.lits.length) ∨ ¬ a.vars = b.vars := by
      by_cases h : a.vars = b.vars
      · exact .inl ⟨h, fun h2 => hv ⟨h, h2⟩⟩
      · exact .inr h
    clear hv
    rcases ht with ⟨h1, h2⟩ | h1
    · have hb1 : ((a.vars : Int) != (b.vars : Int)) = false := by rw [h1]; exact bne_self_eq_false _
      have hb2 : ((a.lits.length : Int) != (b.lits.length : Int)) = true := bne_iff_ne.2 (by omega)
      clear h1 h2
      go_enter Tryz.func15, Tryz.ntmps15
      go_upto_region 1 with fail
      try rw [hX]
      clear hX
      go_wp2_with (go_at_call 49; with_reducible refine (HBT.out _ HBX.out).mono ?_; rintro e Y ⟨rfl, hb⟩; have HBY := hide (bel_trans HBX.out hb); have hb2 := HB2.out.below hb; have hb1 := HB1.out.below hb; clear s0 a0 a1 a2 b0 b1 b2; have a0 := hb1.cell (j := 0) rfl; have a1 := hb1.cell (j := 1) rfl; have b0 := hb2.cell (j := 0) rfl; have b1 := hb2.cell (j := 1) rfl; clear hb hb1 hb2)
      go_ret2
      exact ⟨false, rfl, ⟨fun h => (by cases h), fun h => absurd h HNO.out⟩, HBY.out⟩
    · have hb1 : ((a.vars : Int) != (b.vars : Int)) = true := bne_iff_ne.2 (by omega)
      clear h1
      go_enter Tryz.func15, Tryz.ntmps15
      go_upto_region 1 with fail
      try rw [hX]
      clear hX
      go_wp2_with (go_at_call 49; with_reducible refine (HBT.out _ HBX.out).mono ?_; rintro e Y ⟨rfl, hb⟩; have HBY := hide (bel_trans HBX.out hb); have hb2 := HB2.out.below hb; have hb1 := HB1.out.below hb; clear s0 a0 a1 a2 b0 b1 b2; have a0 := hb1.cell (j := 0) rfl; have a1 := hb1.cell (j := 1) rfl; have b0 := hb2.cell (j := 0) rfl; have b1 := hb2.cell (j := 1) rfl; clear hb hb1 hb2)
      go_ret2
      exact ⟨false, rfl, ⟨fun h => (by cases h), fun h => absurd h HNO.out⟩, HBY.out⟩
  have hb1 : ((a.vars : Int) != (b.vars : Int)) = false := by rw [hv.1]; exact bne_self_eq_false _
  have hb2 : ((a.lits.length : Int) != (b.lits.length : Int)) = false := by rw [hv.2]; exact bne_self_eq_false _
  have HVV := hide hv
  clear hv
  go_enter Tryz.func15, Tryz.ntmps15
  go_upto_region 1 with fail
  try rw [hX]
  clear hX
  go_upto_region 7 with (first
    | (go_at_call 49; with_reducible refine (HBT.out _ HBX.out).mono ?_; rintro e Y ⟨rfl, hb⟩; have HBY := hide (bel_trans HBX.out hb); have hq2 := HB2.out.below hb; have hq1 := HB1.out.below hb; clear s0 a0 a1 a2 b0 b1 b2; have a0 := hq1.cell (j := 0) rfl; have a1 := hq1.cell (j := 1) rfl; have a2 := hq1.cell (j := 2) rfl; have b0 := hq2.cell (j := 0) rfl; have b1 := hq2.cell (j := 1) rfl; have b2 := hq2.cell (j := 2) rfl; clear hb hq1 hq2)
    | (go_at_call 47; (with_reducible refine (HMT.out _ HBY.out).mono ?_); (rintro e Z ⟨v, c, rfl, hc, hb⟩; have HC := hide hc; have HBZ := hide (bel_trans HBY.out hb); clear hc hb)))
  clear a0 a1 a2 b0 b1 b2
  go_wp2
  go_ret2
  exact ⟨c, rfl, by rw [HC.out]; unfold Matches; rw [if_pos rfl]; exact ⟨fun h => ⟨HVV.out.1, HVV.out.2, h⟩, fun h => h.2.2⟩, HBZ.out⟩
end Go.Proofs.YtiijaaohphokcaaGreatDoor

/- made.pick at any tape; what made.Expr answers. -/
import Derived.Test.YtmnbhdhgjbgidaaDoorMadeW
namespace Go.Proofs.YtmnbhdhgjbgidaaDoor
open Go.RowKit

/-- All blocks of an expression lie at or behind B. -/
inductive Ex.Fresh (B : Nat) : Ex → Prop where
  | mk (e : Ex) (hb : 0 < e.kids.length → B ≤ e.kh.b) (hk : ∀ k ∈ e.kids, Ex.Fresh B k) : Ex.Fresh B e
theorem Ex.Fresh.mono {B B' : Nat} {e : Ex} (h : e.Fresh B) (hb : B' ≤ B) : e.Fresh B' := by
  induction h with
  | mk e h1 _ ih => exact ⟨e, fun hp => Nat.le_trans hb (h1 hp), ih⟩
theorem Ex.In.grown {w w' : World} {B c : Nat} {e : Ex} (h : e.In w) (hf : e.Fresh B) (hg : w.grownBy w' (some c)) (hc : c < B) : e.In w' := by
  induction h with
  | mk e hw hr hk ih =>
    cases hf with
    | mk _ hb hk' => exact ⟨e, hw, row_grown hr hg (fun hp => by have := hb hp; omega), fun k hkk => ih k hkk (hk' k hkk)⟩
/-- What a maker of expressions answers. -/
def ExOut (w w' : World) (b a n N : Nat) (L : IL) (r : Ending) : Prop :=
  (∃ e : Ex, r = .returned (.agg #[.int .i64 e.op, .int .i64 e.typ, .int .i64 e.num, .string e.text, .int .i64 e.col, .slice e.kh.ao e.kids.length e.kh.cap]) ∧ e.In w' ∧ e.Fresh w.heap.size ∧ e.size ≤ N) ∧ (∃ a', a ≤ a' ∧ a' ≤ a + n ∧ TapeIn w' b L a') ∧ w.grownBy w' (some b)
theorem ExOut.wider {w w' : World} {b a n n' N N' : Nat} {L : IL} {r : Ending} (h : ExOut w w' b a n N L r) (hn : n ≤ n') (hN : N ≤ N') : ExOut w w' b a n' N' L r := by
  obtain ⟨⟨e, h1, h2, h3, h4⟩, ⟨a', h5, h6, h7⟩, h8⟩ := h
  exact ⟨⟨e, h1, h2, h3, by omega⟩, ⟨a', h5, by omega, h7⟩, h8⟩
/-- An expression without Kids. -/
abbrev leafEx (op typ num : Int) (text : ByteArray) (col : Int) : Ex := ⟨op, typ, num, text, col, nilHd, []⟩
theorem leaf_in {op typ num : Int} {text : ByteArray} {col : Int} (h1 : int64 op) (h2 : int64 typ) (h3 : int64 num) (h4 : text.size ≤ maxLen) (h5 : int64 col) (w : World) : (leafEx op typ num text col).In w :=
  ⟨_, ⟨h1, h2, h3, h4, h5⟩, Row.nil _ _ _, fun k hk => by cases hk⟩
theorem leaf_fresh (op typ num : Int) (text : ByteArray) (col : Int) (B : Nat) : (leafEx op typ num text col).Fresh B := ⟨_, fun h => absurd h (by show ¬ 0 < 0; omega), fun k hk => by cases hk⟩
theorem leaf_size (op typ num : Int) (text : ByteArray) (col : Int) : (leafEx op typ num text col).size = 1 := by rw [Ex.size_eq]; simp [Ex.sizes]
theorem z64 : int64 0 := by constructor <;> decide

set_option maxRecDepth 100000 in
set_option maxHeartbeats 1000000 in
theorem const_any (v : V) (hv : v.wf) (k : Int) (hk : int64 k) (w : World) :
    Calls Tryd.prog 78 #[.agg #[.int .i64 v.kind, .int .i64 v.num, .string v.text], .int .i64 k] w fun r w' =>
      (∃ (op typ num : Int) (text : ByteArray), r = .returned (.agg #[.int .i64 op, .int .i64 typ, .int .i64 num, .string text, .int .i64 0, .slice none 0 0]) ∧ (∀ u, (leafEx op typ num text 0).In u)) ∧ Below w.heap.size w w' := by
  obtain ⟨kd, n, s⟩ := v
  obtain ⟨h1, h2, h3⟩ := hv
  dsimp only at *
  have HN := hide h2
  have HT := hide h3
  have HK := hide hk
  clear h1 h2 h3 hk
  by_cases c1 : kd = 1
  · subst c1
    go_enter Tryd.func78, Tryd.ntmps78
    go_wp2
    exact bodyPost_ret (v := .agg #[.int .i64 2, .int .i64 0, .int .i64 n, .string ⟨#[]⟩, .int .i64 0, .slice none 0 0]) (by simp [results, Tryd.results78, go_sem]) rfl ⟨⟨2, 0, n, ⟨#[]⟩, rfl, fun u => leaf_in (by constructor <;> decide) z64 HN.out (by show (0 : Nat) ≤ maxLen; omega) z64 u⟩, belAA _ _⟩
  by_cases c2 : kd = 2
  · subst c2
    go_enter Tryd.func78, Tryd.ntmps78
    go_wp2
    exact bodyPost_ret (v := .agg #[.int .i64 3, .int .i64 0, .int .i64 n, .string ⟨#[]⟩, .int .i64 0, .slice none 0 0]) (by simp [results, Tryd.results78, go_sem]) rfl ⟨⟨3, 0, n, ⟨#[]⟩, rfl, fun u => leaf_in (by constructor <;> decide) z64 HN.out (by show (0 : Nat) ≤ maxLen; omega) z64 u⟩, belAA _ _⟩
  by_cases c3 : kd = 3
  · subst c3
    go_enter Tryd.func78, Tryd.ntmps78
    go_wp2
    exact bodyPost_ret (v := .agg #[.int .i64 4, .int .i64 0, .int .i64 0, .string s, .int .i64 0, .slice none 0 0]) (by simp [results, Tryd.results78, go_sem]) rfl ⟨⟨4, 0, 0, s, rfl, fun u => leaf_in (by constructor <;> decide) z64 z64 HT.out z64 u⟩, belAA _ _⟩
  · have b1 : (kd == 1) = false := beq_eq_false_iff_ne.2 c1
    have b2 : (kd == 2) = false := beq_eq_false_iff_ne.2 c2
    have b3 : (kd == 3) = false := beq_eq_false_iff_ne.2 c3
    go_enter Tryd.func78, Tryd.ntmps78
    go_wp2
    exact bodyPost_ret (v := .agg #[.int .i64 1, .int .i64 k, .int .i64 0, .string ⟨#[]⟩, .int .i64 0, .slice none 0 0]) (by simp [results, Tryd.results78, go_sem]) rfl ⟨⟨1, k, 0, ⟨#[]⟩, rfl, fun u => leaf_in (by constructor <;> decide) HK.out z64 (by show (0 : Nat) ≤ maxLen; omega) z64 u⟩, belAA _ _⟩

theorem il_mk2 {w : World} {base : Nat} {v : Value} {n : Nat} {xs : List Int} {e : TypeId} (h : w.ownsRow base e 1 v n (xs.flatMap icells)) (hw : ∀ n ∈ xs, int64 n) : ∃ r : IL, v = .slice r.h.ao r.l.length r.h.cap ∧ r.l = xs ∧ r.In w ∧ (0 < r.l.length → base ≤ r.h.b) := by
  obtain ⟨hd, rfl, hr⟩ := own_row (size := 1) (cells := icells) (fun _ => rfl) (by decide) h
  refine ⟨⟨hd, xs⟩, rfl, rfl, ⟨hr, hw⟩, fun hp => ?_⟩
  have hn : n = xs.length := by
    have := h.1
    rw [flatMap_len (cells := icells) (size := 1) (fun _ => rfl)] at this
    omega
  subst hn
  exact own_from h hp
theorem set6b (w : World) (g : Nat) (a b c d e f : Value) : w.grownBy ((((((w.setCell ⟨g, 0, none⟩ a).setCell ⟨g, 1, none⟩ b).setCell ⟨g, 2, none⟩ c).setCell ⟨g, 3, none⟩ d).setCell ⟨g, 4, none⟩ e).setCell ⟨g, 5, none⟩ f) (some g) := set6 w g a b c d e f

set_option maxRecDepth 100000 in
set_option maxHeartbeats 4000000 in
theorem pick_any (w : World) (b a : Nat) (L r : IL) (k : Int) (hk : isT k = true) (ht : TapeIn w b L a) (ha : a ≤ 4611686018427380000) (hr : r.In w) (hrn : r.l.length ≤ 1000) :
    Calls Tryd.prog 41 #[.pointer (some ⟨b, 0, none⟩), .slice r.h.ao r.l.length r.h.cap, .int .i64 k] w fun e w' => ExOut w w' b a 2 1 L e := by
  have hbl := ht.lt
  have hn := hr.1.len
  have HLW := hide ht.low
  have HK64 := hide (isT_64 hk)
  obtain ⟨i0, hi, hz0, hz1, hz2⟩ := info_parts info3
  have HI := hide (And.intro hi (And.intro hz0 (And.intro hz1 hz2)))
  clear hi hz0 hz1 hz2
  have HB0 := hide (belA (w := w) (.cells #[.int .i64 0, .int .i64 0, .int .i64 0, .string ⟨#[]⟩, .int .i64 0, .slice none 0 0] 45))
  have HK := hide (Box.new w #[.int .i64 0, .int .i64 0, .int .i64 0, .string ⟨#[]⟩, .int .i64 0, .slice none 0 0] 45)
  have HT := hide (ht.mono HB0.out)
  have HR := hide (hr.mono HB0.out)
  clear ht hr
  go_enter Tryd.func41, Tryd.ntmps41
  go_wp2
  go_loopw [7, 8] (fun v i wr => ∃ (j m : Nat) (xs : List Int), i = .int .i64 j ∧ j ≤ r.l.length ∧ m ≤ j ∧ Hid (wr.ownsRow (w.heap.size + 1) 3 1 v m (xs.flatMap icells)) ∧ Hid (∀ x ∈ xs, 0 ≤ x ∧ x ≤ 1000) ∧ Hid (Below (w.alloc (.cells #[.int .i64 0, .int .i64 0, .int .i64 0, .string ⟨#[]⟩, .int .i64 0, .slice none 0 0] 45)).heap.size (w.alloc (.cells #[.int .i64 0, .int .i64 0, .int .i64 0, .string ⟨#[]⟩, .int .i64 0, .slice none 0 0] 45)) wr)) (fun _ i _ => r.l.length - (intOf i).toNat)
  case atStart => exact ⟨0, 0, [], rfl, Nat.zero_le _, Nat.le_refl _, World.ownsRow_nil _ _ _ _, (fun x hx => absurd hx List.not_mem_nil), Below.refl _ _⟩
  case round =>
    obtain ⟨j, m, xs, rfl, hj, hm, HO, HX, HBW⟩ := hrel
    have HRR := hide (HR.out.mono HBW.out)
    have hszw : w.heap.size + 1 ≤ wr.heap.size := by have := HBW.out.size; simpa using this
    by_cases hlt : j < r.l.length
    · have hix := IL.ix HRR.out hlt
      have c0 := int_at HRR.out.1 hlt
      have hbk := HRR.out.1.blk hlt
      obtain ⟨bq, hbq⟩ : ∃ q, (r.l[j] == k) = q := ⟨_, rfl⟩
      cases bq
      · go_wp2
        go_roundw
        case rel => exact ⟨j + 1, m, xs, by go_num, by omega, by omega, HO.out, HX.out, HBW.out⟩
        case measure => simp [intOf]; omega
      · go_wp2_with (at_builtin; refine wpList_append_own _ rfl _ _ 22 rfl (w.heap.size + 1) 3 i0 (.int .i64 0) 1 8 Tryd.underlying22 HI.out.1 HI.out.2.1 HI.out.2.2.1 HI.out.2.2.2 rfl (by decide) _ _ _ rfl (HO.out.alloc _) ⟨wr.heap.size, 0, none⟩ 1 1 [.int .i64 (j : Int)] rfl rfl (new_cells (l := [_])) one_int (by unfold maxLen; omega) (by omega) (by simp; omega) ?_; intro v' w2 hown' hgrow _)
        have HO' := hide hown'
        have HG := hide hgrow
        clear hown' hgrow
        go_wp2
        go_roundw
        case rel =>
          refine ⟨j + 1, m + 1, xs ++ [(j : Int)], by go_num, by omega, by omega, ?_, ?_, ?_⟩
          · refine hide ?_
            rw [List.flatMap_append]
            simpa using HO'.out
          · intro x hx
            rcases List.mem_append.1 hx with h | h
            · exact HX.out x h
            · rw [List.mem_singleton.1 h]; omega
          · exact grown1 HBW.out HBW.out.size HG.out (fun b' hb' => by have := (HO.out.lt b' hb').1; simpa using this)
        case measure => simp [intOf]; omega
    · have hxl : xs.length = m := by
        have := HO.out.1
        rw [flatMap_len (cells := icells) (size := 1) (fun _ => rfl)] at this
        omega
      obtain ⟨r2, hv, hrl, hri, hlb⟩ := il_mk2 HO.out (fun n hn' => by have := HX.out n hn'; constructor <;> omega)
      subst hv
      have hrm : r2.l.length = m := by rw [hrl]; exact hxl
      have HRB := hide hlb
      have HXR := hide (show ∀ x ∈ r2.l, 0 ≤ x ∧ x ≤ 1000 from fun x hx => HX.out x (hrl ▸ hx))
      have HRI := hide hri
      have hrn2 : r2.l.length ≤ 1000 := by omega
      clear hlb hri hrl hxl hrm HO HX HRR
      have HTW := hide (HT.out.mono HBW.out)
      have HGW := hide (show w.grownBy wr (some b) from only_below (HB0.out.trans (HBW.out.mono HB0.out.size)) _)
      have HKW := hide (HK.out.below HBW.out)
      obtain ⟨n, hn'⟩ : ∃ n : Nat, L.next a ((r2.l.length : Int) + 2) = n := ⟨(L.next a ((r2.l.length : Int) + 2)).toNat, by have := (L.next_ok a (n := (r2.l.length : Int) + 2) (by omega)).1; omega⟩
      have HNX := hide hn'
      clear hn'
      by_cases hnl : n < r2.l.length
      · have hnl2 : (n : Int) < (r2.l.length : Int) := by omega
        go_wp2_with (first
          | (go_at_call 10; refine (next_any _ b a L ((r2.l.length : Int) + 2) HTW.out (by omega) (by omega) ⟨by omega, by omega⟩).mono ?_; rintro e w2 ⟨rfl, ht2, hg2⟩; rw [HNX.out]; have HT2 := hide ht2; have HG2 := hide hg2; have hr2 := row_grown HRI.out.1 hg2 (fun hp => by have := HRB.out hp; omega); have hix := IL.ix (show IL.In w2 r2 from ⟨hr2, HRI.out.2⟩) hnl; have c0 := int_at hr2 hnl; have hbk := hr2.blk hnl; have hkb := HKW.out.grown hg2 (by simp; omega); have e0 := hkb.cell (j := 0) rfl; have e1 := hkb.cell (j := 1) rfl; have e2 := hkb.cell (j := 2) rfl; have e3 := hkb.cell (j := 3) rfl; have e4 := hkb.cell (j := 4) rfl; have e5 := hkb.cell (j := 5) rfl; have f0 := hkb.fr 0; have f1 := hkb.fr 1; have f2 := hkb.fr 2; have f3 := hkb.fr 3; have f4 := hkb.fr 4; have f5 := hkb.fr 5; clear hkb ht2 hg2 hr2))
        have hxr := HXR.out _ (List.getElem_mem hnl)
        exact bodyPost_ret (v := .agg #[.int .i64 5, .int .i64 0, .int .i64 0, .string ⟨#[]⟩, .int .i64 r2.l[n], .slice none 0 0]) (by simp [results, Tryd.results41, go_sem, e0, e1, e2, e3, e4, e5]) rfl
          ⟨⟨leafEx 5 0 0 ⟨#[]⟩ r2.l[n], rfl, leaf_in (by constructor <;> decide) z64 z64 (by show (0 : Nat) ≤ maxLen; omega) (by constructor <;> omega) _, leaf_fresh _ _ _ _ _ _, by rw [leaf_size]; omega⟩, ⟨a + 1, by omega, by omega, tz2 HT2.out (set6 _ _ _ _ _ _ _ _) HLW.out (Nat.le_refl _)⟩, gb_then (HGW.out.trans HG2.out) (set6 _ _ _ _ _ _ _ _) (Nat.le_refl _)⟩
      · have hnl2 : ¬ (n : Int) < (r2.l.length : Int) := by omega
        go_wp2_with (first
          | (go_at_call 10; refine (next_any _ b a L ((r2.l.length : Int) + 2) HTW.out (by omega) (by omega) ⟨by omega, by omega⟩).mono ?_; rintro e w2 ⟨rfl, ht2, hg2⟩; rw [HNX.out]; have HT2 := hide ht2; have HG2 := hide (HGW.out.trans hg2); have HK2 := hide (HKW.out.grown hg2 (by simp; omega)); clear ht2 hg2)
          | (go_at_call 57; refine (value_any _ b (a + 1) L k hk HT2.out (by omega)).mono ?_; rintro e w3 ⟨⟨v, hvw, rfl⟩, ht3, hg3⟩; have HT3 := hide ht3; have HG3 := hide (HG2.out.trans hg3); have HK3 := hide (HK2.out.grown hg3 (by simp; omega)); have HVW := hide hvw; clear ht3 hg3 hvw)
          | (go_at_call 78; refine (const_any v HVW.out k HK64.out _).mono ?_; rintro e w4 ⟨⟨op, typ, num, text, rfl, hxi⟩, hb4⟩; have HXI := hide hxi; have HT4 := hide (HT3.out.mono hb4); have HG4 := hide (HG3.out.trans (only_below hb4 _)); have hkb := HK3.out.below hb4; clear hxi hb4; have e0 := hkb.cell (j := 0) rfl; have e1 := hkb.cell (j := 1) rfl; have e2 := hkb.cell (j := 2) rfl; have e3 := hkb.cell (j := 3) rfl; have e4 := hkb.cell (j := 4) rfl; have e5 := hkb.cell (j := 5) rfl; have f0 := hkb.fr 0; have f1 := hkb.fr 1; have f2 := hkb.fr 2; have f3 := hkb.fr 3; have f4 := hkb.fr 4; have f5 := hkb.fr 5; clear hkb))
        exact bodyPost_ret (v := .agg #[.int .i64 op, .int .i64 typ, .int .i64 num, .string text, .int .i64 0, .slice none 0 0]) (by simp [results, Tryd.results41, go_sem, e0, e1, e2, e3, e4, e5]) rfl
          ⟨⟨leafEx op typ num text 0, rfl, HXI.out _, leaf_fresh _ _ _ _ _ _, by rw [leaf_size]; omega⟩, ⟨a + 2, by omega, by omega, tz2 HT4.out (set6 _ _ _ _ _ _ _ _) HLW.out (Nat.le_refl _)⟩, gb_then HG4.out (set6 _ _ _ _ _ _ _ _) (Nat.le_refl _)⟩
end Go.Proofs.YtmnbhdhgjbgidaaDoor

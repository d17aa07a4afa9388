/- ref02.Eval by operation, part 4. -/
import Derived.Test.YtlkhiihehaiinaaDoorFREv0K
namespace Go.Proofs.YtlkhiihehaiinaaDoor
open Go.RowKit


set_option maxRecDepth 100000 in
set_option maxHeartbeats 8000000 in
theorem rev_11 (typ num : Int) (text : ByteArray) (col : Int) (kh : Hd) (kids : List Ex) (r : VL) (w : World) (hsm : kids.length ≤ 1000000) (hrow : Row w 6 Ex.cells kh kids) (HKI : Hid (∀ k ∈ kids, k.In w)) (HIH : Hid (∀ k ∈ kids, REv r k)) (HR : Hid (r.In w)) (HKB : Hid (kidsOk 11 kids.length = true)) (hneed : 0 < kids.length) :
    Calls Tryd.prog 11 #[.agg #[.int .i64 11, .int .i64 typ, .int .i64 num, .string text, .int .i64 col, .slice kh.ao kids.length kh.cap], .slice r.h.ao r.l.length r.h.cap] w fun e' w' => e' = .returned (.agg #[.int .i64 (applyV 11 (kids.map (Ex.va r.l))).kind, .int .i64 (applyV 11 (kids.map (Ex.va r.l))).num, .string (applyV 11 (kids.map (Ex.va r.l))).text]) ∧ Below w.heap.size w w' := by
  have hn := hrow.len
  obtain ⟨i0, hi, hz0, hz1, hz2⟩ := info_parts info_val
  have HI := hide (And.intro hi (And.intro hz0 (And.intro hz1 hz2)))
  clear hi hz0 hz1 hz2
  obtain ⟨v, hv⟩ : ∃ v, applyV 11 (kids.map (Ex.va r.l)) = v := ⟨_, rfl⟩
  have HV := hide hv
  rw [hv]
  clear hv
  go_enter Tryd.func11, Tryd.ntmps11
  go_wp2_with (go_at_call 28; refine (rkids_any 11 kids.length _).mono ?_; rintro e x1 ⟨rfl, hb⟩; rw [HKB.out]; have HS1 := hide (SE.start hb); clear hb)
  go_loopw [6, 5] (fun i v wr => ∃ (k : Nat) (u : Value), u = v ∧ k ≤ kids.length ∧ i = .int .i64 k ∧ wr.ownsRow (w.heap.size + 2) 24 3 v k ((kids.take k).flatMap (fun k => V.cells (k.va r.l))) ∧ Hid (SE w #[.int .i64 11, .int .i64 typ, .int .i64 num, .string text, .int .i64 col, .slice kh.ao kids.length kh.cap] wr)) (fun i _ _ => kids.length - (intOf i).toNat)
  case atStart => exact ⟨0, _, rfl, Nat.zero_le _, rfl, World.ownsRow_nil _ _ _ _, HS1⟩
  case round =>
    obtain ⟨k, u, rfl, hk, rfl, hown, HS2⟩ := hrel
    have HO := hide hown
    have z5 := HS2.out.be.cell (j := 5) rfl
    clear hown HS1
    by_cases hlt : k < kids.length
    · have hlti : (k : Int) < kids.length := by omega
      clear hneed
      obtain ⟨y, hy⟩ : ∃ y, kids[k] = y := ⟨_, rfl⟩
      obtain ⟨p, hix, KC⟩ := kid_at hrow k hlt k rfl hy
      obtain ⟨kb, a0, a1, a2, a3, a4, a5⟩ := KC _ HS2.out.bel
      have HYI := hide (hy ▸ HKI.out _ (List.getElem_mem hlt) : y.In w)
      have HYE := hide (hy ▸ HIH.out _ (List.getElem_mem hlt) : REv r y)
      have HTK := hide (show (kids.take (k + 1)).flatMap (fun k => V.cells (k.va r.l)) = (kids.take k).flatMap (fun k => V.cells (k.va r.l)) ++ V.cells (y.va r.l) from by rw [take_snoc kids hlt, List.flatMap_append, hy]; simp)
      have sl := HS2.out.lt
      clear KC hy
      go_wp2_with (first
        | (go_at_call 11; refine (HYE.out _ (HYI.out.mono HS2.out.bel) (HR.out.mono HS2.out.bel)).mono ?_; rintro e x3 ⟨rfl, hb⟩; have HB3 := hide hb; have HS3 := hide (HS2.out.call hb); clear hb)
        | (at_builtin; refine wpList_append_own _ rfl _ _ 28 rfl (w.heap.size + 2) 24 i0 (.agg #[.int .i64 0, .int .i64 0, .string ByteArray.empty]) 3 32 Tryd.underlying28 HI.out.1 HI.out.2.1 HI.out.2.2.1 HI.out.2.2.2 rfl (by decide) _ _ _ rfl ((HO.out.kept (only_below HB3.out none) (Classical.em _)).alloc _) ⟨x3.heap.size, 0, none⟩ 1 1 (V.cells (y.va r.l)) rfl rfl (new_cells (l := V.cells (y.va r.l))) (v_one _) (by unfold maxLen; omega) (by omega) (by have := HS3.out.lt; simp; omega) ?_; intro v' x4 hown' hgrow _; have HO4 := hide (show x4.ownsRow (w.heap.size + 2) 24 3 v' (k + 1) ((kids.take (k + 1)).flatMap (fun k => V.cells (k.va r.l))) from by rw [HTK.out]; exact hown'); have HG4 := hide hgrow; clear hown' hgrow))
      go_roundw
      case rel =>
        refine ⟨k + 1, _, rfl, by omega, by go_num, HO4.out, hide ?_⟩
        have hg := HG4.out
        have h1 := HS3.out.call (belA (.cells (V.cells (y.va r.l)).toArray 24))
        have hlo := HO.out.lt
        exact ⟨h1.bel.grown hg h1.bel.size (fun j hj => by have := (hlo j hj).1; omega), h1.be.grown hg (fun e => by have := (hlo _ e.symm).1; omega), h1.br.grown hg (fun e => by have := (hlo _ e.symm).1; omega)⟩
      case measure => simp [intOf]; omega
    · have hke : k = kids.length := by omega
      have hlti : ¬ (k : Int) < kids.length := by omega
      have ho := HO.out
      have hlo := HO.out.lt
      rw [hke, List.take_length, ← flat_map] at ho
      obtain ⟨q, hvq, hq, hqin⟩ := vl_mk ho (fun x hx => by obtain ⟨z, hz, rfl⟩ := List.mem_map.1 hx; exact Ex.va_wf HR.out.2 (HKI.out z hz))
      have hql : 0 < q.l.length := by rw [hq, List.length_map]; exact hneed
      have h0 : 0 < q.l.length := by omega
      subst hvq
      have hqb : q.h.b ≠ w.heap.size + 1 := by
        have h1 := (hqin.1.2.2.1 h0).1
        have h2 := (hlo q.h.b (by show Value.ownBlock (.slice q.h.ao _ _) = _; rw [h1]; rfl)).1
        omega
      obtain ⟨hix0, hbb, c0, c1, c2⟩ := apl0 hqin h0
      obtain ⟨a, ha⟩ : ∃ a, q.l[0] = a := ⟨_, rfl⟩
      have HA := hide (ha ▸ hqin.2 _ (List.getElem_mem h0) : a.wf)
      have hga := getD_of h0 ha
      rw [ha] at c0 c1 c2
      have HE := hide (show arithV 7 ⟨1, 0, ⟨#[]⟩⟩ a = v from by rw [← HV.out, ← hq]; unfold applyV; dsimp only; rw [hga]; simp)
      have HSB := hide HS2.out.bel
      have HS0 := hide (RS.start HS2.out.br)
      have z0 := HS2.out.be.cell (j := 0) rfl
      have hyc0 : ∀ w' : World, RS (w.heap.size + 1) wr w' → w'.cell? ⟨q.h.b, q.h.o, none⟩ = some (.int .i64 a.kind) := fun w' h => h.at hqb c0
      have hyc1 : ∀ w' : World, RS (w.heap.size + 1) wr w' → w'.cell? ⟨q.h.b, q.h.o + 1, none⟩ = some (.int .i64 a.num) := fun w' h => h.at hqb c1
      have hyc2 : ∀ w' : World, RS (w.heap.size + 1) wr w' → w'.cell? ⟨q.h.b, q.h.o + 2, none⟩ = some (.string a.text) := fun w' h => h.at hqb c2
      clear ha hga hq hqin ho hlo HO hke hqb hbb hrow hsm hneed
      clear hyc0 hyc1 hyc2
      go_wp2_with (first
        | (go_at_call 29; refine (rarith_any 7 ⟨1, 0, ⟨#[]⟩⟩ a ⟨i64_lit rfl, i64_lit rfl, Nat.zero_le _⟩ HA.out (by decide) _).mono ?_; rintro e xx ⟨rfl, hb_xx⟩; have HSX := RS.call (g := w.heap.size + 1) (y := wr) HS0.out hb_xx; obtain ⟨v0, v1, v2, hq⟩ := HSX.bx; have e0 := hq.cell (j := 0) rfl; have e1 := hq.cell (j := 1) rfl; have e2 := hq.cell (j := 2) rfl; have f0 := hq.fr 0; have f1 := hq.fr 1; have f2 := hq.fr 2; clear hq))
      exact bodyPost_ret (v := .agg #[.int .i64 (arithV 7 ⟨1, 0, ⟨#[]⟩⟩ a).kind, .int .i64 (arithV 7 ⟨1, 0, ⟨#[]⟩⟩ a).num, .string (arithV 7 ⟨1, 0, ⟨#[]⟩⟩ a).text]) (by simp [results, Tryd.results11, go_sem, e0, e1, e2]) rfl ⟨by rw [← HE.out], HSX.fin HSB.out (by omega) _ _ _⟩


set_option maxRecDepth 100000 in
set_option maxHeartbeats 8000000 in
theorem rev_13 (typ num : Int) (text : ByteArray) (col : Int) (kh : Hd) (kids : List Ex) (r : VL) (w : World) (hsm : kids.length ≤ 1000000) (hrow : Row w 6 Ex.cells kh kids) (HKI : Hid (∀ k ∈ kids, k.In w)) (HIH : Hid (∀ k ∈ kids, REv r k)) (HR : Hid (r.In w)) (HKB : Hid (kidsOk 13 kids.length = true)) (hneed : 0 < kids.length) :
    Calls Tryd.prog 11 #[.agg #[.int .i64 13, .int .i64 typ, .int .i64 num, .string text, .int .i64 col, .slice kh.ao kids.length kh.cap], .slice r.h.ao r.l.length r.h.cap] w fun e' w' => e' = .returned (.agg #[.int .i64 (applyV 13 (kids.map (Ex.va r.l))).kind, .int .i64 (applyV 13 (kids.map (Ex.va r.l))).num, .string (applyV 13 (kids.map (Ex.va r.l))).text]) ∧ Below w.heap.size w w' := by
  have hn := hrow.len
  obtain ⟨i0, hi, hz0, hz1, hz2⟩ := info_parts info_val
  have HI := hide (And.intro hi (And.intro hz0 (And.intro hz1 hz2)))
  clear hi hz0 hz1 hz2
  obtain ⟨v, hv⟩ : ∃ v, applyV 13 (kids.map (Ex.va r.l)) = v := ⟨_, rfl⟩
  have HV := hide hv
  rw [hv]
  clear hv
  go_enter Tryd.func11, Tryd.ntmps11
  go_wp2_with (go_at_call 28; refine (rkids_any 13 kids.length _).mono ?_; rintro e x1 ⟨rfl, hb⟩; rw [HKB.out]; have HS1 := hide (SE.start hb); clear hb)
  go_loopw [6, 5] (fun i v wr => ∃ (k : Nat) (u : Value), u = v ∧ k ≤ kids.length ∧ i = .int .i64 k ∧ wr.ownsRow (w.heap.size + 2) 24 3 v k ((kids.take k).flatMap (fun k => V.cells (k.va r.l))) ∧ Hid (SE w #[.int .i64 13, .int .i64 typ, .int .i64 num, .string text, .int .i64 col, .slice kh.ao kids.length kh.cap] wr)) (fun i _ _ => kids.length - (intOf i).toNat)
  case atStart => exact ⟨0, _, rfl, Nat.zero_le _, rfl, World.ownsRow_nil _ _ _ _, HS1⟩
  case round =>
    obtain ⟨k, u, rfl, hk, rfl, hown, HS2⟩ := hrel
    have HO := hide hown
    have z5 := HS2.out.be.cell (j := 5) rfl
    clear hown HS1
    by_cases hlt : k < kids.length
    · have hlti : (k : Int) < kids.length := by omega
      clear hneed
      obtain ⟨y, hy⟩ : ∃ y, kids[k] = y := ⟨_, rfl⟩
      obtain ⟨p, hix, KC⟩ := kid_at hrow k hlt k rfl hy
      obtain ⟨kb, a0, a1, a2, a3, a4, a5⟩ := KC _ HS2.out.bel
      have HYI := hide (hy ▸ HKI.out _ (List.getElem_mem hlt) : y.In w)
      have HYE := hide (hy ▸ HIH.out _ (List.getElem_mem hlt) : REv r y)
      have HTK := hide (show (kids.take (k + 1)).flatMap (fun k => V.cells (k.va r.l)) = (kids.take k).flatMap (fun k => V.cells (k.va r.l)) ++ V.cells (y.va r.l) from by rw [take_snoc kids hlt, List.flatMap_append, hy]; simp)
      have sl := HS2.out.lt
      clear KC hy
      go_wp2_with (first
        | (go_at_call 11; refine (HYE.out _ (HYI.out.mono HS2.out.bel) (HR.out.mono HS2.out.bel)).mono ?_; rintro e x3 ⟨rfl, hb⟩; have HB3 := hide hb; have HS3 := hide (HS2.out.call hb); clear hb)
        | (at_builtin; refine wpList_append_own _ rfl _ _ 28 rfl (w.heap.size + 2) 24 i0 (.agg #[.int .i64 0, .int .i64 0, .string ByteArray.empty]) 3 32 Tryd.underlying28 HI.out.1 HI.out.2.1 HI.out.2.2.1 HI.out.2.2.2 rfl (by decide) _ _ _ rfl ((HO.out.kept (only_below HB3.out none) (Classical.em _)).alloc _) ⟨x3.heap.size, 0, none⟩ 1 1 (V.cells (y.va r.l)) rfl rfl (new_cells (l := V.cells (y.va r.l))) (v_one _) (by unfold maxLen; omega) (by omega) (by have := HS3.out.lt; simp; omega) ?_; intro v' x4 hown' hgrow _; have HO4 := hide (show x4.ownsRow (w.heap.size + 2) 24 3 v' (k + 1) ((kids.take (k + 1)).flatMap (fun k => V.cells (k.va r.l))) from by rw [HTK.out]; exact hown'); have HG4 := hide hgrow; clear hown' hgrow))
      go_roundw
      case rel =>
        refine ⟨k + 1, _, rfl, by omega, by go_num, HO4.out, hide ?_⟩
        have hg := HG4.out
        have h1 := HS3.out.call (belA (.cells (V.cells (y.va r.l)).toArray 24))
        have hlo := HO.out.lt
        exact ⟨h1.bel.grown hg h1.bel.size (fun j hj => by have := (hlo j hj).1; omega), h1.be.grown hg (fun e => by have := (hlo _ e.symm).1; omega), h1.br.grown hg (fun e => by have := (hlo _ e.symm).1; omega)⟩
      case measure => simp [intOf]; omega
    · have hke : k = kids.length := by omega
      have hlti : ¬ (k : Int) < kids.length := by omega
      have ho := HO.out
      have hlo := HO.out.lt
      rw [hke, List.take_length, ← flat_map] at ho
      obtain ⟨q, hvq, hq, hqin⟩ := vl_mk ho (fun x hx => by obtain ⟨z, hz, rfl⟩ := List.mem_map.1 hx; exact Ex.va_wf HR.out.2 (HKI.out z hz))
      have hql : 0 < q.l.length := by rw [hq, List.length_map]; exact hneed
      have h0 : 0 < q.l.length := by omega
      subst hvq
      have hqb : q.h.b ≠ w.heap.size + 1 := by
        have h1 := (hqin.1.2.2.1 h0).1
        have h2 := (hlo q.h.b (by show Value.ownBlock (.slice q.h.ao _ _) = _; rw [h1]; rfl)).1
        omega
      obtain ⟨hix0, hbb, c0, c1, c2⟩ := apl0 hqin h0
      obtain ⟨a, ha⟩ : ∃ a, q.l[0] = a := ⟨_, rfl⟩
      have HA := hide (ha ▸ hqin.2 _ (List.getElem_mem h0) : a.wf)
      have hga := getD_of h0 ha
      rw [ha] at c0 c1 c2
      have HE := hide (show (if a.kind = 3 then numV a.text.size else nulV) = v from by rw [← HV.out, ← hq]; unfold applyV; dsimp only; rw [hga]; simp)
      have HSB := hide HS2.out.bel
      have HS0 := hide (RS.start HS2.out.br)
      have z0 := HS2.out.be.cell (j := 0) rfl
      have hyc0 : ∀ w' : World, RS (w.heap.size + 1) wr w' → w'.cell? ⟨q.h.b, q.h.o, none⟩ = some (.int .i64 a.kind) := fun w' h => h.at hqb c0
      have hyc1 : ∀ w' : World, RS (w.heap.size + 1) wr w' → w'.cell? ⟨q.h.b, q.h.o + 1, none⟩ = some (.int .i64 a.num) := fun w' h => h.at hqb c1
      have hyc2 : ∀ w' : World, RS (w.heap.size + 1) wr w' → w'.cell? ⟨q.h.b, q.h.o + 2, none⟩ = some (.string a.text) := fun w' h => h.at hqb c2
      have e0 := HS2.out.br.cell (j := 0) rfl
      have e1 := HS2.out.br.cell (j := 1) rfl
      have e2 := HS2.out.br.cell (j := 2) rfl
      have f0 := HS2.out.br.fr 0
      have f1 := HS2.out.br.fr 1
      have f2 := HS2.out.br.fr 2
      clear ha hga hq hqin ho hlo HO hke hqb hbb hrow hsm hneed
      clear hyc0 hyc1 hyc2
      by_cases hc : a.kind = 3
      · have HEC := hide (show numV a.text.size = v from (if_pos hc).symm.trans HE.out)
        have hcb : (a.kind != 3) = false := by rw [hc]; rfl
        clear HE hc
        go_wp2
        exact bodyPost_ret (v := .agg #[.int .i64 (numV a.text.size).kind, .int .i64 (numV a.text.size).num, .string (numV a.text.size).text]) (by simp [results, Tryd.results11, go_sem, e0, e1, e2, numV, nulV]) rfl ⟨by rw [← HEC.out], HS0.out.fin HSB.out (by omega) _ _ _⟩
      · have HEC := hide (show nulV = v from (if_neg hc).symm.trans HE.out)
        have hcb : (a.kind != 3) = true := bne_iff_ne.2 hc
        clear HE hc
        go_wp2
        exact bodyPost_ret (v := .agg #[.int .i64 (nulV).kind, .int .i64 (nulV).num, .string (nulV).text]) (by simp [results, Tryd.results11, go_sem, e0, e1, e2, numV, nulV]) rfl ⟨by rw [← HEC.out], HS0.out.fin HSB.out (by omega) _ _ _⟩


set_option maxRecDepth 100000 in
set_option maxHeartbeats 8000000 in
theorem rev_21 (typ num : Int) (text : ByteArray) (col : Int) (kh : Hd) (kids : List Ex) (r : VL) (w : World) (hsm : kids.length ≤ 1000000) (hrow : Row w 6 Ex.cells kh kids) (HKI : Hid (∀ k ∈ kids, k.In w)) (HIH : Hid (∀ k ∈ kids, REv r k)) (HR : Hid (r.In w)) (HKB : Hid (kidsOk 21 kids.length = true)) (hneed : 0 < kids.length) :
    Calls Tryd.prog 11 #[.agg #[.int .i64 21, .int .i64 typ, .int .i64 num, .string text, .int .i64 col, .slice kh.ao kids.length kh.cap], .slice r.h.ao r.l.length r.h.cap] w fun e' w' => e' = .returned (.agg #[.int .i64 (applyV 21 (kids.map (Ex.va r.l))).kind, .int .i64 (applyV 21 (kids.map (Ex.va r.l))).num, .string (applyV 21 (kids.map (Ex.va r.l))).text]) ∧ Below w.heap.size w w' := by
  have hn := hrow.len
  obtain ⟨i0, hi, hz0, hz1, hz2⟩ := info_parts info_val
  have HI := hide (And.intro hi (And.intro hz0 (And.intro hz1 hz2)))
  clear hi hz0 hz1 hz2
  obtain ⟨v, hv⟩ : ∃ v, applyV 21 (kids.map (Ex.va r.l)) = v := ⟨_, rfl⟩
  have HV := hide hv
  rw [hv]
  clear hv
  go_enter Tryd.func11, Tryd.ntmps11
  go_wp2_with (go_at_call 28; refine (rkids_any 21 kids.length _).mono ?_; rintro e x1 ⟨rfl, hb⟩; rw [HKB.out]; have HS1 := hide (SE.start hb); clear hb)
  go_loopw [6, 5] (fun i v wr => ∃ (k : Nat) (u : Value), u = v ∧ k ≤ kids.length ∧ i = .int .i64 k ∧ wr.ownsRow (w.heap.size + 2) 24 3 v k ((kids.take k).flatMap (fun k => V.cells (k.va r.l))) ∧ Hid (SE w #[.int .i64 21, .int .i64 typ, .int .i64 num, .string text, .int .i64 col, .slice kh.ao kids.length kh.cap] wr)) (fun i _ _ => kids.length - (intOf i).toNat)
  case atStart => exact ⟨0, _, rfl, Nat.zero_le _, rfl, World.ownsRow_nil _ _ _ _, HS1⟩
  case round =>
    obtain ⟨k, u, rfl, hk, rfl, hown, HS2⟩ := hrel
    have HO := hide hown
    have z5 := HS2.out.be.cell (j := 5) rfl
    clear hown HS1
    by_cases hlt : k < kids.length
    · have hlti : (k : Int) < kids.length := by omega
      clear hneed
      obtain ⟨y, hy⟩ : ∃ y, kids[k] = y := ⟨_, rfl⟩
      obtain ⟨p, hix, KC⟩ := kid_at hrow k hlt k rfl hy
      obtain ⟨kb, a0, a1, a2, a3, a4, a5⟩ := KC _ HS2.out.bel
      have HYI := hide (hy ▸ HKI.out _ (List.getElem_mem hlt) : y.In w)
      have HYE := hide (hy ▸ HIH.out _ (List.getElem_mem hlt) : REv r y)
      have HTK := hide (show (kids.take (k + 1)).flatMap (fun k => V.cells (k.va r.l)) = (kids.take k).flatMap (fun k => V.cells (k.va r.l)) ++ V.cells (y.va r.l) from by rw [take_snoc kids hlt, List.flatMap_append, hy]; simp)
      have sl := HS2.out.lt
      clear KC hy
      go_wp2_with (first
        | (go_at_call 11; refine (HYE.out _ (HYI.out.mono HS2.out.bel) (HR.out.mono HS2.out.bel)).mono ?_; rintro e x3 ⟨rfl, hb⟩; have HB3 := hide hb; have HS3 := hide (HS2.out.call hb); clear hb)
        | (at_builtin; refine wpList_append_own _ rfl _ _ 28 rfl (w.heap.size + 2) 24 i0 (.agg #[.int .i64 0, .int .i64 0, .string ByteArray.empty]) 3 32 Tryd.underlying28 HI.out.1 HI.out.2.1 HI.out.2.2.1 HI.out.2.2.2 rfl (by decide) _ _ _ rfl ((HO.out.kept (only_below HB3.out none) (Classical.em _)).alloc _) ⟨x3.heap.size, 0, none⟩ 1 1 (V.cells (y.va r.l)) rfl rfl (new_cells (l := V.cells (y.va r.l))) (v_one _) (by unfold maxLen; omega) (by omega) (by have := HS3.out.lt; simp; omega) ?_; intro v' x4 hown' hgrow _; have HO4 := hide (show x4.ownsRow (w.heap.size + 2) 24 3 v' (k + 1) ((kids.take (k + 1)).flatMap (fun k => V.cells (k.va r.l))) from by rw [HTK.out]; exact hown'); have HG4 := hide hgrow; clear hown' hgrow))
      go_roundw
      case rel =>
        refine ⟨k + 1, _, rfl, by omega, by go_num, HO4.out, hide ?_⟩
        have hg := HG4.out
        have h1 := HS3.out.call (belA (.cells (V.cells (y.va r.l)).toArray 24))
        have hlo := HO.out.lt
        exact ⟨h1.bel.grown hg h1.bel.size (fun j hj => by have := (hlo j hj).1; omega), h1.be.grown hg (fun e => by have := (hlo _ e.symm).1; omega), h1.br.grown hg (fun e => by have := (hlo _ e.symm).1; omega)⟩
      case measure => simp [intOf]; omega
    · have hke : k = kids.length := by omega
      have hlti : ¬ (k : Int) < kids.length := by omega
      have ho := HO.out
      have hlo := HO.out.lt
      rw [hke, List.take_length, ← flat_map] at ho
      obtain ⟨q, hvq, hq, hqin⟩ := vl_mk ho (fun x hx => by obtain ⟨z, hz, rfl⟩ := List.mem_map.1 hx; exact Ex.va_wf HR.out.2 (HKI.out z hz))
      have hql : 0 < q.l.length := by rw [hq, List.length_map]; exact hneed
      have h0 : 0 < q.l.length := by omega
      subst hvq
      have hqb : q.h.b ≠ w.heap.size + 1 := by
        have h1 := (hqin.1.2.2.1 h0).1
        have h2 := (hlo q.h.b (by show Value.ownBlock (.slice q.h.ao _ _) = _; rw [h1]; rfl)).1
        omega
      obtain ⟨hix0, hbb, c0, c1, c2⟩ := apl0 hqin h0
      obtain ⟨a, ha⟩ : ∃ a, q.l[0] = a := ⟨_, rfl⟩
      have HA := hide (ha ▸ hqin.2 _ (List.getElem_mem h0) : a.wf)
      have hga := getD_of h0 ha
      rw [ha] at c0 c1 c2
      have HE := hide (show bV (a.kind == 0) = v from by rw [← HV.out, ← hq]; unfold applyV; dsimp only; rw [hga]; simp)
      have HSB := hide HS2.out.bel
      have HS0 := hide (RS.start HS2.out.br)
      have z0 := HS2.out.be.cell (j := 0) rfl
      have hyc0 : ∀ w' : World, RS (w.heap.size + 1) wr w' → w'.cell? ⟨q.h.b, q.h.o, none⟩ = some (.int .i64 a.kind) := fun w' h => h.at hqb c0
      have hyc1 : ∀ w' : World, RS (w.heap.size + 1) wr w' → w'.cell? ⟨q.h.b, q.h.o + 1, none⟩ = some (.int .i64 a.num) := fun w' h => h.at hqb c1
      have hyc2 : ∀ w' : World, RS (w.heap.size + 1) wr w' → w'.cell? ⟨q.h.b, q.h.o + 2, none⟩ = some (.string a.text) := fun w' h => h.at hqb c2
      clear ha hga hq hqin ho hlo HO hke hqb hbb hrow hsm hneed
      clear hyc0 hyc1 hyc2
      go_wp2_with (first
        | (go_at_call 33; refine (rof_any (a.kind == 0) _).mono ?_; rintro e xx ⟨rfl, hb_xx⟩; have HSX := RS.call (g := w.heap.size + 1) (y := wr) HS0.out hb_xx; obtain ⟨v0, v1, v2, hq⟩ := HSX.bx; have e0 := hq.cell (j := 0) rfl; have e1 := hq.cell (j := 1) rfl; have e2 := hq.cell (j := 2) rfl; have f0 := hq.fr 0; have f1 := hq.fr 1; have f2 := hq.fr 2; clear hq))
      exact bodyPost_ret (v := .agg #[.int .i64 (bV (a.kind == 0)).kind, .int .i64 (bV (a.kind == 0)).num, .string (bV (a.kind == 0)).text]) (by simp [results, Tryd.results11, go_sem, e0, e1, e2]) rfl ⟨by rw [← HE.out], HSX.fin HSB.out (by omega) _ _ _⟩


set_option maxRecDepth 100000 in
set_option maxHeartbeats 8000000 in
theorem rev_24 (typ num : Int) (text : ByteArray) (col : Int) (kh : Hd) (kids : List Ex) (r : VL) (w : World) (hsm : kids.length ≤ 1000000) (hrow : Row w 6 Ex.cells kh kids) (HKI : Hid (∀ k ∈ kids, k.In w)) (HIH : Hid (∀ k ∈ kids, REv r k)) (HR : Hid (r.In w)) (HKB : Hid (kidsOk 24 kids.length = true)) (hneed : 0 < kids.length) :
    Calls Tryd.prog 11 #[.agg #[.int .i64 24, .int .i64 typ, .int .i64 num, .string text, .int .i64 col, .slice kh.ao kids.length kh.cap], .slice r.h.ao r.l.length r.h.cap] w fun e' w' => e' = .returned (.agg #[.int .i64 (applyV 24 (kids.map (Ex.va r.l))).kind, .int .i64 (applyV 24 (kids.map (Ex.va r.l))).num, .string (applyV 24 (kids.map (Ex.va r.l))).text]) ∧ Below w.heap.size w w' := by
  have hn := hrow.len
  obtain ⟨i0, hi, hz0, hz1, hz2⟩ := info_parts info_val
  have HI := hide (And.intro hi (And.intro hz0 (And.intro hz1 hz2)))
  clear hi hz0 hz1 hz2
  obtain ⟨v, hv⟩ : ∃ v, applyV 24 (kids.map (Ex.va r.l)) = v := ⟨_, rfl⟩
  have HV := hide hv
  rw [hv]
  clear hv
  go_enter Tryd.func11, Tryd.ntmps11
  go_wp2_with (go_at_call 28; refine (rkids_any 24 kids.length _).mono ?_; rintro e x1 ⟨rfl, hb⟩; rw [HKB.out]; have HS1 := hide (SE.start hb); clear hb)
  go_loopw [6, 5] (fun i v wr => ∃ (k : Nat) (u : Value), u = v ∧ k ≤ kids.length ∧ i = .int .i64 k ∧ wr.ownsRow (w.heap.size + 2) 24 3 v k ((kids.take k).flatMap (fun k => V.cells (k.va r.l))) ∧ Hid (SE w #[.int .i64 24, .int .i64 typ, .int .i64 num, .string text, .int .i64 col, .slice kh.ao kids.length kh.cap] wr)) (fun i _ _ => kids.length - (intOf i).toNat)
  case atStart => exact ⟨0, _, rfl, Nat.zero_le _, rfl, World.ownsRow_nil _ _ _ _, HS1⟩
  case round =>
    obtain ⟨k, u, rfl, hk, rfl, hown, HS2⟩ := hrel
    have HO := hide hown
    have z5 := HS2.out.be.cell (j := 5) rfl
    clear hown HS1
    by_cases hlt : k < kids.length
    · have hlti : (k : Int) < kids.length := by omega
      clear hneed
      obtain ⟨y, hy⟩ : ∃ y, kids[k] = y := ⟨_, rfl⟩
      obtain ⟨p, hix, KC⟩ := kid_at hrow k hlt k rfl hy
      obtain ⟨kb, a0, a1, a2, a3, a4, a5⟩ := KC _ HS2.out.bel
      have HYI := hide (hy ▸ HKI.out _ (List.getElem_mem hlt) : y.In w)
      have HYE := hide (hy ▸ HIH.out _ (List.getElem_mem hlt) : REv r y)
      have HTK := hide (show (kids.take (k + 1)).flatMap (fun k => V.cells (k.va r.l)) = (kids.take k).flatMap (fun k => V.cells (k.va r.l)) ++ V.cells (y.va r.l) from by rw [take_snoc kids hlt, List.flatMap_append, hy]; simp)
      have sl := HS2.out.lt
      clear KC hy
      go_wp2_with (first
        | (go_at_call 11; refine (HYE.out _ (HYI.out.mono HS2.out.bel) (HR.out.mono HS2.out.bel)).mono ?_; rintro e x3 ⟨rfl, hb⟩; have HB3 := hide hb; have HS3 := hide (HS2.out.call hb); clear hb)
        | (at_builtin; refine wpList_append_own _ rfl _ _ 28 rfl (w.heap.size + 2) 24 i0 (.agg #[.int .i64 0, .int .i64 0, .string ByteArray.empty]) 3 32 Tryd.underlying28 HI.out.1 HI.out.2.1 HI.out.2.2.1 HI.out.2.2.2 rfl (by decide) _ _ _ rfl ((HO.out.kept (only_below HB3.out none) (Classical.em _)).alloc _) ⟨x3.heap.size, 0, none⟩ 1 1 (V.cells (y.va r.l)) rfl rfl (new_cells (l := V.cells (y.va r.l))) (v_one _) (by unfold maxLen; omega) (by omega) (by have := HS3.out.lt; simp; omega) ?_; intro v' x4 hown' hgrow _; have HO4 := hide (show x4.ownsRow (w.heap.size + 2) 24 3 v' (k + 1) ((kids.take (k + 1)).flatMap (fun k => V.cells (k.va r.l))) from by rw [HTK.out]; exact hown'); have HG4 := hide hgrow; clear hown' hgrow))
      go_roundw
      case rel =>
        refine ⟨k + 1, _, rfl, by omega, by go_num, HO4.out, hide ?_⟩
        have hg := HG4.out
        have h1 := HS3.out.call (belA (.cells (V.cells (y.va r.l)).toArray 24))
        have hlo := HO.out.lt
        exact ⟨h1.bel.grown hg h1.bel.size (fun j hj => by have := (hlo j hj).1; omega), h1.be.grown hg (fun e => by have := (hlo _ e.symm).1; omega), h1.br.grown hg (fun e => by have := (hlo _ e.symm).1; omega)⟩
      case measure => simp [intOf]; omega
    · have hke : k = kids.length := by omega
      have hlti : ¬ (k : Int) < kids.length := by omega
      have ho := HO.out
      have hlo := HO.out.lt
      rw [hke, List.take_length, ← flat_map] at ho
      obtain ⟨q, hvq, hq, hqin⟩ := vl_mk ho (fun x hx => by obtain ⟨z, hz, rfl⟩ := List.mem_map.1 hx; exact Ex.va_wf HR.out.2 (HKI.out z hz))
      have hql : 0 < q.l.length := by rw [hq, List.length_map]; exact hneed
      have h0 : 0 < q.l.length := by omega
      subst hvq
      have hqb : q.h.b ≠ w.heap.size + 1 := by
        have h1 := (hqin.1.2.2.1 h0).1
        have h2 := (hlo q.h.b (by show Value.ownBlock (.slice q.h.ao _ _) = _; rw [h1]; rfl)).1
        omega
      obtain ⟨hix0, hbb, c0, c1, c2⟩ := apl0 hqin h0
      obtain ⟨a, ha⟩ : ∃ a, q.l[0] = a := ⟨_, rfl⟩
      have HA := hide (ha ▸ hqin.2 _ (List.getElem_mem h0) : a.wf)
      have hga := getD_of h0 ha
      rw [ha] at c0 c1 c2
      have HE := hide (show notV a = v from by rw [← HV.out, ← hq]; unfold applyV; dsimp only; rw [hga]; simp)
      have HSB := hide HS2.out.bel
      have HS0 := hide (RS.start HS2.out.br)
      have z0 := HS2.out.be.cell (j := 0) rfl
      have hyc0 : ∀ w' : World, RS (w.heap.size + 1) wr w' → w'.cell? ⟨q.h.b, q.h.o, none⟩ = some (.int .i64 a.kind) := fun w' h => h.at hqb c0
      have hyc1 : ∀ w' : World, RS (w.heap.size + 1) wr w' → w'.cell? ⟨q.h.b, q.h.o + 1, none⟩ = some (.int .i64 a.num) := fun w' h => h.at hqb c1
      have hyc2 : ∀ w' : World, RS (w.heap.size + 1) wr w' → w'.cell? ⟨q.h.b, q.h.o + 2, none⟩ = some (.string a.text) := fun w' h => h.at hqb c2
      clear ha hga hq hqin ho hlo HO hke hqb hbb hrow hsm hneed
      clear hyc0 hyc1 hyc2
      go_wp2_with (first
        | (go_at_call 31; refine (rnot_any a _).mono ?_; rintro e xx ⟨rfl, hb_xx⟩; have HSX := RS.call (g := w.heap.size + 1) (y := wr) HS0.out hb_xx; obtain ⟨v0, v1, v2, hq⟩ := HSX.bx; have e0 := hq.cell (j := 0) rfl; have e1 := hq.cell (j := 1) rfl; have e2 := hq.cell (j := 2) rfl; have f0 := hq.fr 0; have f1 := hq.fr 1; have f2 := hq.fr 2; clear hq))
      exact bodyPost_ret (v := .agg #[.int .i64 (notV a).kind, .int .i64 (notV a).num, .string (notV a).text]) (by simp [results, Tryd.results11, go_sem, e0, e1, e2]) rfl ⟨by rw [← HE.out], HSX.fin HSB.out (by omega) _ _ _⟩


set_option maxRecDepth 100000 in
set_option maxHeartbeats 8000000 in
theorem rev_25 (typ num : Int) (text : ByteArray) (col : Int) (kh : Hd) (kids : List Ex) (r : VL) (w : World) (hsm : kids.length ≤ 1000000) (hrow : Row w 6 Ex.cells kh kids) (HKI : Hid (∀ k ∈ kids, k.In w)) (HIH : Hid (∀ k ∈ kids, REv r k)) (HR : Hid (r.In w)) (HKB : Hid (kidsOk 25 kids.length = true)) (hneed : 0 < kids.length) :
    Calls Tryd.prog 11 #[.agg #[.int .i64 25, .int .i64 typ, .int .i64 num, .string text, .int .i64 col, .slice kh.ao kids.length kh.cap], .slice r.h.ao r.l.length r.h.cap] w fun e' w' => e' = .returned (.agg #[.int .i64 (applyV 25 (kids.map (Ex.va r.l))).kind, .int .i64 (applyV 25 (kids.map (Ex.va r.l))).num, .string (applyV 25 (kids.map (Ex.va r.l))).text]) ∧ Below w.heap.size w w' := by
  have hn := hrow.len
  obtain ⟨i0, hi, hz0, hz1, hz2⟩ := info_parts info_val
  have HI := hide (And.intro hi (And.intro hz0 (And.intro hz1 hz2)))
  clear hi hz0 hz1 hz2
  obtain ⟨v, hv⟩ : ∃ v, applyV 25 (kids.map (Ex.va r.l)) = v := ⟨_, rfl⟩
  have HV := hide hv
  rw [hv]
  clear hv
  go_enter Tryd.func11, Tryd.ntmps11
  go_wp2_with (go_at_call 28; refine (rkids_any 25 kids.length _).mono ?_; rintro e x1 ⟨rfl, hb⟩; rw [HKB.out]; have HS1 := hide (SE.start hb); clear hb)
  go_loopw [6, 5] (fun i v wr => ∃ (k : Nat) (u : Value), u = v ∧ k ≤ kids.length ∧ i = .int .i64 k ∧ wr.ownsRow (w.heap.size + 2) 24 3 v k ((kids.take k).flatMap (fun k => V.cells (k.va r.l))) ∧ Hid (SE w #[.int .i64 25, .int .i64 typ, .int .i64 num, .string text, .int .i64 col, .slice kh.ao kids.length kh.cap] wr)) (fun i _ _ => kids.length - (intOf i).toNat)
  case atStart => exact ⟨0, _, rfl, Nat.zero_le _, rfl, World.ownsRow_nil _ _ _ _, HS1⟩
  case round =>
    obtain ⟨k, u, rfl, hk, rfl, hown, HS2⟩ := hrel
    have HO := hide hown
    have z5 := HS2.out.be.cell (j := 5) rfl
    clear hown HS1
    by_cases hlt : k < kids.length
    · have hlti : (k : Int) < kids.length := by omega
      clear hneed
      obtain ⟨y, hy⟩ : ∃ y, kids[k] = y := ⟨_, rfl⟩
      obtain ⟨p, hix, KC⟩ := kid_at hrow k hlt k rfl hy
      obtain ⟨kb, a0, a1, a2, a3, a4, a5⟩ := KC _ HS2.out.bel
      have HYI := hide (hy ▸ HKI.out _ (List.getElem_mem hlt) : y.In w)
      have HYE := hide (hy ▸ HIH.out _ (List.getElem_mem hlt) : REv r y)
      have HTK := hide (show (kids.take (k + 1)).flatMap (fun k => V.cells (k.va r.l)) = (kids.take k).flatMap (fun k => V.cells (k.va r.l)) ++ V.cells (y.va r.l) from by rw [take_snoc kids hlt, List.flatMap_append, hy]; simp)
      have sl := HS2.out.lt
      clear KC hy
      go_wp2_with (first
        | (go_at_call 11; refine (HYE.out _ (HYI.out.mono HS2.out.bel) (HR.out.mono HS2.out.bel)).mono ?_; rintro e x3 ⟨rfl, hb⟩; have HB3 := hide hb; have HS3 := hide (HS2.out.call hb); clear hb)
        | (at_builtin; refine wpList_append_own _ rfl _ _ 28 rfl (w.heap.size + 2) 24 i0 (.agg #[.int .i64 0, .int .i64 0, .string ByteArray.empty]) 3 32 Tryd.underlying28 HI.out.1 HI.out.2.1 HI.out.2.2.1 HI.out.2.2.2 rfl (by decide) _ _ _ rfl ((HO.out.kept (only_below HB3.out none) (Classical.em _)).alloc _) ⟨x3.heap.size, 0, none⟩ 1 1 (V.cells (y.va r.l)) rfl rfl (new_cells (l := V.cells (y.va r.l))) (v_one _) (by unfold maxLen; omega) (by omega) (by have := HS3.out.lt; simp; omega) ?_; intro v' x4 hown' hgrow _; have HO4 := hide (show x4.ownsRow (w.heap.size + 2) 24 3 v' (k + 1) ((kids.take (k + 1)).flatMap (fun k => V.cells (k.va r.l))) from by rw [HTK.out]; exact hown'); have HG4 := hide hgrow; clear hown' hgrow))
      go_roundw
      case rel =>
        refine ⟨k + 1, _, rfl, by omega, by go_num, HO4.out, hide ?_⟩
        have hg := HG4.out
        have h1 := HS3.out.call (belA (.cells (V.cells (y.va r.l)).toArray 24))
        have hlo := HO.out.lt
        exact ⟨h1.bel.grown hg h1.bel.size (fun j hj => by have := (hlo j hj).1; omega), h1.be.grown hg (fun e => by have := (hlo _ e.symm).1; omega), h1.br.grown hg (fun e => by have := (hlo _ e.symm).1; omega)⟩
      case measure => simp [intOf]; omega
    · have hke : k = kids.length := by omega
      have hlti : ¬ (k : Int) < kids.length := by omega
      have ho := HO.out
      have hlo := HO.out.lt
      rw [hke, List.take_length, ← flat_map] at ho
      obtain ⟨q, hvq, hq, hqin⟩ := vl_mk ho (fun x hx => by obtain ⟨z, hz, rfl⟩ := List.mem_map.1 hx; exact Ex.va_wf HR.out.2 (HKI.out z hz))
      have hql : 0 < q.l.length := by rw [hq, List.length_map]; exact hneed
      have h0 : 0 < q.l.length := by omega
      subst hvq
      have hqb : q.h.b ≠ w.heap.size + 1 := by
        have h1 := (hqin.1.2.2.1 h0).1
        have h2 := (hlo q.h.b (by show Value.ownBlock (.slice q.h.ao _ _) = _; rw [h1]; rfl)).1
        omega
      obtain ⟨hix0, hbb, c0, c1, c2⟩ := apl0 hqin h0
      obtain ⟨a, ha⟩ : ∃ a, q.l[0] = a := ⟨_, rfl⟩
      have HA := hide (ha ▸ hqin.2 _ (List.getElem_mem h0) : a.wf)
      have hga := getD_of h0 ha
      rw [ha] at c0 c1 c2
      have HE := hide (show bV (truV a == 1) = v from by rw [← HV.out, ← hq]; unfold applyV; dsimp only; rw [hga]; simp)
      have HSB := hide HS2.out.bel
      have HS0 := hide (RS.start HS2.out.br)
      have z0 := HS2.out.be.cell (j := 0) rfl
      have hyc0 : ∀ w' : World, RS (w.heap.size + 1) wr w' → w'.cell? ⟨q.h.b, q.h.o, none⟩ = some (.int .i64 a.kind) := fun w' h => h.at hqb c0
      have hyc1 : ∀ w' : World, RS (w.heap.size + 1) wr w' → w'.cell? ⟨q.h.b, q.h.o + 1, none⟩ = some (.int .i64 a.num) := fun w' h => h.at hqb c1
      have hyc2 : ∀ w' : World, RS (w.heap.size + 1) wr w' → w'.cell? ⟨q.h.b, q.h.o + 2, none⟩ = some (.string a.text) := fun w' h => h.at hqb c2
      clear ha hga hq hqin ho hlo HO hke hqb hbb hrow hsm hneed
      clear hyc0 hyc1 hyc2
      go_wp2_with (first
        | (go_at_call 37; refine (rtru_any a _).mono ?_; rintro e x1 ⟨rfl, hb_x1⟩; have HSY := RS.call (g := w.heap.size + 1) (y := wr) HS0.out hb_x1)
        | (go_at_call 33; refine (rof_any (truV a == 1) _).mono ?_; rintro e xx ⟨rfl, hb_xx⟩; have HSX := RS.call (g := w.heap.size + 1) (y := wr) HSY hb_xx; obtain ⟨v0, v1, v2, hq⟩ := HSX.bx; have e0 := hq.cell (j := 0) rfl; have e1 := hq.cell (j := 1) rfl; have e2 := hq.cell (j := 2) rfl; have f0 := hq.fr 0; have f1 := hq.fr 1; have f2 := hq.fr 2; clear hq))
      exact bodyPost_ret (v := .agg #[.int .i64 (bV (truV a == 1)).kind, .int .i64 (bV (truV a == 1)).num, .string (bV (truV a == 1)).text]) (by simp [results, Tryd.results11, go_sem, e0, e1, e2]) rfl ⟨by rw [← HE.out], HSX.fin HSB.out (by omega) _ _ _⟩


set_option maxRecDepth 100000 in
set_option maxHeartbeats 8000000 in
theorem rev_27 (typ num : Int) (text : ByteArray) (col : Int) (kh : Hd) (kids : List Ex) (r : VL) (w : World) (hsm : kids.length ≤ 1000000) (hrow : Row w 6 Ex.cells kh kids) (HKI : Hid (∀ k ∈ kids, k.In w)) (HIH : Hid (∀ k ∈ kids, REv r k)) (HR : Hid (r.In w)) (HKB : Hid (kidsOk 27 kids.length = true)) (hneed : 1 < kids.length) :
    Calls Tryd.prog 11 #[.agg #[.int .i64 27, .int .i64 typ, .int .i64 num, .string text, .int .i64 col, .slice kh.ao kids.length kh.cap], .slice r.h.ao r.l.length r.h.cap] w fun e' w' => e' = .returned (.agg #[.int .i64 (applyV 27 (kids.map (Ex.va r.l))).kind, .int .i64 (applyV 27 (kids.map (Ex.va r.l))).num, .string (applyV 27 (kids.map (Ex.va r.l))).text]) ∧ Below w.heap.size w w' := by
  have hn := hrow.len
  obtain ⟨i0, hi, hz0, hz1, hz2⟩ := info_parts info_val
  have HI := hide (And.intro hi (And.intro hz0 (And.intro hz1 hz2)))
  clear hi hz0 hz1 hz2
  obtain ⟨v, hv⟩ : ∃ v, applyV 27 (kids.map (Ex.va r.l)) = v := ⟨_, rfl⟩
  have HV := hide hv
  rw [hv]
  clear hv
  go_enter Tryd.func11, Tryd.ntmps11
  go_wp2_with (go_at_call 28; refine (rkids_any 27 kids.length _).mono ?_; rintro e x1 ⟨rfl, hb⟩; rw [HKB.out]; have HS1 := hide (SE.start hb); clear hb)
  go_loopw [6, 5] (fun i v wr => ∃ (k : Nat) (u : Value), u = v ∧ k ≤ kids.length ∧ i = .int .i64 k ∧ wr.ownsRow (w.heap.size + 2) 24 3 v k ((kids.take k).flatMap (fun k => V.cells (k.va r.l))) ∧ Hid (SE w #[.int .i64 27, .int .i64 typ, .int .i64 num, .string text, .int .i64 col, .slice kh.ao kids.length kh.cap] wr)) (fun i _ _ => kids.length - (intOf i).toNat)
  case atStart => exact ⟨0, _, rfl, Nat.zero_le _, rfl, World.ownsRow_nil _ _ _ _, HS1⟩
  case round =>
    obtain ⟨k, u, rfl, hk, rfl, hown, HS2⟩ := hrel
    have HO := hide hown
    have z5 := HS2.out.be.cell (j := 5) rfl
    clear hown HS1
    by_cases hlt : k < kids.length
    · have hlti : (k : Int) < kids.length := by omega
      clear hneed
      obtain ⟨y, hy⟩ : ∃ y, kids[k] = y := ⟨_, rfl⟩
      obtain ⟨p, hix, KC⟩ := kid_at hrow k hlt k rfl hy
      obtain ⟨kb, a0, a1, a2, a3, a4, a5⟩ := KC _ HS2.out.bel
      have HYI := hide (hy ▸ HKI.out _ (List.getElem_mem hlt) : y.In w)
      have HYE := hide (hy ▸ HIH.out _ (List.getElem_mem hlt) : REv r y)
      have HTK := hide (show (kids.take (k + 1)).flatMap (fun k => V.cells (k.va r.l)) = (kids.take k).flatMap (fun k => V.cells (k.va r.l)) ++ V.cells (y.va r.l) from by rw [take_snoc kids hlt, List.flatMap_append, hy]; simp)
      have sl := HS2.out.lt
      clear KC hy
      go_wp2_with (first
        | (go_at_call 11; refine (HYE.out _ (HYI.out.mono HS2.out.bel) (HR.out.mono HS2.out.bel)).mono ?_; rintro e x3 ⟨rfl, hb⟩; have HB3 := hide hb; have HS3 := hide (HS2.out.call hb); clear hb)
        | (at_builtin; refine wpList_append_own _ rfl _ _ 28 rfl (w.heap.size + 2) 24 i0 (.agg #[.int .i64 0, .int .i64 0, .string ByteArray.empty]) 3 32 Tryd.underlying28 HI.out.1 HI.out.2.1 HI.out.2.2.1 HI.out.2.2.2 rfl (by decide) _ _ _ rfl ((HO.out.kept (only_below HB3.out none) (Classical.em _)).alloc _) ⟨x3.heap.size, 0, none⟩ 1 1 (V.cells (y.va r.l)) rfl rfl (new_cells (l := V.cells (y.va r.l))) (v_one _) (by unfold maxLen; omega) (by omega) (by have := HS3.out.lt; simp; omega) ?_; intro v' x4 hown' hgrow _; have HO4 := hide (show x4.ownsRow (w.heap.size + 2) 24 3 v' (k + 1) ((kids.take (k + 1)).flatMap (fun k => V.cells (k.va r.l))) from by rw [HTK.out]; exact hown'); have HG4 := hide hgrow; clear hown' hgrow))
      go_roundw
      case rel =>
        refine ⟨k + 1, _, rfl, by omega, by go_num, HO4.out, hide ?_⟩
        have hg := HG4.out
        have h1 := HS3.out.call (belA (.cells (V.cells (y.va r.l)).toArray 24))
        have hlo := HO.out.lt
        exact ⟨h1.bel.grown hg h1.bel.size (fun j hj => by have := (hlo j hj).1; omega), h1.be.grown hg (fun e => by have := (hlo _ e.symm).1; omega), h1.br.grown hg (fun e => by have := (hlo _ e.symm).1; omega)⟩
      case measure => simp [intOf]; omega
    · have hke : k = kids.length := by omega
      have hlti : ¬ (k : Int) < kids.length := by omega
      have ho := HO.out
      have hlo := HO.out.lt
      rw [hke, List.take_length, ← flat_map] at ho
      obtain ⟨q, hvq, hq, hqin⟩ := vl_mk ho (fun x hx => by obtain ⟨z, hz, rfl⟩ := List.mem_map.1 hx; exact Ex.va_wf HR.out.2 (HKI.out z hz))
      have hql : 1 < q.l.length := by rw [hq, List.length_map]; exact hneed
      have h0 : 0 < q.l.length := by omega
      subst hvq
      have hqb : q.h.b ≠ w.heap.size + 1 := by
        have h1 := (hqin.1.2.2.1 h0).1
        have h2 := (hlo q.h.b (by show Value.ownBlock (.slice q.h.ao _ _) = _; rw [h1]; rfl)).1
        omega
      obtain ⟨hix0, hbb, c0, c1, c2⟩ := apl0 hqin h0
      obtain ⟨a, ha⟩ : ∃ a, q.l[0] = a := ⟨_, rfl⟩
      have HA := hide (ha ▸ hqin.2 _ (List.getElem_mem h0) : a.wf)
      have hga := getD_of h0 ha
      rw [ha] at c0 c1 c2
      obtain ⟨p, hix1, d0, d1, d2⟩ := apl1 hqin hql
      obtain ⟨b, hb⟩ : ∃ b, q.l[1] = b := ⟨_, rfl⟩
      have HB := hide (hb ▸ hqin.2 _ (List.getElem_mem hql) : b.wf)
      have hgb := getD_of hql hb
      rw [hb] at d0 d1 d2
      have HE := hide (show (if a.kind = 0 then b else a) = v from by rw [← HV.out, ← hq]; unfold applyV; dsimp only; rw [hga, hgb]; simp)
      have HSB := hide HS2.out.bel
      have HS0 := hide (RS.start HS2.out.br)
      have z0 := HS2.out.be.cell (j := 0) rfl
      have hyc0 : ∀ w' : World, RS (w.heap.size + 1) wr w' → w'.cell? ⟨q.h.b, q.h.o, none⟩ = some (.int .i64 a.kind) := fun w' h => h.at hqb c0
      have hyc1 : ∀ w' : World, RS (w.heap.size + 1) wr w' → w'.cell? ⟨q.h.b, q.h.o + 1, none⟩ = some (.int .i64 a.num) := fun w' h => h.at hqb c1
      have hyc2 : ∀ w' : World, RS (w.heap.size + 1) wr w' → w'.cell? ⟨q.h.b, q.h.o + 2, none⟩ = some (.string a.text) := fun w' h => h.at hqb c2
      have hyd0 : ∀ w' : World, RS (w.heap.size + 1) wr w' → w'.cell? ⟨q.h.b, p, none⟩ = some (.int .i64 b.kind) := fun w' h => h.at hqb d0
      have hyd1 : ∀ w' : World, RS (w.heap.size + 1) wr w' → w'.cell? ⟨q.h.b, p + 1, none⟩ = some (.int .i64 b.num) := fun w' h => h.at hqb d1
      have hyd2 : ∀ w' : World, RS (w.heap.size + 1) wr w' → w'.cell? ⟨q.h.b, p + 2, none⟩ = some (.string b.text) := fun w' h => h.at hqb d2
      have e0 := HS2.out.br.cell (j := 0) rfl
      have e1 := HS2.out.br.cell (j := 1) rfl
      have e2 := HS2.out.br.cell (j := 2) rfl
      have f0 := HS2.out.br.fr 0
      have f1 := HS2.out.br.fr 1
      have f2 := HS2.out.br.fr 2
      clear ha hga hq hqin ho hlo HO hke hqb hbb hrow hsm hneed hb hgb
      clear hyc0 hyc1 hyc2 hyd0 hyd1 hyd2
      by_cases hc : a.kind = 0
      · have HEC := hide (show b = v from (if_pos hc).symm.trans HE.out)
        have hcb : (a.kind != 0) = false := by rw [hc]; rfl
        clear HE hc
        go_wp2
        exact bodyPost_ret (v := .agg #[.int .i64 (b).kind, .int .i64 (b).num, .string (b).text]) (by simp [results, Tryd.results11, go_sem, e0, e1, e2, numV, nulV]) rfl ⟨by rw [← HEC.out], HS0.out.fin HSB.out (by omega) _ _ _⟩
      · have HEC := hide (show a = v from (if_neg hc).symm.trans HE.out)
        have hcb : (a.kind != 0) = true := bne_iff_ne.2 hc
        clear HE hc
        go_wp2
        exact bodyPost_ret (v := .agg #[.int .i64 (a).kind, .int .i64 (a).num, .string (a).text]) (by simp [results, Tryd.results11, go_sem, e0, e1, e2, numV, nulV]) rfl ⟨by rw [← HEC.out], HS0.out.fin HSB.out (by omega) _ _ _⟩

end Go.Proofs.YtlkhiihehaiinaaDoor

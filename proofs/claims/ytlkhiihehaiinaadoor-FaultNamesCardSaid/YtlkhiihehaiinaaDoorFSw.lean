/- (*fault.switches).eval: at leaves; at an operation over leaves whose only fault may be 'inverted'. -/
import Derived.Test.YtlkhiihehaiinaaDoorFApd
import Derived.Deep.QuietTactic
import Derived.BigQuiet
namespace Go.Proofs.YtlkhiihehaiinaaDoor
open Go.RowKit

/-- What eval wants of a world: the switches and their texts; the variables. -/
structure SwW (w : World) (g m : Nat) (F S) : Prop where
  sw : Sw w g m F
  tx : Texts w m S true
  nn : NulAt w
  op : OpsAt w
theorem SwW.below {w x : World} {g m : Nat} {F : Nat → Bool} {S : ByteArray → Bool} (h : SwW w g m F S) (hb : Below w.heap.size w x) : SwW x g m F S := ⟨h.sw.below hb, h.tx.below hb, h.nn.mono hb, h.op.mono hb⟩
set_option maxRecDepth 100000 in
set_option maxHeartbeats 4000000 in
theorem fleaf (g m : Nat) (F : Nat → Bool) (S : ByteArray → Bool) (e : Ex) (r : VL) (w : World) (hs : SwW w g m F S) (he : e.In w) (hl : e.Low) (hr : r.In w) (hfit : fitsB e.op e.kids.length = false) :
    Calls Tryd.prog 27 #[.pointer (some ⟨g, 0, none⟩), .agg #[.int .i64 e.op, .int .i64 e.typ, .int .i64 e.num, .string e.text, .int .i64 e.col, .slice e.kh.ao e.kids.length e.kh.cap], .slice r.h.ao r.l.length r.h.cap] w
      fun e' w' => e' = .returned (.agg #[.int .i64 (e.va r.l).kind, .int .i64 (e.va r.l).num, .string (e.va r.l).text]) ∧ Below w.heap.size w w' := by
  have HE := hide he
  have HEV := hide (eeval_any e hl)
  have HR := hide hr
  have HSW := hide hs
  obtain ⟨v, hv⟩ : ∃ v, e.va r.l = v := ⟨_, rfl⟩
  have HV := hide hv
  rw [hv]
  obtain ⟨op, typ, num, text, col, kh, kids⟩ := e
  dsimp only at HEV hfit ⊢
  have HFT := hide (fun W => fits_any op typ num text col kh.ao kids.length kh.cap W)
  rw [hfit] at HFT
  clear he hl hr hs hv hfit
  have HB0 := hide (belAA (w := w) (.cells #[.int .i64 op, .int .i64 typ, .int .i64 num, .string text, .int .i64 col, .slice kh.ao kids.length kh.cap] 31) (.cells #[.int .i64 0, .int .i64 0, .string ⟨#[]⟩] 24))
  have hp := (HSW.out.below HB0.out).sw.ptr
  have hgl := HSW.out.sw.lt
  obtain ⟨n, D, hn, hown, hat, hsz⟩ := (HSW.out.below HB0.out).tx
  have HOWN := hide hown
  have hD : ((Maps.size D : Int) == 0) = false := beq_eq_false_iff_ne.2 (fun h => by have h2 := hsz.1 (by omega); cases h2)
  clear hn hown hat hsz
  have HS0 := hide (SE.start (w := w) (cs := #[.int .i64 op, .int .i64 typ, .int .i64 num, .string text, .int .i64 col, .slice kh.ao kids.length kh.cap]) (Below.refl _ _))
  go_enter Tryd.func27, Tryd.ntmps27
  go_wp2_with (first
    | (at_len; refine wpList_len_own _ rfl _ 71 rfl 9 4 Tryd.underlying71 (plainElem (H := Unit) Tryd.prog 4) m n D rfl HOWN.out ?_)
    | (go_at_call 49; refine (HFT.out _).mono ?_; rintro e x1 ⟨rfl, hb⟩; have HS1 := hide (HS0.out.call hb); clear hb; obtain ⟨sl0, sl1⟩ := HS1.out.lt; have k0 := HS1.out.be.cell (j := 0) rfl; have k1 := HS1.out.be.cell (j := 1) rfl; have k2 := HS1.out.be.cell (j := 2) rfl; have k3 := HS1.out.be.cell (j := 3) rfl; have k4 := HS1.out.be.cell (j := 4) rfl; have k5 := HS1.out.be.cell (j := 5) rfl)
    | (go_at_call 50; refine (HEV.out r _ (HE.out.mono HS1.out.bel) (HR.out.mono HS1.out.bel) (HSW.out.nn.mono HS1.out.bel) (HSW.out.op.mono HS1.out.bel)).mono ?_; rintro e x2 ⟨rfl, hb⟩; rw [HV.out]; have HS2 := hide (HS1.out.call hb); clear hb; clear k0 k1 k2 k3 k4 k5; have e0 := HS2.out.br.cell (j := 0) rfl; have e1 := HS2.out.br.cell (j := 1) rfl; have e2 := HS2.out.br.cell (j := 2) rfl; have f0 := HS2.out.br.fr 0; have f1 := HS2.out.br.fr 1; have f2 := HS2.out.br.fr 2))
  exact bodyPost_ret (v := .agg #[.int .i64 v.kind, .int .i64 v.num, .string v.text]) (by simp [results, Tryd.results27, go_sem, e0, e1, e2]) rfl ⟨rfl, HS2.out.fin _ _ _⟩

theorem bit_0 {x : World} {g m : Nat} {F : Nat → Bool} (h : Sw x g m F) {o : Nat} (ho : o < 29) {b : Bool} (hb : F (0 + o) = b) : x.cell? ⟨g, 1 + o, none⟩ = some (.bool b) := by have := h.bit (j := 0 + o) (by omega); rw [hb, show 1 + (0 + o) = 1 + o by omega] at this; exact this
theorem bit_1 {x : World} {g m : Nat} {F : Nat → Bool} (h : Sw x g m F) {o : Nat} (ho : o < 29) {b : Bool} (hb : F (29 + o) = b) : x.cell? ⟨g, 30 + o, none⟩ = some (.bool b) := by have := h.bit (j := 29 + o) (by omega); rw [hb, show 1 + (29 + o) = 30 + o by omega] at this; exact this
theorem bit_2 {x : World} {g m : Nat} {F : Nat → Bool} (h : Sw x g m F) {o : Nat} (ho : o < 29) {b : Bool} (hb : F (58 + o) = b) : x.cell? ⟨g, 59 + o, none⟩ = some (.bool b) := by have := h.bit (j := 58 + o) (by omega); rw [hb, show 1 + (58 + o) = 59 + o by omega] at this; exact this
theorem bit_3 {x : World} {g m : Nat} {F : Nat → Bool} (h : Sw x g m F) {o : Nat} (ho : o < 29) {b : Bool} (hb : F (87 + o) = b) : x.cell? ⟨g, 88 + o, none⟩ = some (.bool b) := by have := h.bit (j := 87 + o) (by omega); rw [hb, show 1 + (87 + o) = 88 + o by omega] at this; exact this
theorem bit_4 {x : World} {g m : Nat} {F : Nat → Bool} (h : Sw x g m F) {o : Nat} (ho : o < 29) {b : Bool} (hb : F (116 + o) = b) : x.cell? ⟨g, 117 + o, none⟩ = some (.bool b) := by have := h.bit (j := 116 + o) (by omega); rw [hb, show 1 + (116 + o) = 117 + o by omega] at this; exact this
theorem ix_row (g : Nat) : (∀ U, (Instr.indexAt 73 (.pointer (some ⟨g, 1, none⟩)) (.int .i64 0)).run Tryd.prog U = .ok (.pointer (some ⟨g, 1, none⟩)) U) ∧ (∀ U, (Instr.indexAt 73 (.pointer (some ⟨g, 1, none⟩)) (.int .i64 1)).run Tryd.prog U = .ok (.pointer (some ⟨g, 30, none⟩)) U) ∧
    (∀ U, (Instr.indexAt 73 (.pointer (some ⟨g, 1, none⟩)) (.int .i64 2)).run Tryd.prog U = .ok (.pointer (some ⟨g, 59, none⟩)) U) ∧ (∀ U, (Instr.indexAt 73 (.pointer (some ⟨g, 1, none⟩)) (.int .i64 3)).run Tryd.prog U = .ok (.pointer (some ⟨g, 88, none⟩)) U) ∧
    (∀ U, (Instr.indexAt 73 (.pointer (some ⟨g, 1, none⟩)) (.int .i64 4)).run Tryd.prog U = .ok (.pointer (some ⟨g, 117, none⟩)) U) :=
  ⟨ix_fam g 0 (by omega), ix_fam g 1 (by omega), ix_fam g 2 (by omega), ix_fam g 3 (by omega), ix_fam g 4 (by omega)⟩

set_option maxRecDepth 100000 in
set_option maxHeartbeats 16000000 in
theorem fnode (g m : Nat) (F : Nat → Bool) (S : ByteArray → Bool) (o : Nat) (typ num : Int) (text : ByteArray) (col : Int) (kh : Hd) (kids : List Ex) (r : VL) (w : World) (hs : SwW w g m F S) (he : Ex.In w ⟨o, typ, num, text, col, kh, kids⟩) (hl : Ex.Low ⟨o, typ, num, text, col, kh, kids⟩) (hr : r.In w)
    (ho : o < 29) (hfit : fitsB o kids.length = true) (hkf : ∀ k ∈ kids, fitsB k.op k.kids.length = false) (hb4 : F (116 + o) = false) (hb3 : F (87 + o) = false) (hb2 : F (58 + o) = false) (hb1 : F (29 + o) = false) (hb0 : F (0 + o) = true) :
    Calls Tryd.prog 27 #[.pointer (some ⟨g, 0, none⟩), .agg #[.int .i64 (o : Nat), .int .i64 typ, .int .i64 num, .string text, .int .i64 col, .slice kh.ao kids.length kh.cap], .slice r.h.ao r.l.length r.h.cap] w
      fun e' w' => e' = .returned (.agg #[.int .i64 (invV (appV o (kids.map (Ex.va r.l)))).kind, .int .i64 (invV (appV o (kids.map (Ex.va r.l)))).num, .string (invV (appV o (kids.map (Ex.va r.l)))).text]) ∧ Below w.heap.size w w' := by
  have HE := hide he
  have HL := hide hl
  have HR := hide hr
  have HSW := hide hs
  have HKF := hide hkf
  have hrow := he.row
  dsimp only at hrow
  have hkn := hl.len
  dsimp only at hkn
  obtain ⟨v, hv⟩ : ∃ v, invV (appV o (kids.map (Ex.va r.l))) = v := ⟨_, rfl⟩
  have HV := hide hv
  rw [hv]
  have HFT := hide (fun W => fits_any o typ num text col kh.ao kids.length kh.cap W)
  rw [hfit] at HFT
  obtain ⟨i0, hi, hz0, hz1, hz2⟩ := info_parts info_val
  have HI := hide (And.intro hi (And.intro hz0 (And.intro hz1 hz2)))
  clear hi hz0 hz1 hz2 he hl hr hs hv hfit hkf
  have HB0 := hide (belAA (w := w) (.cells #[.int .i64 (o : Nat), .int .i64 typ, .int .i64 num, .string text, .int .i64 col, .slice kh.ao kids.length kh.cap] 31) (.cells #[.int .i64 0, .int .i64 0, .string ⟨#[]⟩] 24))
  have hp := (HSW.out.below HB0.out).sw.ptr
  have hgl := HSW.out.sw.lt
  obtain ⟨n, D, hn, hown, hat, hsz⟩ := (HSW.out.below HB0.out).tx
  have HOWN := hide hown
  have hD : ((Maps.size D : Int) == 0) = false := beq_eq_false_iff_ne.2 (fun h => by have h2 := hsz.1 (by omega); cases h2)
  clear hn hown hat hsz
  have HS0 := hide (SE.start (w := w) (cs := #[.int .i64 (o : Nat), .int .i64 typ, .int .i64 num, .string text, .int .i64 col, .slice kh.ao kids.length kh.cap]) (Below.refl _ _))
  go_enter Tryd.func27, Tryd.ntmps27
  go_wp2_with (first
    | (at_len; refine wpList_len_own _ rfl _ 71 rfl 9 4 Tryd.underlying71 (plainElem (H := Unit) Tryd.prog 4) m n D rfl HOWN.out ?_)
    | (go_at_call 49; refine (HFT.out _).mono ?_; rintro e x1 ⟨rfl, hb⟩; have HS1 := hide (HS0.out.call hb); clear hb; obtain ⟨sl0, sl1⟩ := HS1.out.lt; have k0 := HS1.out.be.cell (j := 0) rfl; have k1 := HS1.out.be.cell (j := 1) rfl; have k2 := HS1.out.be.cell (j := 2) rfl; have k3 := HS1.out.be.cell (j := 3) rfl; have k4 := HS1.out.be.cell (j := 4) rfl; have k5 := HS1.out.be.cell (j := 5) rfl))
  clear hp hD
  go_loopw [33, 7] (fun i v wr => ∃ (k : Nat) (u : Value), u = v ∧ k ≤ kids.length ∧ i = .int .i64 k ∧ wr.ownsRow (w.heap.size + 2) 24 3 v k ((kids.take k).flatMap (fun k => V.cells (k.va r.l))) ∧ Hid (SE w #[.int .i64 (o : Nat), .int .i64 typ, .int .i64 num, .string text, .int .i64 col, .slice kh.ao kids.length kh.cap] wr)) (fun i _ _ => kids.length - (intOf i).toNat)
  case atStart => exact ⟨0, _, rfl, Nat.zero_le _, rfl, World.ownsRow_nil _ _ _ _, HS1⟩
  case round =>
    clear sl0 sl1 k0 k1 k2 k3 k4 k5
    obtain ⟨k, u, rfl, hk, rfl, hown, HS2⟩ := hrel
    have HO := hide hown
    clear hown
    by_cases hlt : k < kids.length
    · have hlti : (k : Int) < kids.length := by omega
      obtain ⟨y, hy⟩ : ∃ y, kids[k] = y := ⟨_, rfl⟩
      obtain ⟨p, hix, KC⟩ := kid_at hrow k hlt k rfl hy
      obtain ⟨kb, a0, a1, a2, a3, a4, a5⟩ := KC _ HS2.out.bel
      have HYI := hide (hy ▸ HE.out.kid _ (List.getElem_mem hlt) : y.In w)
      have HYL := hide (hy ▸ HL.out.kid _ (List.getElem_mem hlt) : y.Low)
      have HYF := hide (hy ▸ HKF.out _ (List.getElem_mem hlt) : fitsB y.op y.kids.length = false)
      have HTK := hide (show (kids.take (k + 1)).flatMap (fun k => V.cells (k.va r.l)) = (kids.take k).flatMap (fun k => V.cells (k.va r.l)) ++ V.cells (y.va r.l) from by rw [take_snoc kids hlt, List.flatMap_append, hy]; simp)
      have sl := HS2.out.lt
      clear KC hy
      go_wp2_with (first
        | (go_at_call 27; refine (fleaf g m F S y r _ (HSW.out.below (HS2.out.call (belA _)).bel) (HYI.out.mono (HS2.out.call (belA _)).bel) HYL.out (HR.out.mono (HS2.out.call (belA _)).bel) HYF.out).mono ?_; rintro e x3 ⟨rfl, hb⟩; have HB3 := hide (bel1 hb); have HS3 := hide (HS2.out.call HB3.out); clear hb)
        | (at_builtin; refine wpList_append_own _ rfl _ _ 28 rfl (w.heap.size + 2) 24 i0 (.agg #[.int .i64 0, .int .i64 0, .string ByteArray.empty]) 3 32 Tryd.underlying28 HI.out.1 HI.out.2.1 HI.out.2.2.1 HI.out.2.2.2 rfl (by decide) _ _ _ rfl ((HO.out.kept (only_below HB3.out none) (Classical.em _)).alloc _) ⟨x3.heap.size, 0, none⟩ 1 1 (V.cells (y.va r.l)) rfl rfl (new_cells (l := V.cells (y.va r.l))) (v_one _) (by unfold maxLen; omega) (by omega) (by have := HS3.out.lt; simp; omega) ?_; intro v' x4 hown' hgrow _; have HO4 := hide (show x4.ownsRow (w.heap.size + 2) 24 3 v' (k + 1) ((kids.take (k + 1)).flatMap (fun k => V.cells (k.va r.l))) from by rw [HTK.out]; exact hown'); have HG4 := hide hgrow; clear hown' hgrow))
      go_roundw
      case rel =>
        refine ⟨k + 1, _, rfl, by omega, by go_num, HO4.out, hide ?_⟩
        have hg := HG4.out
        have h1 := HS3.out.call (belA (.cells (V.cells (y.va r.l)).toArray 24))
        have hlo := HO.out.lt
        exact ⟨h1.bel.grown hg h1.bel.size (fun j hj => by have := (hlo j hj).1; omega), h1.be.grown hg (fun e => by have := (hlo _ e.symm).1; omega), h1.br.grown hg (fun e => by have := (hlo _ e.symm).1; omega)⟩
      case measure => simp [intOf]; omega
    · have hke : k = kids.length := by omega
      have hlti : ¬ (k : Int) < kids.length := by omega
      have hoo := HO.out
      rw [hke, List.take_length, ← flat_map] at hoo
      obtain ⟨q, hvq, hq, hqin⟩ := vl_mk hoo (fun x hx => by obtain ⟨z, hz, rfl⟩ := List.mem_map.1 hx; exact Ex.va_wf HR.out.2 (HE.out.kid z hz))
      have HQI := hide hqin
      have hqn : q.l.length ≤ 1000000 := by rw [hq, List.length_map]; exact hkn
      have HQ := hide hq
      subst hvq
      clear hoo hqin hq HO hke
      have HW2 := hide (HSW.out.below HS2.out.bel)
      have k0 := HS2.out.be.cell (j := 0) rfl
      have b4 := bit_4 HW2.out.sw ho hb4
      have b3 := bit_3 HW2.out.sw ho hb3
      have b2 := bit_2 HW2.out.sw ho hb2
      have b1 := bit_1 HW2.out.sw ho hb1
      obtain ⟨r0, r1, r2, r3, r4⟩ := ix_row g
      have o4 := ix_op g 117 o ho
      have o3 := ix_op g 88 o ho
      have o2 := ix_op g 59 o ho
      have o1 := ix_op g 30 o ho
      have o0 := ix_op g 1 o ho
      go_wp2
      go_quiet (fail)
      generalize nq = n1
      go_wp2
      go_quiet (fail)
      generalize nq = n2
      go_wp2
      go_quiet (fail)
      clear b4 b3 b2 b1 o4 o3 o2 k0
      generalize hZ : (wr.drewN (n1 + n2)).drewN nq = Z
      have HZ := hide (show Below wr.heap.size wr Z from by rw [← hZ]; exact below_drewN (below_drewN (Below.refl _ _) _) _)
      clear hZ
      have HS3 := hide (HS2.out.call HZ.out)
      have HQ3 := hide (HQI.out.mono HZ.out)
      have HW3 := hide (HSW.out.below HS3.out.bel)
      have HAP := hide (applied_any o (by constructor <;> omega) q Z HQ3.out hqn HW3.out.nn HW3.out.op)
      have k0 := HS3.out.be.cell (j := 0) rfl
      go_wp2_with (go_at_call 54; refine HAP.out.mono ?_; rintro e x5 ⟨rfl, hb⟩; rw [HQ.out]; have HS5 := hide (HS3.out.call hb); clear hb; clear k0; obtain ⟨sl0, sl1⟩ := HS5.out.lt; have k0 := HS5.out.be.cell (j := 0) rfl; have b1 := bit_1 (HSW.out.below HS5.out.bel).sw ho hb1; have b0 := bit_0 (HSW.out.below HS5.out.bel).sw ho hb0; have gl5 := (HSW.out.below HS5.out.bel).sw.lt)
      obtain ⟨av, hav⟩ : ∃ av, appV o (kids.map (Ex.va r.l)) = av := ⟨_, rfl⟩
      have HAW := hide (show av.wf from by
        rw [← hav]
        have h : ∀ x ∈ kids.map (Ex.va r.l), x.wf := fun x hx => by obtain ⟨z, hz, rfl⟩ := List.mem_map.1 hx; exact Ex.va_wf HR.out.2 (HE.out.kid z hz)
        exact top_wf (i64_lit rfl) (Nat.zero_le _) h h)
      have HIV := hide (show invV av = v from by rw [← hav]; exact HV.out)
      rw [hav]
      clear hav
      have HXB := hide (belA (w := x5) (.cells #[.int .i64 av.kind, .int .i64 av.num, .string av.text] 24))
      go_quiet (fail)
      generalize nq = n3
      go_wp2
      go_quiet (fail)
      clear b1 b0 k0 r0 r1 r2 r3 r4 o1 o0
      generalize hZ2 : ((x5.alloc (.cells #[.int .i64 av.kind, .int .i64 av.num, .string av.text] 24)).drewN n3).drewN nq = Z2
      have HZ2 := hide (show Below (x5.alloc (.cells #[.int .i64 av.kind, .int .i64 av.num, .string av.text] 24)).heap.size (x5.alloc (.cells #[.int .i64 av.kind, .int .i64 av.num, .string av.text] 24)) Z2 from by rw [← hZ2]; exact below_drewN (below_drewN (Below.refl _ _) _) _)
      clear hZ2
      have hq7 := (Box.new x5 #[.int .i64 av.kind, .int .i64 av.num, .string av.text] 24).below HZ2.out
      have v0 := hq7.cell (j := 0) rfl
      have v1 := hq7.cell (j := 1) rfl
      have v2 := hq7.cell (j := 2) rfl
      have HS7 := hide ((HS5.out.call HXB.out).call HZ2.out)
      have HQ7 := hide hq7
      clear hq7
      go_wp2_with (go_at_call 56; refine (inv_any av HAW.out _ (HSW.out.below HS7.out.bel).nn).mono ?_; rintro e x8 ⟨rfl, hb⟩; rw [HIV.out]; have HS8 := hide (HS7.out.call hb); have HQ8 := hide (HQ7.out.below hb); clear hb; clear v0 v1 v2; have v0 := HQ8.out.cell (j := 0) rfl; have v1 := HQ8.out.cell (j := 1) rfl; have v2 := HQ8.out.cell (j := 2) rfl; have w0 := HQ8.out.fr 0; have w1 := HQ8.out.fr 1; have w2 := HQ8.out.fr 2; have e0 := HS8.out.br.cell (j := 0) rfl; have e1 := HS8.out.br.cell (j := 1) rfl; have e2 := HS8.out.br.cell (j := 2) rfl; have f0 := HS8.out.br.fr 0; have f1 := HS8.out.br.fr 1; have f2 := HS8.out.br.fr 2; have sl8 := HS8.out.lt)
      have hx5 := HS5.out.bel.size
      have hq := boxs3 ((HS8.out.br).grown (set3 x8 x5.heap.size (.int .i64 v.kind) (.int .i64 v.num) (.string v.text)) (by have := HS5.out.lt; simp; omega)) (.int .i64 v.kind) (.int .i64 v.num) (.string v.text)
      have z0 := hq.cell (j := 0) rfl
      have z1 := hq.cell (j := 1) rfl
      have z2 := hq.cell (j := 2) rfl
      exact bodyPost_ret (v := .agg #[.int .i64 v.kind, .int .i64 v.num, .string v.text]) (by simp [results, Tryd.results27, go_sem, z0, z1, z2]) rfl ⟨rfl, belset3 (belset3 HS8.out.bel (Nat.le_refl _) hx5 _ _ _) (Nat.le_refl _) (Nat.le_succ _) _ _ _⟩

end Go.Proofs.YtlkhiihehaiinaaDoor

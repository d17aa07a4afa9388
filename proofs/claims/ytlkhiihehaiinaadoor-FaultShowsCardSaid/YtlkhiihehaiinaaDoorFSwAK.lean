/- (*fault.switches).eval: an operation over leaves whose only fault is 'replaced'. -/
import Derived.Test.YtlkhiihehaiinaaDoorGK
import Derived.Test.YtlkhiihehaiinaaDoorGL
import Derived.Deep.QuietTactic
import Derived.BigQuiet
namespace Go.Proofs.YtlkhiihehaiinaaDoor
open Go.RowKit

set_option maxRecDepth 100000 in
set_option maxHeartbeats 16000000 in
theorem fnode_A (g m : Nat) (F : Nat → Bool) (S : ByteArray → Bool) (o : Nat) (typ num : Int) (text : ByteArray) (col : Int) (kh : Hd) (kids : List Ex) (r : VL) (w : World) (hs : SwW w g m F S) (he : Ex.In w ⟨o, typ, num, text, col, kh, kids⟩) (hl : Ex.Low ⟨o, typ, num, text, col, kh, kids⟩) (hr : r.In w)
    (ho : o < 29) (hfit : fitsB o kids.length = true) (hkf : ∀ k ∈ kids, fitsB k.op k.kids.length = false) (rp : Nat) (hrp : rp < 29) (HRP : Hid (∀ W : World, FW W → Calls Tryd.prog 51 #[.int .i64 (o : Nat)] W fun e W' => e = .returned (.int .i64 (rp : Nat)) ∧ Below W.heap.size W W')) (HFW : Hid (FW w)) (hb4 : F (116 + o) = true) (hb3 : F (87 + o) = false) (hb2 : F (58 + o) = false) (hb1 : F (29 + o) = false) (hb0 : F (0 + o) = false) :
    Calls Tryd.prog 27 #[.pointer (some ⟨g, 0, none⟩), .agg #[.int .i64 (o : Nat), .int .i64 typ, .int .i64 num, .string text, .int .i64 col, .slice kh.ao kids.length kh.cap], .slice r.h.ao r.l.length r.h.cap] w
      fun e' w' => e' = .returned (.agg #[.int .i64 (appV rp (kids.map (Ex.va r.l))).kind, .int .i64 (appV rp (kids.map (Ex.va r.l))).num, .string (appV rp (kids.map (Ex.va r.l))).text]) ∧ Below w.heap.size w w' := by
  have HE := hide he
  have HL := hide hl
  have HR := hide hr
  have HSW := hide hs
  have HKF := hide hkf
  have hrow := he.row
  dsimp only at hrow
  have hkn := hl.len
  dsimp only at hkn
  obtain ⟨v, hv⟩ : ∃ v, appV rp (kids.map (Ex.va r.l)) = v := ⟨_, rfl⟩
  have HV := hide hv
  rw [hv]
  have HFT := hide (fun W => fits_any o typ num text col kh.ao kids.length kh.cap W)
  rw [hfit] at HFT
  obtain ⟨i0, hi, hz0, hz1, hz2⟩ := info_parts info_val
  have HI := hide (And.intro hi (And.intro hz0 (And.intro hz1 hz2)))
  clear hi hz0 hz1 hz2 he hl hr hs hv hfit hkf
  have HB0 := hide (belAA (w := w) (.cells #[.int .i64 (o : Nat), .int .i64 typ, .int .i64 num, .string text, .int .i64 col, .slice kh.ao kids.length kh.cap] 31) (.cells #[.int .i64 0, .int .i64 0, .string ⟨#[]⟩] 24))
  have hp := (HSW.out.below HB0.out).sw.ptr
  have hgl := HSW.out.sw.lt
  obtain ⟨n, D, hn, hown, hat, hsz⟩ := (HSW.out.below HB0.out).tx
  have HOWN := hide hown
  have hD : ((Maps.size D : Int) == 0) = false := beq_eq_false_iff_ne.2 (fun h => by have h2 := hsz.1 (by omega); cases h2)
  clear hn hown hat hsz
  have HS0 := hide (SE.start (w := w) (cs := #[.int .i64 (o : Nat), .int .i64 typ, .int .i64 num, .string text, .int .i64 col, .slice kh.ao kids.length kh.cap]) (Below.refl _ _))
  go_enter Tryd.func27, Tryd.ntmps27
  go_wp2_with (first
    | (at_len; refine wpList_len_own _ rfl _ 71 rfl 9 4 Tryd.underlying71 (plainElem (H := Unit) Tryd.prog 4) m n D rfl HOWN.out ?_)
    | (go_at_call 49; refine (HFT.out _).mono ?_; rintro e x1 ⟨rfl, hb⟩; have HS1 := hide (HS0.out.call hb); clear hb; obtain ⟨sl0, sl1⟩ := HS1.out.lt; have k0 := HS1.out.be.cell (j := 0) rfl; have k1 := HS1.out.be.cell (j := 1) rfl; have k2 := HS1.out.be.cell (j := 2) rfl; have k3 := HS1.out.be.cell (j := 3) rfl; have k4 := HS1.out.be.cell (j := 4) rfl; have k5 := HS1.out.be.cell (j := 5) rfl))
  clear hp hD
  go_loopw [33, 7] (fun i v wr => ∃ (k : Nat) (u : Value), u = v ∧ k ≤ kids.length ∧ i = .int .i64 k ∧ wr.ownsRow (w.heap.size + 2) 24 3 v k ((kids.take k).flatMap (fun k => V.cells (k.va r.l))) ∧ Hid (SE w #[.int .i64 (o : Nat), .int .i64 typ, .int .i64 num, .string text, .int .i64 col, .slice kh.ao kids.length kh.cap] wr)) (fun i _ _ => kids.length - (intOf i).toNat)
  case atStart => exact ⟨0, _, rfl, Nat.zero_le _, rfl, World.ownsRow_nil _ _ _ _, HS1⟩
  case round =>
    clear sl0 sl1 k0 k1 k2 k3 k4 k5
    obtain ⟨k, u, rfl, hk, rfl, hown, HS2⟩ := hrel
    have HO := hide hown
    clear hown
    by_cases hlt : k < kids.length
    · have hlti : (k : Int) < kids.length := by omega
      obtain ⟨y, hy⟩ : ∃ y, kids[k] = y := ⟨_, rfl⟩
      obtain ⟨p, hix, KC⟩ := kid_at hrow k hlt k rfl hy
      obtain ⟨kb, a0, a1, a2, a3, a4, a5⟩ := KC _ HS2.out.bel
      have HYI := hide (hy ▸ HE.out.kid _ (List.getElem_mem hlt) : y.In w)
      have HYL := hide (hy ▸ HL.out.kid _ (List.getElem_mem hlt) : y.Low)
      have HYF := hide (hy ▸ HKF.out _ (List.getElem_mem hlt) : fitsB y.op y.kids.length = false)
      have HTK := hide (show (kids.take (k + 1)).flatMap (fun k => V.cells (k.va r.l)) = (kids.take k).flatMap (fun k => V.cells (k.va r.l)) ++ V.cells (y.va r.l) from by rw [take_snoc kids hlt, List.flatMap_append, hy]; simp)
      have sl := HS2.out.lt
      clear KC hy
      go_wp2_with (first
        | (go_at_call 27; refine (fleaf g m F S y r _ (HSW.out.below (HS2.out.call (belA _)).bel) (HYI.out.mono (HS2.out.call (belA _)).bel) HYL.out (HR.out.mono (HS2.out.call (belA _)).bel) HYF.out).mono ?_; rintro e x3 ⟨rfl, hb⟩; have HB3 := hide (bel1 hb); have HS3 := hide (HS2.out.call HB3.out); clear hb)
        | (at_builtin; refine wpList_append_own _ rfl _ _ 28 rfl (w.heap.size + 2) 24 i0 (.agg #[.int .i64 0, .int .i64 0, .string ByteArray.empty]) 3 32 Tryd.underlying28 HI.out.1 HI.out.2.1 HI.out.2.2.1 HI.out.2.2.2 rfl (by decide) _ _ _ rfl ((HO.out.kept (only_below HB3.out none) (Classical.em _)).alloc _) ⟨x3.heap.size, 0, none⟩ 1 1 (V.cells (y.va r.l)) rfl rfl (new_cells (l := V.cells (y.va r.l))) (v_one _) (by unfold maxLen; omega) (by omega) (by have := HS3.out.lt; simp; omega) ?_; intro v' x4 hown' hgrow _; have HO4 := hide (show x4.ownsRow (w.heap.size + 2) 24 3 v' (k + 1) ((kids.take (k + 1)).flatMap (fun k => V.cells (k.va r.l))) from by rw [HTK.out]; exact hown'); have HG4 := hide hgrow; clear hown' hgrow))
      go_roundw
      case rel =>
        refine ⟨k + 1, _, rfl, by omega, by go_num, HO4.out, hide ?_⟩
        have hg := HG4.out
        have h1 := HS3.out.call (belA (.cells (V.cells (y.va r.l)).toArray 24))
        have hlo := HO.out.lt
        exact ⟨h1.bel.grown hg h1.bel.size (fun j hj => by have := (hlo j hj).1; omega), h1.be.grown hg (fun e => by have := (hlo _ e.symm).1; omega), h1.br.grown hg (fun e => by have := (hlo _ e.symm).1; omega)⟩
      case measure => simp [intOf]; omega
    · have hke : k = kids.length := by omega
      have hlti : ¬ (k : Int) < kids.length := by omega
      have hoo := HO.out
      rw [hke, List.take_length, ← flat_map] at hoo
      obtain ⟨q, hvq, hq, hqin⟩ := vl_mk hoo (fun x hx => by obtain ⟨z, hz, rfl⟩ := List.mem_map.1 hx; exact Ex.va_wf HR.out.2 (HE.out.kid z hz))
      have HQI := hide hqin
      have hqn : q.l.length ≤ 1000000 := by rw [hq, List.length_map]; exact hkn
      have HQ := hide hq
      subst hvq
      clear hoo hqin hq HO hke
      have HW2 := hide (HSW.out.below HS2.out.bel)
      have k0 := HS2.out.be.cell (j := 0) rfl
      have b4 := bit_4 HW2.out.sw ho hb4
      have b3 := bit_3 HW2.out.sw ho hb3
      have b2 := bit_2 HW2.out.sw ho hb2
      have b1 := bit_1 HW2.out.sw ho hb1
      obtain ⟨r0, r1, r2, r3, r4⟩ := ix_row g
      have o4 := ix_op g 117 o ho
      have o3 := ix_op g 88 o ho
      have o2 := ix_op g 59 o ho
      have o1 := ix_op g 30 o ho
      have o0 := ix_op g 1 o ho
      go_wp2
      go_quiet (fail)
      generalize nq = n1
      have hZ1 := below_drewN (Below.refl wr.heap.size wr) n1
      have HS3 := hide (HS2.out.call hZ1)
      have HQ3 := hide (HQI.out.mono hZ1)
      generalize wr.drewN n1 = Z1 at *
      clear hZ1 k0 b4 b3 b2 b1
      have k0 := HS3.out.be.cell (j := 0) rfl
      go_wp2_with (go_at_call 51; refine (HRP.out _ (HFW.out.below HS3.out.bel)).mono ?_; rintro e x4 ⟨rfl, hb⟩; have HS4 := hide (HS3.out.call hb); have HQ4 := hide (HQ3.out.mono hb); clear hb k0; have HW4 := hide (HSW.out.below HS4.out.bel); have k0 := HS4.out.be.cell (j := 0) rfl; have b3 := bit_3 HW4.out.sw ho hb3; have b2 := bit_2 HW4.out.sw ho hb2)
      clear hgl
      go_quiet (fail)
      generalize nq = n2
      go_wp2
      go_quiet (fail)
      clear b3 b2 k0 o4 o3 o2
      generalize hZ : (x4.drewN n2).drewN nq = Z
      have HZ := hide (show Below x4.heap.size x4 Z from by rw [← hZ]; exact below_drewN (below_drewN (Below.refl _ _) _) _)
      clear hZ
      have HS5 := hide (HS4.out.call HZ.out)
      have HQ5 := hide (HQ4.out.mono HZ.out)
      have HW5 := hide (HSW.out.below HS5.out.bel)
      have HAP := hide (applied_any rp (by constructor <;> omega) q Z HQ5.out hqn HW5.out.nn HW5.out.op)
      have k0 := HS5.out.be.cell (j := 0) rfl
      go_wp2_with (go_at_call 54; refine HAP.out.mono ?_; rintro e x5 ⟨rfl, hb⟩; rw [HQ.out]; have HS6 := hide (HS5.out.call hb); clear hb; clear k0; obtain ⟨sl0, sl1⟩ := HS6.out.lt; have k0 := HS6.out.be.cell (j := 0) rfl; have b1 := bit_1 (HSW.out.below HS6.out.bel).sw ho hb1; have b0 := bit_0 (HSW.out.below HS6.out.bel).sw ho hb0; have gl5 := (HSW.out.below HS6.out.bel).sw.lt)
      obtain ⟨av, hav⟩ : ∃ av, appV rp (kids.map (Ex.va r.l)) = av := ⟨_, rfl⟩
      have HIV := hide (show av = v from by rw [← hav]; exact HV.out)
      rw [hav]
      clear hav
      have HXB := hide (belA (w := x5) (.cells #[.int .i64 av.kind, .int .i64 av.num, .string av.text] 24))
      go_quiet (fail)
      generalize nq = n3
      go_wp2
      go_quiet (fail)
      clear b1 b0 k0 r0 r1 r2 r3 r4 o1 o0
      generalize hZ2 : ((x5.alloc (.cells #[.int .i64 av.kind, .int .i64 av.num, .string av.text] 24)).drewN n3).drewN nq = Z2
      have HZ2 := hide (show Below (x5.alloc (.cells #[.int .i64 av.kind, .int .i64 av.num, .string av.text] 24)).heap.size (x5.alloc (.cells #[.int .i64 av.kind, .int .i64 av.num, .string av.text] 24)) Z2 from by rw [← hZ2]; exact below_drewN (below_drewN (Below.refl _ _) _) _)
      clear hZ2
      have hq7 := (Box.new x5 #[.int .i64 av.kind, .int .i64 av.num, .string av.text] 24).below HZ2.out
      have v0 := hq7.cell (j := 0) rfl
      have v1 := hq7.cell (j := 1) rfl
      have v2 := hq7.cell (j := 2) rfl
      have HS7 := hide ((HS6.out.call HXB.out).call HZ2.out)
      clear hq7
      have e0 := HS7.out.br.cell (j := 0) rfl
      have e1 := HS7.out.br.cell (j := 1) rfl
      have e2 := HS7.out.br.cell (j := 2) rfl
      have f0 := HS7.out.br.fr 0
      have f1 := HS7.out.br.fr 1
      have f2 := HS7.out.br.fr 2
      go_wp2
      exact bodyPost_ret (v := .agg #[.int .i64 av.kind, .int .i64 av.num, .string av.text]) (by simp [results, Tryd.results27, go_sem, e0, e1, e2]) rfl ⟨by rw [HIV.out], HS7.out.fin _ _ _⟩
end Go.Proofs.YtlkhiihehaiinaaDoor

/- (*fault.switches).eval: an operation over leaves whose only fault is 'zero'. -/
import Derived.Test.YtlkhiihehaiinaaDoorGK
import Derived.Test.YtlkhiihehaiinaaDoorGL
import Derived.Test.YtlkhiihehaiinaaDoorGM
import Derived.Test.YtlkhiihehaiinaaDoorFZerK
import Derived.Test.YtlkhiihehaiinaaDoorFSwAK
import Derived.Deep.QuietTactic
import Derived.BigQuiet
namespace Go.Proofs.YtlkhiihehaiinaaDoor
open Go.RowKit

def zf (zk : Int) (v : V) : V := if isN v then ⟨zk, 0, ⟨#[]⟩⟩ else v
def zeroL (o : Int) (l : List V) : List V := l.map (zf (zeroK o l))
def zl (zk : Int) (l : List V) (k : Nat) : List V := (l.take k).map (zf zk) ++ l.drop k
theorem zl_at (zk : Int) (l : List V) {k : Nat} (hk : k < l.length) {h : k < (zl zk l k).length} : (zl zk l k)[k] = l[k] := by
  have e : ((l.take k).map (zf zk)).length = k := by rw [List.length_map, List.length_take]; omega
  have h2 : (zl zk l k)[k]? = some l[k] := by
    unfold zl
    rw [List.getElem?_append_right (by omega), e, Nat.sub_self, List.getElem?_drop, Nat.add_zero, List.getElem?_eq_getElem hk]
  exact (List.getElem?_eq_some_iff.1 h2).2
theorem zl_succ (zk : Int) (l : List V) {k : Nat} (hk : k < l.length) : zl zk l (k + 1) = if isN l[k] = true then (zl zk l k).set k ⟨zk, 0, ⟨#[]⟩⟩ else zl zk l k := by
  have e : ((l.take k).map (zf zk)).length = k := by rw [List.length_map, List.length_take]; omega
  unfold zl
  rw [List.take_succ_eq_append_getElem hk, List.map_append, List.append_assoc, List.drop_eq_getElem_cons hk]
  split
  · rename_i h
    rw [List.set_append_right _ _ (by omega), e, Nat.sub_self, List.set_cons_zero]
    show _ ++ (zf zk l[k] :: l.drop (k + 1)) = _
    unfold zf
    rw [if_pos h]
  · rename_i h
    show _ ++ (zf zk l[k] :: l.drop (k + 1)) = _
    unfold zf
    rw [if_neg h]
theorem zl_end (zk : Int) (l : List V) : zl zk l l.length = l.map (zf zk) := by unfold zl; rw [List.take_length, List.drop_length, List.append_nil]
theorem zeroK_wf (o : Int) {l : List V} (h : ∀ v ∈ l, v.wf) : int64 (zeroK o l) := by
  have h1 : int64 1 := i64_lit rfl
  unfold zeroK
  split
  · exact i64_lit rfl
  · split
    · exact i64_lit rfl
    · split
      · split
        · rw [List.getD_eq_getElem?_getD]
          cases hc : l[(fxV noN l).toNat]? with
          | none => exact i64_lit rfl
          | some u => exact (h u (List.mem_of_getElem? hc)).1
        · exact h1
      · exact h1
/-- .. and the box that holds the zero. -/
structure SWZ (w : World) (cs : Array Value) (g2 cap n : Nat) (l : List V) (gz : Nat) (zk : Int) (x : World) : Prop where
  r : SWR w cs g2 cap n l x
  bz : Box x gz #[.int .i64 zk, .int .i64 0, .string ⟨#[]⟩] 24
  ne : gz ≠ g2
theorem SWZ.call {w x y : World} {cs : Array Value} {g2 cap n : Nat} {l : List V} {gz : Nat} {zk : Int} (h : SWZ w cs g2 cap n l gz zk x) (hb : Below x.heap.size x y) : SWZ w cs g2 cap n l gz zk y := ⟨h.r.call hb, h.bz.below hb, h.ne⟩
theorem SWZ.put {w x y : World} {cs : Array Value} {g2 cap n : Nat} {l l' : List V} {gz : Nat} {zk : Int} (h : SWZ w cs g2 cap n l gz zk x) (hr : SWR w cs g2 cap n l' y) (hg : x.grownBy y (some g2)) : SWZ w cs g2 cap n l' gz zk y := ⟨hr, h.bz.grown hg (fun e => h.ne (Option.some.inj e)), h.ne⟩
set_option maxRecDepth 100000 in
set_option maxHeartbeats 16000000 in
theorem fnode_C (g m : Nat) (F : Nat → Bool) (S : ByteArray → Bool) (o : Nat) (typ num : Int) (text : ByteArray) (col : Int) (kh : Hd) (kids : List Ex) (r : VL) (w : World) (hs : SwW w g m F S) (he : Ex.In w ⟨o, typ, num, text, col, kh, kids⟩) (hl : Ex.Low ⟨o, typ, num, text, col, kh, kids⟩) (hr : r.In w)
    (ho : o < 29) (hfit : fitsB o kids.length = true) (hkf : ∀ k ∈ kids, fitsB k.op k.kids.length = false) (hb4 : F (116 + o) = false) (hb3 : F (87 + o) = false) (hpos : 0 < kids.length) (HZR : Hid (∀ (q : VL) (W : World), q.In W → Calls Tryd.prog 53 #[.int .i64 (o : Nat), .slice q.h.ao q.l.length q.h.cap] W fun e w' => e = .returned (.agg #[.int .i64 (zeroK o q.l), .int .i64 0, .string ⟨#[]⟩]) ∧ Below W.heap.size W w')) (hb2 : F (58 + o) = true) (hb1 : F (29 + o) = false) (hb0 : F (0 + o) = false) :
    Calls Tryd.prog 27 #[.pointer (some ⟨g, 0, none⟩), .agg #[.int .i64 (o : Nat), .int .i64 typ, .int .i64 num, .string text, .int .i64 col, .slice kh.ao kids.length kh.cap], .slice r.h.ao r.l.length r.h.cap] w
      fun e' w' => e' = .returned (.agg #[.int .i64 (appV o (zeroL o (kids.map (Ex.va r.l)))).kind, .int .i64 (appV o (zeroL o (kids.map (Ex.va r.l)))).num, .string (appV o (zeroL o (kids.map (Ex.va r.l)))).text]) ∧ Below w.heap.size w w' := by
  have HE := hide he
  have HL := hide hl
  have HR := hide hr
  have HSW := hide hs
  have HKF := hide hkf
  have hrow := he.row
  dsimp only at hrow
  have hkn := hl.len
  dsimp only at hkn
  obtain ⟨v, hv⟩ : ∃ v, appV o (zeroL o (kids.map (Ex.va r.l))) = v := ⟨_, rfl⟩
  have HV := hide hv
  rw [hv]
  have HFT := hide (fun W => fits_any o typ num text col kh.ao kids.length kh.cap W)
  rw [hfit] at HFT
  obtain ⟨i0, hi, hz0, hz1, hz2⟩ := info_parts info_val
  have HI := hide (And.intro hi (And.intro hz0 (And.intro hz1 hz2)))
  clear hi hz0 hz1 hz2 he hl hr hs hv hfit hkf
  have HB0 := hide (belAA (w := w) (.cells #[.int .i64 (o : Nat), .int .i64 typ, .int .i64 num, .string text, .int .i64 col, .slice kh.ao kids.length kh.cap] 31) (.cells #[.int .i64 0, .int .i64 0, .string ⟨#[]⟩] 24))
  have hp := (HSW.out.below HB0.out).sw.ptr
  have hgl := HSW.out.sw.lt
  obtain ⟨n, D, hn, hown, hat, hsz⟩ := (HSW.out.below HB0.out).tx
  have HOWN := hide hown
  have hD : ((Maps.size D : Int) == 0) = false := beq_eq_false_iff_ne.2 (fun h => by have h2 := hsz.1 (by omega); cases h2)
  clear hn hown hat hsz
  have HS0 := hide (SE.start (w := w) (cs := #[.int .i64 (o : Nat), .int .i64 typ, .int .i64 num, .string text, .int .i64 col, .slice kh.ao kids.length kh.cap]) (Below.refl _ _))
  go_enter Tryd.func27, Tryd.ntmps27
  go_wp2_with (first
    | (at_len; refine wpList_len_own _ rfl _ 71 rfl 9 4 Tryd.underlying71 (plainElem (H := Unit) Tryd.prog 4) m n D rfl HOWN.out ?_)
    | (go_at_call 49; refine (HFT.out _).mono ?_; rintro e x1 ⟨rfl, hb⟩; have HS1 := hide (HS0.out.call hb); clear hb; obtain ⟨sl0, sl1⟩ := HS1.out.lt; have k0 := HS1.out.be.cell (j := 0) rfl; have k1 := HS1.out.be.cell (j := 1) rfl; have k2 := HS1.out.be.cell (j := 2) rfl; have k3 := HS1.out.be.cell (j := 3) rfl; have k4 := HS1.out.be.cell (j := 4) rfl; have k5 := HS1.out.be.cell (j := 5) rfl))
  clear hp hD
  go_loopw [33, 7] (fun i v wr => ∃ (k : Nat) (u : Value), u = v ∧ k ≤ kids.length ∧ i = .int .i64 k ∧ wr.ownsRow (w.heap.size + 2) 24 3 v k ((kids.take k).flatMap (fun k => V.cells (k.va r.l))) ∧ Hid (SE w #[.int .i64 (o : Nat), .int .i64 typ, .int .i64 num, .string text, .int .i64 col, .slice kh.ao kids.length kh.cap] wr)) (fun i _ _ => kids.length - (intOf i).toNat)
  case atStart => exact ⟨0, _, rfl, Nat.zero_le _, rfl, World.ownsRow_nil _ _ _ _, HS1⟩
  case round =>
    clear sl0 sl1 k0 k1 k2 k3 k4 k5
    obtain ⟨k, u, rfl, hk, rfl, hown, HS2⟩ := hrel
    have HO := hide hown
    clear hown
    by_cases hlt : k < kids.length
    · have hlti : (k : Int) < kids.length := by omega
      obtain ⟨y, hy⟩ : ∃ y, kids[k] = y := ⟨_, rfl⟩
      obtain ⟨p, hix, KC⟩ := kid_at hrow k hlt k rfl hy
      obtain ⟨kb, a0, a1, a2, a3, a4, a5⟩ := KC _ HS2.out.bel
      have HYI := hide (hy ▸ HE.out.kid _ (List.getElem_mem hlt) : y.In w)
      have HYL := hide (hy ▸ HL.out.kid _ (List.getElem_mem hlt) : y.Low)
      have HYF := hide (hy ▸ HKF.out _ (List.getElem_mem hlt) : fitsB y.op y.kids.length = false)
      have HTK := hide (show (kids.take (k + 1)).flatMap (fun k => V.cells (k.va r.l)) = (kids.take k).flatMap (fun k => V.cells (k.va r.l)) ++ V.cells (y.va r.l) from by rw [take_snoc kids hlt, List.flatMap_append, hy]; simp)
      have sl := HS2.out.lt
      clear KC hy
      go_wp2_with (first
        | (go_at_call 27; refine (fleaf g m F S y r _ (HSW.out.below (HS2.out.call (belA _)).bel) (HYI.out.mono (HS2.out.call (belA _)).bel) HYL.out (HR.out.mono (HS2.out.call (belA _)).bel) HYF.out).mono ?_; rintro e x3 ⟨rfl, hb⟩; have HB3 := hide (bel1 hb); have HS3 := hide (HS2.out.call HB3.out); clear hb)
        | (at_builtin; refine wpList_append_own _ rfl _ _ 28 rfl (w.heap.size + 2) 24 i0 (.agg #[.int .i64 0, .int .i64 0, .string ByteArray.empty]) 3 32 Tryd.underlying28 HI.out.1 HI.out.2.1 HI.out.2.2.1 HI.out.2.2.2 rfl (by decide) _ _ _ rfl ((HO.out.kept (only_below HB3.out none) (Classical.em _)).alloc _) ⟨x3.heap.size, 0, none⟩ 1 1 (V.cells (y.va r.l)) rfl rfl (new_cells (l := V.cells (y.va r.l))) (v_one _) (by unfold maxLen; omega) (by omega) (by have := HS3.out.lt; simp; omega) ?_; intro v' x4 hown' hgrow _; have HO4 := hide (show x4.ownsRow (w.heap.size + 2) 24 3 v' (k + 1) ((kids.take (k + 1)).flatMap (fun k => V.cells (k.va r.l))) from by rw [HTK.out]; exact hown'); have HG4 := hide hgrow; clear hown' hgrow))
      go_roundw
      case rel =>
        refine ⟨k + 1, _, rfl, by omega, by go_num, HO4.out, hide ?_⟩
        have hg := HG4.out
        have h1 := HS3.out.call (belA (.cells (V.cells (y.va r.l)).toArray 24))
        have hlo := HO.out.lt
        exact ⟨h1.bel.grown hg h1.bel.size (fun j hj => by have := (hlo j hj).1; omega), h1.be.grown hg (fun e => by have := (hlo _ e.symm).1; omega), h1.br.grown hg (fun e => by have := (hlo _ e.symm).1; omega)⟩
      case measure => simp [intOf]; omega
    · have hke : k = kids.length := by omega
      have hlti : ¬ (k : Int) < kids.length := by omega
      have hoo := HO.out
      rw [hke, List.take_length, ← flat_map] at hoo
      obtain ⟨g2, cap, hvq, _, _⟩ := hoo.form hpos
      subst hvq
      have HSR := hide (show SWR w #[.int .i64 (o : Nat), .int .i64 typ, .int .i64 num, .string text, .int .i64 col, .slice kh.ao kids.length kh.cap] g2 cap kids.length (kids.map (Ex.va r.l)) wr from ⟨HS2.out, hoo, List.length_map _, fun x hx => by obtain ⟨z, hz, rfl⟩ := List.mem_map.1 hx; exact Ex.va_wf HR.out.2 (HE.out.kid z hz)⟩)
      clear hoo HO hke
      have HW2 := hide (HSW.out.below HS2.out.bel)
      have k0 := HS2.out.be.cell (j := 0) rfl
      have b4 := bit_4 HW2.out.sw ho hb4
      have b3 := bit_3 HW2.out.sw ho hb3
      have b2 := bit_2 HW2.out.sw ho hb2
      have b1 := bit_1 HW2.out.sw ho hb1
      obtain ⟨r0, r1, r2, r3, r4⟩ := ix_row g
      have o4 := ix_op g 117 o ho
      have o3 := ix_op g 88 o ho
      have o2 := ix_op g 59 o ho
      have o1 := ix_op g 30 o ho
      have o0 := ix_op g 1 o ho
      obtain ⟨L, hL⟩ : ∃ L, kids.map (Ex.va r.l) = L := ⟨_, rfl⟩
      rw [hL] at HSR HV
      have hLl : L.length = kids.length := HSR.out.len
      obtain ⟨zk, hzk⟩ : ∃ zk, zeroK o L = zk := ⟨_, rfl⟩
      have HV := hide (show appV o (L.map (zf zk)) = v from by rw [← hzk]; exact HV.out)
      have HZW := hide (show V.wf ⟨zk, 0, ⟨#[]⟩⟩ from ⟨hzk ▸ zeroK_wf o HSR.out.wf, i64_lit rfl, Nat.zero_le _⟩)
      have HZC := hide (fun (W : World) (h : SWR w #[.int .i64 (o : Nat), .int .i64 typ, .int .i64 num, .string text, .int .i64 col, .slice kh.ao kids.length kh.cap] g2 cap kids.length L W) => HZR.out ⟨⟨some ⟨g2, 0, none⟩, cap⟩, L⟩ W h.vl)
      dsimp only at HZC
      rw [hLl, hzk] at HZC
      clear hL hzk
      go_wp2
      go_quiet (fail)
      generalize nq = n1
      go_wp2
      go_quiet (fail)
      generalize nq = n2
      go_wp2
      go_quiet (fail)
      clear b4 b3 b2 b1 o4 o3 o2 k0
      generalize hZ : (wr.drewN (n1 + n2)).drewN nq = Z
      have HZ := hide (show Below wr.heap.size wr Z from by rw [← hZ]; exact below_drewN (below_drewN (Below.refl _ _) _) _)
      clear hZ
      have HSR3 := hide (HSR.out.call HZ.out)
      have k0 := HSR3.out.se.be.cell (j := 0) rfl
      have hgl := (HSW.out.below HSR3.out.se.bel).sw.lt
      obtain ⟨sl0, sl1⟩ := HSR3.out.se.lt
      go_wp2_with (go_at_call 53; refine (HZC.out _ HSR3.out).mono ?_; rintro e x4 ⟨rfl, hb⟩; have HSR4 := hide (HSR3.out.call hb); clear hb k0)
      clear hgl sl0 sl1
      have HZ0 := hide (show SWZ w #[.int .i64 (o : Nat), .int .i64 typ, .int .i64 num, .string text, .int .i64 col, .slice kh.ao kids.length kh.cap] g2 cap kids.length (zl zk L 0) x4.heap.size zk (x4.alloc (.cells #[.int .i64 zk, .int .i64 0, .string ⟨#[]⟩] 24)) from
        ⟨HSR4.out.call (belA _), Box.new _ _ _, by have := HSR4.out.ge; omega⟩)
      go_loopw [90] (fun i wr => ∃ k : Nat, k ≤ kids.length ∧ i = .int .i64 k ∧ Hid (SWZ w #[.int .i64 (o : Nat), .int .i64 typ, .int .i64 num, .string text, .int .i64 col, .slice kh.ao kids.length kh.cap] g2 cap kids.length (zl zk L k) x4.heap.size zk wr)) (fun i _ => kids.length - (intOf i).toNat)
      case atStart => exact ⟨0, Nat.zero_le _, rfl, HZ0⟩
      case round =>
        obtain ⟨k, hk, rfl, HI⟩ := hrel
        clear HZ0
        by_cases hlt : k < kids.length
        · have hlti : (k : Int) < kids.length := by omega
          have hkL : k < L.length := by omega
          have hix := HI.out.r.ix hlt
          obtain ⟨c0, c1, c2⟩ := HI.out.r.cell (k := k) (by rw [HI.out.r.len]; exact hlt)
          rw [zl_at zk L hkL] at c0 c1 c2
          obtain ⟨u, hu⟩ : ∃ u, L[k] = u := ⟨_, rfl⟩
          rw [hu] at c0 c1 c2
          have HN := hide (zl_succ zk L hkL)
          rw [hu] at HN
          have HPT := hide (fun (W : World) (h : SWR w #[.int .i64 (o : Nat), .int .i64 typ, .int .i64 num, .string text, .int .i64 col, .slice kh.ao kids.length kh.cap] g2 cap kids.length (zl zk L k) W) => h.put k _ HZW.out)
          have HCC := hide (fun (W : World) (h : SWR w #[.int .i64 (o : Nat), .int .i64 typ, .int .i64 num, .string text, .int .i64 col, .slice kh.ao kids.length kh.cap] g2 cap kids.length (zl zk L k) W) => (by have h3 := h.cell (k := k) (by rw [h.len]; exact hlt); rw [zl_at zk L hkL, hu] at h3; exact h3 : W.cell? ⟨g2, k * 3, none⟩ = some (.int .i64 u.kind) ∧ W.cell? ⟨g2, k * 3 + 1, none⟩ = some (.int .i64 u.num) ∧ W.cell? ⟨g2, k * 3 + 2, none⟩ = some (.string u.text)))
          obtain ⟨p, hp⟩ : ∃ p, k * 3 = p := ⟨_, rfl⟩
          rw [hp] at hix c0 c1 c2 HPT HCC
          have hgb := HI.out.r.ge.2
          clear hp hu
          cases hz : isN u
          all_goals
            have HZN := hide hz
            rw [hz] at HN
            clear hz
            go_wp2_with (go_at_call 52; refine (isnclo_any u _).mono ?_; rintro e w3 ⟨rfl, hb⟩; rw [HZN.out]; have HI3 := hide (HI.out.call (bel1 hb)); clear hb c0 c1 c2; obtain ⟨c0, c1, c2⟩ := HCC.out _ HI3.out.r; have f0 := HI3.out.r.fr p; have f1 := HI3.out.r.fr (p + 1); have f2 := HI3.out.r.fr (p + 2); have y0 := HI3.out.bz.cell (j := 0) rfl; have y1 := HI3.out.bz.cell (j := 1) rfl; have y2 := HI3.out.bz.cell (j := 2) rfl)
          · go_roundw
            case rel => exact ⟨k + 1, by omega, by go_num, hide (by rw [HN.out, if_neg (by decide)]; exact HI3.out)⟩
            case measure => simp [intOf]; omega
          · have HI4 := hide (HI3.out.put (HPT.out _ HI3.out.r) (((gb_set _ _ _ _).trans (gb_set _ _ _ _)).trans (gb_set _ _ _ _)))
            clear c0 c1 c2 f0 f1 f2 y0 y1 y2
            go_roundw
            case rel => exact ⟨k + 1, by omega, by go_num, hide (by rw [HN.out, if_pos trivial]; exact HI4.out)⟩
            case measure => simp [intOf]; omega
        · have hlti : ¬ (k : Int) < kids.length := by omega
          have hke : k = L.length := by omega
          have HSR5 := hide (show SWR w #[.int .i64 (o : Nat), .int .i64 typ, .int .i64 num, .string text, .int .i64 col, .slice kh.ao kids.length kh.cap] g2 cap kids.length (L.map (zf zk)) wr from by rw [← zl_end, ← hke]; exact HI.out.r)
          clear hke hLl
          have hqn : (L.map (zf zk)).length = kids.length := HSR5.out.len
          have HW5 := hide (HSW.out.below HSR5.out.se.bel)
          have HAP := hide (applied_any o (by constructor <;> omega) ⟨⟨some ⟨g2, 0, none⟩, cap⟩, L.map (zf zk)⟩ wr HSR5.out.vl (by show (L.map (zf zk)).length ≤ _; rw [hqn]; exact hkn) HW5.out.nn HW5.out.op)
          dsimp only at HAP
          rw [hqn] at HAP
          have HS5 := hide HSR5.out.se
          clear hqn
          have k0 := HS5.out.be.cell (j := 0) rfl
          go_wp2_with (go_at_call 54; refine HAP.out.mono ?_; rintro e x5 ⟨rfl, hb⟩; have HS6 := hide (HS5.out.call hb); clear hb; clear k0; obtain ⟨sl0, sl1⟩ := HS6.out.lt; have k0 := HS6.out.be.cell (j := 0) rfl; have b1 := bit_1 (HSW.out.below HS6.out.bel).sw ho hb1; have b0 := bit_0 (HSW.out.below HS6.out.bel).sw ho hb0; have gl5 := (HSW.out.below HS6.out.bel).sw.lt)
          obtain ⟨av, hav⟩ : ∃ av, appV o (L.map (zf zk)) = av := ⟨_, rfl⟩
          have HIV := hide (show av = v from by rw [← hav]; exact HV.out)
          rw [hav]
          clear hav
          have HXB := hide (belA (w := x5) (.cells #[.int .i64 av.kind, .int .i64 av.num, .string av.text] 24))
          go_quiet (fail)
          generalize nq = n3
          go_wp2
          go_quiet (fail)
          clear b1 b0 k0 r0 r1 r2 r3 r4 o1 o0
          generalize hZ2 : ((x5.alloc (.cells #[.int .i64 av.kind, .int .i64 av.num, .string av.text] 24)).drewN n3).drewN nq = Z2
          have HZ2 := hide (show Below (x5.alloc (.cells #[.int .i64 av.kind, .int .i64 av.num, .string av.text] 24)).heap.size (x5.alloc (.cells #[.int .i64 av.kind, .int .i64 av.num, .string av.text] 24)) Z2 from by rw [← hZ2]; exact below_drewN (below_drewN (Below.refl _ _) _) _)
          clear hZ2
          have hq7 := (Box.new x5 #[.int .i64 av.kind, .int .i64 av.num, .string av.text] 24).below HZ2.out
          have v0 := hq7.cell (j := 0) rfl
          have v1 := hq7.cell (j := 1) rfl
          have v2 := hq7.cell (j := 2) rfl
          have HS7 := hide ((HS6.out.call HXB.out).call HZ2.out)
          clear hq7
          have e0 := HS7.out.br.cell (j := 0) rfl
          have e1 := HS7.out.br.cell (j := 1) rfl
          have e2 := HS7.out.br.cell (j := 2) rfl
          have f0 := HS7.out.br.fr 0
          have f1 := HS7.out.br.fr 1
          have f2 := HS7.out.br.fr 2
          go_wp2
          exact bodyPost_ret (v := .agg #[.int .i64 av.kind, .int .i64 av.num, .string av.text]) (by simp [results, Tryd.results27, go_sem, e0, e1, e2]) rfl ⟨by rw [HIV.out], HS7.out.fin _ _ _⟩
end Go.Proofs.YtlkhiihehaiinaaDoor

/- (*fault.switches).eval: an operation over leaves whose only fault is 'strict'. -/
namespace Go.Proofs.YtlkhiihehaiinaaDoor
open Go.RowKit

set_option maxRecDepth 100000 in
set_option maxHeartbeats 16000000 in
theorem fnode_D (g m : Nat) (F : Nat → Bool) (S : ByteArray → Bool) (o : Nat) (typ num : Int) (text : ByteArray) (col : Int) (kh : Hd) (kids : List Ex) (r : VL) (w : World) (hs : SwW w g m F S) (he : Ex.In w ⟨o, typ, num, text, col, kh, kids⟩) (hl : Ex.Low ⟨o, typ, num, text, col, kh, kids⟩) (hr : r.In w)
    (ho : o < 29) (hfit : fitsB o kids.length = true) (hkf : ∀ k ∈ kids, fitsB k.op k.kids.length = false) (hb4 : F (116 + o) = false) (hb3 : F (87 + o) = false) (hb2 : F (58 + o) = false) (hb1 : F (29 + o) = true) (hb0 : F (0 + o) = false) :
    Calls Tryd.prog 27 #[.pointer (some ⟨g, 0, none⟩), .agg #[.int .i64 (o : Nat), .int .i64 typ, .int .i64 num, .string text, .int .i64 col, .slice kh.ao kids.length kh.cap], .slice r.h.ao r.l.length r.h.cap] w
      fun e' w' => e' = .returned (.agg #[.int .i64 ((if (kids.map (Ex.va r.l)).any isN = true then nulV else appV o (kids.map (Ex.va r.l)))).kind, .int .i64 ((if (kids.map (Ex.va r.l)).any isN = true then nulV else appV o (kids.map (Ex.va r.l)))).num, .string ((if (kids.map (Ex.va r.l)).any isN = true then nulV else appV o (kids.map (Ex.va r.l)))).text]) ∧ Below w.heap.size w w' := by
  have HE := hide he
  have HL := hide hl
  have HR := hide hr
  have HSW := hide hs
  have HKF := hide hkf
  have hrow := he.row
  dsimp only at hrow
  have hkn := hl.len
  dsimp only at hkn
  obtain ⟨v, hv⟩ : ∃ v, (if (kids.map (Ex.va r.l)).any isN = true then nulV else appV o (kids.map (Ex.va r.l))) = v := ⟨_, rfl⟩
  have HV := hide hv
  rw [hv]
  have HFT := hide (fun W => fits_any o typ num text col kh.ao kids.length kh.cap W)
  rw [hfit] at HFT
  obtain ⟨i0, hi, hz0, hz1, hz2⟩ := info_parts info_val
  have HI := hide (And.intro hi (And.intro hz0 (And.intro hz1 hz2)))
  clear hi hz0 hz1 hz2 he hl hr hs hv hfit hkf
  have HB0 := hide (belAA (w := w) (.cells #[.int .i64 (o : Nat), .int .i64 typ, .int .i64 num, .string text, .int .i64 col, .slice kh.ao kids.length kh.cap] 31) (.cells #[.int .i64 0, .int .i64 0, .string ⟨#[]⟩] 24))
  have hp := (HSW.out.below HB0.out).sw.ptr
  have hgl := HSW.out.sw.lt
  obtain ⟨n, D, hn, hown, hat, hsz⟩ := (HSW.out.below HB0.out).tx
  have HOWN := hide hown
  have hD : ((Maps.size D : Int) == 0) = false := beq_eq_false_iff_ne.2 (fun h => by have h2 := hsz.1 (by omega); cases h2)
  clear hn hown hat hsz
  have HS0 := hide (SE.start (w := w) (cs := #[.int .i64 (o : Nat), .int .i64 typ, .int .i64 num, .string text, .int .i64 col, .slice kh.ao kids.length kh.cap]) (Below.refl _ _))
  go_enter Tryd.func27, Tryd.ntmps27
  go_wp2_with (first
    | (at_len; refine wpList_len_own _ rfl _ 71 rfl 9 4 Tryd.underlying71 (plainElem (H := Unit) Tryd.prog 4) m n D rfl HOWN.out ?_)
    | (go_at_call 49; refine (HFT.out _).mono ?_; rintro e x1 ⟨rfl, hb⟩; have HS1 := hide (HS0.out.call hb); clear hb; obtain ⟨sl0, sl1⟩ := HS1.out.lt; have k0 := HS1.out.be.cell (j := 0) rfl; have k1 := HS1.out.be.cell (j := 1) rfl; have k2 := HS1.out.be.cell (j := 2) rfl; have k3 := HS1.out.be.cell (j := 3) rfl; have k4 := HS1.out.be.cell (j := 4) rfl; have k5 := HS1.out.be.cell (j := 5) rfl))
  clear hp hD
  go_loopw [33, 7] (fun i v wr => ∃ (k : Nat) (u : Value), u = v ∧ k ≤ kids.length ∧ i = .int .i64 k ∧ wr.ownsRow (w.heap.size + 2) 24 3 v k ((kids.take k).flatMap (fun k => V.cells (k.va r.l))) ∧ Hid (SE w #[.int .i64 (o : Nat), .int .i64 typ, .int .i64 num, .string text, .int .i64 col, .slice kh.ao kids.length kh.cap] wr)) (fun i _ _ => kids.length - (intOf i).toNat)
  case atStart => exact ⟨0, _, rfl, Nat.zero_le _, rfl, World.ownsRow_nil _ _ _ _, HS1⟩
  case round =>
    clear sl0 sl1 k0 k1 k2 k3 k4 k5
    obtain ⟨k, u, rfl, hk, rfl, hown, HS2⟩ := hrel
    have HO := hide hown
    clear hown
    by_cases hlt : k < kids.length
    · have hlti : (k : Int) < kids.length := by omega
      obtain ⟨y, hy⟩ : ∃ y, kids[k] = y := ⟨_, rfl⟩
      obtain ⟨p, hix, KC⟩ := kid_at hrow k hlt k rfl hy
      obtain ⟨kb, a0, a1, a2, a3, a4, a5⟩ := KC _ HS2.out.bel
      have HYI := hide (hy ▸ HE.out.kid _ (List.getElem_mem hlt) : y.In w)
      have HYL := hide (hy ▸ HL.out.kid _ (List.getElem_mem hlt) : y.Low)
      have HYF := hide (hy ▸ HKF.out _ (List.getElem_mem hlt) : fitsB y.op y.kids.length = false)
      have HTK := hide (show (kids.take (k + 1)).flatMap (fun k => V.cells (k.va r.l)) = (kids.take k).flatMap (fun k => V.cells (k.va r.l)) ++ V.cells (y.va r.l) from by rw [take_snoc kids hlt, List.flatMap_append, hy]; simp)
      have sl := HS2.out.lt
      clear KC hy
      go_wp2_with (first
        | (go_at_call 27; refine (fleaf g m F S y r _ (HSW.out.below (HS2.out.call (belA _)).bel) (HYI.out.mono (HS2.out.call (belA _)).bel) HYL.out (HR.out.mono (HS2.out.call (belA _)).bel) HYF.out).mono ?_; rintro e x3 ⟨rfl, hb⟩; have HB3 := hide (bel1 hb); have HS3 := hide (HS2.out.call HB3.out); clear hb)
        | (at_builtin; refine wpList_append_own _ rfl _ _ 28 rfl (w.heap.size + 2) 24 i0 (.agg #[.int .i64 0, .int .i64 0, .string ByteArray.empty]) 3 32 Tryd.underlying28 HI.out.1 HI.out.2.1 HI.out.2.2.1 HI.out.2.2.2 rfl (by decide) _ _ _ rfl ((HO.out.kept (only_below HB3.out none) (Classical.em _)).alloc _) ⟨x3.heap.size, 0, none⟩ 1 1 (V.cells (y.va r.l)) rfl rfl (new_cells (l := V.cells (y.va r.l))) (v_one _) (by unfold maxLen; omega) (by omega) (by have := HS3.out.lt; simp; omega) ?_; intro v' x4 hown' hgrow _; have HO4 := hide (show x4.ownsRow (w.heap.size + 2) 24 3 v' (k + 1) ((kids.take (k + 1)).flatMap (fun k => V.cells (k.va r.l))) from by rw [HTK.out]; exact hown'); have HG4 := hide hgrow; clear hown' hgrow))
      go_roundw
      case rel =>
        refine ⟨k + 1, _, rfl, by omega, by go_num, HO4.out, hide ?_⟩
        have hg := HG4.out
        have h1 := HS3.out.call (belA (.cells (V.cells (y.va r.l)).toArray 24))
        have hlo := HO.out.lt
        exact ⟨h1.bel.grown hg h1.bel.size (fun j hj => by have := (hlo j hj).1; omega), h1.be.grown hg (fun e => by have := (hlo _ e.symm).1; omega), h1.br.grown hg (fun e => by have := (hlo _ e.symm).1; omega)⟩
      case measure => simp [intOf]; omega
    · have hke : k = kids.length := by omega
      have hlti : ¬ (k : Int) < kids.length := by omega
      have hoo := HO.out
      rw [hke, List.take_length, ← flat_map] at hoo
      obtain ⟨q, hvq, hq, hqin⟩ := vl_mk hoo (fun x hx => by obtain ⟨z, hz, rfl⟩ := List.mem_map.1 hx; exact Ex.va_wf HR.out.2 (HE.out.kid z hz))
      have HQI := hide hqin
      have hqn : q.l.length ≤ 1000000 := by rw [hq, List.length_map]; exact hkn
      have HQ := hide hq
      subst hvq
      clear hoo hqin hq HO hke
      have HW2 := hide (HSW.out.below HS2.out.bel)
      have k0 := HS2.out.be.cell (j := 0) rfl
      have b4 := bit_4 HW2.out.sw ho hb4
      have b3 := bit_3 HW2.out.sw ho hb3
      have b2 := bit_2 HW2.out.sw ho hb2
      have b1 := bit_1 HW2.out.sw ho hb1
      obtain ⟨r0, r1, r2, r3, r4⟩ := ix_row g
      have o4 := ix_op g 117 o ho
      have o3 := ix_op g 88 o ho
      have o2 := ix_op g 59 o ho
      have o1 := ix_op g 30 o ho
      have o0 := ix_op g 1 o ho
      go_wp2
      go_quiet (fail)
      generalize nq = n1
      go_wp2
      go_quiet (fail)
      generalize nq = n2
      go_wp2
      go_quiet (fail)
      clear b4 b3 b2 b1 o4 o3 o2 k0
      generalize hZ : (wr.drewN (n1 + n2)).drewN nq = Z
      have HZ := hide (show Below wr.heap.size wr Z from by rw [← hZ]; exact below_drewN (below_drewN (Below.refl _ _) _) _)
      clear hZ
      have HS3 := hide (HS2.out.call HZ.out)
      have HQ3 := hide (HQI.out.mono HZ.out)
      have HW3 := hide (HSW.out.below HS3.out.bel)
      have HAP := hide (applied_any o (by constructor <;> omega) q Z HQ3.out hqn HW3.out.nn HW3.out.op)
      have k0 := HS3.out.be.cell (j := 0) rfl
      go_wp2_with (go_at_call 54; refine HAP.out.mono ?_; rintro e x5 ⟨rfl, hb⟩; rw [HQ.out]; have HS5 := hide (HS3.out.call hb); have HQ5 := hide (HQ3.out.mono hb); clear hb; clear k0)
      obtain ⟨av, hav⟩ : ∃ av, appV o (kids.map (Ex.va r.l)) = av := ⟨_, rfl⟩
      have HIV := hide (show (if (kids.map (Ex.va r.l)).any isN = true then nulV else av) = v from by rw [← hav]; exact HV.out)
      rw [hav]
      clear hav
      have HXB := hide (belA (w := x5) (.cells #[.int .i64 av.kind, .int .i64 av.num, .string av.text] 24))
      have HS6 := hide (HS5.out.call HXB.out)
      have HQ6 := hide (HQ5.out.mono HXB.out)
      have HBX := hide (Box.new x5 #[.int .i64 av.kind, .int .i64 av.num, .string av.text] 24)
      have hx5 := HS5.out.bel.size
      have hx6 := HS5.out.lt
      generalize x5.heap.size = X at *
      generalize x5.alloc (.cells #[.int .i64 av.kind, .int .i64 av.num, .string av.text] 24) = W6 at *
      have hyk : ∀ w' : World, Below W6.heap.size W6 w' → w'.cell? ⟨w.heap.size, 0, none⟩ = some (.int .i64 (o : Nat)) := fun w' h => (HS6.out.call h).be.cell (j := 0) rfl
      have hyb : ∀ w' : World, Below W6.heap.size W6 w' → w'.cell? ⟨g, 30 + o, none⟩ = some (.bool true) := fun w' h => bit_1 (HSW.out.below (HS6.out.call h).bel).sw ho hb1
      have HCN := hide (fun (W : World) (h : Below W6.heap.size W6 W) => by have h2 := isncont_any q W (HQ6.out.mono h); rw [show q.l.length = kids.length by rw [HQ.out, List.length_map]] at h2; exact h2)
      rw [← HQ.out] at HIV
      cases hs : q.l.any isN
      · rw [hs] at HCN HIV
        rw [if_neg (by decide)] at HIV
        clear hs
        go_region_held3 (fun w' => Below W6.heap.size W6 w') ((first | exact (Below.refl _ _).drew | exact bel_trans (by assumption) (by assumption))) (first
          | (go_at_call 55; refine (HCN.out _ (by first | exact (Below.refl _ _).drew | assumption)).mono ?_; rintro e x7 ⟨rfl, hb7⟩))
        have HX7 := hide (show Below W6.heap.size W6 x7 by assumption)
        have HS7 := hide (HS6.out.call HX7.out)
        have HB7 := hide (HBX.out.below HX7.out)
        clear hyk hyb HCN hb7
        have gl7 := (HSW.out.below HS7.out.bel).sw.lt
        obtain ⟨sl0, sl1⟩ := HS7.out.lt
        have hXl := HB7.out.lt
        have k0 := HS7.out.be.cell (j := 0) rfl
        have b0 := bit_0 (HSW.out.below HS7.out.bel).sw ho hb0
        go_wp2
        go_quiet (fail)
        generalize nq = n3
        have hZ2 := below_drewN (Below.refl x7.heap.size x7) n3
        have HS8 := hide (HS7.out.call hZ2)
        have HB8 := hide (HB7.out.below hZ2)
        generalize x7.drewN n3 = Z2 at *
        clear hZ2 k0 b0
        have v0 := HB8.out.cell (j := 0) rfl
        have v1 := HB8.out.cell (j := 1) rfl
        have v2 := HB8.out.cell (j := 2) rfl
        have e0 := HS8.out.br.cell (j := 0) rfl
        have e1 := HS8.out.br.cell (j := 1) rfl
        have e2 := HS8.out.br.cell (j := 2) rfl
        have f0 := HS8.out.br.fr 0
        have f1 := HS8.out.br.fr 1
        have f2 := HS8.out.br.fr 2
        go_wp2
        exact bodyPost_ret (v := .agg #[.int .i64 av.kind, .int .i64 av.num, .string av.text]) (by simp [results, Tryd.results27, go_sem, e0, e1, e2]) rfl ⟨by rw [HIV.out], HS8.out.fin _ _ _⟩
      · rw [hs] at HCN HIV
        rw [if_pos rfl] at HIV
        clear hs
        go_region_held3 (fun w' => Below W6.heap.size W6 w') ((first | exact (Below.refl _ _).drew | exact bel_trans (by assumption) (by assumption))) (first
          | (go_at_call 55; refine (HCN.out _ (by first | exact (Below.refl _ _).drew | assumption)).mono ?_; rintro e x7 ⟨rfl, hb7⟩))
        have HX7 := hide (show Below W6.heap.size W6 x7 by assumption)
        have HS7 := hide (HS6.out.call HX7.out)
        have HB7 := hide (HBX.out.below HX7.out)
        clear hyk hyb HCN hb7
        have w0 := HB7.out.fr 0
        have w1 := HB7.out.fr 1
        have w2 := HB7.out.fr 2
        have y0 := HB7.out.cell (j := 0) rfl
        have y1 := HB7.out.cell (j := 1) rfl
        have y2 := HB7.out.cell (j := 2) rfl
        go_wp2
        have hSY : SE w #[.int .i64 (o : Nat), .int .i64 typ, .int .i64 num, .string text, .int .i64 col, .slice kh.ao kids.length kh.cap] (((x7.setCell ⟨X, 0, none⟩ (.int .i64 0)).setCell ⟨X, 1, none⟩ (.int .i64 0)).setCell ⟨X, 2, none⟩ (.string ⟨#[]⟩)) :=
          ⟨belset3 HS7.out.bel (Nat.le_refl _) (by omega) _ _ _, HS7.out.be.grown (set3 _ _ _ _ _) (by simp; omega), HS7.out.br.grown (set3 _ _ _ _ _) (by simp; omega)⟩
        have hBY := boxs3 HB7.out (.int .i64 0) (.int .i64 0) (.string ⟨#[]⟩)
        clear w0 w1 w2 y0 y1 y2
        generalize (((x7.setCell ⟨X, 0, none⟩ (.int .i64 0)).setCell ⟨X, 1, none⟩ (.int .i64 0)).setCell ⟨X, 2, none⟩ (.string ⟨#[]⟩)) = Y at *
        have HSY := hide hSY
        have HBY := hide hBY
        clear hSY hBY HS7 HB7
        have gl7 := (HSW.out.below HSY.out.bel).sw.lt
        obtain ⟨sl0, sl1⟩ := HSY.out.lt
        have hXl := HBY.out.lt
        have k0 := HSY.out.be.cell (j := 0) rfl
        have b0 := bit_0 (HSW.out.below HSY.out.bel).sw ho hb0
        go_quiet (fail)
        generalize nq = n3
        have hZ2 := below_drewN (Below.refl Y.heap.size Y) n3
        have HS8 := hide (HSY.out.call hZ2)
        have HB8 := hide (HBY.out.below hZ2)
        generalize Y.drewN n3 = Z2 at *
        clear hZ2 k0 b0
        have v0 := HB8.out.cell (j := 0) rfl
        have v1 := HB8.out.cell (j := 1) rfl
        have v2 := HB8.out.cell (j := 2) rfl
        have e0 := HS8.out.br.cell (j := 0) rfl
        have e1 := HS8.out.br.cell (j := 1) rfl
        have e2 := HS8.out.br.cell (j := 2) rfl
        have f0 := HS8.out.br.fr 0
        have f1 := HS8.out.br.fr 1
        have f2 := HS8.out.br.fr 2
        go_wp2
        exact bodyPost_ret (v := .agg #[.int .i64 0, .int .i64 0, .string ⟨#[]⟩]) (by simp [results, Tryd.results27, go_sem, e0, e1, e2]) rfl ⟨by rw [← HIV.out]; rfl, HS8.out.fin _ _ _⟩
end Go.Proofs.YtlkhiihehaiinaaDoor

/- fault.Eval: an operation of columns where one fault of an operation is on. -/
namespace Go.Proofs.YtlkhiihehaiinaaDoor
open Go.RowKit

/-- The faults of operations: family, operation. -/
def ftab : List (Nat × Nat) := [(0, 6), (0, 7), (0, 8), (0, 9), (0, 10), (0, 11), (0, 12), (0, 13), (0, 14), (0, 15), (0, 16), (0, 17), (0, 18), (0, 19), (0, 20), (0, 21), (0, 22), (0, 23), (0, 24), (0, 25), (0, 26), (0, 27), (0, 28), (1, 20), (1, 21), (1, 22), (1, 23), (1, 25), (1, 26), (1, 27), (1, 28), (2, 6), (2, 7), (2, 8), (2, 9), (2, 10), (2, 11), (2, 12), (2, 13), (2, 14), (2, 15), (2, 16), (2, 17), (2, 18), (2, 19), (2, 22), (2, 23), (2, 24), (2, 28), (3, 7), (3, 9), (3, 10), (3, 12), (3, 16), (3, 17), (3, 18), (3, 19), (3, 27), (3, 28), (4, 6), (4, 7), (4, 8), (4, 9), (4, 10), (4, 14), (4, 15), (4, 16), (4, 17), (4, 18), (4, 19), (4, 20), (4, 22), (4, 23)]
def ftext (p : Nat × Nat) : List UInt8 := famW.getD p.1 [] ++ [32] ++ opsW.getD (p.2 - 6) []
theorem ftab_texts : textsL.take 73 = ftab.map ftext := by kernel_rfl
theorem ftab_all : (ftab.all fun p => decide (p.1 < 5 ∧ 6 ≤ p.2 ∧ p.2 ≤ 28) && (p.1 != 2 || [6, 7, 8, 9, 10, 11, 12, 13, 14, 15, 16, 17, 18, 19, 22, 23, 24, 28].contains p.2) && (p.1 != 3 || [7, 9, 10, 12, 16, 17, 18, 19, 27, 28].contains p.2) && (p.1 != 4 || [6, 7, 8, 9, 10, 14, 15, 16, 17, 18, 19, 20, 22, 23].contains p.2)) = true := by kernel_rfl
def rpN (o : Nat) : Nat := [0, 0, 0, 0, 0, 0, 7, 6, 6, 10, 9, 0, 0, 0, 20, 16, 17, 16, 19, 18, 14, 0, 23, 22, 0, 0, 0, 0, 0].getD o 0
noncomputable def fvV (f o : Nat) (l : List V) : V :=
  if f = 0 then invV (appV o l) else if f = 1 then (if l.any isN = true then nulV else appV o l) else if f = 2 then appV o (zeroL o l) else if f = 3 then appV o (swapL l) else appV (rpN o) l
theorem fv_0 (o : Nat) (l : List V) : fvV 0 o l = invV (appV o l) := if_pos rfl
theorem fv_1 (o : Nat) (l : List V) : fvV 1 o l = if l.any isN = true then nulV else appV o l := by unfold fvV; rw [if_neg (by decide), if_pos rfl]
theorem fv_2 (o : Nat) (l : List V) : fvV 2 o l = appV o (zeroL o l) := by unfold fvV; rw [if_neg (by decide), if_neg (by decide), if_pos rfl]
theorem fv_3 (o : Nat) (l : List V) : fvV 3 o l = appV o (swapL l) := by unfold fvV; rw [if_neg (by decide), if_neg (by decide), if_neg (by decide), if_pos rfl]
theorem fv_4 (o : Nat) (l : List V) : fvV 4 o l = appV (rpN o) l := by unfold fvV; rw [if_neg (by decide), if_neg (by decide), if_neg (by decide), if_neg (by decide)]
theorem ftab_lt {k f o : Nat} (h : ftab[k]? = some (f, o)) : k < 73 := (List.getElem?_eq_some_iff.1 h).1
theorem ftab_text {k f o : Nat} (h : ftab[k]? = some (f, o)) : textsL[k]? = some (ftext (f, o)) := by
  have hk := ftab_lt h
  have h1 : (textsL.take 73)[k]? = some (ftext (f, o)) := by rw [ftab_texts, List.getElem?_map, h]; rfl
  rw [List.getElem?_take, if_pos hk] at h1
  exact h1
theorem ftab_ok {k f o : Nat} (h : ftab[k]? = some (f, o)) : f < 5 ∧ 6 ≤ o ∧ o ≤ 28 ∧ (f = 2 → o = 6 ∨ o = 7 ∨ o = 8 ∨ o = 9 ∨ o = 10 ∨ o = 11 ∨ o = 12 ∨ o = 13 ∨ o = 14 ∨ o = 15 ∨ o = 16 ∨ o = 17 ∨ o = 18 ∨ o = 19 ∨ o = 22 ∨ o = 23 ∨ o = 24 ∨ o = 28) ∧ (f = 3 → o = 7 ∨ o = 9 ∨ o = 10 ∨ o = 12 ∨ o = 16 ∨ o = 17 ∨ o = 18 ∨ o = 19 ∨ o = 27 ∨ o = 28) ∧ (f = 4 → o = 6 ∨ o = 7 ∨ o = 8 ∨ o = 9 ∨ o = 10 ∨ o = 14 ∨ o = 15 ∨ o = 16 ∨ o = 17 ∨ o = 18 ∨ o = 19 ∨ o = 20 ∨ o = 22 ∨ o = 23) := by
  have h1 := List.all_eq_true.1 ftab_all (f, o) (List.mem_of_getElem? h)
  simp only [Bool.and_eq_true, decide_eq_true_eq, Bool.or_eq_true, bne_iff_ne, List.contains_iff_mem, List.mem_cons, List.not_mem_nil, or_false] at h1
  obtain ⟨⟨⟨⟨h2, h3, h4⟩, h5⟩, h6⟩, h7⟩ := h1
  exact ⟨h2, h3, h4, fun e => h5.resolve_left (fun n => n e), fun e => h6.resolve_left (fun n => n e), fun e => h7.resolve_left (fun n => n e)⟩
theorem fam_eq {f g : Nat} (hf : f < 5) (hg : g < 5) : decide (famW.getD f [] = famW.getD g []) = (f == g) := by
  have h1 : f = 0 ∨ f = 1 ∨ f = 2 ∨ f = 3 ∨ f = 4 := by omega
  have h2 : g = 0 ∨ g = 1 ∨ g = 2 ∨ g = 3 ∨ g = 4 := by omega
  rcases h1 with rfl | rfl | rfl | rfl | rfl <;> rcases h2 with rfl | rfl | rfl | rfl | rfl <;> rfl
theorem bits_one {k f o : Nat} (h : ftab[k]? = some (f, o)) (g : Nat) (hg : g < 5) : wrongF (hitS [(k : Int) + 1]) (29 * g + o) = (g == f) := by
  obtain ⟨hf, h6, h28, _⟩ := ftab_ok h
  rw [wrong_one k (by have := ftab_lt h; omega) _ (ftab_text h)]
  have e1 : (29 * g + o) % 29 = o := by omega
  have e2 : (29 * g + o) / 29 = g := by omega
  rw [e1, e2, decide_eq_true h6, Bool.true_and, ← fam_eq hg hf]
  unfold ftext
  congr 1
  apply propext
  constructor
  · intro h
    rw [List.append_assoc, List.append_assoc] at h
    exact List.append_cancel_right h
  · intro h; rw [h]
theorem zero_all (o : Nat) (h : o = 6 ∨ o = 7 ∨ o = 8 ∨ o = 9 ∨ o = 10 ∨ o = 11 ∨ o = 12 ∨ o = 13 ∨ o = 14 ∨ o = 15 ∨ o = 16 ∨ o = 17 ∨ o = 18 ∨ o = 19 ∨ o = 22 ∨ o = 23 ∨ o = 24 ∨ o = 28) (q : VL) (W : World) (hq : q.In W) : Calls Tryd.prog 53 #[.int .i64 (o : Nat), .slice q.h.ao q.l.length q.h.cap] W fun e w' => e = .returned (.agg #[.int .i64 (zeroK o q.l), .int .i64 0, .string ⟨#[]⟩]) ∧ Below W.heap.size W w' := by
  rcases h with rfl | rfl | rfl | rfl | rfl | rfl | rfl | rfl | rfl | rfl | rfl | rfl | rfl | rfl | rfl | rfl | rfl | rfl
  · exact zero_6 q W
  · exact zero_7 q W
  · exact zero_8 q W
  · exact zero_9 q W
  · exact zero_10 q W
  · exact zero_11 q W
  · exact zero_12 q W
  · exact zero_13 q W
  · exact zero_14 q W hq
  · exact zero_15 q W hq
  · exact zero_16 q W hq
  · exact zero_17 q W hq
  · exact zero_18 q W hq
  · exact zero_19 q W hq
  · exact zero_22 q W
  · exact zero_23 q W
  · exact zero_24 q W
  · exact zero_28 q W hq
theorem repl_6 (W : World) (h : FW W) : Calls Tryd.prog 51 #[.int .i64 ((6 : Nat) : Int)] W fun e w' => e = .returned (.int .i64 ((rpN 6 : Nat) : Int)) ∧ Below W.heap.size W w' := repl_any 0 0 1 [97, 100, 100] [115, 117, 98] (by kernel_rfl) (by kernel_rfl) (by kernel_rfl) (by kernel_rfl) W h
theorem repl_7 (W : World) (h : FW W) : Calls Tryd.prog 51 #[.int .i64 ((7 : Nat) : Int)] W fun e w' => e = .returned (.int .i64 ((rpN 7 : Nat) : Int)) ∧ Below W.heap.size W w' := repl_any 1 1 0 [115, 117, 98] [97, 100, 100] (by kernel_rfl) (by kernel_rfl) (by kernel_rfl) (by kernel_rfl) W h
theorem repl_8 (W : World) (h : FW W) : Calls Tryd.prog 51 #[.int .i64 ((8 : Nat) : Int)] W fun e w' => e = .returned (.int .i64 ((rpN 8 : Nat) : Int)) ∧ Below W.heap.size W w' := repl_any 2 2 0 [109, 117, 108] [97, 100, 100] (by kernel_rfl) (by kernel_rfl) (by kernel_rfl) (by kernel_rfl) W h
theorem repl_9 (W : World) (h : FW W) : Calls Tryd.prog 51 #[.int .i64 ((9 : Nat) : Int)] W fun e w' => e = .returned (.int .i64 ((rpN 9 : Nat) : Int)) ∧ Below W.heap.size W w' := repl_any 3 3 4 [100, 105, 118] [109, 111, 100] (by kernel_rfl) (by kernel_rfl) (by kernel_rfl) (by kernel_rfl) W h
theorem repl_10 (W : World) (h : FW W) : Calls Tryd.prog 51 #[.int .i64 ((10 : Nat) : Int)] W fun e w' => e = .returned (.int .i64 ((rpN 10 : Nat) : Int)) ∧ Below W.heap.size W w' := repl_any 4 4 3 [109, 111, 100] [100, 105, 118] (by kernel_rfl) (by kernel_rfl) (by kernel_rfl) (by kernel_rfl) W h
theorem repl_14 (W : World) (h : FW W) : Calls Tryd.prog 51 #[.int .i64 ((14 : Nat) : Int)] W fun e w' => e = .returned (.int .i64 ((rpN 14 : Nat) : Int)) ∧ Below W.heap.size W w' := repl_any 8 5 14 [101, 113] [115, 97, 109, 101] (by kernel_rfl) (by kernel_rfl) (by kernel_rfl) (by kernel_rfl) W h
theorem repl_15 (W : World) (h : FW W) : Calls Tryd.prog 51 #[.int .i64 ((15 : Nat) : Int)] W fun e w' => e = .returned (.int .i64 ((rpN 15 : Nat) : Int)) ∧ Below W.heap.size W w' := repl_any 9 6 10 [110, 101] [108, 116] (by kernel_rfl) (by kernel_rfl) (by kernel_rfl) (by kernel_rfl) W h
theorem repl_16 (W : World) (h : FW W) : Calls Tryd.prog 51 #[.int .i64 ((16 : Nat) : Int)] W fun e w' => e = .returned (.int .i64 ((rpN 16 : Nat) : Int)) ∧ Below W.heap.size W w' := repl_any 10 7 11 [108, 116] [108, 101] (by kernel_rfl) (by kernel_rfl) (by kernel_rfl) (by kernel_rfl) W h
theorem repl_17 (W : World) (h : FW W) : Calls Tryd.prog 51 #[.int .i64 ((17 : Nat) : Int)] W fun e w' => e = .returned (.int .i64 ((rpN 17 : Nat) : Int)) ∧ Below W.heap.size W w' := repl_any 11 8 10 [108, 101] [108, 116] (by kernel_rfl) (by kernel_rfl) (by kernel_rfl) (by kernel_rfl) W h
theorem repl_18 (W : World) (h : FW W) : Calls Tryd.prog 51 #[.int .i64 ((18 : Nat) : Int)] W fun e w' => e = .returned (.int .i64 ((rpN 18 : Nat) : Int)) ∧ Below W.heap.size W w' := repl_any 12 9 13 [103, 116] [103, 101] (by kernel_rfl) (by kernel_rfl) (by kernel_rfl) (by kernel_rfl) W h
theorem repl_19 (W : World) (h : FW W) : Calls Tryd.prog 51 #[.int .i64 ((19 : Nat) : Int)] W fun e w' => e = .returned (.int .i64 ((rpN 19 : Nat) : Int)) ∧ Below W.heap.size W w' := repl_any 13 10 12 [103, 101] [103, 116] (by kernel_rfl) (by kernel_rfl) (by kernel_rfl) (by kernel_rfl) W h
theorem repl_20 (W : World) (h : FW W) : Calls Tryd.prog 51 #[.int .i64 ((20 : Nat) : Int)] W fun e w' => e = .returned (.int .i64 ((rpN 20 : Nat) : Int)) ∧ Below W.heap.size W w' := repl_any 14 11 8 [115, 97, 109, 101] [101, 113] (by kernel_rfl) (by kernel_rfl) (by kernel_rfl) (by kernel_rfl) W h
theorem repl_22 (W : World) (h : FW W) : Calls Tryd.prog 51 #[.int .i64 ((22 : Nat) : Int)] W fun e w' => e = .returned (.int .i64 ((rpN 22 : Nat) : Int)) ∧ Below W.heap.size W w' := repl_any 16 12 17 [97, 110, 100] [111, 114] (by kernel_rfl) (by kernel_rfl) (by kernel_rfl) (by kernel_rfl) W h
theorem repl_23 (W : World) (h : FW W) : Calls Tryd.prog 51 #[.int .i64 ((23 : Nat) : Int)] W fun e w' => e = .returned (.int .i64 ((rpN 23 : Nat) : Int)) ∧ Below W.heap.size W w' := repl_any 17 13 16 [111, 114] [97, 110, 100] (by kernel_rfl) (by kernel_rfl) (by kernel_rfl) (by kernel_rfl) W h
theorem repl_all (o : Nat) (h : o = 6 ∨ o = 7 ∨ o = 8 ∨ o = 9 ∨ o = 10 ∨ o = 14 ∨ o = 15 ∨ o = 16 ∨ o = 17 ∨ o = 18 ∨ o = 19 ∨ o = 20 ∨ o = 22 ∨ o = 23) (W : World) (hw : FW W) : Calls Tryd.prog 51 #[.int .i64 (o : Nat)] W fun e w' => e = .returned (.int .i64 (rpN o : Nat)) ∧ Below W.heap.size W w' := by
  rcases h with rfl | rfl | rfl | rfl | rfl | rfl | rfl | rfl | rfl | rfl | rfl | rfl | rfl | rfl
  · exact repl_6 W hw
  · exact repl_7 W hw
  · exact repl_8 W hw
  · exact repl_9 W hw
  · exact repl_10 W hw
  · exact repl_14 W hw
  · exact repl_15 W hw
  · exact repl_16 W hw
  · exact repl_17 W hw
  · exact repl_18 W hw
  · exact repl_19 W hw
  · exact repl_20 W hw
  · exact repl_22 W hw
  · exact repl_23 W hw
theorem rpN_lt (o : Nat) : rpN o < 29 := by
  unfold rpN
  rw [List.getD_eq_getElem?_getD]
  cases h : ([0, 0, 0, 0, 0, 0, 7, 6, 6, 10, 9, 0, 0, 0, 20, 16, 17, 16, 19, 18, 14, 0, 23, 22, 0, 0, 0, 0, 0] : List Nat)[o]? with
  | none => decide
  | some x =>
    have h2 := List.mem_of_getElem? h
    simp at h2
    simp only [Option.getD_some]
    omega
theorem low_cols (o n : Nat) (kh : Hd) (hn : n ≤ 1000000) : Ex.Low ⟨o, 0, 0, ⟨#[]⟩, 0, kh, (List.range n).map colE⟩ :=
  ⟨_, by show ((List.range n).map colE).length ≤ _; simpa using hn, fun q hq => by obtain ⟨i, hi, rfl⟩ := List.mem_map.1 hq; exact ⟨_, Nat.zero_le _, fun q hq => by cases hq⟩⟩
theorem in_cols {w : World} {o n : Nat} {kh : Hd} (ho : o ≤ 1000) (hn : n ≤ 1000000) (hrow : Row w 6 Ex.cells kh ((List.range n).map colE)) : Ex.In w ⟨o, 0, 0, ⟨#[]⟩, 0, kh, (List.range n).map colE⟩ :=
  ⟨_, ⟨by show int64 (o : Int); constructor <;> omega, i64_lit rfl, i64_lit rfl, Nat.zero_le _, i64_lit rfl⟩, hrow, fun q hq => by obtain ⟨i, hi, rfl⟩ := List.mem_map.1 hq; exact col_in (by have := List.mem_range.1 hi; omega)⟩
/-- eval at an operation of columns, one fault on. -/
theorem fnode_one {k f o : Nat} (hk : ftab[k]? = some (f, o)) (g m : Nat) (kh : Hd) (r : VL) (w : World) (hs : SwW w g m (wrongF (hitS [(k : Int) + 1])) (hitS [(k : Int) + 1])) (hfw : FW w) (hfit : fitsB o r.l.length = true) (hsm : r.l.length ≤ 1000000) (hrow : Row w 6 Ex.cells kh ((List.range r.l.length).map colE)) (hr : r.In w) :
    Calls Tryd.prog 27 #[.pointer (some ⟨g, 0, none⟩), .agg #[.int .i64 (o : Nat), .int .i64 0, .int .i64 0, .string ⟨#[]⟩, .int .i64 0, .slice kh.ao r.l.length kh.cap], .slice r.h.ao r.l.length r.h.cap] w fun e' w' => e' = .returned (.agg #[.int .i64 (fvV f o r.l).kind, .int .i64 (fvV f o r.l).num, .string (fvV f o r.l).text]) ∧ Below w.heap.size w w' := by
  obtain ⟨hf, h6, h28, hz, hsw, hre⟩ := ftab_ok hk
  have hb4 := bits_one hk 4 (by omega)
  have hb3 := bits_one hk 3 (by omega)
  have hb2 := bits_one hk 2 (by omega)
  have hb1 := bits_one hk 1 (by omega)
  have hb0 := bits_one hk 0 (by omega)
  have hlen : ((List.range r.l.length).map colE).length = r.l.length := by simp
  have hcv := cols_va r.l
  have hI := in_cols (o := o) (by omega) hsm hrow
  have hL := low_cols o r.l.length kh hsm
  have hkf : ∀ k ∈ (List.range r.l.length).map colE, fitsB k.op k.kids.length = false := fun k hk => by obtain ⟨i, _, rfl⟩ := List.mem_map.1 hk; rfl
  have h0 : 0 < r.l.length := by
    rcases Nat.eq_zero_or_pos r.l.length with h | h
    · rw [h] at hfit; unfold fitsB at hfit; simp at hfit <;> omega
    · exact h
  obtain ⟨kids, hkd⟩ : ∃ kids, (List.range r.l.length).map colE = kids := ⟨_, rfl⟩
  rw [hkd] at hlen hcv hI hL hkf hrow
  rw [← hlen] at hfit h0
  clear hkd
  have hc : f = 0 ∨ f = 1 ∨ f = 2 ∨ f = 3 ∨ f = 4 := by omega
  rcases hc with rfl | rfl | rfl | rfl | rfl
  · have h := fnode g m _ _ o 0 0 ⟨#[]⟩ 0 kh kids r w hs hI hL hr (by omega) hfit hkf hb4 hb3 hb2 hb1 hb0
    rw [hcv, hlen] at h; rw [fv_0]; exact h
  · have h := fnode_D g m _ _ o 0 0 ⟨#[]⟩ 0 kh kids r w hs hI hL hr (by omega) hfit hkf hb4 hb3 hb2 hb1 hb0
    rw [hcv, hlen] at h; rw [fv_1]; exact h
  · have h := fnode_C g m _ _ o 0 0 ⟨#[]⟩ 0 kh kids r w hs hI hL hr (by omega) hfit hkf hb4 hb3 h0 (hide (fun q W hq => zero_all o (hz rfl) q W hq)) hb2 hb1 hb0
    rw [hcv, hlen] at h; rw [fv_2]; exact h
  · have h2 : 2 ≤ kids.length := by
      have hq := hsw rfl
      clear hs hI hL hkf hb4 hb3 hb2 hb1 hb0 hz hsw hre hk hrow h6 h28
      rcases hq with rfl | rfl | rfl | rfl | rfl | rfl | rfl | rfl | rfl | rfl <;> simp [fitsB] at hfit <;> omega
    have h := fnode_B g m _ _ o 0 0 ⟨#[]⟩ 0 kh kids r w hs hI hL hr (by omega) hfit hkf hb4 h2 hb3 hb2 hb1 hb0
    rw [hcv, hlen] at h; rw [fv_3]; exact h
  · have h := fnode_A g m _ _ o 0 0 ⟨#[]⟩ 0 kh kids r w hs hI hL hr (by omega) hfit hkf (rpN o) (rpN_lt o) (hide (fun W hW => repl_all o (hre rfl) W hW)) (hide hfw) hb4 hb3 hb2 hb1 hb0
    rw [hcv, hlen] at h; rw [fv_4]; exact h
theorem feval_fault {k f o : Nat} (hk : ftab[k]? = some (f, o)) (b1 : Nat) (kh : Hd) (r : VL) (w : World) (h : AW w) (hll : IL.In w ⟨⟨some ⟨b1, 0, none⟩, 1⟩, [(k : Int) + 1]⟩) (hfit : fitsB o r.l.length = true) (hsm : r.l.length ≤ 1000000) (hrow : Row w 6 Ex.cells kh ((List.range r.l.length).map colE)) (hr : r.In w) :
    Calls Tryd.prog 10 #[.slice (some ⟨b1, 0, none⟩) 1 1, .agg #[.int .i64 (o : Nat), .int .i64 0, .int .i64 0, .string ⟨#[]⟩, .int .i64 0, .slice kh.ao r.l.length kh.cap], .slice r.h.ao r.l.length r.h.cap] w fun e' w' => e' = .returned (.agg #[.int .i64 (fvV f o r.l).kind, .int .i64 (fvV f o r.l).num, .string (fvV f o r.l).text]) ∧ Below w.heap.size w w' := by
  have hlen : ((List.range r.l.length).map colE).length = r.l.length := by simp
  have hh := feval_gen ⟨⟨some ⟨b1, 0, none⟩, 1⟩, [(k : Int) + 1]⟩ o 0 0 ⟨#[]⟩ 0 kh ((List.range r.l.length).map colE) r w h.fw hll (by show 0 < 1; decide) (by show 1 ≤ 1000; decide) (fvV f o r.l) (hide (fun g m W hb hsw htx => by
    have h2 := fnode_one hk g m kh r W ⟨hsw, any_one k (by have := ftab_lt hk; omega) ▸ htx, h.nn.mono hb, h.op.mono hb⟩ (h.fw.below hb) hfit hsm (hrow.mono hb) (hr.mono hb)
    rw [hlen]; exact h2))
  rw [hlen] at hh
  exact hh
end Go.Proofs.YtlkhiihehaiinaaDoor

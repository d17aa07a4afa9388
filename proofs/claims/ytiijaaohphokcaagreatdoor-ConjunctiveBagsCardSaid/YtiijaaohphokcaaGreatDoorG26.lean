/- querylabfield.Conjunctive: its head's regions that draw their order. -/
import Derived.Test.YtiijaaohphokcaaGreatDoorG25
namespace Go.Proofs.YtiijaaohphokcaaGreatDoor
open Go.RowKit
structure HP (w : World) (s : Sch) (b : Nat) (L : IL) (a : Nat) (ts : List Int) (lv : Value) (lits : List Li) (ql : Value) (B1 : Nat) (cur : List (Tm V)) (cl : Value) (nv : Nat) (z : World) : Prop where
  cb : CB w s b L a ts lv lits ql B1 cur cl z
  bq : Box z (w.heap.size + 1 + 1) #[.int .i64 (nv : Nat), ql, cl] 32
  sz : B1 ≤ z.heap.size
section
variable {w z y : World} {s : Sch} {b a a' B1 nv : Nat} {L : IL} {ts ts' : List Int} {lv lv' ql cl : Value} {lits : List Li} {cur : List (Tm V)}
theorem HP.below (h : HP w s b L a ts lv lits ql B1 cur cl nv z) (hb : Below z.heap.size z y) : HP w s b L a ts lv lits ql B1 cur cl nv y := ⟨h.cb.below hb, h.bq.below hb, Nat.le_trans h.sz hb.size⟩
theorem HP.tape (h : HP w s b L a ts lv lits ql B1 cur cl nv z) (hg : z.grownBy y (some b)) (ht : TapeIn y b L a') : HP w s b L a' ts lv lits ql B1 cur cl nv y := ⟨h.cb.tape hg ht, h.bq.grown hg (by have := h.cb.bw; intro e; injection e with e; omega), Nat.le_trans h.sz hg.size⟩
theorem HP.app {t : Tm V} {v2 : Value} (h : HP w s b L a ts lv lits ql B1 cur cl nv z) (hg : z.grownBy y cl.ownBlock) (ho : y.ownsRow B1 83 4 v2 (cur.length + 1) (cur.flatMap Tm.cells ++ Tm.cells t)) : HP w s b L a ts lv lits ql B1 (cur ++ [t]) v2 nv (y.setCell ⟨w.heap.size + 1 + 1, 2, none⟩ v2) ∧ Box y (w.heap.size + 1 + 1) #[.int .i64 (nv : Nat), ql, cl] 32 := by
  have hbq := h.bq.grown hg (fun e => h.cb.cl_ne (TyAt.box h.bq) (by decide) e.symm)
  have hcb := h.cb.app (t := t) hg ho
  refine ⟨⟨hcb.storeT (by omega) (by omega) (TyAt.box hbq) (hcb.ql_ne (TyAt.box hbq) (by decide)) (by decide) (by decide) 2 v2, ?_, Nat.le_trans h.sz (Nat.le_trans hg.size (gb_set _ _ _ _).size)⟩, hbq⟩
  have := hbq.set 2 v2
  simpa only [List.setIfInBounds_toArray, List.set_cons_zero, List.set_cons_succ] using this
end
structure HGr (w : World) (s : Sch) (b : Nat) (L : IL) (a : Nat) (ts : List Int) (lv : Value) (lits : List Li) (ql : Value) (B1 : Nat) (cur : List (Tm V)) (cl : Value) (nv : Nat) (bb : Bool) (x : World) : Prop where
  hp : HP w s b L (if bb = true then posAt L a else a) ts lv lits ql B1 cur cl nv x
theorem HGr.below {w x y : World} {s : Sch} {b a B1 nv : Nat} {L : IL} {ts : List Int} {lv ql cl : Value} {lits : List Li} {cur : List (Tm V)} {bb : Bool} (h : HGr w s b L a ts lv lits ql B1 cur cl nv bb x) (hb : Below x.heap.size x y) : HGr w s b L a ts lv lits ql B1 cur cl nv bb y := ⟨h.hp.below hb⟩
set_option maxRecDepth 100000 in
set_option maxHeartbeats 4000000 in
theorem cj_reg18 {w : World} {sc : Sch} {b a B1 nv : Nat} {L : IL} {ts : List Int} {lv ql cl : Value} {lits : List Li} {cur : List (Tm V)} {W : World} (HA : Hid (a ≤ 4611686018427387000)) (HCU : Hid (cur.length ≤ 1000)) (HB1 : Hid (∀ a2 x, HP w sc b L a2 ts lv lits ql B1 cur cl nv x → B1 ≤ x.heap.size)) (HG0 : Hid (HGr w sc b L a ts lv lits ql B1 cur cl nv false W.drew)) {m : Int} (HM : Hid (nAt L a 3 = m)) {Q : Exit → Act → World → Prop} {c : Code} {u1 u2 u3 u4 u5 u6 u9 u10 u11 u12 u13 u14 u15 u16 u17 u18 u19 u20 u21 u22 u23 u24 u25 u26 u27 u28 u29 u30 u31 u32 u33 u34 u35 u36 u37 u38 u39 u40 u41 u42 u43 u44 u45 u46 u47 u48 u49 u50 u51 u52 u53 u54 u55 u56 u57 u58 u59 u60 u61 u62 u63 u64 u65 u66 u67 u68 u69 u70 u71 u72 u73 u74 u75 u76 u77 u78 u79 u80 u81 u82 u83 u84 u85 u86 u87 u88 u89 u90 u91 : Value} (hc : c = codeIn [1, 1, 1, 1, 1, 0, 1, 4, 5, 1, 0, 4, 1, 2] cjBody) (hend : ∀ (b6 g4 cap4 : Nat) x, HP w sc b L (posAt L a) ts lv lits ql B1 (cur ++ [.c ⟨1, m, ⟨#[]⟩⟩]) (.slice (some ⟨g4, 0, none⟩) (cur.length + 1) cap4) nv x → Q .normal { tmps := ((.pointer (some ⟨b, 0, none⟩)) :: u1 :: u2 :: u3 :: u4 :: u5 :: u6 :: (.pointer (some ⟨w.heap.size + 1 + 1, 0, none⟩)) :: (.pointer (some ⟨w.heap.size + 1 + 1 + 1, 0, none⟩)) :: u9 :: u10 :: u11 :: u12 :: u13 :: u14 :: u15 :: u16 :: u17 :: u18 :: u19 :: u20 :: u21 :: u22 :: u23 :: u24 :: u25 :: u26 :: u27 :: u28 :: u29 :: u30 :: u31 :: u32 :: u33 :: u34 :: u35 :: u36 :: u37 :: u38 :: u39 :: u40 :: u41 :: u42 :: u43 :: u44 :: u45 :: u46 :: u47 :: u48 :: u49 :: u50 :: u51 :: u52 :: u53 :: u54 :: u55 :: u56 :: u57 :: u58 :: u59 :: u60 :: u61 :: u62 :: u63 :: u64 :: u65 :: u66 :: u67 :: u68 :: u69 :: u70 :: u71 :: .pointer (some ⟨w.heap.size + 1 + 1, 2, none⟩) :: cl :: .pointer (some ⟨b, 0, none⟩) :: .int .i64 m :: .agg #[.int .i64 1, .int .i64 m, .string ⟨#[]⟩] :: .agg #[.int .i64 (-1), .int .i64 1, .int .i64 m, .string ⟨#[]⟩] :: .slice (some ⟨b6, 0, none⟩) 1 1 :: .slice (some ⟨g4, 0, none⟩) (cur.length + 1) cap4 :: .pointer (some ⟨w.heap.size + 1 + 1, 2, none⟩) :: u81 :: u82 :: u83 :: u84 :: u85 :: u86 :: u87 :: u88 :: u89 :: u90 :: u91 :: []).toArray, defers := [] } x) : Code.wp Tryz.prog c Q { tmps := ((.pointer (some ⟨b, 0, none⟩)) :: u1 :: u2 :: u3 :: u4 :: u5 :: u6 :: (.pointer (some ⟨w.heap.size + 1 + 1, 0, none⟩)) :: (.pointer (some ⟨w.heap.size + 1 + 1 + 1, 0, none⟩)) :: u9 :: u10 :: u11 :: u12 :: u13 :: u14 :: u15 :: u16 :: u17 :: u18 :: u19 :: u20 :: u21 :: u22 :: u23 :: u24 :: u25 :: u26 :: u27 :: u28 :: u29 :: u30 :: u31 :: u32 :: u33 :: u34 :: u35 :: u36 :: u37 :: u38 :: u39 :: u40 :: u41 :: u42 :: u43 :: u44 :: u45 :: u46 :: u47 :: u48 :: u49 :: u50 :: u51 :: u52 :: u53 :: u54 :: u55 :: u56 :: u57 :: u58 :: u59 :: u60 :: u61 :: u62 :: u63 :: u64 :: u65 :: u66 :: u67 :: u68 :: u69 :: u70 :: u71 :: u72 :: u73 :: u74 :: u75 :: u76 :: u77 :: u78 :: u79 :: u80 :: u81 :: u82 :: u83 :: u84 :: u85 :: u86 :: u87 :: u88 :: u89 :: u90 :: u91 :: []).toArray, defers := [] } W := by
  subst hc
  conv => enter [2]; whnf
  refine wp_region_tailH (by kernel_rfl) (by kernel_rfl) 7 (by show 7 < _; decide) (by kernel_rfl) (by kernel_rfl) (fun s : Nat → Value => ({ tmps := ((.pointer (some ⟨b, 0, none⟩)) :: u1 :: u2 :: u3 :: u4 :: u5 :: u6 :: (.pointer (some ⟨w.heap.size + 1 + 1, 0, none⟩)) :: (.pointer (some ⟨w.heap.size + 1 + 1 + 1, 0, none⟩)) :: u9 :: u10 :: u11 :: u12 :: u13 :: u14 :: u15 :: u16 :: u17 :: u18 :: u19 :: u20 :: u21 :: u22 :: u23 :: u24 :: u25 :: u26 :: u27 :: u28 :: u29 :: u30 :: u31 :: u32 :: u33 :: u34 :: u35 :: u36 :: u37 :: u38 :: u39 :: u40 :: u41 :: u42 :: u43 :: u44 :: u45 :: u46 :: u47 :: u48 :: u49 :: u50 :: u51 :: u52 :: u53 :: u54 :: u55 :: u56 :: u57 :: u58 :: u59 :: u60 :: u61 :: u62 :: u63 :: u64 :: u65 :: u66 :: u67 :: u68 :: u69 :: u70 :: u71 :: s 72 :: s 73 :: s 74 :: s 75 :: s 76 :: s 77 :: s 78 :: u79 :: u80 :: u81 :: u82 :: u83 :: u84 :: u85 :: u86 :: u87 :: u88 :: u89 :: u90 :: u91 :: []).toArray, defers := [] } : Act)) (fun k => if k = 72 then u72 else if k = 73 then u73 else if k = 74 then u74 else if k = 75 then u75 else if k = 76 then u76 else if k = 77 then u77 else if k = 78 then u78 else undef) rfl 3 (by decide) (fun i => ([false, false, false, true, true, true, true] : List Bool).getD i false) (by kernel_rfl) (fun _ _ => True) (HGr w sc b L a ts lv lits ql B1 cur cl nv) ?g0 (fun i v x => (i = 6 → ∃ b6, v = .slice (some ⟨b6, 0, none⟩) 1 1 ∧ Box x b6 #[.int .i64 (-1), .int .i64 1, .int .i64 m, .string ⟨#[]⟩] 83) ∧ (i ≠ 6 → ([.pointer (some ⟨w.heap.size + 1 + 1, 2, none⟩), cl, .pointer (some ⟨b, 0, none⟩), .int .i64 m, .agg #[.int .i64 1, .int .i64 m, .string ⟨#[]⟩], .agg #[.int .i64 (-1), .int .i64 1, .int .i64 m, .string ⟨#[]⟩], undef] : List Value)[i]? = some v)) (fun i v x y h hb => ⟨fun hi => (by obtain ⟨b6, h0, q0⟩ := h.1 hi; exact ⟨b6, h0, q0.below hb⟩), h.2⟩) (fun i v x y hd _ _ h hb => ⟨fun hi => (by subst hi; exact absurd hd (by decide)), h.2⟩) (fun i => ([72, 73, 74, 75, 76, 77, 78] : List Nat).getD i 0) ?inj ?step ?last
  case g0 => exact HG0.out
  case inj =>
    intro i j hi hj h
    have hI : i = 0 ∨ i = 1 ∨ i = 2 ∨ i = 3 ∨ i = 4 ∨ i = 5 ∨ i = 6 := by omega
    have hJ : j = 0 ∨ j = 1 ∨ j = 2 ∨ j = 3 ∨ j = 4 ∨ j = 5 ∨ j = 6 := by omega
    rcases hI with rfl | rfl | rfl | rfl | rfl | rfl | rfl <;> rcases hJ with rfl | rfl | rfl | rfl | rfl | rfl | rfl <;> first | rfl | (exact absurd h (by decide))
  case last =>
    intro s x hv hgt
    have HG := hide hgt
    clear hgt
    have z0 : s 72 = .pointer (some ⟨w.heap.size + 1 + 1, 2, none⟩) := by have h := (hv 0 (by decide)).2 (by decide); injection h with h; exact h.symm
    have z1 : s 73 = cl := by have h := (hv 1 (by decide)).2 (by decide); injection h with h; exact h.symm
    have z2 : s 74 = .pointer (some ⟨b, 0, none⟩) := by have h := (hv 2 (by decide)).2 (by decide); injection h with h; exact h.symm
    have z3 : s 75 = .int .i64 m := by have h := (hv 3 (by decide)).2 (by decide); injection h with h; exact h.symm
    have z4 : s 76 = .agg #[.int .i64 1, .int .i64 m, .string ⟨#[]⟩] := by have h := (hv 4 (by decide)).2 (by decide); injection h with h; exact h.symm
    have z5 : s 77 = .agg #[.int .i64 (-1), .int .i64 1, .int .i64 m, .string ⟨#[]⟩] := by have h := (hv 5 (by decide)).2 (by decide); injection h with h; exact h.symm
    obtain ⟨b6, hz6, hg6_0⟩ := (hv 6 (by decide)).1 rfl
    have z6 : s 78 = .slice (some ⟨b6, 0, none⟩) 1 1 := hz6
    clear hz6
    clear hv
    obtain ⟨i0, hi, hz0, hz1, hz2⟩ := info_parts info_slot4
    have HH := hide HG.out.hp
    rw [if_pos rfl] at HH
    show Oper.wp _ _ _ _ _ _
    refine wp_append_own x _ _ 30 rfl B1 83 i0 (.agg #[.int .i64 0, .int .i64 0, .int .i64 0, .string ⟨#[]⟩]) 4 40 Tryz.underlying30 hi hz0 hz1 hz2 rfl (by decide) cl cur.length _ (by show s 73 = _; exact z1) HH.out.cb.oc ⟨b6, 0, none⟩ 1 1 [.int .i64 (-1), .int .i64 1, .int .i64 m, .string ⟨#[]⟩] (by show s 78 = _; exact z6) rfl (box_cells hg6_0) (tm_one (.c ⟨1, m, ⟨#[]⟩⟩)) (by have := HCU.out; unfold maxLen; omega) (by have := HCU.out; omega) (HB1.out _ x HH.out) ?_
    intro v2 y2 hown hgr _
    obtain ⟨g4, cap4, rfl⟩ := ownsRow_succ hown
    obtain ⟨hA, hbl⟩ := HH.out.app (t := .c ⟨1, m, ⟨#[]⟩⟩) hgr hown
    have HS := hide hA
    have k1 := hbl.cell (j := 2) rfl
    have f1 := hbl.fr 2
    clear hown hgr hi hz0 hz1 hz2 hg6_0 hA hbl
    show Oper.wp _ _ _ _ _ _
    refine opwp_K (fun K2 hK2 => ?_)
    go_simp
    refine hK2 _ _ ?_
    show Oper.wp _ _ _ _ _ _
    clear hK2
    refine opwp_K (fun K3 hK3 => ?_)
    go_simp
    refine hK3 _ _ ?_
    have h := hend b6 g4 cap4 _ HS.out
    show Q _ _ _
    first | exact h | (simp only [z0, z1, z2, z3, z4, z5, z6]; exact h)
  case step =>
    intro i o s x hin ho he bb hgb hbf hbt
    have HG := hide hgb
    clear hgb
    have hcase : i = 0 ∨ i = 1 ∨ i = 2 ∨ i = 3 ∨ i = 4 ∨ i = 5 ∨ i = 6 := by omega
    rcases hcase with rfl | rfl | rfl | rfl | rfl | rfl | rfl
    · injection ho with ho
      subst ho
      clear he hbf hbt
      refine opwp_K (fun K2 hK2 => ?_)
      go_simp
      exact hK2 _ _ ⟨(.pointer (some ⟨w.heap.size + 1 + 1, 2, none⟩)), (by first | rfl | (simp [List.getD]; done)), sI_ne (by decide) (Below.refl _ _), gIf_ne (G := HGr w sc b L a ts lv lits ql B1 cur cl nv) (by decide) HG.out, ⟨fun h => absurd h (by decide), fun _ => rfl⟩⟩
    · injection ho with ho
      subst ho
      have z0 : s 72 = .pointer (some ⟨w.heap.size + 1 + 1, 2, none⟩) := by have h := (he ⟨0, .data⟩ (by simp) rfl).2 (by decide); injection h with h; exact h.symm
      clear he hbf hbt
      have k1 := HG.out.hp.bq.cell (j := 2) rfl
      refine opwp_K (fun K2 hK2 => ?_)
      go_simp
      exact hK2 _ _ ⟨(cl), (by first | rfl | (simp [z0]; done)), sI_ne (by decide) (Below.refl _ _), gIf_ne (G := HGr w sc b L a ts lv lits ql B1 cur cl nv) (by decide) HG.out, ⟨fun h => absurd h (by decide), fun _ => rfl⟩⟩
    · injection ho with ho
      subst ho
      clear he hbf hbt
      refine opwp_K (fun K2 hK2 => ?_)
      go_simp
      exact hK2 _ _ ⟨(.pointer (some ⟨b, 0, none⟩)), (by first | rfl | (simp [List.getD]; done)), sI_ne (by decide) (Below.refl _ _), gIf_ne (G := HGr w sc b L a ts lv lits ql B1 cur cl nv) (by decide) HG.out, ⟨fun h => absurd h (by decide), fun _ => rfl⟩⟩
    · injection ho with ho
      subst ho
      have z2 : s 74 = .pointer (some ⟨b, 0, none⟩) := by have h := (he ⟨2, .data⟩ (by simp) rfl).2 (by decide); injection h with h; exact h.symm
      obtain rfl : bb = false := hbf rfl
      clear he hbf hbt
      have HQ := hide HG.out.hp
      rw [if_neg (by decide)] at HQ
      refine opwp_K (fun K2 hK2 => ?_)
      go_simp
      go_at_call 10
      refine (n_any x b a L 3 HQ.out.cb.ts.tp (by have := HA.out; omega) (by constructor <;> decide)).mono ?_
      rintro e y ⟨rfl, h1, h2⟩
      rw [HM.out]
      go_simp
      have hp := HQ.out.tape h2 h1
      exact hK2 _ _ ⟨(.int .i64 m), (by first | rfl | (simp [z2]; done)), sI_eq rfl (trivial), gIf_eq (G := HGr w sc b L a ts lv lits ql B1 cur cl nv) (⟨by rw [if_pos rfl]; exact hp⟩), ⟨fun h => absurd h (by decide), fun _ => rfl⟩⟩
    · injection ho with ho
      subst ho
      have z3 : s 75 = .int .i64 m := by have h := (he ⟨3, .data⟩ (by simp) rfl).2 (by decide); injection h with h; exact h.symm
      obtain rfl : bb = true := hbt ⟨⟨3, .data⟩, by simp, rfl, rfl⟩
      clear he hbf hbt
      refine opwp_K (fun K2 hK2 => ?_)
      go_simp
      go_at_call 41
      refine (fint_any m x).mono ?_
      rintro e y ⟨rfl, hb⟩
      go_simp
      exact hK2 _ _ ⟨(.agg #[.int .i64 1, .int .i64 m, .string ⟨#[]⟩]), (by first | rfl | (simp [z3]; done)), sI_ne (by decide) (hb), gIf_ne (G := HGr w sc b L a ts lv lits ql B1 cur cl nv) (by decide) (HG.out.below hb), ⟨fun h => absurd h (by decide), fun _ => rfl⟩⟩
    · injection ho with ho
      subst ho
      have z4 : s 76 = .agg #[.int .i64 1, .int .i64 m, .string ⟨#[]⟩] := by have h := (he ⟨4, .data⟩ (by simp) rfl).2 (by decide); injection h with h; exact h.symm
      clear he hbf hbt
      refine opwp_K (fun K2 hK2 => ?_)
      go_simp
      exact hK2 _ _ ⟨(.agg #[.int .i64 (-1), .int .i64 1, .int .i64 m, .string ⟨#[]⟩]), (by first | rfl | (simp [z4]; done)), sI_ne (by decide) (Below.refl _ _), gIf_ne (G := HGr w sc b L a ts lv lits ql B1 cur cl nv) (by decide) HG.out, ⟨fun h => absurd h (by decide), fun _ => rfl⟩⟩
    · injection ho with ho
      subst ho
      have z5 : s 77 = .agg #[.int .i64 (-1), .int .i64 1, .int .i64 m, .string ⟨#[]⟩] := by have h := (he ⟨5, .data⟩ (by simp) rfl).2 (by decide); injection h with h; exact h.symm
      clear he hbf hbt
      refine opwp_K (fun K2 hK2 => ?_)
      go_simp
      exact hK2 _ _ ⟨_, (by first | rfl | (simp [z5]; done)), sI_ne (by decide) (belA _), gIf_ne (G := HGr w sc b L a ts lv lits ql B1 cur cl nv) (by decide) (HG.out.below (belA _)), ⟨fun _ => ⟨_, rfl, Box.new _ _ _⟩, fun h => absurd rfl h⟩⟩
set_option maxRecDepth 100000 in
set_option maxHeartbeats 4000000 in
theorem cj_reg19 {w : World} {sc : Sch} {b a B1 nv : Nat} {L : IL} {ts : List Int} {lv ql cl : Value} {lits : List Li} {cur : List (Tm V)} {W : World} (HA : Hid (a ≤ 4611686018427387000)) (HCU : Hid (cur.length ≤ 1000)) (HB1 : Hid (∀ a2 x, HP w sc b L a2 ts lv lits ql B1 cur cl nv x → B1 ≤ x.heap.size)) (HG0 : Hid (HGr w sc b L a ts lv lits ql B1 cur cl nv false W.drew)) {k : Nat} {hd : Hd} (HM : Hid (nAt L a ts.length = (k : Int))) (HTS : Hid (ts.length ≤ 900)) (HLV : Hid (lv = .slice hd.ao ts.length hd.cap)) {Q : Exit → Act → World → Prop} {c : Code} {u1 u2 u3 u4 u5 u6 u9 u10 u11 u12 u13 u14 u15 u16 u17 u18 u19 u20 u21 u22 u23 u24 u25 u26 u27 u28 u29 u30 u31 u32 u33 u34 u35 u36 u37 u38 u39 u40 u41 u42 u43 u44 u45 u46 u47 u48 u49 u50 u51 u52 u53 u54 u55 u56 u57 u58 u59 u60 u61 u62 u63 u64 u65 u66 u67 u68 u69 u70 u71 u72 u73 u74 u75 u76 u77 u78 u79 u80 u81 u82 u83 u84 u85 u86 u87 u88 u89 u90 u91 : Value} (hc : c = codeIn [1, 1, 1, 1, 1, 0, 1, 4, 5, 1, 0, 4, 1, 3] cjBody) (hend : ∀ (b7 g4 cap4 : Nat) x, HP w sc b L (posAt L a) ts lv lits ql B1 (cur ++ [.v k]) (.slice (some ⟨g4, 0, none⟩) (cur.length + 1) cap4) nv x → Q .normal { tmps := ((.pointer (some ⟨b, 0, none⟩)) :: u1 :: u2 :: u3 :: u4 :: u5 :: u6 :: (.pointer (some ⟨w.heap.size + 1 + 1, 0, none⟩)) :: (.pointer (some ⟨w.heap.size + 1 + 1 + 1, 0, none⟩)) :: u9 :: u10 :: u11 :: u12 :: u13 :: u14 :: u15 :: u16 :: u17 :: u18 :: u19 :: u20 :: u21 :: u22 :: u23 :: u24 :: u25 :: u26 :: u27 :: u28 :: u29 :: u30 :: u31 :: u32 :: u33 :: u34 :: u35 :: u36 :: u37 :: u38 :: u39 :: u40 :: u41 :: u42 :: u43 :: u44 :: u45 :: u46 :: u47 :: u48 :: u49 :: u50 :: u51 :: u52 :: u53 :: u54 :: u55 :: u56 :: u57 :: u58 :: u59 :: u60 :: u61 :: u62 :: u63 :: u64 :: u65 :: u66 :: u67 :: u68 :: u69 :: u70 :: u71 :: u72 :: u73 :: u74 :: u75 :: u76 :: u77 :: u78 :: u79 :: u80 :: .pointer (some ⟨w.heap.size + 1 + 1, 2, none⟩) :: cl :: .pointer (some ⟨b, 0, none⟩) :: .slice hd.ao ts.length hd.cap :: .int .i64 (ts.length : Nat) :: .int .i64 (k : Nat) :: .agg #[.int .i64 (k : Nat), .int .i64 0, .int .i64 0, .string ⟨#[]⟩] :: .slice (some ⟨b7, 0, none⟩) 1 1 :: .slice (some ⟨g4, 0, none⟩) (cur.length + 1) cap4 :: .pointer (some ⟨w.heap.size + 1 + 1, 2, none⟩) :: u91 :: []).toArray, defers := [] } x) : Code.wp Tryz.prog c Q { tmps := ((.pointer (some ⟨b, 0, none⟩)) :: u1 :: u2 :: u3 :: u4 :: u5 :: u6 :: (.pointer (some ⟨w.heap.size + 1 + 1, 0, none⟩)) :: (.pointer (some ⟨w.heap.size + 1 + 1 + 1, 0, none⟩)) :: u9 :: u10 :: u11 :: u12 :: u13 :: u14 :: u15 :: u16 :: u17 :: u18 :: u19 :: u20 :: u21 :: u22 :: u23 :: u24 :: u25 :: u26 :: u27 :: u28 :: u29 :: u30 :: u31 :: u32 :: u33 :: u34 :: u35 :: u36 :: u37 :: u38 :: u39 :: u40 :: u41 :: u42 :: u43 :: u44 :: u45 :: u46 :: u47 :: u48 :: u49 :: u50 :: u51 :: u52 :: u53 :: u54 :: u55 :: u56 :: u57 :: u58 :: u59 :: u60 :: u61 :: u62 :: u63 :: u64 :: u65 :: u66 :: u67 :: u68 :: u69 :: u70 :: u71 :: u72 :: u73 :: u74 :: u75 :: u76 :: u77 :: u78 :: u79 :: u80 :: u81 :: u82 :: u83 :: u84 :: u85 :: u86 :: u87 :: u88 :: u89 :: u90 :: u91 :: []).toArray, defers := [] } W := by
  subst hc
  conv => enter [2]; whnf
  refine wp_region_tailH (by kernel_rfl) (by kernel_rfl) 8 (by show 8 < _; decide) (by kernel_rfl) (by kernel_rfl) (fun s : Nat → Value => ({ tmps := ((.pointer (some ⟨b, 0, none⟩)) :: u1 :: u2 :: u3 :: u4 :: u5 :: u6 :: (.pointer (some ⟨w.heap.size + 1 + 1, 0, none⟩)) :: (.pointer (some ⟨w.heap.size + 1 + 1 + 1, 0, none⟩)) :: u9 :: u10 :: u11 :: u12 :: u13 :: u14 :: u15 :: u16 :: u17 :: u18 :: u19 :: u20 :: u21 :: u22 :: u23 :: u24 :: u25 :: u26 :: u27 :: u28 :: u29 :: u30 :: u31 :: u32 :: u33 :: u34 :: u35 :: u36 :: u37 :: u38 :: u39 :: u40 :: u41 :: u42 :: u43 :: u44 :: u45 :: u46 :: u47 :: u48 :: u49 :: u50 :: u51 :: u52 :: u53 :: u54 :: u55 :: u56 :: u57 :: u58 :: u59 :: u60 :: u61 :: u62 :: u63 :: u64 :: u65 :: u66 :: u67 :: u68 :: u69 :: u70 :: u71 :: u72 :: u73 :: u74 :: u75 :: u76 :: u77 :: u78 :: u79 :: u80 :: s 81 :: s 82 :: s 83 :: s 84 :: s 85 :: s 86 :: s 87 :: s 88 :: u89 :: u90 :: u91 :: []).toArray, defers := [] } : Act)) (fun k => if k = 81 then u81 else if k = 82 then u82 else if k = 83 then u83 else if k = 84 then u84 else if k = 85 then u85 else if k = 86 then u86 else if k = 87 then u87 else if k = 88 then u88 else undef) rfl 5 (by decide) (fun i => ([false, false, false, false, false, true, true, true] : List Bool).getD i false) (by kernel_rfl) (fun _ _ => True) (HGr w sc b L a ts lv lits ql B1 cur cl nv) ?g0 (fun i v x => (i = 7 → ∃ b7, v = .slice (some ⟨b7, 0, none⟩) 1 1 ∧ Box x b7 #[.int .i64 (k : Nat), .int .i64 0, .int .i64 0, .string ⟨#[]⟩] 83) ∧ (i ≠ 7 → ([.pointer (some ⟨w.heap.size + 1 + 1, 2, none⟩), cl, .pointer (some ⟨b, 0, none⟩), .slice hd.ao ts.length hd.cap, .int .i64 (ts.length : Nat), .int .i64 (k : Nat), .agg #[.int .i64 (k : Nat), .int .i64 0, .int .i64 0, .string ⟨#[]⟩], undef] : List Value)[i]? = some v)) (fun i v x y h hb => ⟨fun hi => (by obtain ⟨b7, h0, q0⟩ := h.1 hi; exact ⟨b7, h0, q0.below hb⟩), h.2⟩) (fun i v x y hd _ _ h hb => ⟨fun hi => (by subst hi; exact absurd hd (by decide)), h.2⟩) (fun i => ([81, 82, 83, 84, 85, 86, 87, 88] : List Nat).getD i 0) ?inj ?step ?last
  case g0 => exact HG0.out
  case inj =>
    intro i j hi hj h
    have hI : i = 0 ∨ i = 1 ∨ i = 2 ∨ i = 3 ∨ i = 4 ∨ i = 5 ∨ i = 6 ∨ i = 7 := by omega
    have hJ : j = 0 ∨ j = 1 ∨ j = 2 ∨ j = 3 ∨ j = 4 ∨ j = 5 ∨ j = 6 ∨ j = 7 := by omega
    rcases hI with rfl | rfl | rfl | rfl | rfl | rfl | rfl | rfl <;> rcases hJ with rfl | rfl | rfl | rfl | rfl | rfl | rfl | rfl <;> first | rfl | (exact absurd h (by decide))
  case last =>
    intro s x hv hgt
    have HG := hide hgt
    clear hgt
    have z0 : s 81 = .pointer (some ⟨w.heap.size + 1 + 1, 2, none⟩) := by have h := (hv 0 (by decide)).2 (by decide); injection h with h; exact h.symm
    have z1 : s 82 = cl := by have h := (hv 1 (by decide)).2 (by decide); injection h with h; exact h.symm
    have z2 : s 83 = .pointer (some ⟨b, 0, none⟩) := by have h := (hv 2 (by decide)).2 (by decide); injection h with h; exact h.symm
    have z3 : s 84 = .slice hd.ao ts.length hd.cap := by have h := (hv 3 (by decide)).2 (by decide); injection h with h; exact h.symm
    have z4 : s 85 = .int .i64 (ts.length : Nat) := by have h := (hv 4 (by decide)).2 (by decide); injection h with h; exact h.symm
    have z5 : s 86 = .int .i64 (k : Nat) := by have h := (hv 5 (by decide)).2 (by decide); injection h with h; exact h.symm
    have z6 : s 87 = .agg #[.int .i64 (k : Nat), .int .i64 0, .int .i64 0, .string ⟨#[]⟩] := by have h := (hv 6 (by decide)).2 (by decide); injection h with h; exact h.symm
    obtain ⟨b7, hz7, hg7_0⟩ := (hv 7 (by decide)).1 rfl
    have z7 : s 88 = .slice (some ⟨b7, 0, none⟩) 1 1 := hz7
    clear hz7
    clear hv
    obtain ⟨i0, hi, hz0, hz1, hz2⟩ := info_parts info_slot4
    have HH := hide HG.out.hp
    rw [if_pos rfl] at HH
    show Oper.wp _ _ _ _ _ _
    refine wp_append_own x _ _ 30 rfl B1 83 i0 (.agg #[.int .i64 0, .int .i64 0, .int .i64 0, .string ⟨#[]⟩]) 4 40 Tryz.underlying30 hi hz0 hz1 hz2 rfl (by decide) cl cur.length _ (by show s 82 = _; exact z1) HH.out.cb.oc ⟨b7, 0, none⟩ 1 1 [.int .i64 (k : Nat), .int .i64 0, .int .i64 0, .string ⟨#[]⟩] (by show s 88 = _; exact z7) rfl (box_cells hg7_0) (tm_one (.v k)) (by have := HCU.out; unfold maxLen; omega) (by have := HCU.out; omega) (HB1.out _ x HH.out) ?_
    intro v2 y2 hown hgr _
    obtain ⟨g4, cap4, rfl⟩ := ownsRow_succ hown
    obtain ⟨hA, hbl⟩ := HH.out.app (t := .v k) hgr hown
    have HS := hide hA
    have k1 := hbl.cell (j := 2) rfl
    have f1 := hbl.fr 2
    clear hown hgr hi hz0 hz1 hz2 hg7_0 hA hbl
    show Oper.wp _ _ _ _ _ _
    refine opwp_K (fun K2 hK2 => ?_)
    go_simp
    refine hK2 _ _ ?_
    show Oper.wp _ _ _ _ _ _
    clear hK2
    refine opwp_K (fun K3 hK3 => ?_)
    go_simp
    refine hK3 _ _ ?_
    have h := hend b7 g4 cap4 _ HS.out
    show Q _ _ _
    first | exact h | (simp only [z0, z1, z2, z3, z4, z5, z6, z7]; exact h)
  case step =>
    intro i o s x hin ho he bb hgb hbf hbt
    have HG := hide hgb
    clear hgb
    have hcase : i = 0 ∨ i = 1 ∨ i = 2 ∨ i = 3 ∨ i = 4 ∨ i = 5 ∨ i = 6 ∨ i = 7 := by omega
    rcases hcase with rfl | rfl | rfl | rfl | rfl | rfl | rfl | rfl
    · injection ho with ho
      subst ho
      clear he hbf hbt
      refine opwp_K (fun K2 hK2 => ?_)
      go_simp
      exact hK2 _ _ ⟨(.pointer (some ⟨w.heap.size + 1 + 1, 2, none⟩)), (by first | rfl | (simp [List.getD]; done)), sI_ne (by decide) (Below.refl _ _), gIf_ne (G := HGr w sc b L a ts lv lits ql B1 cur cl nv) (by decide) HG.out, ⟨fun h => absurd h (by decide), fun _ => rfl⟩⟩
    · injection ho with ho
      subst ho
      have z0 : s 81 = .pointer (some ⟨w.heap.size + 1 + 1, 2, none⟩) := by have h := (he ⟨0, .data⟩ (by simp) rfl).2 (by decide); injection h with h; exact h.symm
      clear he hbf hbt
      have k1 := HG.out.hp.bq.cell (j := 2) rfl
      refine opwp_K (fun K2 hK2 => ?_)
      go_simp
      exact hK2 _ _ ⟨(cl), (by first | rfl | (simp [z0]; done)), sI_ne (by decide) (Below.refl _ _), gIf_ne (G := HGr w sc b L a ts lv lits ql B1 cur cl nv) (by decide) HG.out, ⟨fun h => absurd h (by decide), fun _ => rfl⟩⟩
    · injection ho with ho
      subst ho
      clear he hbf hbt
      refine opwp_K (fun K2 hK2 => ?_)
      go_simp
      exact hK2 _ _ ⟨(.pointer (some ⟨b, 0, none⟩)), (by first | rfl | (simp [List.getD]; done)), sI_ne (by decide) (Below.refl _ _), gIf_ne (G := HGr w sc b L a ts lv lits ql B1 cur cl nv) (by decide) HG.out, ⟨fun h => absurd h (by decide), fun _ => rfl⟩⟩
    · injection ho with ho
      subst ho
      clear he hbf hbt
      have k1 : x.cell? ⟨w.heap.size + 1 + 1 + 1, 0, none⟩ = some (.slice hd.ao ts.length hd.cap) := by rw [← HLV.out]; exact HG.out.hp.cb.ts.bx.cell rfl
      refine opwp_K (fun K2 hK2 => ?_)
      go_simp
      exact hK2 _ _ ⟨(.slice hd.ao ts.length hd.cap), (by first | rfl | (simp [List.getD]; done)), sI_ne (by decide) (Below.refl _ _), gIf_ne (G := HGr w sc b L a ts lv lits ql B1 cur cl nv) (by decide) HG.out, ⟨fun h => absurd h (by decide), fun _ => rfl⟩⟩
    · injection ho with ho
      subst ho
      have z3 : s 84 = .slice hd.ao ts.length hd.cap := by have h := (he ⟨3, .data⟩ (by simp) rfl).2 (by decide); injection h with h; exact h.symm
      clear he hbf hbt
      refine opwp_K (fun K2 hK2 => ?_)
      go_simp
      exact hK2 _ _ ⟨(.int .i64 (ts.length : Nat)), (by first | rfl | (simp [z3]; done)), sI_ne (by decide) (Below.refl _ _), gIf_ne (G := HGr w sc b L a ts lv lits ql B1 cur cl nv) (by decide) HG.out, ⟨fun h => absurd h (by decide), fun _ => rfl⟩⟩
    · injection ho with ho
      subst ho
      have z2 : s 83 = .pointer (some ⟨b, 0, none⟩) := by have h := (he ⟨2, .data⟩ (by simp) rfl).2 (by decide); injection h with h; exact h.symm
      have z4 : s 85 = .int .i64 (ts.length : Nat) := by have h := (he ⟨4, .data⟩ (by simp) rfl).2 (by decide); injection h with h; exact h.symm
      obtain rfl : bb = false := hbf rfl
      clear he hbf hbt
      have HQ := hide HG.out.hp
      rw [if_neg (by decide)] at HQ
      refine opwp_K (fun K2 hK2 => ?_)
      go_simp
      go_at_call 10
      refine (n_any x b a L ts.length HQ.out.cb.ts.tp (by have := HA.out; omega) (by have := HTS.out; constructor <;> omega)).mono ?_
      rintro e y ⟨rfl, h1, h2⟩
      rw [HM.out]
      go_simp
      have hp := HQ.out.tape h2 h1
      exact hK2 _ _ ⟨(.int .i64 (k : Nat)), (by first | rfl | (simp [z2, z4]; done)), sI_eq rfl (trivial), gIf_eq (G := HGr w sc b L a ts lv lits ql B1 cur cl nv) (⟨by rw [if_pos rfl]; exact hp⟩), ⟨fun h => absurd h (by decide), fun _ => rfl⟩⟩
    · injection ho with ho
      subst ho
      have z5 : s 86 = .int .i64 (k : Nat) := by have h := (he ⟨5, .data⟩ (by simp) rfl).2 (by decide); injection h with h; exact h.symm
      obtain rfl : bb = true := hbt ⟨⟨5, .data⟩, by simp, rfl, rfl⟩
      clear he hbf hbt
      refine opwp_K (fun K2 hK2 => ?_)
      go_simp
      exact hK2 _ _ ⟨(.agg #[.int .i64 (k : Nat), .int .i64 0, .int .i64 0, .string ⟨#[]⟩]), (by first | rfl | (simp [z5]; done)), sI_ne (by decide) (Below.refl _ _), gIf_ne (G := HGr w sc b L a ts lv lits ql B1 cur cl nv) (by decide) HG.out, ⟨fun h => absurd h (by decide), fun _ => rfl⟩⟩
    · injection ho with ho
      subst ho
      have z6 : s 87 = .agg #[.int .i64 (k : Nat), .int .i64 0, .int .i64 0, .string ⟨#[]⟩] := by have h := (he ⟨6, .data⟩ (by simp) rfl).2 (by decide); injection h with h; exact h.symm
      clear he hbf hbt
      refine opwp_K (fun K2 hK2 => ?_)
      go_simp
      exact hK2 _ _ ⟨_, (by first | rfl | (simp [z6]; done)), sI_ne (by decide) (belA _), gIf_ne (G := HGr w sc b L a ts lv lits ql B1 cur cl nv) (by decide) (HG.out.below (belA _)), ⟨fun _ => ⟨_, rfl, Box.new _ _ _⟩, fun h => absurd rfl h⟩⟩
end Go.Proofs.YtiijaaohphokcaaGreatDoor

/- What querylabfield.Conjunctive makes, plainly. -/
namespace Go.Proofs.YtiijaaohphokcaaGreatDoor
open Go.RowKit
abbrev tyo (ts : List Int) : Nat → Int := fun n => ts.getD n 0
theorem tyo_push {ts : List Int} {x : Int} {n : Nat} (h : n < ts.length) : tyo (ts ++ [x]) n = tyo ts n := by
  show (ts ++ [x]).getD n 0 = ts.getD n 0
  rw [List.getD_eq_getElem?_getD, List.getD_eq_getElem?_getD, List.getElem?_append_left h]
theorem slotOk_push {ts : List Int} {x c : Int} {t : Tm V} (h : SlotOk ts.length (tyo ts) t c) : SlotOk (ts ++ [x]).length (tyo (ts ++ [x])) t c := by
  cases t with
  | c k => exact h
  | v n => exact ⟨by rw [List.length_append]; exact Nat.lt_succ_of_lt h.1, (tyo_push h.1).trans h.2⟩
structure Dat (T : List (List Int)) (ts : List Int) (lits : List Li) (ty : List Int) (cur : List (Tm V)) : Prop where
  ok : ∀ l ∈ lits, LitOk T ts.length (tyo ts) l.lt
  occ : ∀ n, n < ts.length → (∃ l ∈ lits, Tm.v n ∈ l.sl.l) ∨ Tm.v n ∈ cur
  wf : ∀ l ∈ lits, ∀ t ∈ l.sl.l, t.wf
  tb : ∀ l ∈ lits, l.tab ≤ 1000
  ln : ts.length ≤ 3 * lits.length + cur.length
  cok : ∀ (i : Nat) (t : Tm V) (c : Int), cur[i]? = some t → ty[i]? = some c → SlotOk ts.length (tyo ts) t c
  cwf : ∀ t ∈ cur, t.wf
theorem Dat.start (T : List (List Int)) (ty : List Int) : Dat T [] [] ty [] := ⟨fun _ h => absurd h List.not_mem_nil, fun _ h => absurd h (Nat.not_lt_zero _), fun _ h => absurd h List.not_mem_nil, fun _ h => absurd h List.not_mem_nil, Nat.zero_le _, fun _ _ _ h => (by simp at h), fun _ h => absurd h List.not_mem_nil⟩
theorem Dat.ty {T : List (List Int)} {ts : List Int} {lits : List Li} {ty ty2 : List Int} (h : Dat T ts lits ty []) : Dat T ts lits ty2 [] := ⟨h.ok, h.occ, h.wf, h.tb, h.ln, fun _ _ _ h => (by simp at h), h.cwf⟩
theorem Dat.slot {T : List (List Int)} {ts ts2 : List Int} {lits : List Li} {ty : List Int} {cur : List (Tm V)} {t : Tm V} {typ : Int} (h : Dat T ts lits ty cur) (hi : ty[cur.length]? = some typ) (tr : ts2 = ts ∨ (ts2 = ts ++ [typ] ∧ t = .v ts.length)) (ok : SlotOk ts2.length (fun n => ts2.getD n 0) t typ) (wf : t.wf) : Dat T ts2 lits ty (cur ++ [t]) := by
  have hc : ∀ (i : Nat) (u : Tm V) (c : Int), (cur ++ [t])[i]? = some u → ty[i]? = some c → (∀ (i : Nat) (t : Tm V) (c : Int), cur[i]? = some t → ty[i]? = some c → SlotOk ts2.length (tyo ts2) t c) → SlotOk ts2.length (tyo ts2) u c := fun i u c hu hc hk => by
    rcases Nat.lt_trichotomy i cur.length with hl | hl | hl
    · rw [List.getElem?_append_left hl] at hu
      exact hk i u c hu hc
    · subst hl
      rw [List.getElem?_append_right (Nat.le_refl _), Nat.sub_self] at hu
      injection hu with hu
      rw [hi] at hc
      injection hc with hc
      rw [← hu, ← hc]
      exact ok
    · rw [List.getElem?_eq_none (by rw [List.length_append]; show cur.length + 1 ≤ i; omega)] at hu
      cases hu
  have hw : ∀ u ∈ cur ++ [t], u.wf := fun u hu => by
    rcases List.mem_append.1 hu with hu | hu
    · exact h.cwf u hu
    · rw [List.mem_singleton.1 hu]; exact wf
  rcases tr with rfl | ⟨rfl, rfl⟩
  · exact ⟨h.ok, fun n hn => (h.occ n hn).imp id (fun h2 => List.mem_append_left _ h2), h.wf, h.tb, by rw [List.length_append]; have := h.ln; omega, fun i u c h1 h2 => hc i u c h1 h2 h.cok, hw⟩
  · refine ⟨fun l hl => ?_, fun n hn => ?_, h.wf, h.tb, by rw [List.length_append, List.length_append]; have := h.ln; simp only [List.length_cons, List.length_nil]; omega, fun i u c h1 h2 => hc i u c h1 h2 (fun i u c h1 h2 => slotOk_push (h.cok i u c h1 h2)), hw⟩
    · obtain ⟨ty2, t1, t2, t3⟩ := h.ok l hl
      exact ⟨ty2, t1, t2, fun i u c h1 h2 => slotOk_push (t3 i u c h1 h2)⟩
    · rw [List.length_append] at hn
      have hn : n < ts.length + 1 := hn
      by_cases e : n = ts.length
      · subst e; exact .inr (List.mem_append_right _ (List.mem_singleton.2 rfl))
      · exact (h.occ n (by omega)).imp id (fun h2 => List.mem_append_left _ h2)
theorem Dat.lit {T : List (List Int)} {ts : List Int} {lits : List Li} {ty : List Int} {cur : List (Tm V)} {tab : Nat} {hd : Hd} (h : Dat T ts lits ty cur) (ht : T[tab]? = some ty) (hl : cur.length = ty.length) (h3 : cur.length ≤ 3) (hb : tab ≤ 1000) : Dat T ts (lits ++ [⟨tab, ⟨hd, cur⟩⟩]) ty [] := by
  have key : ∀ {p : Li → Prop}, (∀ l ∈ lits, p l) → p ⟨tab, ⟨hd, cur⟩⟩ → ∀ l ∈ lits ++ [⟨tab, ⟨hd, cur⟩⟩], p l := fun h1 h2 l hl => by
    rcases List.mem_append.1 hl with hl | hl
    · exact h1 l hl
    · rw [List.mem_singleton.1 hl]; exact h2
  refine ⟨key h.ok ⟨ty, ht, hl, h.cok⟩, fun n hn => .inl ?_, key h.wf h.cwf, key h.tb hb, by rw [List.length_append]; have := h.ln; simp only [List.length_cons, List.length_nil]; omega, fun _ _ _ h => (by simp at h), fun _ h => absurd h List.not_mem_nil⟩
  rcases h.occ n hn with ⟨l, h1, h2⟩ | h2
  · exact ⟨l, List.mem_append_left _ h1, h2⟩
  · exact ⟨_, List.mem_append_right _ (List.mem_singleton.2 rfl), h2⟩
def HdOk (n : Nat) (hs : List (Tm V)) : Prop := ∀ t ∈ hs, HeadOk n t ∧ t.wf
theorem HdOk.snoc {n : Nat} {hs : List (Tm V)} {t : Tm V} (h : HdOk n hs) (h1 : HeadOk n t) (h2 : t.wf) : HdOk n (hs ++ [t]) := fun u hu => by
  rcases List.mem_append.1 hu with hu | hu
  · exact h u hu
  · rw [List.mem_singleton.1 hu]; exact ⟨h1, h2⟩
theorem Dat.right {T : List (List Int)} {ts : List Int} {lits : List Li} {ty : List Int} {q : Cq} (h : Dat T ts lits ty []) (h0 : 0 < lits.length) (h4 : lits.length ≤ 4) (hv : q.vars = ts.length) (hq : q.lits = lits) (hh : HdOk ts.length q.head.l) (h1 : 0 < q.head.l.length) (h24 : q.head.l.length ≤ 24) : Right T q.vars q.cj (tyo ts) := by
  have hlen : q.cj.lits.length = lits.length := by rw [← hq]; exact List.length_map _
  refine ⟨by omega, by omega, ?_, h1, h24, fun l hl => ?_, fun n hn => ?_, fun t ht => ?_⟩
  · have := h.ln; rw [hv]; simp only [List.length_nil] at this; omega
  · obtain ⟨l0, hl0, rfl⟩ := List.mem_map.1 hl
    rw [hv]
    exact h.ok l0 (hq ▸ hl0)
  · rcases h.occ n (hv ▸ hn) with ⟨l, k1, k2⟩ | k
    · exact ⟨l.lt, List.mem_map_of_mem (hq ▸ k1), k2⟩
    · exact absurd k List.not_mem_nil
  · rw [hv]; exact (hh t ht).1
end Go.Proofs.YtiijaaohphokcaaGreatDoor

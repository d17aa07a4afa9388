/- querylablaw36.FaultShows: its regions that draw their order. -/
import Derived.Test.YtlkhiihehaiinaaDoorGP
import Derived.Test.YtlkhiihehaiinaaDoorGO
import Derived.Test.YtlkhiihehaiinaaDoorGH
namespace Go.Proofs.YtlkhiihehaiinaaDoor
open Go.RowKit

noncomputable def lawBody : Code := Tryd.f3.body.getD .skip

set_option maxRecDepth 100000 in
set_option maxHeartbeats 4000000 in
theorem fs7_reg {p a : Nat} {tp wd : ByteArray} {nq : Bool} (hp1 : IntKind.i64.wrap (1 + (p : Int)) = (p : Int) + 1) (hp2 : IntKind.i64.wrap ((p : Int) + 1 - 6) = (p : Int) - 5) (ht9 : (9 : Int) ≤ tp.size) (hai : (a : Int) ≤ wd.size) (HTP : Hid (∀ W : World, Calls Tryd.prog 5 #[.int .i64 ((p : Int) - 5)] W fun e w' => e = .returned (.string tp) ∧ Below W.heap.size W w')) {W : World} (hnq : (!((tp.extract 9 tp.size).toList == (wd.extract a wd.size).toList)) = nq) {Q : Exit → Act → World → Prop} {c : Code} {u0 u1 u2 u3 u7 u8 u9 u10 u11 u12 u13 u14 u15 u16 u17 u18 u19 u20 u21 u22 u23 u24 u25 u26 u27 u28 u29 u30 u31 u32 u33 u34 u35 u36 u37 u38 u39 u40 u41 u42 u43 u44 u45 u46 u47 u48 u49 u50 u51 u52 u53 u54 u55 u56 u57 u58 u59 u60 u61 u62 u63 u64 u65 u66 u67 u68 u69 u70 u71 u72 u73 u74 u75 u76 u77 u78 u79 u80 u81 u82 u83 u84 u85 u86 u87 u88 u89 u90 u91 u92 u93 u94 u95 u96 u97 u98 u99 u100 u101 u102 u103 u104 u105 u106 u107 u108 u109 u110 u111 u112 u113 u114 u115 : Value} (hc : c = codeIn [1, 1, 1, 1, 1, 1, 0, 4, 5, 0, 0] lawBody) (hend : ∀ x, Below W.heap.size W x → Q .normal { tmps := (u0 :: u1 :: u2 :: u3 :: (.string wd) :: (.int .i64 (a : Nat)) :: (.int .i64 (p : Nat)) :: u7 :: u8 :: u9 :: u10 :: u11 :: u12 :: u13 :: u14 :: u15 :: u16 :: u17 :: u18 :: u19 :: u20 :: u21 :: u22 :: u23 :: u24 :: u25 :: u26 :: u27 :: u28 :: u29 :: u30 :: u31 :: u32 :: .int .i64 (p : Nat) :: .int .i64 ((p : Int) + 1) :: .int .i64 ((p : Int) - 5) :: .string tp :: .string (tp.extract 9 tp.size) :: .string wd :: .int .i64 (a : Nat) :: .string (wd.extract a wd.size) :: .bool nq :: u42 :: u43 :: u44 :: u45 :: u46 :: u47 :: u48 :: u49 :: u50 :: u51 :: u52 :: u53 :: u54 :: u55 :: u56 :: u57 :: u58 :: u59 :: u60 :: u61 :: u62 :: u63 :: u64 :: u65 :: u66 :: u67 :: u68 :: u69 :: u70 :: u71 :: u72 :: u73 :: u74 :: u75 :: u76 :: u77 :: u78 :: u79 :: u80 :: u81 :: u82 :: u83 :: u84 :: u85 :: u86 :: u87 :: u88 :: u89 :: u90 :: u91 :: u92 :: u93 :: u94 :: u95 :: u96 :: u97 :: u98 :: u99 :: u100 :: u101 :: u102 :: u103 :: u104 :: u105 :: u106 :: u107 :: u108 :: u109 :: u110 :: u111 :: u112 :: u113 :: u114 :: u115 :: []).toArray, defers := [] } x) : Code.wp Tryd.prog c Q { tmps := (u0 :: u1 :: u2 :: u3 :: (.string wd) :: (.int .i64 (a : Nat)) :: (.int .i64 (p : Nat)) :: u7 :: u8 :: u9 :: u10 :: u11 :: u12 :: u13 :: u14 :: u15 :: u16 :: u17 :: u18 :: u19 :: u20 :: u21 :: u22 :: u23 :: u24 :: u25 :: u26 :: u27 :: u28 :: u29 :: u30 :: u31 :: u32 :: u33 :: u34 :: u35 :: u36 :: u37 :: u38 :: u39 :: u40 :: u41 :: u42 :: u43 :: u44 :: u45 :: u46 :: u47 :: u48 :: u49 :: u50 :: u51 :: u52 :: u53 :: u54 :: u55 :: u56 :: u57 :: u58 :: u59 :: u60 :: u61 :: u62 :: u63 :: u64 :: u65 :: u66 :: u67 :: u68 :: u69 :: u70 :: u71 :: u72 :: u73 :: u74 :: u75 :: u76 :: u77 :: u78 :: u79 :: u80 :: u81 :: u82 :: u83 :: u84 :: u85 :: u86 :: u87 :: u88 :: u89 :: u90 :: u91 :: u92 :: u93 :: u94 :: u95 :: u96 :: u97 :: u98 :: u99 :: u100 :: u101 :: u102 :: u103 :: u104 :: u105 :: u106 :: u107 :: u108 :: u109 :: u110 :: u111 :: u112 :: u113 :: u114 :: u115 :: []).toArray, defers := [] } W := by
  subst hc
  conv => enter [2]; whnf
  refine wp_region_tail (by kernel_rfl) (by kernel_rfl) 8 (by show 8 < _; decide) (by kernel_rfl) (by kernel_rfl) (fun s : Nat → Value => ({ tmps := (u0 :: u1 :: u2 :: u3 :: (.string wd) :: (.int .i64 (a : Nat)) :: (.int .i64 (p : Nat)) :: u7 :: u8 :: u9 :: u10 :: u11 :: u12 :: u13 :: u14 :: u15 :: u16 :: u17 :: u18 :: u19 :: u20 :: u21 :: u22 :: u23 :: u24 :: u25 :: u26 :: u27 :: u28 :: u29 :: u30 :: u31 :: u32 :: s 33 :: s 34 :: s 35 :: s 36 :: s 37 :: s 38 :: s 39 :: s 40 :: u41 :: u42 :: u43 :: u44 :: u45 :: u46 :: u47 :: u48 :: u49 :: u50 :: u51 :: u52 :: u53 :: u54 :: u55 :: u56 :: u57 :: u58 :: u59 :: u60 :: u61 :: u62 :: u63 :: u64 :: u65 :: u66 :: u67 :: u68 :: u69 :: u70 :: u71 :: u72 :: u73 :: u74 :: u75 :: u76 :: u77 :: u78 :: u79 :: u80 :: u81 :: u82 :: u83 :: u84 :: u85 :: u86 :: u87 :: u88 :: u89 :: u90 :: u91 :: u92 :: u93 :: u94 :: u95 :: u96 :: u97 :: u98 :: u99 :: u100 :: u101 :: u102 :: u103 :: u104 :: u105 :: u106 :: u107 :: u108 :: u109 :: u110 :: u111 :: u112 :: u113 :: u114 :: u115 :: []).toArray, defers := [] } : Act)) (fun k => if k = 33 then u33 else if k = 34 then u34 else if k = 35 then u35 else if k = 36 then u36 else if k = 37 then u37 else if k = 38 then u38 else if k = 39 then u39 else if k = 40 then u40 else undef) rfl (fun i v x => (([.int .i64 (p : Nat), .int .i64 ((p : Int) + 1), .int .i64 ((p : Int) - 5), .string tp, .string (tp.extract 9 tp.size), .string wd, .int .i64 (a : Nat), .string (wd.extract a wd.size)] : List Value)[i]? = some v)) (fun i v x y h hb => h) (fun i => ([33, 34, 35, 36, 37, 38, 39, 40] : List Nat).getD i 0) ?inj ?step ?last
  case inj =>
    intro i j hi hj h
    have hI : i = 0 ∨ i = 1 ∨ i = 2 ∨ i = 3 ∨ i = 4 ∨ i = 5 ∨ i = 6 ∨ i = 7 := by omega
    have hJ : j = 0 ∨ j = 1 ∨ j = 2 ∨ j = 3 ∨ j = 4 ∨ j = 5 ∨ j = 6 ∨ j = 7 := by omega
    rcases hI with rfl | rfl | rfl | rfl | rfl | rfl | rfl | rfl <;> rcases hJ with rfl | rfl | rfl | rfl | rfl | rfl | rfl | rfl <;> first | rfl | (exact absurd h (by decide))
  case last =>
    intro s x hv hb
    have HB := hide hb
    clear hb
    have z0 : s 33 = .int .i64 (p : Nat) := by have h := (hv 0 (by decide)); injection h with h; exact h.symm
    have z1 : s 34 = .int .i64 ((p : Int) + 1) := by have h := (hv 1 (by decide)); injection h with h; exact h.symm
    have z2 : s 35 = .int .i64 ((p : Int) - 5) := by have h := (hv 2 (by decide)); injection h with h; exact h.symm
    have z3 : s 36 = .string tp := by have h := (hv 3 (by decide)); injection h with h; exact h.symm
    have z4 : s 37 = .string (tp.extract 9 tp.size) := by have h := (hv 4 (by decide)); injection h with h; exact h.symm
    have z5 : s 38 = .string wd := by have h := (hv 5 (by decide)); injection h with h; exact h.symm
    have z6 : s 39 = .int .i64 (a : Nat) := by have h := (hv 6 (by decide)); injection h with h; exact h.symm
    have z7 : s 40 = .string (wd.extract a wd.size) := by have h := (hv 7 (by decide)); injection h with h; exact h.symm
    clear hv
    show Oper.wp _ _ _ _ _ _
    refine opwp_K (fun K2 hK2 => ?_)
    go_simp
    refine hK2 _ _ ?_
    have h := hend x HB.out
    show Q _ _ _
    exact h
  case step =>
    intro i o s x hin ho he hb
    have HB := hide hb
    clear hb
    have hcase : i = 0 ∨ i = 1 ∨ i = 2 ∨ i = 3 ∨ i = 4 ∨ i = 5 ∨ i = 6 ∨ i = 7 := by omega
    rcases hcase with rfl | rfl | rfl | rfl | rfl | rfl | rfl | rfl
    · injection ho with ho
      subst ho
      clear he
      refine opwp_K (fun K2 hK2 => ?_)
      go_simp
      exact hK2 _ _ ⟨(.int .i64 (p : Nat)), (by first | rfl | (simp [List.getD]; done)), Below.refl _ _, rfl⟩
    · injection ho with ho
      subst ho
      have z0 : s 33 = .int .i64 (p : Nat) := by have h := (he ⟨0, .data⟩ (by simp) rfl); injection h with h; exact h.symm
      clear he
      refine opwp_K (fun K2 hK2 => ?_)
      go_simp
      exact hK2 _ _ ⟨(.int .i64 ((p : Int) + 1)), (by first | rfl | (simp [z0]; done)), Below.refl _ _, rfl⟩
    · injection ho with ho
      subst ho
      have z1 : s 34 = .int .i64 ((p : Int) + 1) := by have h := (he ⟨1, .data⟩ (by simp) rfl); injection h with h; exact h.symm
      clear he
      refine opwp_K (fun K2 hK2 => ?_)
      go_simp
      exact hK2 _ _ ⟨(.int .i64 ((p : Int) - 5)), (by first | rfl | (simp [z1]; done)), Below.refl _ _, rfl⟩
    · injection ho with ho
      subst ho
      have z2 : s 35 = .int .i64 ((p : Int) - 5) := by have h := (he ⟨2, .data⟩ (by simp) rfl); injection h with h; exact h.symm
      clear he
      refine opwp_K (fun K2 hK2 => ?_)
      go_simp
      go_at_call 5
      refine (HTP.out x).mono ?_
      rintro _ z ⟨rfl, hz⟩
      go_simp
      exact hK2 _ _ ⟨(.string tp), (by first | rfl | (simp [z2]; done)), hz, rfl⟩
    · injection ho with ho
      subst ho
      have z3 : s 36 = .string tp := by have h := (he ⟨3, .data⟩ (by simp) rfl); injection h with h; exact h.symm
      clear he
      refine opwp_K (fun K2 hK2 => ?_)
      go_simp
      exact hK2 _ _ ⟨(.string (tp.extract 9 tp.size)), (by first | rfl | (simp [z3]; done)), Below.refl _ _, rfl⟩
    · injection ho with ho
      subst ho
      clear he
      refine opwp_K (fun K2 hK2 => ?_)
      go_simp
      exact hK2 _ _ ⟨(.string wd), (by first | rfl | (simp [List.getD]; done)), Below.refl _ _, rfl⟩
    · injection ho with ho
      subst ho
      clear he
      refine opwp_K (fun K2 hK2 => ?_)
      go_simp
      exact hK2 _ _ ⟨(.int .i64 (a : Nat)), (by first | rfl | (simp [List.getD]; done)), Below.refl _ _, rfl⟩
    · injection ho with ho
      subst ho
      have z5 : s 38 = .string wd := by have h := (he ⟨5, .data⟩ (by simp) rfl); injection h with h; exact h.symm
      have z6 : s 39 = .int .i64 (a : Nat) := by have h := (he ⟨6, .data⟩ (by simp) rfl); injection h with h; exact h.symm
      clear he
      refine opwp_K (fun K2 hK2 => ?_)
      go_simp
      exact hK2 _ _ ⟨(.string (wd.extract a wd.size)), (by first | rfl | (simp [z5, z6]; done)), Below.refl _ _, rfl⟩

/-- While the Kids are made: the expression's box, its Kids. -/
structure LE (y : World) (o k : Nat) (u : Value) (x : World) : Prop where
  bel : Below y.heap.size y x
  be : Box x y.heap.size #[.int .i64 (o : Nat), .int .i64 0, .int .i64 0, .string ⟨#[]⟩, .int .i64 0, u] 31
  own : x.ownsRow (y.heap.size + 1) 31 6 u k (((List.range k).map colE).flatMap Ex.cells)
theorem LE.call {y x z : World} {o k : Nat} {u : Value} (h : LE y o k u x) (hb : Below x.heap.size x z) : LE y o k u z := ⟨bel_trans h.bel (hb.mono (Nat.le_refl _)), h.be.below hb, h.own.kept (only_below hb none) (Classical.em _)⟩
theorem le_set {y x : World} {o k : Nat} {u v : Value} (hb : Below y.heap.size y x) (he : Box x y.heap.size #[.int .i64 (o : Nat), .int .i64 0, .int .i64 0, .string ⟨#[]⟩, .int .i64 0, u] 31) (ho : x.ownsRow (y.heap.size + 1) 31 6 v k (((List.range k).map colE).flatMap Ex.cells)) : LE y o k v (x.setCell ⟨y.heap.size, 5, none⟩ v) := by
  refine ⟨hb.grown (gb_set _ _ _ _) hb.size (fun j hj => by injection hj with hj; omega), ?_, ho.kept (gb_set _ _ _ _) (.inr (fun e => ?_))⟩
  · have := he.set 5 v
    simpa only [List.setIfInBounds_toArray, List.set_cons_zero, List.set_cons_succ] using this
  · have := (ho.lt _ e).1; omega

set_option maxRecDepth 100000 in
set_option maxHeartbeats 4000000 in
theorem fs27_reg {y : World} {o k : Nat} {u : Value} {W : World} (hk : k ≤ 10) (HL : Hid (LE y o k u W)) {Q : Exit → Act → World → Prop} {c : Code} {u0 u1 u2 u3 u4 u5 u6 u7 u8 u10 u12 u13 u14 u15 u16 u17 u18 u19 u20 u21 u22 u23 u24 u25 u26 u27 u28 u29 u30 u31 u32 u33 u34 u35 u36 u37 u38 u39 u40 u41 u42 u43 u44 u45 u46 u47 u48 u49 u50 u51 u52 u53 u54 u55 u56 u57 u58 u59 u60 u61 u62 u63 u64 u65 u66 u67 u68 u69 u70 u71 u72 u73 u74 u75 u76 u77 u78 u79 u80 u81 u82 u83 u84 u85 u86 u87 u88 u89 u90 u91 u92 u93 u94 u95 u96 u97 u98 u99 u100 u101 u102 u103 u104 u105 u106 u107 u108 u109 u110 u111 u112 u113 u114 u115 : Value} (hc : c = codeIn [1, 1, 1, 1, 1, 1, 1, 1, 1, 1, 1, 1, 1, 0, 1, 4, 5, 1, 0, 4, 0] lawBody) (hend : ∀ b4 g4 cap4 x, LE y o (k + 1) (.slice (some ⟨g4, 0, none⟩) (k + 1) cap4) x → Q .normal { tmps := (u0 :: u1 :: u2 :: u3 :: u4 :: u5 :: u6 :: u7 :: u8 :: (.pointer (some ⟨y.heap.size, 0, none⟩)) :: u10 :: (.int .i64 (k : Nat)) :: u12 :: u13 :: u14 :: u15 :: u16 :: u17 :: u18 :: u19 :: u20 :: u21 :: u22 :: u23 :: u24 :: u25 :: u26 :: u27 :: u28 :: u29 :: u30 :: u31 :: u32 :: u33 :: u34 :: u35 :: u36 :: u37 :: u38 :: u39 :: u40 :: u41 :: u42 :: u43 :: u44 :: u45 :: u46 :: u47 :: u48 :: u49 :: u50 :: u51 :: u52 :: u53 :: u54 :: u55 :: u56 :: u57 :: u58 :: u59 :: u60 :: u61 :: u62 :: u63 :: u64 :: u65 :: u66 :: u67 :: u68 :: u69 :: .pointer (some ⟨y.heap.size, 5, none⟩) :: u :: .int .i64 (k : Nat) :: .agg #[.int .i64 5, .int .i64 0, .int .i64 0, .string ⟨#[]⟩, .int .i64 (k : Nat), .slice none 0 0] :: .slice (some ⟨b4, 0, none⟩) 1 1 :: .slice (some ⟨g4, 0, none⟩) (k + 1) cap4 :: .pointer (some ⟨y.heap.size, 5, none⟩) :: u77 :: u78 :: u79 :: u80 :: u81 :: u82 :: u83 :: u84 :: u85 :: u86 :: u87 :: u88 :: u89 :: u90 :: u91 :: u92 :: u93 :: u94 :: u95 :: u96 :: u97 :: u98 :: u99 :: u100 :: u101 :: u102 :: u103 :: u104 :: u105 :: u106 :: u107 :: u108 :: u109 :: u110 :: u111 :: u112 :: u113 :: u114 :: u115 :: []).toArray, defers := [] } x) : Code.wp Tryd.prog c Q { tmps := (u0 :: u1 :: u2 :: u3 :: u4 :: u5 :: u6 :: u7 :: u8 :: (.pointer (some ⟨y.heap.size, 0, none⟩)) :: u10 :: (.int .i64 (k : Nat)) :: u12 :: u13 :: u14 :: u15 :: u16 :: u17 :: u18 :: u19 :: u20 :: u21 :: u22 :: u23 :: u24 :: u25 :: u26 :: u27 :: u28 :: u29 :: u30 :: u31 :: u32 :: u33 :: u34 :: u35 :: u36 :: u37 :: u38 :: u39 :: u40 :: u41 :: u42 :: u43 :: u44 :: u45 :: u46 :: u47 :: u48 :: u49 :: u50 :: u51 :: u52 :: u53 :: u54 :: u55 :: u56 :: u57 :: u58 :: u59 :: u60 :: u61 :: u62 :: u63 :: u64 :: u65 :: u66 :: u67 :: u68 :: u69 :: u70 :: u71 :: u72 :: u73 :: u74 :: u75 :: u76 :: u77 :: u78 :: u79 :: u80 :: u81 :: u82 :: u83 :: u84 :: u85 :: u86 :: u87 :: u88 :: u89 :: u90 :: u91 :: u92 :: u93 :: u94 :: u95 :: u96 :: u97 :: u98 :: u99 :: u100 :: u101 :: u102 :: u103 :: u104 :: u105 :: u106 :: u107 :: u108 :: u109 :: u110 :: u111 :: u112 :: u113 :: u114 :: u115 :: []).toArray, defers := [] } W := by
  subst hc
  conv => enter [2]; whnf
  refine wp_region_tail (by kernel_rfl) (by kernel_rfl) 5 (by show 5 < _; decide) (by kernel_rfl) (by kernel_rfl) (fun s : Nat → Value => ({ tmps := (u0 :: u1 :: u2 :: u3 :: u4 :: u5 :: u6 :: u7 :: u8 :: (.pointer (some ⟨y.heap.size, 0, none⟩)) :: u10 :: (.int .i64 (k : Nat)) :: u12 :: u13 :: u14 :: u15 :: u16 :: u17 :: u18 :: u19 :: u20 :: u21 :: u22 :: u23 :: u24 :: u25 :: u26 :: u27 :: u28 :: u29 :: u30 :: u31 :: u32 :: u33 :: u34 :: u35 :: u36 :: u37 :: u38 :: u39 :: u40 :: u41 :: u42 :: u43 :: u44 :: u45 :: u46 :: u47 :: u48 :: u49 :: u50 :: u51 :: u52 :: u53 :: u54 :: u55 :: u56 :: u57 :: u58 :: u59 :: u60 :: u61 :: u62 :: u63 :: u64 :: u65 :: u66 :: u67 :: u68 :: u69 :: s 70 :: s 71 :: s 72 :: s 73 :: s 74 :: u75 :: u76 :: u77 :: u78 :: u79 :: u80 :: u81 :: u82 :: u83 :: u84 :: u85 :: u86 :: u87 :: u88 :: u89 :: u90 :: u91 :: u92 :: u93 :: u94 :: u95 :: u96 :: u97 :: u98 :: u99 :: u100 :: u101 :: u102 :: u103 :: u104 :: u105 :: u106 :: u107 :: u108 :: u109 :: u110 :: u111 :: u112 :: u113 :: u114 :: u115 :: []).toArray, defers := [] } : Act)) (fun k => if k = 70 then u70 else if k = 71 then u71 else if k = 72 then u72 else if k = 73 then u73 else if k = 74 then u74 else undef) rfl (fun i v x => (i = 4 → ∃ b, v = .slice (some ⟨b, 0, none⟩) 1 1 ∧ Box x b #[.int .i64 5, .int .i64 0, .int .i64 0, .string ⟨#[]⟩, .int .i64 (k : Nat), .slice none 0 0] 31 ∧ W.heap.size ≤ b) ∧ (i ≠ 4 → ([.pointer (some ⟨y.heap.size, 5, none⟩), u, .int .i64 (k : Nat), .agg #[.int .i64 5, .int .i64 0, .int .i64 0, .string ⟨#[]⟩, .int .i64 (k : Nat), .slice none 0 0], undef] : List Value)[i]? = some v)) (fun i v x y h hb => ⟨fun hi => (by obtain ⟨b, h1, h2, h3⟩ := h.1 hi; exact ⟨b, h1, h2.below hb, h3⟩), h.2⟩) (fun i => ([70, 71, 72, 73, 74] : List Nat).getD i 0) ?inj ?step ?last
  case inj =>
    intro i j hi hj h
    have hI : i = 0 ∨ i = 1 ∨ i = 2 ∨ i = 3 ∨ i = 4 := by omega
    have hJ : j = 0 ∨ j = 1 ∨ j = 2 ∨ j = 3 ∨ j = 4 := by omega
    rcases hI with rfl | rfl | rfl | rfl | rfl <;> rcases hJ with rfl | rfl | rfl | rfl | rfl <;> first | rfl | (exact absurd h (by decide))
  case last =>
    intro s x hv hb
    have HB := hide hb
    clear hb
    have z0 : s 70 = .pointer (some ⟨y.heap.size, 5, none⟩) := by have h := (hv 0 (by decide)).2 (by decide); injection h with h; exact h.symm
    have z1 : s 71 = u := by have h := (hv 1 (by decide)).2 (by decide); injection h with h; exact h.symm
    have z2 : s 72 = .int .i64 (k : Nat) := by have h := (hv 2 (by decide)).2 (by decide); injection h with h; exact h.symm
    have z3 : s 73 = .agg #[.int .i64 5, .int .i64 0, .int .i64 0, .string ⟨#[]⟩, .int .i64 (k : Nat), .slice none 0 0] := by have h := (hv 3 (by decide)).2 (by decide); injection h with h; exact h.symm
    obtain ⟨b4, hz4, hx4, hg4⟩ := (hv 4 (by decide)).1 rfl
    have z4 : s 74 = .slice (some ⟨b4, 0, none⟩) 1 1 := hz4
    clear hz4
    clear hv
    obtain ⟨i0, hi, hz0, hz1, hz2⟩ := info_parts info_ex
    have HLX := hide (HL.out.call HB.out)
    show Oper.wp _ _ _ _ _ _
    refine wp_append_own x _ _ 29 rfl (y.heap.size + 1) 31 i0 (.agg #[.int .i64 0, .int .i64 0, .int .i64 0, .string ByteArray.empty, .int .i64 0, .slice none 0 0]) 6 72 Tryd.underlying29 hi hz0 hz1 hz2 rfl (by decide) u k _ (by show s 71 = _; exact z1) HLX.out.own ⟨b4, 0, none⟩ 1 1 [.int .i64 5, .int .i64 0, .int .i64 0, .string ⟨#[]⟩, .int .i64 k, .slice none 0 0] (by show s 74 = _; exact z4) rfl (fun j v hv => by have h := hx4.cell (j := j) (v := v) (by simpa using hv); rcases Nat.eq_zero_or_pos j with rfl | hj; exact h; simpa [Addr.add, Nat.pos_iff_ne_zero.1 hj] using h) (ex_one k) (by unfold maxLen; omega) (by omega) (by have := HLX.out.be.lt; omega) ?_
    intro v2 y2 hown hgr _
    obtain ⟨g4, cap4, rfl⟩ := ownsRow_succ hown
    have HBE := hide (HLX.out.be.grown hgr (fun e => by have := (HLX.out.own.lt _ e.symm).1; omega))
    have HS := hide (le_set (o := o) (k := k + 1) (v := .slice (some ⟨g4, 0, none⟩) (k + 1) cap4) (HLX.out.bel.grown hgr HLX.out.bel.size (fun j hj => by have := (HLX.out.own.lt j hj).1; omega)) HBE.out (by rw [cols_snoc]; exact hown))
    have k5 := HBE.out.cell (j := 5) rfl
    have f5 := HBE.out.fr 5
    clear hown hgr hi hz0 hz1 hz2 hx4 hg4
    show Oper.wp _ _ _ _ _ _
    refine opwp_K (fun K2 hK2 => ?_)
    go_simp
    refine hK2 _ _ ?_
    show Oper.wp _ _ _ _ _ _
    clear hK2
    refine opwp_K (fun K3 hK3 => ?_)
    go_simp
    refine hK3 _ _ ?_
    have h := hend b4 g4 cap4 _ HS.out
    show Q _ _ _
    first | exact h | (simp only [z0, z1, z2, z3, z4]; exact h)
  case step =>
    intro i o s x hin ho he hb
    have HB := hide hb
    clear hb
    have hcase : i = 0 ∨ i = 1 ∨ i = 2 ∨ i = 3 ∨ i = 4 := by omega
    rcases hcase with rfl | rfl | rfl | rfl | rfl
    · injection ho with ho
      subst ho
      clear he
      refine opwp_K (fun K2 hK2 => ?_)
      go_simp
      exact hK2 _ _ ⟨(.pointer (some ⟨y.heap.size, 5, none⟩)), (by first | rfl | (simp [List.getD]; done)), Below.refl _ _, ⟨fun h => absurd h (by decide), fun _ => rfl⟩⟩
    · injection ho with ho
      subst ho
      have z0 : s 70 = .pointer (some ⟨y.heap.size, 5, none⟩) := by have h := (he ⟨0, .data⟩ (by simp) rfl).2 (by decide); injection h with h; exact h.symm
      clear he
      have hbe := HL.out.be.below HB.out
      have k5 := hbe.cell (j := 5) rfl
      clear hbe
      refine opwp_K (fun K2 hK2 => ?_)
      go_simp
      exact hK2 _ _ ⟨(u), (by first | rfl | (simp [z0]; done)), Below.refl _ _, ⟨fun h => absurd h (by decide), fun _ => rfl⟩⟩
    · injection ho with ho
      subst ho
      clear he
      refine opwp_K (fun K2 hK2 => ?_)
      go_simp
      exact hK2 _ _ ⟨(.int .i64 (k : Nat)), (by first | rfl | (simp [List.getD]; done)), Below.refl _ _, ⟨fun h => absurd h (by decide), fun _ => rfl⟩⟩
    · injection ho with ho
      subst ho
      have z2 : s 72 = .int .i64 (k : Nat) := by have h := (he ⟨2, .data⟩ (by simp) rfl).2 (by decide); injection h with h; exact h.symm
      clear he
      refine opwp_K (fun K2 hK2 => ?_)
      go_simp
      go_at_call 9
      refine (fcol_any k x).mono ?_
      rintro _ z ⟨rfl, hz⟩
      go_simp
      exact hK2 _ _ ⟨(.agg #[.int .i64 5, .int .i64 0, .int .i64 0, .string ⟨#[]⟩, .int .i64 (k : Nat), .slice none 0 0]), (by first | rfl | (simp [z2]; done)), hz, ⟨fun h => absurd h (by decide), fun _ => rfl⟩⟩
    · injection ho with ho
      subst ho
      have z3 : s 73 = .agg #[.int .i64 5, .int .i64 0, .int .i64 0, .string ⟨#[]⟩, .int .i64 (k : Nat), .slice none 0 0] := by have h := (he ⟨3, .data⟩ (by simp) rfl).2 (by decide); injection h with h; exact h.symm
      clear he
      refine opwp_K (fun K2 hK2 => ?_)
      go_simp
      exact hK2 _ _ ⟨_, (by first | rfl | (simp [z3]; done)), belA _, ⟨fun _ => ⟨_, rfl, Box.new _ _ _, HB.out.size⟩, fun h => absurd rfl h⟩⟩

set_option maxRecDepth 100000 in
set_option maxHeartbeats 4000000 in
theorem fs32_reg {b8 m n i0 i1 i2 q1 q2 p0 p1 p2 : Nat} {v0 v1 v2 : V} {W : World} (hbb : b8 < W.heap.size) (hn3 : (n : Int) ≤ 3) (hr0 : (m : Int).tmod 8 = i0) (hq1 : (m : Int).tdiv 8 = q1) (hr1 : (q1 : Int).tmod 8 = i1) (hq2 : (m : Int).tdiv 64 = q2) (hr2 : (q2 : Int).tmod 8 = i2) (hqw1 : IntKind.i64.wrap (q1 : Int) = q1) (hqw2 : IntKind.i64.wrap (q2 : Int) = q2) (hix0 : ∀ U, (Instr.indexAt 28 (.slice (some ⟨b8, 0, none⟩) 8 8) (.int .i64 (i0 : Nat))).run Tryd.prog U = .ok (.pointer (some ⟨b8, p0, none⟩)) U) (hix1 : ∀ U, (Instr.indexAt 28 (.slice (some ⟨b8, 0, none⟩) 8 8) (.int .i64 (i1 : Nat))).run Tryd.prog U = .ok (.pointer (some ⟨b8, p1, none⟩)) U) (hix2 : ∀ U, (Instr.indexAt 28 (.slice (some ⟨b8, 0, none⟩) 8 8) (.int .i64 (i2 : Nat))).run Tryd.prog U = .ok (.pointer (some ⟨b8, p2, none⟩)) U) (c0 : W.cell? ⟨b8, p0, none⟩ = some (.int .i64 v0.kind)) (c1 : W.cell? ⟨b8, p0 + 1, none⟩ = some (.int .i64 v0.num)) (c2 : W.cell? ⟨b8, p0 + 2, none⟩ = some (.string v0.text)) (d0 : W.cell? ⟨b8, p1, none⟩ = some (.int .i64 v1.kind)) (d1 : W.cell? ⟨b8, p1 + 1, none⟩ = some (.int .i64 v1.num)) (d2 : W.cell? ⟨b8, p1 + 2, none⟩ = some (.string v1.text)) (e0 : W.cell? ⟨b8, p2, none⟩ = some (.int .i64 v2.kind)) (e1 : W.cell? ⟨b8, p2 + 1, none⟩ = some (.int .i64 v2.num)) (e2 : W.cell? ⟨b8, p2 + 2, none⟩ = some (.string v2.text)) {Q : Exit → Act → World → Prop} {c : Code} {u0 u1 u2 u3 u4 u5 u6 u9 u10 u11 u13 u14 u15 u16 u17 u18 u19 u20 u21 u22 u23 u24 u25 u26 u27 u28 u29 u30 u31 u32 u33 u34 u35 u36 u37 u38 u39 u40 u41 u42 u43 u44 u45 u46 u47 u48 u49 u50 u51 u52 u53 u54 u55 u56 u57 u58 u59 u60 u61 u62 u63 u64 u65 u66 u67 u68 u69 u70 u71 u72 u73 u74 u75 u76 u77 u78 u79 u80 u81 u82 u83 u84 u85 u86 u87 u88 u89 u90 u91 u92 u93 u94 u95 u96 u97 u98 u99 u100 u101 u102 u103 u104 u105 u106 u107 u108 u109 u110 u111 u112 u113 u114 u115 : Value} (hc : c = codeIn [1, 1, 1, 1, 1, 1, 1, 1, 1, 1, 1, 1, 1, 1, 0, 1, 4, 5, 1, 0, 4, 0] lawBody) (hend : ∀ b17 b19 x, Below W.heap.size W x → Box x b19 #[.int .i64 v0.kind, .int .i64 v0.num, .string v0.text, .int .i64 v1.kind, .int .i64 v1.num, .string v1.text, .int .i64 v2.kind, .int .i64 v2.num, .string v2.text] 24 → W.heap.size ≤ b19 → Q .normal { tmps := (u0 :: u1 :: u2 :: u3 :: u4 :: u5 :: u6 :: (.int .i64 (n : Nat)) :: (.slice (some ⟨b8, 0, none⟩) 8 8) :: u9 :: u10 :: u11 :: (.int .i64 (m : Nat)) :: .slice (some ⟨b19, 0, none⟩) n 3 :: u14 :: u15 :: u16 :: u17 :: u18 :: u19 :: u20 :: u21 :: u22 :: u23 :: u24 :: u25 :: u26 :: u27 :: u28 :: u29 :: u30 :: u31 :: u32 :: u33 :: u34 :: u35 :: u36 :: u37 :: u38 :: u39 :: u40 :: u41 :: u42 :: u43 :: u44 :: u45 :: u46 :: u47 :: u48 :: u49 :: u50 :: u51 :: u52 :: u53 :: u54 :: u55 :: u56 :: u57 :: u58 :: u59 :: u60 :: u61 :: u62 :: u63 :: u64 :: u65 :: u66 :: u67 :: u68 :: u69 :: u70 :: u71 :: u72 :: u73 :: u74 :: u75 :: u76 :: u77 :: u78 :: u79 :: u80 :: u81 :: u82 :: u83 :: u84 :: u85 :: .slice (some ⟨b8, 0, none⟩) 8 8 :: .int .i64 (m : Nat) :: .int .i64 (i0 : Nat) :: .pointer (some ⟨b8, p0, none⟩) :: .agg #[.int .i64 (v0).kind, .int .i64 (v0).num, .string (v0).text] :: .slice (some ⟨b8, 0, none⟩) 8 8 :: .int .i64 (m : Nat) :: .int .i64 (q1 : Nat) :: .int .i64 (i1 : Nat) :: .pointer (some ⟨b8, p1, none⟩) :: .agg #[.int .i64 (v1).kind, .int .i64 (v1).num, .string (v1).text] :: .slice (some ⟨b8, 0, none⟩) 8 8 :: .int .i64 (m : Nat) :: .int .i64 (q2 : Nat) :: .int .i64 (i2 : Nat) :: .pointer (some ⟨b8, p2, none⟩) :: .agg #[.int .i64 (v2).kind, .int .i64 (v2).num, .string (v2).text] :: .slice (some ⟨b17, 0, none⟩) 3 3 :: .int .i64 (n : Nat) :: .slice (some ⟨b19, 0, none⟩) n 3 :: u106 :: u107 :: u108 :: u109 :: u110 :: u111 :: u112 :: u113 :: u114 :: u115 :: []).toArray, defers := [] } x) : Code.wp Tryd.prog c Q { tmps := (u0 :: u1 :: u2 :: u3 :: u4 :: u5 :: u6 :: (.int .i64 (n : Nat)) :: (.slice (some ⟨b8, 0, none⟩) 8 8) :: u9 :: u10 :: u11 :: (.int .i64 (m : Nat)) :: u13 :: u14 :: u15 :: u16 :: u17 :: u18 :: u19 :: u20 :: u21 :: u22 :: u23 :: u24 :: u25 :: u26 :: u27 :: u28 :: u29 :: u30 :: u31 :: u32 :: u33 :: u34 :: u35 :: u36 :: u37 :: u38 :: u39 :: u40 :: u41 :: u42 :: u43 :: u44 :: u45 :: u46 :: u47 :: u48 :: u49 :: u50 :: u51 :: u52 :: u53 :: u54 :: u55 :: u56 :: u57 :: u58 :: u59 :: u60 :: u61 :: u62 :: u63 :: u64 :: u65 :: u66 :: u67 :: u68 :: u69 :: u70 :: u71 :: u72 :: u73 :: u74 :: u75 :: u76 :: u77 :: u78 :: u79 :: u80 :: u81 :: u82 :: u83 :: u84 :: u85 :: u86 :: u87 :: u88 :: u89 :: u90 :: u91 :: u92 :: u93 :: u94 :: u95 :: u96 :: u97 :: u98 :: u99 :: u100 :: u101 :: u102 :: u103 :: u104 :: u105 :: u106 :: u107 :: u108 :: u109 :: u110 :: u111 :: u112 :: u113 :: u114 :: u115 :: []).toArray, defers := [] } W := by
  subst hc
  conv => enter [2]; whnf
  refine wp_region_tail (by kernel_rfl) (by kernel_rfl) 20 (by show 20 < _; decide) (by kernel_rfl) (by kernel_rfl) (fun s : Nat → Value => ({ tmps := (u0 :: u1 :: u2 :: u3 :: u4 :: u5 :: u6 :: (.int .i64 (n : Nat)) :: (.slice (some ⟨b8, 0, none⟩) 8 8) :: u9 :: u10 :: u11 :: (.int .i64 (m : Nat)) :: u13 :: u14 :: u15 :: u16 :: u17 :: u18 :: u19 :: u20 :: u21 :: u22 :: u23 :: u24 :: u25 :: u26 :: u27 :: u28 :: u29 :: u30 :: u31 :: u32 :: u33 :: u34 :: u35 :: u36 :: u37 :: u38 :: u39 :: u40 :: u41 :: u42 :: u43 :: u44 :: u45 :: u46 :: u47 :: u48 :: u49 :: u50 :: u51 :: u52 :: u53 :: u54 :: u55 :: u56 :: u57 :: u58 :: u59 :: u60 :: u61 :: u62 :: u63 :: u64 :: u65 :: u66 :: u67 :: u68 :: u69 :: u70 :: u71 :: u72 :: u73 :: u74 :: u75 :: u76 :: u77 :: u78 :: u79 :: u80 :: u81 :: u82 :: u83 :: u84 :: u85 :: s 86 :: s 87 :: s 88 :: s 89 :: s 90 :: s 91 :: s 92 :: s 93 :: s 94 :: s 95 :: s 96 :: s 97 :: s 98 :: s 99 :: s 100 :: s 101 :: s 102 :: s 103 :: s 104 :: s 105 :: u106 :: u107 :: u108 :: u109 :: u110 :: u111 :: u112 :: u113 :: u114 :: u115 :: []).toArray, defers := [] } : Act)) (fun k => if k = 86 then u86 else if k = 87 then u87 else if k = 88 then u88 else if k = 89 then u89 else if k = 90 then u90 else if k = 91 then u91 else if k = 92 then u92 else if k = 93 then u93 else if k = 94 then u94 else if k = 95 then u95 else if k = 96 then u96 else if k = 97 then u97 else if k = 98 then u98 else if k = 99 then u99 else if k = 100 then u100 else if k = 101 then u101 else if k = 102 then u102 else if k = 103 then u103 else if k = 104 then u104 else if k = 105 then u105 else undef) rfl (fun i v x => (i = 17 → ∃ b, v = .slice (some ⟨b, 0, none⟩) 3 3 ∧ Box x b #[.int .i64 v0.kind, .int .i64 v0.num, .string v0.text, .int .i64 v1.kind, .int .i64 v1.num, .string v1.text, .int .i64 v2.kind, .int .i64 v2.num, .string v2.text] 24 ∧ W.heap.size ≤ b) ∧ (i = 19 → ∃ b, v = .slice (some ⟨b, 0, none⟩) n 3 ∧ Box x b #[.int .i64 v0.kind, .int .i64 v0.num, .string v0.text, .int .i64 v1.kind, .int .i64 v1.num, .string v1.text, .int .i64 v2.kind, .int .i64 v2.num, .string v2.text] 24 ∧ W.heap.size ≤ b) ∧ (i ≠ 17 → i ≠ 19 → ([.slice (some ⟨b8, 0, none⟩) 8 8, .int .i64 (m : Nat), .int .i64 (i0 : Nat), .pointer (some ⟨b8, p0, none⟩), .agg #[.int .i64 (v0).kind, .int .i64 (v0).num, .string (v0).text], .slice (some ⟨b8, 0, none⟩) 8 8, .int .i64 (m : Nat), .int .i64 (q1 : Nat), .int .i64 (i1 : Nat), .pointer (some ⟨b8, p1, none⟩), .agg #[.int .i64 (v1).kind, .int .i64 (v1).num, .string (v1).text], .slice (some ⟨b8, 0, none⟩) 8 8, .int .i64 (m : Nat), .int .i64 (q2 : Nat), .int .i64 (i2 : Nat), .pointer (some ⟨b8, p2, none⟩), .agg #[.int .i64 (v2).kind, .int .i64 (v2).num, .string (v2).text], undef, .int .i64 (n : Nat), undef] : List Value)[i]? = some v)) (fun i v x y h hb => ⟨fun hi => (by obtain ⟨b, h1, h2, h3⟩ := h.1 hi; exact ⟨b, h1, h2.below hb, h3⟩), fun hi => (by obtain ⟨b, h1, h2, h3⟩ := h.2.1 hi; exact ⟨b, h1, h2.below hb, h3⟩), h.2.2⟩) (fun i => ([86, 87, 88, 89, 90, 91, 92, 93, 94, 95, 96, 97, 98, 99, 100, 101, 102, 103, 104, 105] : List Nat).getD i 0) ?inj ?step ?last
  case inj =>
    intro i j hi hj h
    have hI : i = 0 ∨ i = 1 ∨ i = 2 ∨ i = 3 ∨ i = 4 ∨ i = 5 ∨ i = 6 ∨ i = 7 ∨ i = 8 ∨ i = 9 ∨ i = 10 ∨ i = 11 ∨ i = 12 ∨ i = 13 ∨ i = 14 ∨ i = 15 ∨ i = 16 ∨ i = 17 ∨ i = 18 ∨ i = 19 := by omega
    have hJ : j = 0 ∨ j = 1 ∨ j = 2 ∨ j = 3 ∨ j = 4 ∨ j = 5 ∨ j = 6 ∨ j = 7 ∨ j = 8 ∨ j = 9 ∨ j = 10 ∨ j = 11 ∨ j = 12 ∨ j = 13 ∨ j = 14 ∨ j = 15 ∨ j = 16 ∨ j = 17 ∨ j = 18 ∨ j = 19 := by omega
    rcases hI with rfl | rfl | rfl | rfl | rfl | rfl | rfl | rfl | rfl | rfl | rfl | rfl | rfl | rfl | rfl | rfl | rfl | rfl | rfl | rfl <;> rcases hJ with rfl | rfl | rfl | rfl | rfl | rfl | rfl | rfl | rfl | rfl | rfl | rfl | rfl | rfl | rfl | rfl | rfl | rfl | rfl | rfl <;> first | rfl | (exact absurd h (by decide))
  case last =>
    intro s x hv hb
    have HB := hide hb
    clear hb
    have z0 : s 86 = .slice (some ⟨b8, 0, none⟩) 8 8 := by have h := (hv 0 (by decide)).2.2 (by decide) (by decide); injection h with h; exact h.symm
    have z1 : s 87 = .int .i64 (m : Nat) := by have h := (hv 1 (by decide)).2.2 (by decide) (by decide); injection h with h; exact h.symm
    have z2 : s 88 = .int .i64 (i0 : Nat) := by have h := (hv 2 (by decide)).2.2 (by decide) (by decide); injection h with h; exact h.symm
    have z3 : s 89 = .pointer (some ⟨b8, p0, none⟩) := by have h := (hv 3 (by decide)).2.2 (by decide) (by decide); injection h with h; exact h.symm
    have z4 : s 90 = .agg #[.int .i64 (v0).kind, .int .i64 (v0).num, .string (v0).text] := by have h := (hv 4 (by decide)).2.2 (by decide) (by decide); injection h with h; exact h.symm
    have z5 : s 91 = .slice (some ⟨b8, 0, none⟩) 8 8 := by have h := (hv 5 (by decide)).2.2 (by decide) (by decide); injection h with h; exact h.symm
    have z6 : s 92 = .int .i64 (m : Nat) := by have h := (hv 6 (by decide)).2.2 (by decide) (by decide); injection h with h; exact h.symm
    have z7 : s 93 = .int .i64 (q1 : Nat) := by have h := (hv 7 (by decide)).2.2 (by decide) (by decide); injection h with h; exact h.symm
    have z8 : s 94 = .int .i64 (i1 : Nat) := by have h := (hv 8 (by decide)).2.2 (by decide) (by decide); injection h with h; exact h.symm
    have z9 : s 95 = .pointer (some ⟨b8, p1, none⟩) := by have h := (hv 9 (by decide)).2.2 (by decide) (by decide); injection h with h; exact h.symm
    have z10 : s 96 = .agg #[.int .i64 (v1).kind, .int .i64 (v1).num, .string (v1).text] := by have h := (hv 10 (by decide)).2.2 (by decide) (by decide); injection h with h; exact h.symm
    have z11 : s 97 = .slice (some ⟨b8, 0, none⟩) 8 8 := by have h := (hv 11 (by decide)).2.2 (by decide) (by decide); injection h with h; exact h.symm
    have z12 : s 98 = .int .i64 (m : Nat) := by have h := (hv 12 (by decide)).2.2 (by decide) (by decide); injection h with h; exact h.symm
    have z13 : s 99 = .int .i64 (q2 : Nat) := by have h := (hv 13 (by decide)).2.2 (by decide) (by decide); injection h with h; exact h.symm
    have z14 : s 100 = .int .i64 (i2 : Nat) := by have h := (hv 14 (by decide)).2.2 (by decide) (by decide); injection h with h; exact h.symm
    have z15 : s 101 = .pointer (some ⟨b8, p2, none⟩) := by have h := (hv 15 (by decide)).2.2 (by decide) (by decide); injection h with h; exact h.symm
    have z16 : s 102 = .agg #[.int .i64 (v2).kind, .int .i64 (v2).num, .string (v2).text] := by have h := (hv 16 (by decide)).2.2 (by decide) (by decide); injection h with h; exact h.symm
    obtain ⟨b17, hz17, hx17, hg17⟩ := (hv 17 (by decide)).1 rfl
    have z17 : s 103 = .slice (some ⟨b17, 0, none⟩) 3 3 := hz17
    clear hz17
    have z18 : s 104 = .int .i64 (n : Nat) := by have h := (hv 18 (by decide)).2.2 (by decide) (by decide); injection h with h; exact h.symm
    obtain ⟨b19, hz19, hx19, hg19⟩ := (hv 19 (by decide)).2.1 rfl
    have z19 : s 105 = .slice (some ⟨b19, 0, none⟩) n 3 := hz19
    clear hz19
    clear hv
    show Oper.wp _ _ _ _ _ _
    refine opwp_K (fun K2 hK2 => ?_)
    go_simp
    refine hK2 _ _ ?_
    have h := hend b17 b19 x HB.out hx19 hg19
    show Q _ _ _
    first | exact h | (simp only [z0, z1, z2, z3, z4, z5, z6, z7, z8, z9, z10, z11, z12, z13, z14, z15, z16, z17, z18, z19]; exact h)
  case step =>
    intro i o s x hin ho he hb
    have HB := hide hb
    clear hb
    have hcase : i = 0 ∨ i = 1 ∨ i = 2 ∨ i = 3 ∨ i = 4 ∨ i = 5 ∨ i = 6 ∨ i = 7 ∨ i = 8 ∨ i = 9 ∨ i = 10 ∨ i = 11 ∨ i = 12 ∨ i = 13 ∨ i = 14 ∨ i = 15 ∨ i = 16 ∨ i = 17 ∨ i = 18 ∨ i = 19 := by omega
    rcases hcase with rfl | rfl | rfl | rfl | rfl | rfl | rfl | rfl | rfl | rfl | rfl | rfl | rfl | rfl | rfl | rfl | rfl | rfl | rfl | rfl
    · injection ho with ho
      subst ho
      clear he
      refine opwp_K (fun K2 hK2 => ?_)
      go_simp
      exact hK2 _ _ ⟨(.slice (some ⟨b8, 0, none⟩) 8 8), (by first | rfl | (simp [List.getD]; done)), Below.refl _ _, ⟨fun h => absurd h (by decide), fun h => absurd h (by decide), fun _ _ => rfl⟩⟩
    · injection ho with ho
      subst ho
      clear he
      refine opwp_K (fun K2 hK2 => ?_)
      go_simp
      exact hK2 _ _ ⟨(.int .i64 (m : Nat)), (by first | rfl | (simp [List.getD]; done)), Below.refl _ _, ⟨fun h => absurd h (by decide), fun h => absurd h (by decide), fun _ _ => rfl⟩⟩
    · injection ho with ho
      subst ho
      have z1 : s 87 = .int .i64 (m : Nat) := by have h := (he ⟨1, .data⟩ (by simp) rfl).2.2 (by decide) (by decide); injection h with h; exact h.symm
      clear he
      refine opwp_K (fun K2 hK2 => ?_)
      go_simp
      exact hK2 _ _ ⟨(.int .i64 (i0 : Nat)), (by first | rfl | (simp [z1]; done)), Below.refl _ _, ⟨fun h => absurd h (by decide), fun h => absurd h (by decide), fun _ _ => rfl⟩⟩
    · injection ho with ho
      subst ho
      have z0 : s 86 = .slice (some ⟨b8, 0, none⟩) 8 8 := by have h := (he ⟨0, .data⟩ (by simp) rfl).2.2 (by decide) (by decide); injection h with h; exact h.symm
      have z2 : s 88 = .int .i64 (i0 : Nat) := by have h := (he ⟨2, .data⟩ (by simp) rfl).2.2 (by decide) (by decide); injection h with h; exact h.symm
      clear he
      refine opwp_K (fun K2 hK2 => ?_)
      go_simp
      exact hK2 _ _ ⟨(.pointer (some ⟨b8, p0, none⟩)), (by first | rfl | (simp [z0, z2]; done)), Below.refl _ _, ⟨fun h => absurd h (by decide), fun h => absurd h (by decide), fun _ _ => rfl⟩⟩
    · injection ho with ho
      subst ho
      have z3 : s 89 = .pointer (some ⟨b8, p0, none⟩) := by have h := (he ⟨3, .data⟩ (by simp) rfl).2.2 (by decide) (by decide); injection h with h; exact h.symm
      clear he
      have hc0 := HB.out.cell (p := ⟨b8, p0, none⟩) (by show b8 < W.heap.size; omega)
      rw [c0] at hc0
      have hc1 := HB.out.cell (p := ⟨b8, p0 + 1, none⟩) (by show b8 < W.heap.size; omega)
      rw [c1] at hc1
      have hc2 := HB.out.cell (p := ⟨b8, p0 + 2, none⟩) (by show b8 < W.heap.size; omega)
      rw [c2] at hc2
      refine opwp_K (fun K2 hK2 => ?_)
      go_simp
      exact hK2 _ _ ⟨(.agg #[.int .i64 (v0).kind, .int .i64 (v0).num, .string (v0).text]), (by first | rfl | (simp [z3]; done)), Below.refl _ _, ⟨fun h => absurd h (by decide), fun h => absurd h (by decide), fun _ _ => rfl⟩⟩
    · injection ho with ho
      subst ho
      clear he
      refine opwp_K (fun K2 hK2 => ?_)
      go_simp
      exact hK2 _ _ ⟨(.slice (some ⟨b8, 0, none⟩) 8 8), (by first | rfl | (simp [List.getD]; done)), Below.refl _ _, ⟨fun h => absurd h (by decide), fun h => absurd h (by decide), fun _ _ => rfl⟩⟩
    · injection ho with ho
      subst ho
      clear he
      refine opwp_K (fun K2 hK2 => ?_)
      go_simp
      exact hK2 _ _ ⟨(.int .i64 (m : Nat)), (by first | rfl | (simp [List.getD]; done)), Below.refl _ _, ⟨fun h => absurd h (by decide), fun h => absurd h (by decide), fun _ _ => rfl⟩⟩
    · injection ho with ho
      subst ho
      have z6 : s 92 = .int .i64 (m : Nat) := by have h := (he ⟨6, .data⟩ (by simp) rfl).2.2 (by decide) (by decide); injection h with h; exact h.symm
      clear he
      refine opwp_K (fun K2 hK2 => ?_)
      go_simp
      exact hK2 _ _ ⟨(.int .i64 (q1 : Nat)), (by first | rfl | (simp [z6]; done)), Below.refl _ _, ⟨fun h => absurd h (by decide), fun h => absurd h (by decide), fun _ _ => rfl⟩⟩
    · injection ho with ho
      subst ho
      have z7 : s 93 = .int .i64 (q1 : Nat) := by have h := (he ⟨7, .data⟩ (by simp) rfl).2.2 (by decide) (by decide); injection h with h; exact h.symm
      clear he
      refine opwp_K (fun K2 hK2 => ?_)
      go_simp
      exact hK2 _ _ ⟨(.int .i64 (i1 : Nat)), (by first | rfl | (simp [z7]; done)), Below.refl _ _, ⟨fun h => absurd h (by decide), fun h => absurd h (by decide), fun _ _ => rfl⟩⟩
    · injection ho with ho
      subst ho
      have z5 : s 91 = .slice (some ⟨b8, 0, none⟩) 8 8 := by have h := (he ⟨5, .data⟩ (by simp) rfl).2.2 (by decide) (by decide); injection h with h; exact h.symm
      have z8 : s 94 = .int .i64 (i1 : Nat) := by have h := (he ⟨8, .data⟩ (by simp) rfl).2.2 (by decide) (by decide); injection h with h; exact h.symm
      clear he
      refine opwp_K (fun K2 hK2 => ?_)
      go_simp
      exact hK2 _ _ ⟨(.pointer (some ⟨b8, p1, none⟩)), (by first | rfl | (simp [z5, z8]; done)), Below.refl _ _, ⟨fun h => absurd h (by decide), fun h => absurd h (by decide), fun _ _ => rfl⟩⟩
    · injection ho with ho
      subst ho
      have z9 : s 95 = .pointer (some ⟨b8, p1, none⟩) := by have h := (he ⟨9, .data⟩ (by simp) rfl).2.2 (by decide) (by decide); injection h with h; exact h.symm
      clear he
      have hd0 := HB.out.cell (p := ⟨b8, p1, none⟩) (by show b8 < W.heap.size; omega)
      rw [d0] at hd0
      have hd1 := HB.out.cell (p := ⟨b8, p1 + 1, none⟩) (by show b8 < W.heap.size; omega)
      rw [d1] at hd1
      have hd2 := HB.out.cell (p := ⟨b8, p1 + 2, none⟩) (by show b8 < W.heap.size; omega)
      rw [d2] at hd2
      refine opwp_K (fun K2 hK2 => ?_)
      go_simp
      exact hK2 _ _ ⟨(.agg #[.int .i64 (v1).kind, .int .i64 (v1).num, .string (v1).text]), (by first | rfl | (simp [z9]; done)), Below.refl _ _, ⟨fun h => absurd h (by decide), fun h => absurd h (by decide), fun _ _ => rfl⟩⟩
    · injection ho with ho
      subst ho
      clear he
      refine opwp_K (fun K2 hK2 => ?_)
      go_simp
      exact hK2 _ _ ⟨(.slice (some ⟨b8, 0, none⟩) 8 8), (by first | rfl | (simp [List.getD]; done)), Below.refl _ _, ⟨fun h => absurd h (by decide), fun h => absurd h (by decide), fun _ _ => rfl⟩⟩
    · injection ho with ho
      subst ho
      clear he
      refine opwp_K (fun K2 hK2 => ?_)
      go_simp
      exact hK2 _ _ ⟨(.int .i64 (m : Nat)), (by first | rfl | (simp [List.getD]; done)), Below.refl _ _, ⟨fun h => absurd h (by decide), fun h => absurd h (by decide), fun _ _ => rfl⟩⟩
    · injection ho with ho
      subst ho
      have z12 : s 98 = .int .i64 (m : Nat) := by have h := (he ⟨12, .data⟩ (by simp) rfl).2.2 (by decide) (by decide); injection h with h; exact h.symm
      clear he
      refine opwp_K (fun K2 hK2 => ?_)
      go_simp
      exact hK2 _ _ ⟨(.int .i64 (q2 : Nat)), (by first | rfl | (simp [z12]; done)), Below.refl _ _, ⟨fun h => absurd h (by decide), fun h => absurd h (by decide), fun _ _ => rfl⟩⟩
    · injection ho with ho
      subst ho
      have z13 : s 99 = .int .i64 (q2 : Nat) := by have h := (he ⟨13, .data⟩ (by simp) rfl).2.2 (by decide) (by decide); injection h with h; exact h.symm
      clear he
      refine opwp_K (fun K2 hK2 => ?_)
      go_simp
      exact hK2 _ _ ⟨(.int .i64 (i2 : Nat)), (by first | rfl | (simp [z13]; done)), Below.refl _ _, ⟨fun h => absurd h (by decide), fun h => absurd h (by decide), fun _ _ => rfl⟩⟩
    · injection ho with ho
      subst ho
      have z11 : s 97 = .slice (some ⟨b8, 0, none⟩) 8 8 := by have h := (he ⟨11, .data⟩ (by simp) rfl).2.2 (by decide) (by decide); injection h with h; exact h.symm
      have z14 : s 100 = .int .i64 (i2 : Nat) := by have h := (he ⟨14, .data⟩ (by simp) rfl).2.2 (by decide) (by decide); injection h with h; exact h.symm
      clear he
      refine opwp_K (fun K2 hK2 => ?_)
      go_simp
      exact hK2 _ _ ⟨(.pointer (some ⟨b8, p2, none⟩)), (by first | rfl | (simp [z11, z14]; done)), Below.refl _ _, ⟨fun h => absurd h (by decide), fun h => absurd h (by decide), fun _ _ => rfl⟩⟩
    · injection ho with ho
      subst ho
      have z15 : s 101 = .pointer (some ⟨b8, p2, none⟩) := by have h := (he ⟨15, .data⟩ (by simp) rfl).2.2 (by decide) (by decide); injection h with h; exact h.symm
      clear he
      have he0 := HB.out.cell (p := ⟨b8, p2, none⟩) (by show b8 < W.heap.size; omega)
      rw [e0] at he0
      have he1 := HB.out.cell (p := ⟨b8, p2 + 1, none⟩) (by show b8 < W.heap.size; omega)
      rw [e1] at he1
      have he2 := HB.out.cell (p := ⟨b8, p2 + 2, none⟩) (by show b8 < W.heap.size; omega)
      rw [e2] at he2
      refine opwp_K (fun K2 hK2 => ?_)
      go_simp
      exact hK2 _ _ ⟨(.agg #[.int .i64 (v2).kind, .int .i64 (v2).num, .string (v2).text]), (by first | rfl | (simp [z15]; done)), Below.refl _ _, ⟨fun h => absurd h (by decide), fun h => absurd h (by decide), fun _ _ => rfl⟩⟩
    · injection ho with ho
      subst ho
      have z4 : s 90 = .agg #[.int .i64 (v0).kind, .int .i64 (v0).num, .string (v0).text] := by have h := (he ⟨4, .data⟩ (by simp) rfl).2.2 (by decide) (by decide); injection h with h; exact h.symm
      have z10 : s 96 = .agg #[.int .i64 (v1).kind, .int .i64 (v1).num, .string (v1).text] := by have h := (he ⟨10, .data⟩ (by simp) rfl).2.2 (by decide) (by decide); injection h with h; exact h.symm
      have z16 : s 102 = .agg #[.int .i64 (v2).kind, .int .i64 (v2).num, .string (v2).text] := by have h := (he ⟨16, .data⟩ (by simp) rfl).2.2 (by decide) (by decide); injection h with h; exact h.symm
      clear he
      refine opwp_K (fun K2 hK2 => ?_)
      go_simp
      exact hK2 _ _ ⟨_, (by first | rfl | (simp [z4, z10, z16]; done)), belA _, ⟨fun _ => ⟨_, rfl, Box.new _ _ _, HB.out.size⟩, fun h => absurd h (by decide), fun h _ => absurd rfl h⟩⟩
    · injection ho with ho
      subst ho
      clear he
      refine opwp_K (fun K2 hK2 => ?_)
      go_simp
      exact hK2 _ _ ⟨(.int .i64 (n : Nat)), (by first | rfl | (simp [List.getD]; done)), Below.refl _ _, ⟨fun h => absurd h (by decide), fun h => absurd h (by decide), fun _ _ => rfl⟩⟩
    · injection ho with ho
      subst ho
      obtain ⟨b17, hz17, hx17, hg17⟩ := (he ⟨17, .data⟩ (by simp) rfl).1 rfl
      have z17 : s 103 = .slice (some ⟨b17, 0, none⟩) 3 3 := hz17
      clear hz17
      have z18 : s 104 = .int .i64 (n : Nat) := by have h := (he ⟨18, .data⟩ (by simp) rfl).2.2 (by decide) (by decide); injection h with h; exact h.symm
      clear he
      refine opwp_K (fun K2 hK2 => ?_)
      go_simp
      exact hK2 _ _ ⟨_, (by first | rfl | (simp [z17, z18]; done)), Below.refl _ _, ⟨fun h => absurd h (by decide), fun _ => ⟨_, rfl, hx17, hg17⟩, fun _ h => absurd rfl h⟩⟩

set_option maxRecDepth 100000 in
set_option maxHeartbeats 4000000 in
theorem fs33_reg {g br o n : Nat} {kh : Hd} {kk : Int} {a b : V} {nq : Bool} {W : World} (HE : Hid (Box W g #[.int .i64 (o : Nat), .int .i64 0, .int .i64 0, .string ⟨#[]⟩, .int .i64 0, .slice kh.ao n kh.cap] 31))
    (HF : Hid (∀ (b1 : Nat) (X : World), Below W.heap.size W X → Box X b1 #[.int .i64 kk] 3 → Calls Tryd.prog 10 #[.slice (some ⟨b1, 0, none⟩) 1 1, .agg #[.int .i64 (o : Nat), .int .i64 0, .int .i64 0, .string ⟨#[]⟩, .int .i64 0, .slice kh.ao n kh.cap], .slice (some ⟨br, 0, none⟩) n 3] X fun e w' => e = .returned (.agg #[.int .i64 (a).kind, .int .i64 (a).num, .string (a).text]) ∧ Below X.heap.size X w'))
    (HR : Hid (∀ (X : World), Below W.heap.size W X → Calls Tryd.prog 11 #[.agg #[.int .i64 (o : Nat), .int .i64 0, .int .i64 0, .string ⟨#[]⟩, .int .i64 0, .slice kh.ao n kh.cap], .slice (some ⟨br, 0, none⟩) n 3] X fun e w' => e = .returned (.agg #[.int .i64 (b).kind, .int .i64 (b).num, .string (b).text]) ∧ Below X.heap.size X w')) (hnq : (!sameB a b) = nq) {Q : Exit → Act → World → Prop} {c : Code} {u0 u1 u2 u4 u5 u6 u7 u8 u10 u11 u12 u14 u15 u16 u17 u18 u19 u20 u21 u22 u23 u24 u25 u26 u27 u28 u29 u30 u31 u32 u33 u34 u35 u36 u37 u38 u39 u40 u41 u42 u43 u44 u45 u46 u47 u48 u49 u50 u51 u52 u53 u54 u55 u56 u57 u58 u59 u60 u61 u62 u63 u64 u65 u66 u67 u68 u69 u70 u71 u72 u73 u74 u75 u76 u77 u78 u79 u80 u81 u82 u83 u84 u85 u86 u87 u88 u89 u90 u91 u92 u93 u94 u95 u96 u97 u98 u99 u100 u101 u102 u103 u104 u105 u106 u107 u108 u109 u110 u111 u112 u113 u114 u115 : Value} (hc : c = codeIn [1, 1, 1, 1, 1, 1, 1, 1, 1, 1, 1, 1, 1, 1, 0, 1, 4, 5, 1, 0, 4, 1, 0] lawBody) (hend : ∀ b1 x, Below W.heap.size W x → Q .normal { tmps := (u0 :: u1 :: u2 :: (.int .i64 kk) :: u4 :: u5 :: u6 :: u7 :: u8 :: (.pointer (some ⟨g, 0, none⟩)) :: u10 :: u11 :: u12 :: (.slice (some ⟨br, 0, none⟩) n 3) :: u14 :: u15 :: u16 :: u17 :: u18 :: u19 :: u20 :: u21 :: u22 :: u23 :: u24 :: u25 :: u26 :: u27 :: u28 :: u29 :: u30 :: u31 :: u32 :: u33 :: u34 :: u35 :: u36 :: u37 :: u38 :: u39 :: u40 :: u41 :: u42 :: u43 :: u44 :: u45 :: u46 :: u47 :: u48 :: u49 :: u50 :: u51 :: u52 :: u53 :: u54 :: u55 :: u56 :: u57 :: u58 :: u59 :: u60 :: u61 :: u62 :: u63 :: u64 :: u65 :: u66 :: u67 :: u68 :: u69 :: u70 :: u71 :: u72 :: u73 :: u74 :: u75 :: u76 :: u77 :: u78 :: u79 :: u80 :: u81 :: u82 :: u83 :: u84 :: u85 :: u86 :: u87 :: u88 :: u89 :: u90 :: u91 :: u92 :: u93 :: u94 :: u95 :: u96 :: u97 :: u98 :: u99 :: u100 :: u101 :: u102 :: u103 :: u104 :: u105 :: .int .i64 (kk : Int) :: .slice (some ⟨b1, 0, none⟩) 1 1 :: .agg #[.int .i64 (o : Nat), .int .i64 0, .int .i64 0, .string ⟨#[]⟩, .int .i64 0, .slice kh.ao n kh.cap] :: .slice (some ⟨br, 0, none⟩) n 3 :: .agg #[.int .i64 (a).kind, .int .i64 (a).num, .string (a).text] :: .agg #[.int .i64 (o : Nat), .int .i64 0, .int .i64 0, .string ⟨#[]⟩, .int .i64 0, .slice kh.ao n kh.cap] :: .slice (some ⟨br, 0, none⟩) n 3 :: .agg #[.int .i64 (b).kind, .int .i64 (b).num, .string (b).text] :: .bool nq :: u115 :: []).toArray, defers := [] } x) : Code.wp Tryd.prog c Q { tmps := (u0 :: u1 :: u2 :: (.int .i64 kk) :: u4 :: u5 :: u6 :: u7 :: u8 :: (.pointer (some ⟨g, 0, none⟩)) :: u10 :: u11 :: u12 :: (.slice (some ⟨br, 0, none⟩) n 3) :: u14 :: u15 :: u16 :: u17 :: u18 :: u19 :: u20 :: u21 :: u22 :: u23 :: u24 :: u25 :: u26 :: u27 :: u28 :: u29 :: u30 :: u31 :: u32 :: u33 :: u34 :: u35 :: u36 :: u37 :: u38 :: u39 :: u40 :: u41 :: u42 :: u43 :: u44 :: u45 :: u46 :: u47 :: u48 :: u49 :: u50 :: u51 :: u52 :: u53 :: u54 :: u55 :: u56 :: u57 :: u58 :: u59 :: u60 :: u61 :: u62 :: u63 :: u64 :: u65 :: u66 :: u67 :: u68 :: u69 :: u70 :: u71 :: u72 :: u73 :: u74 :: u75 :: u76 :: u77 :: u78 :: u79 :: u80 :: u81 :: u82 :: u83 :: u84 :: u85 :: u86 :: u87 :: u88 :: u89 :: u90 :: u91 :: u92 :: u93 :: u94 :: u95 :: u96 :: u97 :: u98 :: u99 :: u100 :: u101 :: u102 :: u103 :: u104 :: u105 :: u106 :: u107 :: u108 :: u109 :: u110 :: u111 :: u112 :: u113 :: u114 :: u115 :: []).toArray, defers := [] } W := by
  subst hc
  conv => enter [2]; whnf
  refine wp_region_tail (by kernel_rfl) (by kernel_rfl) 8 (by show 8 < _; decide) (by kernel_rfl) (by kernel_rfl) (fun s : Nat → Value => ({ tmps := (u0 :: u1 :: u2 :: (.int .i64 kk) :: u4 :: u5 :: u6 :: u7 :: u8 :: (.pointer (some ⟨g, 0, none⟩)) :: u10 :: u11 :: u12 :: (.slice (some ⟨br, 0, none⟩) n 3) :: u14 :: u15 :: u16 :: u17 :: u18 :: u19 :: u20 :: u21 :: u22 :: u23 :: u24 :: u25 :: u26 :: u27 :: u28 :: u29 :: u30 :: u31 :: u32 :: u33 :: u34 :: u35 :: u36 :: u37 :: u38 :: u39 :: u40 :: u41 :: u42 :: u43 :: u44 :: u45 :: u46 :: u47 :: u48 :: u49 :: u50 :: u51 :: u52 :: u53 :: u54 :: u55 :: u56 :: u57 :: u58 :: u59 :: u60 :: u61 :: u62 :: u63 :: u64 :: u65 :: u66 :: u67 :: u68 :: u69 :: u70 :: u71 :: u72 :: u73 :: u74 :: u75 :: u76 :: u77 :: u78 :: u79 :: u80 :: u81 :: u82 :: u83 :: u84 :: u85 :: u86 :: u87 :: u88 :: u89 :: u90 :: u91 :: u92 :: u93 :: u94 :: u95 :: u96 :: u97 :: u98 :: u99 :: u100 :: u101 :: u102 :: u103 :: u104 :: u105 :: s 106 :: s 107 :: s 108 :: s 109 :: s 110 :: s 111 :: s 112 :: s 113 :: u114 :: u115 :: []).toArray, defers := [] } : Act)) (fun k => if k = 106 then u106 else if k = 107 then u107 else if k = 108 then u108 else if k = 109 then u109 else if k = 110 then u110 else if k = 111 then u111 else if k = 112 then u112 else if k = 113 then u113 else undef) rfl (fun i v x => (i = 1 → ∃ b, v = .slice (some ⟨b, 0, none⟩) 1 1 ∧ Box x b #[.int .i64 kk] 3 ∧ W.heap.size ≤ b) ∧ (i ≠ 1 → ([.int .i64 (kk : Int), undef, .agg #[.int .i64 (o : Nat), .int .i64 0, .int .i64 0, .string ⟨#[]⟩, .int .i64 0, .slice kh.ao n kh.cap], .slice (some ⟨br, 0, none⟩) n 3, .agg #[.int .i64 (a).kind, .int .i64 (a).num, .string (a).text], .agg #[.int .i64 (o : Nat), .int .i64 0, .int .i64 0, .string ⟨#[]⟩, .int .i64 0, .slice kh.ao n kh.cap], .slice (some ⟨br, 0, none⟩) n 3, .agg #[.int .i64 (b).kind, .int .i64 (b).num, .string (b).text]] : List Value)[i]? = some v)) (fun i v x y h hb => ⟨fun hi => (by obtain ⟨b, h1, h2, h3⟩ := h.1 hi; exact ⟨b, h1, h2.below hb, h3⟩), h.2⟩) (fun i => ([106, 107, 108, 109, 110, 111, 112, 113] : List Nat).getD i 0) ?inj ?step ?last
  case inj =>
    intro i j hi hj h
    have hI : i = 0 ∨ i = 1 ∨ i = 2 ∨ i = 3 ∨ i = 4 ∨ i = 5 ∨ i = 6 ∨ i = 7 := by omega
    have hJ : j = 0 ∨ j = 1 ∨ j = 2 ∨ j = 3 ∨ j = 4 ∨ j = 5 ∨ j = 6 ∨ j = 7 := by omega
    rcases hI with rfl | rfl | rfl | rfl | rfl | rfl | rfl | rfl <;> rcases hJ with rfl | rfl | rfl | rfl | rfl | rfl | rfl | rfl <;> first | rfl | (exact absurd h (by decide))
  case last =>
    intro s x hv hb
    have HB := hide hb
    clear hb
    have z0 : s 106 = .int .i64 (kk : Int) := by have h := (hv 0 (by decide)).2 (by decide); injection h with h; exact h.symm
    obtain ⟨b1, hz1, hx1, hg1⟩ := (hv 1 (by decide)).1 rfl
    have z1 : s 107 = .slice (some ⟨b1, 0, none⟩) 1 1 := hz1
    clear hz1
    have z2 : s 108 = .agg #[.int .i64 (o : Nat), .int .i64 0, .int .i64 0, .string ⟨#[]⟩, .int .i64 0, .slice kh.ao n kh.cap] := by have h := (hv 2 (by decide)).2 (by decide); injection h with h; exact h.symm
    have z3 : s 109 = .slice (some ⟨br, 0, none⟩) n 3 := by have h := (hv 3 (by decide)).2 (by decide); injection h with h; exact h.symm
    have z4 : s 110 = .agg #[.int .i64 (a).kind, .int .i64 (a).num, .string (a).text] := by have h := (hv 4 (by decide)).2 (by decide); injection h with h; exact h.symm
    have z5 : s 111 = .agg #[.int .i64 (o : Nat), .int .i64 0, .int .i64 0, .string ⟨#[]⟩, .int .i64 0, .slice kh.ao n kh.cap] := by have h := (hv 5 (by decide)).2 (by decide); injection h with h; exact h.symm
    have z6 : s 112 = .slice (some ⟨br, 0, none⟩) n 3 := by have h := (hv 6 (by decide)).2 (by decide); injection h with h; exact h.symm
    have z7 : s 113 = .agg #[.int .i64 (b).kind, .int .i64 (b).num, .string (b).text] := by have h := (hv 7 (by decide)).2 (by decide); injection h with h; exact h.symm
    clear hv
    show Oper.wp _ _ _ _ _ _
    refine opwp_K (fun K2 hK2 => ?_)
    go_simp
    split
    · rename_i hh
      have H1 := hide hh
      clear hh
      split
      · rename_i hh
        have H2 := hide hh
        clear hh
        split
        · rename_i hh
          have H3 := hide hh
          clear hh
          have hq : nq = false := by rw [← hnq]; unfold sameB; simp [H1.out, H2.out, H3.out]
          have h := hend b1 x HB.out
          rw [hq] at h
          go_simp
          refine hK2 _ _ ?_
          show Q _ _ _
          exact h
        · rename_i hh
          have H3 := hide hh
          clear hh
          have hq : nq = true := by rw [← hnq]; unfold sameB; simp [H1.out, H2.out, H3.out]
          have h := hend b1 x HB.out
          rw [hq] at h
          go_simp
          refine hK2 _ _ ?_
          show Q _ _ _
          exact h
      · rename_i hh
        have H2 := hide hh
        clear hh
        have hq : nq = true := by rw [← hnq]; unfold sameB; simp [H1.out, H2.out]
        have h := hend b1 x HB.out
        rw [hq] at h
        go_simp
        refine hK2 _ _ ?_
        show Q _ _ _
        exact h
    · rename_i hh
      have H1 := hide hh
      clear hh
      have hq : nq = true := by rw [← hnq]; unfold sameB; simp [H1.out]
      have h := hend b1 x HB.out
      rw [hq] at h
      go_simp
      refine hK2 _ _ ?_
      show Q _ _ _
      exact h
  case step =>
    intro i o s x hin ho he hb
    have HB := hide hb
    clear hb
    have hcase : i = 0 ∨ i = 1 ∨ i = 2 ∨ i = 3 ∨ i = 4 ∨ i = 5 ∨ i = 6 ∨ i = 7 := by omega
    rcases hcase with rfl | rfl | rfl | rfl | rfl | rfl | rfl | rfl
    · injection ho with ho
      subst ho
      clear he
      refine opwp_K (fun K2 hK2 => ?_)
      go_simp
      exact hK2 _ _ ⟨(.int .i64 (kk : Int)), (by first | rfl | (simp [List.getD]; done)), Below.refl _ _, ⟨fun h => absurd h (by decide), fun _ => rfl⟩⟩
    · injection ho with ho
      subst ho
      have z0 : s 106 = .int .i64 (kk : Int) := by have h := (he ⟨0, .data⟩ (by simp) rfl).2 (by decide); injection h with h; exact h.symm
      clear he
      refine opwp_K (fun K2 hK2 => ?_)
      go_simp
      exact hK2 _ _ ⟨_, (by first | rfl | (simp [z0]; done)), belA _, ⟨fun _ => ⟨_, rfl, Box.new _ _ _, HB.out.size⟩, fun h => absurd rfl h⟩⟩
    · injection ho with ho
      subst ho
      clear he
      have hbe := HE.out.below HB.out
      have k0 := hbe.cell (j := 0) rfl
      have k1 := hbe.cell (j := 1) rfl
      have k2 := hbe.cell (j := 2) rfl
      have k3 := hbe.cell (j := 3) rfl
      have k4 := hbe.cell (j := 4) rfl
      have k5 := hbe.cell (j := 5) rfl
      clear hbe
      refine opwp_K (fun K2 hK2 => ?_)
      go_simp
      exact hK2 _ _ ⟨(.agg #[.int .i64 (o : Nat), .int .i64 0, .int .i64 0, .string ⟨#[]⟩, .int .i64 0, .slice kh.ao n kh.cap]), (by first | rfl | (simp [List.getD]; done)), Below.refl _ _, ⟨fun h => absurd h (by decide), fun _ => rfl⟩⟩
    · injection ho with ho
      subst ho
      clear he
      refine opwp_K (fun K2 hK2 => ?_)
      go_simp
      exact hK2 _ _ ⟨(.slice (some ⟨br, 0, none⟩) n 3), (by first | rfl | (simp [List.getD]; done)), Below.refl _ _, ⟨fun h => absurd h (by decide), fun _ => rfl⟩⟩
    · injection ho with ho
      subst ho
      obtain ⟨b1, hz1, hx1, hg1⟩ := (he ⟨1, .data⟩ (by simp) rfl).1 rfl
      have z1 : s 107 = .slice (some ⟨b1, 0, none⟩) 1 1 := hz1
      clear hz1
      have z2 : s 108 = .agg #[.int .i64 (o : Nat), .int .i64 0, .int .i64 0, .string ⟨#[]⟩, .int .i64 0, .slice kh.ao n kh.cap] := by have h := (he ⟨2, .data⟩ (by simp) rfl).2 (by decide); injection h with h; exact h.symm
      have z3 : s 109 = .slice (some ⟨br, 0, none⟩) n 3 := by have h := (he ⟨3, .data⟩ (by simp) rfl).2 (by decide); injection h with h; exact h.symm
      clear he
      refine opwp_K (fun K2 hK2 => ?_)
      go_simp
      go_at_call 10
      refine (HF.out b1 x HB.out hx1).mono ?_
      rintro _ z ⟨rfl, hz⟩
      go_simp
      exact hK2 _ _ ⟨(.agg #[.int .i64 (a).kind, .int .i64 (a).num, .string (a).text]), (by first | rfl | (simp [z1, z2, z3]; done)), hz, ⟨fun h => absurd h (by decide), fun _ => rfl⟩⟩
    · injection ho with ho
      subst ho
      clear he
      have hbe := HE.out.below HB.out
      have k0 := hbe.cell (j := 0) rfl
      have k1 := hbe.cell (j := 1) rfl
      have k2 := hbe.cell (j := 2) rfl
      have k3 := hbe.cell (j := 3) rfl
      have k4 := hbe.cell (j := 4) rfl
      have k5 := hbe.cell (j := 5) rfl
      clear hbe
      refine opwp_K (fun K2 hK2 => ?_)
      go_simp
      exact hK2 _ _ ⟨(.agg #[.int .i64 (o : Nat), .int .i64 0, .int .i64 0, .string ⟨#[]⟩, .int .i64 0, .slice kh.ao n kh.cap]), (by first | rfl | (simp [List.getD]; done)), Below.refl _ _, ⟨fun h => absurd h (by decide), fun _ => rfl⟩⟩
    · injection ho with ho
      subst ho
      clear he
      refine opwp_K (fun K2 hK2 => ?_)
      go_simp
      exact hK2 _ _ ⟨(.slice (some ⟨br, 0, none⟩) n 3), (by first | rfl | (simp [List.getD]; done)), Below.refl _ _, ⟨fun h => absurd h (by decide), fun _ => rfl⟩⟩
    · injection ho with ho
      subst ho
      have z5 : s 111 = .agg #[.int .i64 (o : Nat), .int .i64 0, .int .i64 0, .string ⟨#[]⟩, .int .i64 0, .slice kh.ao n kh.cap] := by have h := (he ⟨5, .data⟩ (by simp) rfl).2 (by decide); injection h with h; exact h.symm
      have z6 : s 112 = .slice (some ⟨br, 0, none⟩) n 3 := by have h := (he ⟨6, .data⟩ (by simp) rfl).2 (by decide); injection h with h; exact h.symm
      clear he
      refine opwp_K (fun K2 hK2 => ?_)
      go_simp
      go_at_call 11
      refine (HR.out x HB.out).mono ?_
      rintro _ z ⟨rfl, hz⟩
      go_simp
      exact hK2 _ _ ⟨(.agg #[.int .i64 (b).kind, .int .i64 (b).num, .string (b).text]), (by first | rfl | (simp [z5, z6]; done)), hz, ⟨fun h => absurd h (by decide), fun _ => rfl⟩⟩

end Go.Proofs.YtlkhiihehaiinaaDoor

/- law27.ConjunctiveBags: the region that doubles the first literal. -/
import Derived.Test.YtiijaaohphokcaaGreatDoorCjL4K
import Derived.Test.YtiijaaohphokcaaGreatDoorG38
import Derived.Test.YtiijaaohphokcaaGreatDoorG36
import Derived.Test.YtiijaaohphokcaaGreatDoorG30
import Derived.Test.YtiijaaohphokcaaGreatDoorG08
namespace Go.Proofs.YtiijaaohphokcaaGreatDoor
open Go.RowKit
theorem wp_append_grows1 {P : Program} (w : World) {o : Oper} {a : Act} {K : Act → World → Prop} {Q : Exit → Act → World → Prop}
    (s x : Operand) (t : TypeId) (hop : o.op = Op.call { callee := Callee.builtin Builtin.append, args := #[s, x], argTypes := #[t, t] })
    (e : TypeId) (i : TypeInfo) (z : Value) (size bytes : Nat) (h1 : P.underlying t = some (.slice e)) (h2 : P.info? e = some i) (h3 : i.zero = some z) (h4 : i.size = size) (h5 : i.bytes = bytes) (h6 : z.cells.size = size) (h7 : 0 < size)
    (b : Addr) (n : Nat) (olds : List Value) (hs : a.eval s = .slice (some b) n n) (hlo : olds.length = n * size) (holds : ∀ j u, olds[j]? = some u → w.cell? (b.add j) = some u)
    (ad : Addr) (m c : Nat) (news : List Value) (hx : a.eval x = .slice (some ad) m c) (hn : news.length = m * size) (hc : ∀ j u, news[j]? = some u → w.cell? (ad.add j) = some u)
    (hm : 0 < m) (b1 : n + m ≤ maxLen) (b2 : (n + m) * bytes ≤ 140737488355328)
    (hK : ∀ v' w', w'.ownsRow w.heap.size e size v' (n + m) (olds ++ news) → w.grownBy w' none → K (a.put o.dst v') w') : o.wp P a w K Q := by
  obtain ⟨v', w', hrun, r1, r2⟩ := run_append_arg_grows (P := P) w t o.type e i z size bytes h1 h2 h3 h4 h5 h6 h7 b n n olds hlo holds ad m c news hn hc (by omega) b1 b2
  unfold Oper.wp
  simp [execOp, hop, resolve, invoke, builtin, hs, hx, hrun, Result.andThen]
  exact hK v' w' r1 r2
set_option maxRecDepth 100000 in
set_option maxHeartbeats 4000000 in
theorem cb_reg16 {ga : Nat} {q : Cq} {l : Li} {W : World} (HQB : Hid (Box W ga #[.int .i64 (q.vars : Nat), .slice q.lh.ao q.lits.length q.lh.cap, .slice q.head.h.ao q.head.l.length q.head.h.cap] 32)) (HQI : Hid (q.In W 0)) (HLN : Hid (0 < q.lits.length ∧ q.lits.length ≤ 1000)) (HL : Hid (q.lits[0]'HLN.out.1 = l)) (HAO : Hid (q.lh.ao = some ⟨q.lh.b, q.lh.o, none⟩)) {Q : Exit → Act → World → Prop} {c : Code} {u0 u1 u2 u3 u4 u6 u7 u8 u9 u10 u11 u12 u13 u14 u15 u16 u17 u18 u19 u20 u21 u22 u23 u24 u25 u26 u27 u28 u29 u30 u31 u32 u33 u34 u35 u36 u37 u38 u39 u40 u41 u42 u43 u44 u45 u46 u47 u48 u49 u50 u51 u52 u53 u54 u55 u56 u57 u58 u59 u60 u61 u62 u63 u64 u65 u66 u67 u68 u69 u70 u71 u72 u73 u74 u75 u76 u77 u78 u79 u80 u81 u82 u83 u84 u85 u86 u87 u88 u89 u90 u91 u92 u93 u94 u95 u96 u97 u98 u99 u100 u101 u102 u103 u104 u105 u106 u107 u108 u109 u110 u111 u112 u113 u114 u115 u116 u117 u118 u119 u120 u121 u122 u123 u124 u125 u126 u127 u128 u129 u130 u131 u132 u133 u134 u135 u136 u137 u138 u139 u140 u141 u142 u143 u144 u145 u146 u147 u148 u149 u150 u151 u152 u153 u154 u155 u156 u157 u158 u159 u160 u161 u162 u163 u164 u165 u166 u167 u168 u169 u170 u171 u172 u173 u174 u175 u176 u177 u178 u179 u180 u181 u182 u183 u184 u185 u186 u187 u188 u189 : Value} (hc : c = codeIn [1, 1, 1, 1, 1, 1, 1, 1, 1, 1, 1, 1, 1, 1, 1, 0] (Tryz.f5.body.getD .skip)) (hend : ∀ b8 g11 c11 g12 c12 b13 x, Below W.heap.size W x → (x.ownsRow W.heap.size 56 2 (.slice (some ⟨g12, 0, none⟩) (1 + q.lits.length) c12) (1 + q.lits.length) (Li.cells l ++ q.lits.flatMap Li.cells)) → Box x b13 #[.int .i64 0, .slice none 0 0, .slice none 0 0] 32 → W.heap.size ≤ b13 → Q .normal { tmps := (u0 :: u1 :: u2 :: u3 :: u4 :: (.pointer (some ⟨ga, 0, none⟩)) :: u6 :: u7 :: u8 :: u9 :: u10 :: u11 :: u12 :: u13 :: u14 :: u15 :: u16 :: u17 :: u18 :: u19 :: u20 :: u21 :: u22 :: .pointer (some ⟨b13, 0, none⟩) :: u24 :: u25 :: u26 :: u27 :: u28 :: u29 :: u30 :: u31 :: u32 :: u33 :: u34 :: u35 :: u36 :: u37 :: u38 :: u39 :: u40 :: u41 :: u42 :: u43 :: u44 :: u45 :: u46 :: u47 :: u48 :: u49 :: u50 :: u51 :: u52 :: u53 :: u54 :: u55 :: u56 :: u57 :: u58 :: u59 :: u60 :: u61 :: u62 :: u63 :: u64 :: u65 :: u66 :: u67 :: u68 :: u69 :: u70 :: u71 :: u72 :: u73 :: u74 :: u75 :: u76 :: u77 :: u78 :: u79 :: u80 :: u81 :: u82 :: u83 :: u84 :: u85 :: u86 :: u87 :: u88 :: u89 :: u90 :: u91 :: u92 :: u93 :: u94 :: u95 :: u96 :: u97 :: u98 :: u99 :: u100 :: u101 :: u102 :: u103 :: u104 :: u105 :: u106 :: u107 :: u108 :: u109 :: u110 :: u111 :: u112 :: u113 :: u114 :: u115 :: u116 :: u117 :: u118 :: u119 :: u120 :: u121 :: u122 :: u123 :: u124 :: u125 :: u126 :: u127 :: u128 :: u129 :: u130 :: u131 :: u132 :: u133 :: u134 :: u135 :: u136 :: u137 :: u138 :: u139 :: u140 :: u141 :: u142 :: u143 :: u144 :: u145 :: u146 :: .pointer (some ⟨ga, 0, none⟩) :: .int .i64 (q.vars : Nat) :: .pointer (some ⟨ga, 2, none⟩) :: .slice q.head.h.ao q.head.l.length q.head.h.cap :: .pointer (some ⟨ga, 1, none⟩) :: .slice (some ⟨q.lh.b, q.lh.o, none⟩) q.lits.length q.lh.cap :: .pointer (some ⟨q.lh.b, q.lh.o, none⟩) :: .agg #[.int .i64 (l.tab : Nat), .slice l.sl.h.ao l.sl.l.length l.sl.h.cap] :: .slice (some ⟨b8, 0, none⟩) 1 1 :: .pointer (some ⟨ga, 1, none⟩) :: .slice (some ⟨q.lh.b, q.lh.o, none⟩) q.lits.length q.lh.cap :: .slice (some ⟨g11, 0, none⟩) (1 + q.lits.length) c11 :: .agg #[.int .i64 (q.vars : Nat), .slice (some ⟨g12, 0, none⟩) (1 + q.lits.length) c12, .slice q.head.h.ao q.head.l.length q.head.h.cap] :: u160 :: u161 :: u162 :: u163 :: u164 :: u165 :: u166 :: u167 :: u168 :: u169 :: u170 :: u171 :: u172 :: u173 :: u174 :: u175 :: u176 :: u177 :: u178 :: u179 :: u180 :: u181 :: u182 :: u183 :: u184 :: u185 :: u186 :: u187 :: u188 :: u189 :: []).toArray, defers := [] } (((x.setCell ⟨b13, 0, none⟩ (.int .i64 (q.vars : Nat))).setCell ⟨b13, 1, none⟩ (.slice (some ⟨g12, 0, none⟩) (1 + q.lits.length) c12)).setCell ⟨b13, 2, none⟩ (.slice q.head.h.ao q.head.l.length q.head.h.cap))) : Code.wp Tryz.prog c Q { tmps := (u0 :: u1 :: u2 :: u3 :: u4 :: (.pointer (some ⟨ga, 0, none⟩)) :: u6 :: u7 :: u8 :: u9 :: u10 :: u11 :: u12 :: u13 :: u14 :: u15 :: u16 :: u17 :: u18 :: u19 :: u20 :: u21 :: u22 :: u23 :: u24 :: u25 :: u26 :: u27 :: u28 :: u29 :: u30 :: u31 :: u32 :: u33 :: u34 :: u35 :: u36 :: u37 :: u38 :: u39 :: u40 :: u41 :: u42 :: u43 :: u44 :: u45 :: u46 :: u47 :: u48 :: u49 :: u50 :: u51 :: u52 :: u53 :: u54 :: u55 :: u56 :: u57 :: u58 :: u59 :: u60 :: u61 :: u62 :: u63 :: u64 :: u65 :: u66 :: u67 :: u68 :: u69 :: u70 :: u71 :: u72 :: u73 :: u74 :: u75 :: u76 :: u77 :: u78 :: u79 :: u80 :: u81 :: u82 :: u83 :: u84 :: u85 :: u86 :: u87 :: u88 :: u89 :: u90 :: u91 :: u92 :: u93 :: u94 :: u95 :: u96 :: u97 :: u98 :: u99 :: u100 :: u101 :: u102 :: u103 :: u104 :: u105 :: u106 :: u107 :: u108 :: u109 :: u110 :: u111 :: u112 :: u113 :: u114 :: u115 :: u116 :: u117 :: u118 :: u119 :: u120 :: u121 :: u122 :: u123 :: u124 :: u125 :: u126 :: u127 :: u128 :: u129 :: u130 :: u131 :: u132 :: u133 :: u134 :: u135 :: u136 :: u137 :: u138 :: u139 :: u140 :: u141 :: u142 :: u143 :: u144 :: u145 :: u146 :: u147 :: u148 :: u149 :: u150 :: u151 :: u152 :: u153 :: u154 :: u155 :: u156 :: u157 :: u158 :: u159 :: u160 :: u161 :: u162 :: u163 :: u164 :: u165 :: u166 :: u167 :: u168 :: u169 :: u170 :: u171 :: u172 :: u173 :: u174 :: u175 :: u176 :: u177 :: u178 :: u179 :: u180 :: u181 :: u182 :: u183 :: u184 :: u185 :: u186 :: u187 :: u188 :: u189 :: []).toArray, defers := [] } W := by
  subst hc
  conv => enter [2]; whnf
  refine wp_region_tail (by kernel_rfl) (by kernel_rfl) 14 (by show 14 < _; decide) (by kernel_rfl) (by kernel_rfl) (fun s : Nat → Value => ({ tmps := (u0 :: u1 :: u2 :: u3 :: u4 :: (.pointer (some ⟨ga, 0, none⟩)) :: u6 :: u7 :: u8 :: u9 :: u10 :: u11 :: u12 :: u13 :: u14 :: u15 :: u16 :: u17 :: u18 :: u19 :: u20 :: u21 :: u22 :: s 23 :: u24 :: u25 :: u26 :: u27 :: u28 :: u29 :: u30 :: u31 :: u32 :: u33 :: u34 :: u35 :: u36 :: u37 :: u38 :: u39 :: u40 :: u41 :: u42 :: u43 :: u44 :: u45 :: u46 :: u47 :: u48 :: u49 :: u50 :: u51 :: u52 :: u53 :: u54 :: u55 :: u56 :: u57 :: u58 :: u59 :: u60 :: u61 :: u62 :: u63 :: u64 :: u65 :: u66 :: u67 :: u68 :: u69 :: u70 :: u71 :: u72 :: u73 :: u74 :: u75 :: u76 :: u77 :: u78 :: u79 :: u80 :: u81 :: u82 :: u83 :: u84 :: u85 :: u86 :: u87 :: u88 :: u89 :: u90 :: u91 :: u92 :: u93 :: u94 :: u95 :: u96 :: u97 :: u98 :: u99 :: u100 :: u101 :: u102 :: u103 :: u104 :: u105 :: u106 :: u107 :: u108 :: u109 :: u110 :: u111 :: u112 :: u113 :: u114 :: u115 :: u116 :: u117 :: u118 :: u119 :: u120 :: u121 :: u122 :: u123 :: u124 :: u125 :: u126 :: u127 :: u128 :: u129 :: u130 :: u131 :: u132 :: u133 :: u134 :: u135 :: u136 :: u137 :: u138 :: u139 :: u140 :: u141 :: u142 :: u143 :: u144 :: u145 :: u146 :: s 147 :: s 148 :: s 149 :: s 150 :: s 151 :: s 152 :: s 153 :: s 154 :: s 155 :: s 156 :: s 157 :: s 158 :: s 159 :: u160 :: u161 :: u162 :: u163 :: u164 :: u165 :: u166 :: u167 :: u168 :: u169 :: u170 :: u171 :: u172 :: u173 :: u174 :: u175 :: u176 :: u177 :: u178 :: u179 :: u180 :: u181 :: u182 :: u183 :: u184 :: u185 :: u186 :: u187 :: u188 :: u189 :: []).toArray, defers := [] } : Act)) (fun k => if k = 147 then u147 else if k = 148 then u148 else if k = 149 then u149 else if k = 150 then u150 else if k = 151 then u151 else if k = 152 then u152 else if k = 153 then u153 else if k = 154 then u154 else if k = 155 then u155 else if k = 156 then u156 else if k = 157 then u157 else if k = 158 then u158 else if k = 159 then u159 else if k = 23 then u23 else undef) rfl (fun i v x => (i = 8 → ∃ b8, v = .slice (some ⟨b8, 0, none⟩) 1 1 ∧ Box x b8 (Li.cells l).toArray 56) ∧ (i = 11 → ∃ g11 c11, v = .slice (some ⟨g11, 0, none⟩) (1 + q.lits.length) c11 ∧ (x.ownsRow W.heap.size 56 2 (.slice (some ⟨g11, 0, none⟩) (1 + q.lits.length) c11) (1 + q.lits.length) (Li.cells l ++ q.lits.flatMap Li.cells))) ∧ (i = 12 → ∃ g12 c12, v = .agg #[.int .i64 (q.vars : Nat), .slice (some ⟨g12, 0, none⟩) (1 + q.lits.length) c12, .slice q.head.h.ao q.head.l.length q.head.h.cap] ∧ (x.ownsRow W.heap.size 56 2 (.slice (some ⟨g12, 0, none⟩) (1 + q.lits.length) c12) (1 + q.lits.length) (Li.cells l ++ q.lits.flatMap Li.cells))) ∧ (i = 13 → ∃ b, v = .pointer (some ⟨b, 0, none⟩) ∧ Box x b #[.int .i64 0, .slice none 0 0, .slice none 0 0] 32 ∧ W.heap.size ≤ b) ∧ (i ≠ 8 → i ≠ 11 → i ≠ 12 → i ≠ 13 → ([.pointer (some ⟨ga, 0, none⟩), .int .i64 (q.vars : Nat), .pointer (some ⟨ga, 2, none⟩), .slice q.head.h.ao q.head.l.length q.head.h.cap, .pointer (some ⟨ga, 1, none⟩), .slice (some ⟨q.lh.b, q.lh.o, none⟩) q.lits.length q.lh.cap, .pointer (some ⟨q.lh.b, q.lh.o, none⟩), .agg #[.int .i64 (l.tab : Nat), .slice l.sl.h.ao l.sl.l.length l.sl.h.cap], undef, .pointer (some ⟨ga, 1, none⟩), .slice (some ⟨q.lh.b, q.lh.o, none⟩) q.lits.length q.lh.cap, undef, undef, undef] : List Value)[i]? = some v)) (fun i v x y h hb => ⟨fun hi => (by obtain ⟨b8, h0, q0⟩ := h.1 hi; exact ⟨b8, h0, q0.below hb⟩), fun hi => (by obtain ⟨g11, c11, h0, q0⟩ := h.2.1 hi; exact ⟨g11, c11, h0, q0.kept (only_below hb none) (Classical.em _)⟩), fun hi => (by obtain ⟨g12, c12, h0, q0⟩ := h.2.2.1 hi; exact ⟨g12, c12, h0, q0.kept (only_below hb none) (Classical.em _)⟩), fun hi => (by obtain ⟨b, h1, h2, h3⟩ := h.2.2.2.1 hi; exact ⟨b, h1, h2.below hb, h3⟩), h.2.2.2.2⟩) (fun i => ([147, 148, 149, 150, 151, 152, 153, 154, 155, 156, 157, 158, 159, 23] : List Nat).getD i 0) ?inj ?step ?last
  case inj =>
    intro i j hi hj h
    have hI : i = 0 ∨ i = 1 ∨ i = 2 ∨ i = 3 ∨ i = 4 ∨ i = 5 ∨ i = 6 ∨ i = 7 ∨ i = 8 ∨ i = 9 ∨ i = 10 ∨ i = 11 ∨ i = 12 ∨ i = 13 := by omega
    have hJ : j = 0 ∨ j = 1 ∨ j = 2 ∨ j = 3 ∨ j = 4 ∨ j = 5 ∨ j = 6 ∨ j = 7 ∨ j = 8 ∨ j = 9 ∨ j = 10 ∨ j = 11 ∨ j = 12 ∨ j = 13 := by omega
    rcases hI with rfl | rfl | rfl | rfl | rfl | rfl | rfl | rfl | rfl | rfl | rfl | rfl | rfl | rfl <;> rcases hJ with rfl | rfl | rfl | rfl | rfl | rfl | rfl | rfl | rfl | rfl | rfl | rfl | rfl | rfl <;> first | rfl | (exact absurd h (by decide))
  case last =>
    intro s x hv hb
    have HB := hide hb
    clear hb
    have z0 : s 147 = .pointer (some ⟨ga, 0, none⟩) := by have h := (hv 0 (by decide)).2.2.2.2 (by decide) (by decide) (by decide) (by decide); injection h with h; exact h.symm
    have z1 : s 148 = .int .i64 (q.vars : Nat) := by have h := (hv 1 (by decide)).2.2.2.2 (by decide) (by decide) (by decide) (by decide); injection h with h; exact h.symm
    have z2 : s 149 = .pointer (some ⟨ga, 2, none⟩) := by have h := (hv 2 (by decide)).2.2.2.2 (by decide) (by decide) (by decide) (by decide); injection h with h; exact h.symm
    have z3 : s 150 = .slice q.head.h.ao q.head.l.length q.head.h.cap := by have h := (hv 3 (by decide)).2.2.2.2 (by decide) (by decide) (by decide) (by decide); injection h with h; exact h.symm
    have z4 : s 151 = .pointer (some ⟨ga, 1, none⟩) := by have h := (hv 4 (by decide)).2.2.2.2 (by decide) (by decide) (by decide) (by decide); injection h with h; exact h.symm
    have z5 : s 152 = .slice (some ⟨q.lh.b, q.lh.o, none⟩) q.lits.length q.lh.cap := by have h := (hv 5 (by decide)).2.2.2.2 (by decide) (by decide) (by decide) (by decide); injection h with h; exact h.symm
    have z6 : s 153 = .pointer (some ⟨q.lh.b, q.lh.o, none⟩) := by have h := (hv 6 (by decide)).2.2.2.2 (by decide) (by decide) (by decide) (by decide); injection h with h; exact h.symm
    have z7 : s 154 = .agg #[.int .i64 (l.tab : Nat), .slice l.sl.h.ao l.sl.l.length l.sl.h.cap] := by have h := (hv 7 (by decide)).2.2.2.2 (by decide) (by decide) (by decide) (by decide); injection h with h; exact h.symm
    obtain ⟨b8, hz8, hg8_0⟩ := (hv 8 (by decide)).1 rfl
    have z8 : s 155 = .slice (some ⟨b8, 0, none⟩) 1 1 := hz8
    clear hz8
    have z9 : s 156 = .pointer (some ⟨ga, 1, none⟩) := by have h := (hv 9 (by decide)).2.2.2.2 (by decide) (by decide) (by decide) (by decide); injection h with h; exact h.symm
    have z10 : s 157 = .slice (some ⟨q.lh.b, q.lh.o, none⟩) q.lits.length q.lh.cap := by have h := (hv 10 (by decide)).2.2.2.2 (by decide) (by decide) (by decide) (by decide); injection h with h; exact h.symm
    obtain ⟨g11, c11, hz11, hg11_0⟩ := (hv 11 (by decide)).2.1 rfl
    have z11 : s 158 = .slice (some ⟨g11, 0, none⟩) (1 + q.lits.length) c11 := hz11
    clear hz11
    obtain ⟨g12, c12, hz12, hg12_0⟩ := (hv 12 (by decide)).2.2.1 rfl
    have z12 : s 159 = .agg #[.int .i64 (q.vars : Nat), .slice (some ⟨g12, 0, none⟩) (1 + q.lits.length) c12, .slice q.head.h.ao q.head.l.length q.head.h.cap] := hz12
    clear hz12
    obtain ⟨b13, hz13, hx13, hg13⟩ := (hv 13 (by decide)).2.2.2.1 rfl
    have z13 : s 23 = .pointer (some ⟨b13, 0, none⟩) := hz13
    clear hz13
    clear hv
    have o0 := hx13.cell (j := 0) rfl
    have o1 := hx13.cell (j := 1) rfl
    have o2 := hx13.cell (j := 2) rfl
    have f0 := hx13.fr 0
    have f1 := hx13.fr 1
    have f2 := hx13.fr 2
    have HBX := hide hx13
    have HOW := hide hg12_0
    clear hx13 hg12_0 hg11_0 hg8_0
    show Oper.wp _ _ _ _ _ _
    refine opwp_K (fun K2 hK2 => ?_)
    go_simp
    refine hK2 _ _ ?_
    show Q _ _ _
    have h := hend b8 g11 c11 g12 c12 b13 x HB.out HOW.out HBX.out hg13
    first | exact h | (simp only [z0, z1, z2, z3, z4, z5, z6, z7, z8, z9, z10, z11, z12, z13]; exact h)
  case step =>
    intro i o s x hin ho he hb
    have HB := hide hb
    clear hb
    have hcase : i = 0 ∨ i = 1 ∨ i = 2 ∨ i = 3 ∨ i = 4 ∨ i = 5 ∨ i = 6 ∨ i = 7 ∨ i = 8 ∨ i = 9 ∨ i = 10 ∨ i = 11 ∨ i = 12 ∨ i = 13 := by omega
    rcases hcase with rfl | rfl | rfl | rfl | rfl | rfl | rfl | rfl | rfl | rfl | rfl | rfl | rfl | rfl
    · injection ho with ho
      subst ho
      clear he
      refine opwp_K (fun K2 hK2 => ?_)
      go_simp
      exact hK2 _ _ ⟨(.pointer (some ⟨ga, 0, none⟩)), (by first | rfl | (simp [List.getD]; done)), Below.refl _ _, ⟨fun h => absurd h (by decide), fun h => absurd h (by decide), fun h => absurd h (by decide), fun h => absurd h (by decide), fun _ _ _ _ => rfl⟩⟩
    · injection ho with ho
      subst ho
      have z0 : s 147 = .pointer (some ⟨ga, 0, none⟩) := by have h := (he ⟨0, .data⟩ (by simp) rfl).2.2.2.2 (by decide) (by decide) (by decide) (by decide); injection h with h; exact h.symm
      clear he
      have hbe := HQB.out.below HB.out
      have k0 := hbe.cell (j := 0) rfl
      clear hbe
      refine opwp_K (fun K2 hK2 => ?_)
      go_simp
      exact hK2 _ _ ⟨(.int .i64 (q.vars : Nat)), (by first | rfl | (simp [z0]; done)), Below.refl _ _, ⟨fun h => absurd h (by decide), fun h => absurd h (by decide), fun h => absurd h (by decide), fun h => absurd h (by decide), fun _ _ _ _ => rfl⟩⟩
    · injection ho with ho
      subst ho
      clear he
      refine opwp_K (fun K2 hK2 => ?_)
      go_simp
      exact hK2 _ _ ⟨(.pointer (some ⟨ga, 2, none⟩)), (by first | rfl | (simp [List.getD]; done)), Below.refl _ _, ⟨fun h => absurd h (by decide), fun h => absurd h (by decide), fun h => absurd h (by decide), fun h => absurd h (by decide), fun _ _ _ _ => rfl⟩⟩
    · injection ho with ho
      subst ho
      have z2 : s 149 = .pointer (some ⟨ga, 2, none⟩) := by have h := (he ⟨2, .data⟩ (by simp) rfl).2.2.2.2 (by decide) (by decide) (by decide) (by decide); injection h with h; exact h.symm
      clear he
      have hbe := HQB.out.below HB.out
      have k2 := hbe.cell (j := 2) rfl
      clear hbe
      refine opwp_K (fun K2 hK2 => ?_)
      go_simp
      exact hK2 _ _ ⟨(.slice q.head.h.ao q.head.l.length q.head.h.cap), (by first | rfl | (simp [z2]; done)), Below.refl _ _, ⟨fun h => absurd h (by decide), fun h => absurd h (by decide), fun h => absurd h (by decide), fun h => absurd h (by decide), fun _ _ _ _ => rfl⟩⟩
    · injection ho with ho
      subst ho
      clear he
      refine opwp_K (fun K2 hK2 => ?_)
      go_simp
      exact hK2 _ _ ⟨(.pointer (some ⟨ga, 1, none⟩)), (by first | rfl | (simp [List.getD]; done)), Below.refl _ _, ⟨fun h => absurd h (by decide), fun h => absurd h (by decide), fun h => absurd h (by decide), fun h => absurd h (by decide), fun _ _ _ _ => rfl⟩⟩
    · injection ho with ho
      subst ho
      have z4 : s 151 = .pointer (some ⟨ga, 1, none⟩) := by have h := (he ⟨4, .data⟩ (by simp) rfl).2.2.2.2 (by decide) (by decide) (by decide) (by decide); injection h with h; exact h.symm
      clear he
      have hbe := HQB.out.below HB.out
      have k1 := hbe.cell (j := 1) rfl
      clear hbe
      rw [HAO.out] at k1
      refine opwp_K (fun K2 hK2 => ?_)
      go_simp
      exact hK2 _ _ ⟨(.slice (some ⟨q.lh.b, q.lh.o, none⟩) q.lits.length q.lh.cap), (by first | rfl | (simp [z4]; done)), Below.refl _ _, ⟨fun h => absurd h (by decide), fun h => absurd h (by decide), fun h => absurd h (by decide), fun h => absurd h (by decide), fun _ _ _ _ => rfl⟩⟩
    · injection ho with ho
      subst ho
      have z5 : s 152 = .slice (some ⟨q.lh.b, q.lh.o, none⟩) q.lits.length q.lh.cap := by have h := (he ⟨5, .data⟩ (by simp) rfl).2.2.2.2 (by decide) (by decide) (by decide) (by decide); injection h with h; exact h.symm
      clear he
      have hixl := (HQI.out.mono HB.out).row.ix HLN.out.1 Tryz.underlying29 szlit
      simp only [Nat.zero_mul, Nat.add_zero, Int.natCast_zero, HAO.out] at hixl
      refine opwp_K (fun K2 hK2 => ?_)
      go_simp
      exact hK2 _ _ ⟨(.pointer (some ⟨q.lh.b, q.lh.o, none⟩)), (by first | rfl | (simp [z5]; done)), Below.refl _ _, ⟨fun h => absurd h (by decide), fun h => absurd h (by decide), fun h => absurd h (by decide), fun h => absurd h (by decide), fun _ _ _ _ => rfl⟩⟩
    · injection ho with ho
      subst ho
      have z6 : s 153 = .pointer (some ⟨q.lh.b, q.lh.o, none⟩) := by have h := (he ⟨6, .data⟩ (by simp) rfl).2.2.2.2 (by decide) (by decide) (by decide) (by decide); injection h with h; exact h.symm
      clear he
      obtain ⟨c0, c1⟩ := li_at (HQI.out.mono HB.out).row HLN.out.1
      rw [HL.out] at c0 c1
      simp only [Nat.zero_mul, Nat.add_zero] at c0 c1
      refine opwp_K (fun K2 hK2 => ?_)
      go_simp
      exact hK2 _ _ ⟨(.agg #[.int .i64 (l.tab : Nat), .slice l.sl.h.ao l.sl.l.length l.sl.h.cap]), (by first | rfl | (simp [z6]; done)), Below.refl _ _, ⟨fun h => absurd h (by decide), fun h => absurd h (by decide), fun h => absurd h (by decide), fun h => absurd h (by decide), fun _ _ _ _ => rfl⟩⟩
    · injection ho with ho
      subst ho
      have z7 : s 154 = .agg #[.int .i64 (l.tab : Nat), .slice l.sl.h.ao l.sl.l.length l.sl.h.cap] := by have h := (he ⟨7, .data⟩ (by simp) rfl).2.2.2.2 (by decide) (by decide) (by decide) (by decide); injection h with h; exact h.symm
      clear he
      refine opwp_K (fun K2 hK2 => ?_)
      go_simp
      exact hK2 _ _ ⟨_, (by first | rfl | (simp [z7]; done)), belA _, ⟨fun _ => ⟨_, rfl, Box.new _ _ _⟩, fun h => absurd h (by decide), fun h => absurd h (by decide), fun h => absurd h (by decide), fun h _ _ _ => absurd rfl h⟩⟩
    · injection ho with ho
      subst ho
      clear he
      refine opwp_K (fun K2 hK2 => ?_)
      go_simp
      exact hK2 _ _ ⟨(.pointer (some ⟨ga, 1, none⟩)), (by first | rfl | (simp [List.getD]; done)), Below.refl _ _, ⟨fun h => absurd h (by decide), fun h => absurd h (by decide), fun h => absurd h (by decide), fun h => absurd h (by decide), fun _ _ _ _ => rfl⟩⟩
    · injection ho with ho
      subst ho
      have z9 : s 156 = .pointer (some ⟨ga, 1, none⟩) := by have h := (he ⟨9, .data⟩ (by simp) rfl).2.2.2.2 (by decide) (by decide) (by decide) (by decide); injection h with h; exact h.symm
      clear he
      have hbe := HQB.out.below HB.out
      have k1 := hbe.cell (j := 1) rfl
      clear hbe
      rw [HAO.out] at k1
      refine opwp_K (fun K2 hK2 => ?_)
      go_simp
      exact hK2 _ _ ⟨(.slice (some ⟨q.lh.b, q.lh.o, none⟩) q.lits.length q.lh.cap), (by first | rfl | (simp [z9]; done)), Below.refl _ _, ⟨fun h => absurd h (by decide), fun h => absurd h (by decide), fun h => absurd h (by decide), fun h => absurd h (by decide), fun _ _ _ _ => rfl⟩⟩
    · injection ho with ho
      subst ho
      obtain ⟨b8, hz8, hg8_0⟩ := (he ⟨8, .data⟩ (by simp) rfl).1 rfl
      have z8 : s 155 = .slice (some ⟨b8, 0, none⟩) 1 1 := hz8
      clear hz8
      have z10 : s 157 = .slice (some ⟨q.lh.b, q.lh.o, none⟩) q.lits.length q.lh.cap := by have h := (he ⟨10, .data⟩ (by simp) rfl).2.2.2.2 (by decide) (by decide) (by decide) (by decide); injection h with h; exact h.symm
      clear he
      obtain ⟨i0, hi, hz0, hz1, hz2⟩ := info_parts info_li2
      refine wp_append_grows1 x _ _ 29 rfl 56 i0 (.agg #[.int .i64 0, .slice none 0 0]) 2 32 Tryz.underlying29 hi hz0 hz1 hz2 rfl (by decide) ⟨b8, 0, none⟩ 1 (Li.cells l) (by show s 155 = _; exact z8) rfl (box_cells3 hg8_0) ⟨q.lh.b, q.lh.o, none⟩ q.lits.length q.lh.cap (q.lits.flatMap Li.cells) (by show s 157 = _; exact z10) (flatMap_len (cells := Li.cells) (fun _ => rfl) _) (row_news (fun _ => rfl) (by decide) (HQI.out.mono HB.out).row) HLN.out.1 (by have := HLN.out.2; unfold maxLen; omega) (by have := HLN.out.2; omega) ?_
      intro v2 y hown hgr
      have hv : ∃ g c, v2 = .slice (some ⟨g, 0, none⟩) (1 + q.lits.length) c := by rw [Nat.add_comm] at hown ⊢; obtain ⟨g, c, h⟩ := ownsRow_succ hown; exact ⟨g, c, h⟩
      obtain ⟨g, c, rfl⟩ := hv
      exact ⟨_, rfl, grown_below hgr, ⟨fun h => absurd h (by decide), fun _ => ⟨g, c, rfl, own_base hown HB.out.size⟩, fun h => absurd h (by decide), fun h => absurd h (by decide), fun _ h _ _ => absurd rfl h⟩⟩
    · injection ho with ho
      subst ho
      have z1 : s 148 = .int .i64 (q.vars : Nat) := by have h := (he ⟨1, .data⟩ (by simp) rfl).2.2.2.2 (by decide) (by decide) (by decide) (by decide); injection h with h; exact h.symm
      have z3 : s 150 = .slice q.head.h.ao q.head.l.length q.head.h.cap := by have h := (he ⟨3, .data⟩ (by simp) rfl).2.2.2.2 (by decide) (by decide) (by decide) (by decide); injection h with h; exact h.symm
      obtain ⟨g11, c11, hz11, hg11_0⟩ := (he ⟨11, .data⟩ (by simp) rfl).2.1 rfl
      have z11 : s 158 = .slice (some ⟨g11, 0, none⟩) (1 + q.lits.length) c11 := hz11
      clear hz11
      clear he
      refine opwp_K (fun K2 hK2 => ?_)
      go_simp
      exact hK2 _ _ ⟨_, (by first | rfl | (simp [z1, z3, z11]; done)), Below.refl _ _, ⟨fun h => absurd h (by decide), fun h => absurd h (by decide), fun _ => ⟨g11, c11, rfl, hg11_0⟩, fun h => absurd h (by decide), fun _ _ h _ => absurd rfl h⟩⟩
    · injection ho with ho
      subst ho
      clear he
      refine opwp_K (fun K2 hK2 => ?_)
      go_simp
      exact hK2 _ _ ⟨_, (by first | rfl | (simp [List.getD]; done)), belA _, ⟨fun h => absurd h (by decide), fun h => absurd h (by decide), fun h => absurd h (by decide), fun _ => ⟨_, rfl, Box.new _ _ _, HB.out.size⟩, fun _ _ _ h => absurd rfl h⟩⟩
end Go.Proofs.YtiijaaohphokcaaGreatDoor

/- querylabfield.SameRows of equal rows. -/
namespace Go.Proofs.YtiijaaohphokcaaGreatDoor
open Go.RowKit
theorem rows_len {x y : RL} (h : x.rows = y.rows) : x.l.length = y.l.length := by
  have := congrArg List.length h
  unfold RL.rows at this
  rwa [List.length_map, List.length_map] at this
theorem rows_at {x y : RL} (h : x.rows = y.rows) {k : Nat} (hx : k < x.l.length) (hy : k < y.l.length) : (x.l[k]).l = (y.l[k]).l := by
  have h1 : x.rows[k]? = some (x.l[k]).l := by unfold RL.rows; rw [List.getElem?_map, List.getElem?_eq_getElem hx]; rfl
  have h2 : y.rows[k]? = some (y.l[k]).l := by unfold RL.rows; rw [List.getElem?_map, List.getElem?_eq_getElem hy]; rfl
  rw [h, h2] at h1
  injection h1 with h1
  exact h1.symm
set_option maxRecDepth 100000 in
set_option maxHeartbeats 8000000 in
theorem srows_yes (x y : RL) (w : World) (hx : x.In w) (hy : y.In w) (h : x.rows = y.rows) : Calls Tryz.prog 23 #[.slice x.h.ao x.l.length x.h.cap, .slice y.h.ao y.l.length y.h.cap] w fun e w' => e = .returned (.bool true) ∧ Below w.heap.size w w' := by
  have HX := hide hx
  have HY := hide hy
  have HE := hide h
  have hxn := hx.1.len
  have hl := rows_len h
  have hb : ((x.l.length : Int) != (y.l.length : Int)) = false := by rw [hl]; exact bne_self_eq_false _
  have HL := hide hl
  clear hx hy h hl
  go_enter Tryz.func23, Tryz.ntmps23
  go_wp2
  go_loopw [14] (fun i wr => ∃ k : Nat, k ≤ x.l.length ∧ i = .int .i64 k ∧ Hid (Below w.heap.size w wr)) (fun i _ => x.l.length - (intOf i).toNat)
  case atStart => exact ⟨0, Nat.zero_le _, rfl, hide (Below.refl _ _)⟩
  case round =>
  obtain ⟨k, hk, rfl, HB⟩ := hrel
  by_cases hlt : k < x.l.length
  · have hly : k < y.l.length := by rw [← HL.out]; exact hlt
    have hxr := (HX.out.mono HB.out).1
    have hyr := (HY.out.mono HB.out).1
    have hixx := hxr.ix hlt Tryz.underlying49 szrv
    have hixy := hyr.ix hly Tryz.underlying49 szrv
    have HXC := hide (fun W (hW : Below w.heap.size w W) => And.intro ((HX.out.mono hW).1.blk hlt) (vl_at (HX.out.mono hW).1 hlt))
    have HYC := hide (fun W (hW : Below w.heap.size w W) => And.intro ((HY.out.mono hW).1.blk hly) (vl_at (HY.out.mono hW).1 hly))
    have x0 := vl_at hxr hlt
    have y0 := vl_at hyr hly
    have HBX := hide (hxr.blk hlt)
    have HBY := hide (hyr.blk hly)
    obtain ⟨r, hr⟩ : ∃ r, x.l[k] = r := ⟨_, rfl⟩
    obtain ⟨s, hs⟩ : ∃ s, y.l[k] = s := ⟨_, rfl⟩
    have hrs := rows_at HE.out hlt hly
    have HRI := hide (show r.In w from hr ▸ HX.out.2 _ (List.getElem_mem hlt))
    have HSI := hide (show s.In w from hs ▸ HY.out.2 _ (List.getElem_mem hly))
    rw [hr] at HXC
    rw [hs] at HYC
    rw [hr, hs] at hrs
    rw [← hrs] at HYC
    rw [hr] at x0
    rw [hs] at y0
    rw [← hrs] at y0
    have hrn := HRI.out.1.len
    have HRS := hide hrs
    have hlti : (k : Int) < x.l.length := by omega
    have hxb := HBX.out
    have hyb := HBY.out
    clear hr hs hrs hxr hyr
    go_wp2
    go_quiet (fail)
    generalize hW1 : wr.drewN nq = W1
    have HQ1 := hide (show Below wr.heap.size wr W1 from by rw [← hW1]; exact below_drewN (Below.refl _ _) _)
    have x1 : W1.cell? ⟨x.h.b, x.h.o + k, none⟩ = some (.slice r.h.ao r.l.length r.h.cap) := by rw [HQ1.out.cell (p := ⟨x.h.b, x.h.o + k, none⟩) hxb]; exact x0
    clear hW1 x0
    go_wp2
    clear x1
    go_loopw [33] (fun i wr => ∃ m : Nat, m ≤ r.l.length ∧ i = .int .i64 m ∧ Hid (Below w.heap.size w wr)) (fun i _ => r.l.length - (intOf i).toNat)
    case atStart => exact ⟨0, Nat.zero_le _, rfl, hide (bel_trans HB.out HQ1.out)⟩
    case round =>
    obtain ⟨m, hm, rfl, HB2⟩ := hrel
    by_cases hlm : m < r.l.length
    · have hms : m < s.l.length := by rw [← HRS.out]; exact hlm
      have hlmi : (m : Int) < r.l.length := by omega
      have hrr := (HRI.out.mono HB2.out).1
      have hsr := (HSI.out.mono HB2.out).1
      have hixr := hrr.ix hlm Tryz.underlying96 szv3
      have hixs := hsr.ix hms Tryz.underlying96 szv3
      rw [show s.l.length = r.l.length from by rw [HRS.out]] at hixs
      obtain ⟨c0, c1, c2⟩ := val_at hrr hlm
      obtain ⟨d0, d1, d2⟩ := val_at hsr hms
      have hbr := hrr.blk hlm
      have hbs := hsr.blk hms
      obtain ⟨bx, x0⟩ := HXC.out _ HB2.out
      obtain ⟨by', y0⟩ := HYC.out _ HB2.out
      obtain ⟨v, hv⟩ : ∃ v, r.l[m] = v := ⟨_, rfl⟩
      have hvs : s.l[m] = v := by
        have h1 : s.l[m]? = some v := by rw [← HRS.out, List.getElem?_eq_getElem hlm, hv]
        exact (List.getElem?_eq_some_iff.1 h1).2
      rw [hv] at c0 c1 c2
      rw [hvs] at d0 d1 d2
      obtain ⟨vk, vn, vt⟩ := v
      dsimp only at c0 c1 c2 d0 d1 d2
      clear hv hvs hrr hsr
      generalize r.h.o + m * 3 = pr at *
      generalize s.h.o + m * 3 = ps at *
      go_wp2
      go_quiet (fail)
      have HQ2 := hide (show Below w.heap.size w (wr.drewN nq) from below_drewN HB2.out _)
      go_wp2
      go_roundw
      case rel => exact ⟨m + 1, by omega, by go_num, HQ2⟩
      case measure => simp [intOf]; omega
    · go_wp2
      go_roundw
      case rel => exact ⟨k + 1, by omega, by go_num, HB2⟩
      case measure => simp [intOf]; omega
  · go_wp2
    go_ret
    exact ⟨rfl, HB.out⟩
end Go.Proofs.YtiijaaohphokcaaGreatDoor

/- law27.ConjunctiveBags: what is held on the way; what the law says of the rows. -/
namespace Go.Proofs.YtiijaaohphokcaaGreatDoor
open Go.RowKit
def QL (s : Sch) (w : World) (l : List (Nat × Cq)) (x : World) : Prop := ∀ p ∈ l, Box x p.1 (qcells p.2) 32 ∧ RightQ x (colT s) p.2 (w.heap.size + 1) ∧ w.heap.size < p.1
section
variable {w w2 x y : World} {L : IL} {s : Sch} {qb a a2 : Nat} {q r p : Cq} {l : List (Nat × Cq)}
theorem QL.below (h : QL s w l x) (hb : Below x.heap.size x y) : QL s w l y := fun p hp => ⟨(h p hp).1.below hb, (h p hp).2.1.mono hb, (h p hp).2.2⟩
theorem QL.turn (h : QL s w l x) (hg : x.grownBy y (some w.heap.size)) : QL s w l y := fun p hp => by
  obtain ⟨h1, h2, h3⟩ := h p hp
  exact ⟨h1.grown hg (by intro e; injection e with e; omega), h2.grown hg (by omega), h3⟩
theorem QL.add (h : QL s w l y) (hr : RightQ y (colT s) r (w.heap.size + 1)) (hw : w.heap.size < y.heap.size) : QL s w ((y.heap.size, r) :: l) (y.alloc (.cells (qcells r) 32)) := fun p hp => by
  rcases List.mem_cons.1 hp with rfl | hp
  · exact ⟨Box.new _ _ _, hr.mono (belA _), hw⟩
  · exact (h.below (belA _)) p hp
theorem QL.box1 {g : Nat} (h : QL s w ((g, r) :: l) x) : Box x g (qcells r) 32 := (h _ List.mem_cons_self).1
theorem QL.rq1 {g : Nat} (h : QL s w ((g, r) :: l) x) : RightQ x (colT s) r (w.heap.size + 1) := (h _ List.mem_cons_self).2.1
theorem QL.tl {g : Nat} (h : QL s w ((g, r) :: l) x) : QL s w l x := fun p hp => h p (List.mem_cons_of_mem _ hp)
theorem QL.nil : QL s w [] x := fun p hp => (by cases hp)
theorem LC.lt (h : LC w L s w2 qb a q x) : w.heap.size < x.heap.size := Nat.lt_trans h.lo h.bs.lt
theorem LC.fine (h : LC w L s w2 qb a q x) (hs : ∀ z, w2.grownBy z (some w.heap.size) → s.In z) (hp : PSch s) (hsh : w.ShapedOpen Tryz.prog) {r : Cq} {B : Nat} (rq : RightQ x (colT s) r B) : Fine x s r := fine_of (hs x h.gr) hp rq (ShX hsh h.bel)
theorem lc_contains (h : LC w L s w2 qb a q x) (hs : ∀ z, w2.grownBy z (some w.heap.size) → s.In z) (hp : PSch s) (hsh : w.ShapedOpen Tryz.prog) (rp : RightQ x (colT s) p (w.heap.size + 1)) (rr : RightQ x (colT s) r (w.heap.size + 1)) :
    Calls Tryz.prog 13 #[.agg #[.slice s.th.ao s.tabs.length s.th.cap], .agg #[.int .i64 (p.vars : Nat), .slice p.lh.ao p.lits.length p.lh.cap, .slice p.head.h.ao p.head.l.length p.head.h.cap], .agg #[.int .i64 (r.vars : Nat), .slice r.lh.ao r.lits.length r.lh.cap, .slice r.head.h.ao r.head.l.length r.head.h.cap]] x (ContPost p r x) := contains_any s _ p r _ _ x (h.fine hs hp hsh rp) (h.fine hs hp hsh rr) rp rr
theorem lc_alike (h : LC w L s w2 qb a q x) (hs : ∀ z, w2.grownBy z (some w.heap.size) → s.In z) (hp : PSch s) (hsh : w.ShapedOpen Tryz.prog) (rp : RightQ x (colT s) p (w.heap.size + 1)) (rr : RightQ x (colT s) r (w.heap.size + 1)) :
    Calls Tryz.prog 15 #[.agg #[.slice s.th.ao s.tabs.length s.th.cap], .agg #[.int .i64 (p.vars : Nat), .slice p.lh.ao p.lits.length p.lh.cap, .slice p.head.h.ao p.head.l.length p.head.h.cap], .agg #[.int .i64 (r.vars : Nat), .slice r.lh.ao r.lits.length r.lh.cap, .slice r.head.h.ao r.head.l.length r.head.h.cap]] x (AlikePost p r x) := alike_any s _ p r _ _ x (h.fine hs hp hsh rp) (h.fine hs hp hsh rr) rp rr
theorem rows_few {X : Ins} (hf : FitI (colT s) X 3) (hl : p.lits.length ≤ 6) : (p.cj.rows X.D nulV).length ≤ 1000 := by
  have h := evalL_len (hd := headL nulV p.cj.head) hf.D_len p.cj.lits (fun _ => none)
  have h2 : p.cj.lits.length ≤ 6 := by rw [show p.cj.lits.length = p.lits.length from List.length_map _]; exact hl
  have h3 : 3 ^ p.cj.lits.length ≤ 3 ^ 6 := Nat.pow_le_pow_right (by decide) h2
  exact Nat.le_trans h (Nat.le_trans h3 (by decide))
theorem lc_eval (h : LC w L s w2 qb a q x) (hs : ∀ z, w2.grownBy z (some w.heap.size) → s.In z) (hp : PSch s) (hsh : w.ShapedOpen Tryz.prog) (rp : RightQ x (colT s) p (w.heap.size + 1)) {X : Ins} (hx : X.In x) (hf : FitI (colT s) X 3) (hl : p.lits.length ≤ 6) :
    Calls Tryz.prog 19 #[.agg #[.slice s.th.ao s.tabs.length s.th.cap], .agg #[.slice X.h.ao X.l.length X.h.cap], .agg #[.int .i64 (p.vars : Nat), .slice p.lh.ao p.lits.length p.lh.cap, .slice p.head.h.ao p.head.l.length p.head.h.cap]] x (EvalPost p X x) :=
  eval_any s p X _ 3 x (h.fine hs hp hsh rp) rp (hs x h.gr) hp hx hf (by decide) (ShX hsh h.bel) (rows_few hf hl)
theorem RightQ.cov {T : List (List Int)} {B : Nat} (h : RightQ x T q B) : Cov q.cj := by
  obtain ⟨τ, h1⟩ := h.ri
  exact h1.cov
structure Rend (q p : Cq) : Prop where
  vars : q.vars = p.vars
  len : q.lits.length = p.lits.length
  emb : ∃ h, IsEmb h q.cj p.cj
  h1 : Hom q.cj p.cj
  h2 : Hom p.cj q.cj
theorem rend_of {T : List (List Int)} {B C : Nat} {names ord : List Nat} (rq : RightQ x T q B) (hp : p.In y C) (hc : p.cj = q.cj.ren names ord) (hv : p.vars = q.vars) (hn : names.Perm (List.range q.vars)) (ho : ord.Perm (List.range q.lits.length)) : RightQ y T p C ∧ Rend q p := by
  obtain ⟨τ, hr⟩ := rq.ri
  have e1 : q.cj.lits.length = q.lits.length := List.length_map _
  have e2 : p.cj.lits.length = p.lits.length := List.length_map _
  rw [← e1] at ho
  have he := ren_emb hn ho (fun x hx => hr.lt hx)
  have hb := ren_back hn ho (fun x hx => hr.lt hx) (fun x hx => hr.hd _ hx)
  refine ⟨⟨hp, ⟨_, by rw [hc, hv]; exact hr.ren hn ho⟩, rq.tl⟩, hv.symm, by rw [← e1, ← e2, hc, ren_len ho], ?_, ?_, ?_⟩
  · rw [hc]; exact ⟨_, he⟩
  · rw [hc]; exact he.hom
  · rw [hc]; exact hb.hom
def Srt (r : RL) : Prop := r.rows.Pairwise (fun a b => ¬ cmpR b a < 0)
theorem same_rows {T : List (List Int)} {B n : Nat} {X : Ins} {u v : RL} (rq : RightQ x T q B) (hf : FitI T X n) (he : ∃ h, IsEmb h q.cj p.cj) (hl : q.lits.length = p.lits.length)
    (hu : u.rows.Perm (q.cj.rows X.D nulV)) (hv : v.rows.Perm (p.cj.rows X.D nulV)) (su : Srt u) (sv : Srt v) : u.rows = v.rows := by
  obtain ⟨τ, hr⟩ := rq.ri
  obtain ⟨f, hf2⟩ := he
  have e1 : q.cj.lits.length = q.lits.length := List.length_map _
  have e2 : p.cj.lits.length = p.lits.length := List.length_map _
  exact sorted_eq isCmp_row ((hu.trans (rows_perm hf2 (by omega) hr.cov (hf.wide hr))).trans hv.symm) su sv
theorem Right.front {T : List (List Int)} {vars : Nat} {q : Cj V} {τ : Nat → Int} (h : Right T vars q τ) {l : Lt V} (hl : l ∈ q.lits) (h5 : q.lits.length ≤ 7) : Right T vars ⟨l :: q.lits, q.head⟩ τ := by
  refine ⟨Nat.succ_pos _, by show q.lits.length + 1 ≤ 8; omega, h.v16, h.h1, h.h24, fun l2 hl2 => ?_, fun n hn => ?_, h.hd⟩
  · rcases List.mem_cons.1 hl2 with rfl | hl2
    · exact h.lit l2 hl
    · exact h.lit l2 hl2
  · obtain ⟨l2, k1, k2⟩ := h.occ n hn
    exact ⟨l2, List.mem_cons_of_mem _ k1, k2⟩
abbrev twiceQ (q : Cq) (g c : Nat) (l : Li) : Cq := ⟨q.vars, ⟨some ⟨g, 0, none⟩, c⟩, l :: q.lits, q.head⟩
theorem twice_at {W x : World} {T : List (List Int)} {B g c b : Nat} {l : Li} (hb : Below W.heap.size W x) (rq : RightQ W T q B) (hB : B ≤ W.heap.size) (h7 : q.lits.length ≤ 7) (hl : l ∈ q.lits)
    (ho : x.ownsRow W.heap.size 56 2 (.slice (some ⟨g, 0, none⟩) (1 + q.lits.length) c) (1 + q.lits.length) (Li.cells l ++ q.lits.flatMap Li.cells)) (hx : Box x b #[.int .i64 0, .slice none 0 0, .slice none 0 0] 32) (hbb : W.heap.size ≤ b) {z : World}
    (hz : z = ((x.setCell ⟨b, 0, none⟩ (.int .i64 (q.vars : Nat))).setCell ⟨b, 1, none⟩ (.slice (some ⟨g, 0, none⟩) (1 + q.lits.length) c)).setCell ⟨b, 2, none⟩ (.slice q.head.h.ao q.head.l.length q.head.h.cap)) :
    Below W.heap.size W z ∧ Box z b (qcells (twiceQ q g c l)) 32 ∧ RightQ z T (twiceQ q g c l) B := by
  subst hz
  have hg := set3 x b (.int .i64 (q.vars : Nat)) (.slice (some ⟨g, 0, none⟩) (1 + q.lits.length) c) (.slice q.head.h.ao q.head.l.length q.head.h.cap)
  have hbx := ((hx.set 0 (.int .i64 (q.vars : Nat))).set 1 (.slice (some ⟨g, 0, none⟩) (1 + q.lits.length) c)).set 2 (.slice q.head.h.ao q.head.l.length q.head.h.cap)
  have hne := row_ne_box ho hx (by decide)
  have ho2 := ho.kept hg (.inr (fun e => hne (Option.some.inj e)))
  generalize ((x.setCell ⟨b, 0, none⟩ (.int .i64 (q.vars : Nat))).setCell ⟨b, 1, none⟩ (.slice (some ⟨g, 0, none⟩) (1 + q.lits.length) c)).setCell ⟨b, 2, none⟩ (.slice q.head.h.ao q.head.l.length q.head.h.cap) = z at *
  have hbz : Below W.heap.size W z := hb.grown hg hb.size (fun k hk => by injection hk with hk; omega)
  refine ⟨hbz, ?_, ?_⟩
  · simpa only [qcells, List.setIfInBounds_toArray, List.set_cons_zero, List.set_cons_succ, List.length_cons, Nat.add_comm] using hbx
  · have hq := rq.qi.mono hbz
    have hge : W.heap.size ≤ g := (ho.lt g rfl).1
    obtain ⟨τ, hr⟩ := rq.ri
    refine ⟨⟨own_row0 (cells := Li.cells) (xs := l :: q.lits) (fun _ => rfl) (by decide) (by rw [List.flatMap_cons]; exact ho2), fun _ => Nat.le_trans hB hge, fun m hm => ?_, fun m hm => ?_, hq.hd, hq.vr⟩, ⟨τ, ?_⟩, rq.tl⟩
    · rcases List.mem_cons.1 hm with rfl | hm
      · exact hq.sl m hl
      · exact hq.sl m hm
    · rcases List.mem_cons.1 hm with rfl | hm
      · exact hq.tb m hl
      · exact hq.tb m hm
    · exact hr.front (l := l.lt) (List.mem_map_of_mem hl) (by rw [show q.cj.lits.length = q.lits.length from List.length_map _]; exact h7)
theorem twice_hom {g c : Nat} {l : Li} (hl : l ∈ q.lits) : Hom (twiceQ q g c l).cj q.cj := Hom.sub rfl (fun m hm => by
  rcases List.mem_cons.1 hm with rfl | hm
  · exact List.mem_map_of_mem hl
  · exact hm)
structure IB (g : Nat) (X : Ins) (x : World) : Prop where
  box : Box x g #[.slice X.h.ao X.l.length X.h.cap] 46
  ins : X.In x
theorem IB.below {g : Nat} {X : Ins} (h : IB g X x) (hb : Below x.heap.size x y) : IB g X y := ⟨h.box.below hb, h.ins.mono hb⟩
end
end Go.Proofs.YtiijaaohphokcaaGreatDoor

/- 'in' as ref02 reckons it: the first comparison, then the others. -/
import Derived.Test.YtlkhiihehaiinaaDoorFREv0K
import Derived.Test.YtlkhiihehaiinaaDoorGF
import Derived.Test.YtlkhiihehaiinaaDoorFREv1K
import Derived.Test.YtlkhiihehaiinaaDoorFREv2K
import Derived.Test.YtlkhiihehaiinaaDoorFREv3K
import Derived.Test.YtlkhiihehaiinaaDoorFREv4K
import Derived.Test.YtlkhiihehaiinaaDoorFREv5K
import Derived.Test.YtlkhiihehaiinaaDoorGN
namespace Go.Proofs.YtlkhiihehaiinaaDoor
open Go.RowKit

theorem or_false_eq (a b : V) : orV (bV false) (eqV a b) = eqV a b := by
  unfold eqV
  split
  · rfl
  · cases sameB a b <;> rfl
def inG (a : V) (o : V) (l : List V) : V := l.foldl (fun o x => orV o (eqV a x)) o
theorem inV_cons (a b : V) (l : List V) : inV a (b :: l) = inG a (eqV a b) l := by
  unfold inV inG
  rw [List.foldl_cons, or_false_eq]
theorem inG_succ (a o : V) (l : List V) {k : Nat} (hk : k < l.length) : inG a o (l.take (k + 1)) = orV (inG a o (l.take k)) (eqV a l[k]) := by
  unfold inG
  rw [List.take_succ_eq_append_getElem hk, List.foldl_append]
  rfl
end Go.Proofs.YtlkhiihehaiinaaDoor

/- ref02.Eval: 'in'. -/
namespace Go.Proofs.YtlkhiihehaiinaaDoor
open Go.RowKit

noncomputable def rvBody : Code := Tryd.f11.body.getD .skip
/-- In the loop of 'in': the box that collects, the old blocks. -/
structure AK (y : World) (g : Nat) (o : V) (x : World) : Prop where
  bel : Below y.heap.size y x
  bo : Box x g #[.int .i64 o.kind, .int .i64 o.num, .string o.text] 24
  lt : y.heap.size ≤ g
theorem AK.call {w x y : World} {g : Nat} {o : V} (h : AK w g o x) (hb : Below x.heap.size x y) : AK w g o y := ⟨bel_trans h.bel (hb.mono (Nat.le_refl _)), h.bo.below hb, h.lt⟩
theorem AK.set {w x : World} {g : Nat} {o : V} (h : AK w g o x) (o' : V) : AK w g o' (((x.setCell ⟨g, 0, none⟩ (.int .i64 o'.kind)).setCell ⟨g, 1, none⟩ (.int .i64 o'.num)).setCell ⟨g, 2, none⟩ (.string o'.text)) :=
  ⟨h.bel.grown (set3 _ _ _ _ _) h.bel.size (fun k hk => by injection hk with hk; have := h.lt; omega), boxs3 h.bo _ _ _, h.lt⟩


set_option maxRecDepth 100000 in
set_option maxHeartbeats 4000000 in
theorem rv28_a {W : World} {q : VL} {a b : V} {p : Nat} (hbb : q.h.b < W.heap.size) (c0 : W.cell? ⟨q.h.b, q.h.o, none⟩ = some (.int .i64 a.kind)) (c1 : W.cell? ⟨q.h.b, q.h.o + 1, none⟩ = some (.int .i64 a.num)) (c2 : W.cell? ⟨q.h.b, q.h.o + 2, none⟩ = some (.string a.text)) (d0 : W.cell? ⟨q.h.b, p, none⟩ = some (.int .i64 b.kind)) (d1 : W.cell? ⟨q.h.b, p + 1, none⟩ = some (.int .i64 b.num)) (d2 : W.cell? ⟨q.h.b, p + 2, none⟩ = some (.string b.text)) (hix0 : ∀ U, (Instr.indexAt 28 (.slice q.h.ao q.l.length q.h.cap) (.int .i64 0)).run Tryd.prog U = .ok (.pointer (some ⟨q.h.b, q.h.o, none⟩)) U) (hix1 : ∀ U, (Instr.indexAt 28 (.slice q.h.ao q.l.length q.h.cap) (.int .i64 1)).run Tryd.prog U = .ok (.pointer (some ⟨q.h.b, p, none⟩)) U) {Q : Exit → Act → World → Prop} {c : Code} {u0 u1 u2 u3 u4 u6 u7 u8 u9 u10 u11 u12 u13 u14 u15 u16 u17 u18 u19 u20 u21 u22 u23 u24 u25 u26 u27 u28 u29 u30 u31 u32 u33 u34 u35 u36 u37 u38 u39 u40 u41 u42 u43 u44 u45 u46 u47 u48 u49 u50 u51 u52 u53 u54 u55 u56 u57 u58 u59 u60 u61 u62 u63 u64 u65 u66 u67 u68 u69 u70 u71 u72 u73 u74 u75 u76 u77 u78 u79 u80 u81 u82 u83 u84 u85 u86 u87 u88 u89 u90 u91 u92 u93 u94 u95 u96 u97 u98 u99 u100 u101 u102 u103 u104 u105 u106 u107 u108 u109 u110 u111 u112 u113 u114 u115 u116 u117 u118 u119 u120 u121 u122 u123 u124 u125 u126 u127 u128 u129 u130 u131 u132 u133 u134 u135 u136 u137 u138 u139 u140 u141 u142 u143 u144 u145 u146 u147 u148 u149 u150 u151 u152 u153 u154 u155 u156 u157 u158 u159 u160 u161 u162 u163 u164 u165 u166 u167 u168 u169 u170 u171 u172 u173 u174 u175 u176 u177 u178 u179 u180 u181 u182 u183 u184 u185 u186 u187 u188 u189 u190 u191 u192 u193 u194 u195 u196 u197 u198 u199 u200 u201 u202 u203 u204 u205 u206 u207 u208 u209 u210 u211 u212 u213 u214 u215 u216 u217 u218 u219 u220 u221 u222 u223 u224 u225 u226 u227 u228 u229 u230 u231 u232 u233 u234 u235 u236 u237 u238 u239 u240 u241 u242 u243 u244 u245 u246 u247 u248 u249 u250 u251 u252 u253 u254 u255 u256 u257 u258 u259 u260 u261 u262 u263 u264 u265 u266 u267 u268 u269 u270 : Value} (hc : c = codeIn [1, 1, 1, 1, 0, 1, 4, 1, 3, 1, 3, 1, 3, 1, 3, 1, 3, 1, 3, 1, 3, 1, 3, 1, 3, 1, 3, 1, 3, 1, 3, 1, 3, 1, 3, 1, 3, 1, 3, 1, 3, 1, 3, 1, 3, 1, 3, 1, 3, 1, 2, 0] rvBody) (hend : ∀ bb x, AK W bb (eqV a b) x → Q .normal { tmps := (u0 :: u1 :: u2 :: u3 :: u4 :: (.slice q.h.ao q.l.length q.h.cap) :: u6 :: .pointer (some ⟨bb, 0, none⟩) :: u8 :: u9 :: u10 :: u11 :: u12 :: u13 :: u14 :: u15 :: u16 :: u17 :: u18 :: u19 :: u20 :: u21 :: u22 :: u23 :: u24 :: u25 :: u26 :: u27 :: u28 :: u29 :: u30 :: u31 :: u32 :: u33 :: u34 :: u35 :: u36 :: u37 :: u38 :: u39 :: u40 :: u41 :: u42 :: u43 :: u44 :: u45 :: u46 :: u47 :: u48 :: u49 :: u50 :: u51 :: u52 :: u53 :: u54 :: u55 :: u56 :: u57 :: u58 :: u59 :: u60 :: u61 :: u62 :: u63 :: u64 :: u65 :: u66 :: u67 :: u68 :: u69 :: u70 :: u71 :: u72 :: u73 :: u74 :: u75 :: u76 :: u77 :: u78 :: u79 :: u80 :: u81 :: u82 :: u83 :: u84 :: u85 :: u86 :: u87 :: u88 :: u89 :: u90 :: u91 :: u92 :: u93 :: u94 :: u95 :: u96 :: u97 :: u98 :: u99 :: u100 :: u101 :: u102 :: u103 :: u104 :: u105 :: u106 :: u107 :: u108 :: u109 :: u110 :: u111 :: u112 :: u113 :: u114 :: u115 :: u116 :: u117 :: u118 :: u119 :: u120 :: u121 :: u122 :: u123 :: u124 :: u125 :: u126 :: u127 :: u128 :: u129 :: u130 :: u131 :: u132 :: u133 :: u134 :: u135 :: u136 :: u137 :: u138 :: u139 :: u140 :: u141 :: u142 :: u143 :: u144 :: u145 :: u146 :: u147 :: u148 :: u149 :: u150 :: u151 :: u152 :: u153 :: u154 :: u155 :: u156 :: u157 :: u158 :: u159 :: u160 :: u161 :: u162 :: u163 :: u164 :: u165 :: u166 :: u167 :: u168 :: u169 :: u170 :: u171 :: u172 :: u173 :: u174 :: u175 :: u176 :: u177 :: u178 :: u179 :: u180 :: u181 :: u182 :: u183 :: u184 :: u185 :: u186 :: u187 :: u188 :: u189 :: u190 :: u191 :: u192 :: u193 :: u194 :: u195 :: u196 :: u197 :: u198 :: u199 :: u200 :: u201 :: u202 :: u203 :: u204 :: u205 :: u206 :: u207 :: u208 :: u209 :: u210 :: u211 :: u212 :: u213 :: u214 :: u215 :: u216 :: u217 :: u218 :: u219 :: u220 :: u221 :: u222 :: u223 :: u224 :: u225 :: u226 :: u227 :: u228 :: u229 :: u230 :: u231 :: u232 :: u233 :: u234 :: u235 :: u236 :: u237 :: .slice q.h.ao q.l.length q.h.cap :: .pointer (some ⟨q.h.b, q.h.o, none⟩) :: .agg #[.int .i64 a.kind, .int .i64 a.num, .string a.text] :: .slice q.h.ao q.l.length q.h.cap :: .pointer (some ⟨q.h.b, p, none⟩) :: .agg #[.int .i64 b.kind, .int .i64 b.num, .string b.text] :: .agg #[.int .i64 (eqV a b).kind, .int .i64 (eqV a b).num, .string (eqV a b).text] :: u245 :: u246 :: u247 :: u248 :: u249 :: u250 :: u251 :: u252 :: u253 :: u254 :: u255 :: u256 :: u257 :: u258 :: u259 :: u260 :: u261 :: u262 :: u263 :: u264 :: u265 :: u266 :: u267 :: u268 :: u269 :: u270 :: []).toArray, defers := [] } x) : Code.wp Tryd.prog c Q { tmps := (u0 :: u1 :: u2 :: u3 :: u4 :: (.slice q.h.ao q.l.length q.h.cap) :: u6 :: u7 :: u8 :: u9 :: u10 :: u11 :: u12 :: u13 :: u14 :: u15 :: u16 :: u17 :: u18 :: u19 :: u20 :: u21 :: u22 :: u23 :: u24 :: u25 :: u26 :: u27 :: u28 :: u29 :: u30 :: u31 :: u32 :: u33 :: u34 :: u35 :: u36 :: u37 :: u38 :: u39 :: u40 :: u41 :: u42 :: u43 :: u44 :: u45 :: u46 :: u47 :: u48 :: u49 :: u50 :: u51 :: u52 :: u53 :: u54 :: u55 :: u56 :: u57 :: u58 :: u59 :: u60 :: u61 :: u62 :: u63 :: u64 :: u65 :: u66 :: u67 :: u68 :: u69 :: u70 :: u71 :: u72 :: u73 :: u74 :: u75 :: u76 :: u77 :: u78 :: u79 :: u80 :: u81 :: u82 :: u83 :: u84 :: u85 :: u86 :: u87 :: u88 :: u89 :: u90 :: u91 :: u92 :: u93 :: u94 :: u95 :: u96 :: u97 :: u98 :: u99 :: u100 :: u101 :: u102 :: u103 :: u104 :: u105 :: u106 :: u107 :: u108 :: u109 :: u110 :: u111 :: u112 :: u113 :: u114 :: u115 :: u116 :: u117 :: u118 :: u119 :: u120 :: u121 :: u122 :: u123 :: u124 :: u125 :: u126 :: u127 :: u128 :: u129 :: u130 :: u131 :: u132 :: u133 :: u134 :: u135 :: u136 :: u137 :: u138 :: u139 :: u140 :: u141 :: u142 :: u143 :: u144 :: u145 :: u146 :: u147 :: u148 :: u149 :: u150 :: u151 :: u152 :: u153 :: u154 :: u155 :: u156 :: u157 :: u158 :: u159 :: u160 :: u161 :: u162 :: u163 :: u164 :: u165 :: u166 :: u167 :: u168 :: u169 :: u170 :: u171 :: u172 :: u173 :: u174 :: u175 :: u176 :: u177 :: u178 :: u179 :: u180 :: u181 :: u182 :: u183 :: u184 :: u185 :: u186 :: u187 :: u188 :: u189 :: u190 :: u191 :: u192 :: u193 :: u194 :: u195 :: u196 :: u197 :: u198 :: u199 :: u200 :: u201 :: u202 :: u203 :: u204 :: u205 :: u206 :: u207 :: u208 :: u209 :: u210 :: u211 :: u212 :: u213 :: u214 :: u215 :: u216 :: u217 :: u218 :: u219 :: u220 :: u221 :: u222 :: u223 :: u224 :: u225 :: u226 :: u227 :: u228 :: u229 :: u230 :: u231 :: u232 :: u233 :: u234 :: u235 :: u236 :: u237 :: u238 :: u239 :: u240 :: u241 :: u242 :: u243 :: u244 :: u245 :: u246 :: u247 :: u248 :: u249 :: u250 :: u251 :: u252 :: u253 :: u254 :: u255 :: u256 :: u257 :: u258 :: u259 :: u260 :: u261 :: u262 :: u263 :: u264 :: u265 :: u266 :: u267 :: u268 :: u269 :: u270 :: []).toArray, defers := [] } W := by
  subst hc
  conv => enter [2]; whnf
  refine wp_region_last (by kernel_rfl) (by kernel_rfl) 8 (by kernel_rfl) (by kernel_rfl) (fun s : Nat → Value => ({ tmps := (u0 :: u1 :: u2 :: u3 :: u4 :: (.slice q.h.ao q.l.length q.h.cap) :: u6 :: s 7 :: u8 :: u9 :: u10 :: u11 :: u12 :: u13 :: u14 :: u15 :: u16 :: u17 :: u18 :: u19 :: u20 :: u21 :: u22 :: u23 :: u24 :: u25 :: u26 :: u27 :: u28 :: u29 :: u30 :: u31 :: u32 :: u33 :: u34 :: u35 :: u36 :: u37 :: u38 :: u39 :: u40 :: u41 :: u42 :: u43 :: u44 :: u45 :: u46 :: u47 :: u48 :: u49 :: u50 :: u51 :: u52 :: u53 :: u54 :: u55 :: u56 :: u57 :: u58 :: u59 :: u60 :: u61 :: u62 :: u63 :: u64 :: u65 :: u66 :: u67 :: u68 :: u69 :: u70 :: u71 :: u72 :: u73 :: u74 :: u75 :: u76 :: u77 :: u78 :: u79 :: u80 :: u81 :: u82 :: u83 :: u84 :: u85 :: u86 :: u87 :: u88 :: u89 :: u90 :: u91 :: u92 :: u93 :: u94 :: u95 :: u96 :: u97 :: u98 :: u99 :: u100 :: u101 :: u102 :: u103 :: u104 :: u105 :: u106 :: u107 :: u108 :: u109 :: u110 :: u111 :: u112 :: u113 :: u114 :: u115 :: u116 :: u117 :: u118 :: u119 :: u120 :: u121 :: u122 :: u123 :: u124 :: u125 :: u126 :: u127 :: u128 :: u129 :: u130 :: u131 :: u132 :: u133 :: u134 :: u135 :: u136 :: u137 :: u138 :: u139 :: u140 :: u141 :: u142 :: u143 :: u144 :: u145 :: u146 :: u147 :: u148 :: u149 :: u150 :: u151 :: u152 :: u153 :: u154 :: u155 :: u156 :: u157 :: u158 :: u159 :: u160 :: u161 :: u162 :: u163 :: u164 :: u165 :: u166 :: u167 :: u168 :: u169 :: u170 :: u171 :: u172 :: u173 :: u174 :: u175 :: u176 :: u177 :: u178 :: u179 :: u180 :: u181 :: u182 :: u183 :: u184 :: u185 :: u186 :: u187 :: u188 :: u189 :: u190 :: u191 :: u192 :: u193 :: u194 :: u195 :: u196 :: u197 :: u198 :: u199 :: u200 :: u201 :: u202 :: u203 :: u204 :: u205 :: u206 :: u207 :: u208 :: u209 :: u210 :: u211 :: u212 :: u213 :: u214 :: u215 :: u216 :: u217 :: u218 :: u219 :: u220 :: u221 :: u222 :: u223 :: u224 :: u225 :: u226 :: u227 :: u228 :: u229 :: u230 :: u231 :: u232 :: u233 :: u234 :: u235 :: u236 :: u237 :: s 238 :: s 239 :: s 240 :: s 241 :: s 242 :: s 243 :: s 244 :: u245 :: u246 :: u247 :: u248 :: u249 :: u250 :: u251 :: u252 :: u253 :: u254 :: u255 :: u256 :: u257 :: u258 :: u259 :: u260 :: u261 :: u262 :: u263 :: u264 :: u265 :: u266 :: u267 :: u268 :: u269 :: u270 :: []).toArray, defers := [] } : Act)) (fun k => if k = 238 then u238 else if k = 239 then u239 else if k = 240 then u240 else if k = 241 then u241 else if k = 242 then u242 else if k = 243 then u243 else if k = 244 then u244 else if k = 7 then u7 else undef) rfl (fun i v x => (i = 7 → ∃ b, v = .pointer (some ⟨b, 0, none⟩) ∧ Box x b #[.int .i64 0, .int .i64 0, .string ⟨#[]⟩] 24 ∧ W.heap.size ≤ b) ∧ (i ≠ 7 → ([.slice q.h.ao q.l.length q.h.cap, .pointer (some ⟨q.h.b, q.h.o, none⟩), .agg #[.int .i64 a.kind, .int .i64 a.num, .string a.text], .slice q.h.ao q.l.length q.h.cap, .pointer (some ⟨q.h.b, p, none⟩), .agg #[.int .i64 b.kind, .int .i64 b.num, .string b.text], .agg #[.int .i64 (eqV a b).kind, .int .i64 (eqV a b).num, .string (eqV a b).text], undef] : List Value)[i]? = some v)) (fun _ _ _ _ h hb => ⟨fun hi => by obtain ⟨b, h1, h2, h3⟩ := h.1 hi; exact ⟨b, h1, h2.below hb, h3⟩, h.2⟩) (fun i => ([238, 239, 240, 241, 242, 243, 244, 7] : List Nat).getD i 0) ?inj ?step ?last
  case inj =>
    intro i j hi hj h
    have hI : i = 0 ∨ i = 1 ∨ i = 2 ∨ i = 3 ∨ i = 4 ∨ i = 5 ∨ i = 6 ∨ i = 7 := by omega
    have hJ : j = 0 ∨ j = 1 ∨ j = 2 ∨ j = 3 ∨ j = 4 ∨ j = 5 ∨ j = 6 ∨ j = 7 := by omega
    rcases hI with rfl | rfl | rfl | rfl | rfl | rfl | rfl | rfl <;> rcases hJ with rfl | rfl | rfl | rfl | rfl | rfl | rfl | rfl <;> first | rfl | (exact absurd h (by decide))
  case last =>
    intro o s x ho hv hb
    have HB := hide hb
    clear hb
    injection ho with ho
    subst ho
    have z0 : s 238 = .slice q.h.ao q.l.length q.h.cap := by have h := (hv 0 (by decide)).2 (by decide); injection h with h; exact h.symm
    have z1 : s 239 = .pointer (some ⟨q.h.b, q.h.o, none⟩) := by have h := (hv 1 (by decide)).2 (by decide); injection h with h; exact h.symm
    have z2 : s 240 = .agg #[.int .i64 a.kind, .int .i64 a.num, .string a.text] := by have h := (hv 2 (by decide)).2 (by decide); injection h with h; exact h.symm
    have z3 : s 241 = .slice q.h.ao q.l.length q.h.cap := by have h := (hv 3 (by decide)).2 (by decide); injection h with h; exact h.symm
    have z4 : s 242 = .pointer (some ⟨q.h.b, p, none⟩) := by have h := (hv 4 (by decide)).2 (by decide); injection h with h; exact h.symm
    have z5 : s 243 = .agg #[.int .i64 b.kind, .int .i64 b.num, .string b.text] := by have h := (hv 5 (by decide)).2 (by decide); injection h with h; exact h.symm
    have z6 : s 244 = .agg #[.int .i64 (eqV a b).kind, .int .i64 (eqV a b).num, .string (eqV a b).text] := by have h := (hv 6 (by decide)).2 (by decide); injection h with h; exact h.symm
    obtain ⟨bb, hz7, hbx, hge⟩ := (hv 7 (by decide)).1 rfl
    have z7 : s 7 = .pointer (some ⟨bb, 0, none⟩) := hz7
    clear hz7
    clear hv
    have f0 := hbx.fr 0
    have f1 := hbx.fr 1
    have f2 := hbx.fr 2
    have o0 := hbx.cell (j := 0) rfl
    have o1 := hbx.cell (j := 1) rfl
    have o2 := hbx.cell (j := 2) rfl
    have HF := hide (boxs3 hbx (.int .i64 (eqV a b).kind) (.int .i64 (eqV a b).num) (.string (eqV a b).text))
    have HG := hide (HB.out.grown (set3 x bb (.int .i64 (eqV a b).kind) (.int .i64 (eqV a b).num) (.string (eqV a b).text)) HB.out.size (fun k hk => by injection hk with hk; omega))
    clear hbx
    refine opwp_K (fun K2 hK2 => ?_)
    go_simp
    refine hK2 _ _ ?_
    have h := hend bb _ ⟨HG.out, HF.out, hge⟩
    first | exact h | (simp only [z0, z1, z2, z3, z4, z5, z6, z7]; exact h)
  case step =>
    intro i o s x hin ho he hb
    have HB := hide hb
    clear hb
    have hcase : i = 0 ∨ i = 1 ∨ i = 2 ∨ i = 3 ∨ i = 4 ∨ i = 5 ∨ i = 6 ∨ i = 7 := by omega
    rcases hcase with rfl | rfl | rfl | rfl | rfl | rfl | rfl | rfl
    · injection ho with ho
      subst ho
      clear he
      refine opwp_K (fun K2 hK2 => ?_)
      go_simp
      exact hK2 _ _ ⟨(.slice q.h.ao q.l.length q.h.cap), (by first | rfl | (simp [List.getD]; done)), Below.refl _ _, ⟨fun h => absurd h (by decide), fun _ => rfl⟩⟩
    · injection ho with ho
      subst ho
      have z0 : s 238 = .slice q.h.ao q.l.length q.h.cap := by have h := (he ⟨0, .data⟩ (by simp) rfl).2 (by decide); injection h with h; exact h.symm
      clear he
      refine opwp_K (fun K2 hK2 => ?_)
      go_simp
      exact hK2 _ _ ⟨(.pointer (some ⟨q.h.b, q.h.o, none⟩)), (by first | rfl | (simp [z0]; done)), Below.refl _ _, ⟨fun h => absurd h (by decide), fun _ => rfl⟩⟩
    · injection ho with ho
      subst ho
      have z1 : s 239 = .pointer (some ⟨q.h.b, q.h.o, none⟩) := by have h := (he ⟨1, .data⟩ (by simp) rfl).2 (by decide); injection h with h; exact h.symm
      clear he
      have hq0 := HB.out.cell (p := ⟨q.h.b, q.h.o, none⟩) (by show q.h.b < W.heap.size; omega)
      rw [c0] at hq0
      have hq1 := HB.out.cell (p := ⟨q.h.b, q.h.o + 1, none⟩) (by show q.h.b < W.heap.size; omega)
      rw [c1] at hq1
      have hq2 := HB.out.cell (p := ⟨q.h.b, q.h.o + 2, none⟩) (by show q.h.b < W.heap.size; omega)
      rw [c2] at hq2
      refine opwp_K (fun K2 hK2 => ?_)
      go_simp
      exact hK2 _ _ ⟨(.agg #[.int .i64 a.kind, .int .i64 a.num, .string a.text]), (by first | rfl | (simp [z1]; done)), Below.refl _ _, ⟨fun h => absurd h (by decide), fun _ => rfl⟩⟩
    · injection ho with ho
      subst ho
      clear he
      refine opwp_K (fun K2 hK2 => ?_)
      go_simp
      exact hK2 _ _ ⟨(.slice q.h.ao q.l.length q.h.cap), (by first | rfl | (simp [List.getD]; done)), Below.refl _ _, ⟨fun h => absurd h (by decide), fun _ => rfl⟩⟩
    · injection ho with ho
      subst ho
      have z3 : s 241 = .slice q.h.ao q.l.length q.h.cap := by have h := (he ⟨3, .data⟩ (by simp) rfl).2 (by decide); injection h with h; exact h.symm
      clear he
      refine opwp_K (fun K2 hK2 => ?_)
      go_simp
      exact hK2 _ _ ⟨(.pointer (some ⟨q.h.b, p, none⟩)), (by first | rfl | (simp [z3]; done)), Below.refl _ _, ⟨fun h => absurd h (by decide), fun _ => rfl⟩⟩
    · injection ho with ho
      subst ho
      have z4 : s 242 = .pointer (some ⟨q.h.b, p, none⟩) := by have h := (he ⟨4, .data⟩ (by simp) rfl).2 (by decide); injection h with h; exact h.symm
      clear he
      have hq0 := HB.out.cell (p := ⟨q.h.b, p, none⟩) (by show q.h.b < W.heap.size; omega)
      rw [d0] at hq0
      have hq1 := HB.out.cell (p := ⟨q.h.b, p + 1, none⟩) (by show q.h.b < W.heap.size; omega)
      rw [d1] at hq1
      have hq2 := HB.out.cell (p := ⟨q.h.b, p + 2, none⟩) (by show q.h.b < W.heap.size; omega)
      rw [d2] at hq2
      refine opwp_K (fun K2 hK2 => ?_)
      go_simp
      exact hK2 _ _ ⟨(.agg #[.int .i64 b.kind, .int .i64 b.num, .string b.text]), (by first | rfl | (simp [z4]; done)), Below.refl _ _, ⟨fun h => absurd h (by decide), fun _ => rfl⟩⟩
    · injection ho with ho
      subst ho
      have z2 : s 240 = .agg #[.int .i64 a.kind, .int .i64 a.num, .string a.text] := by have h := (he ⟨2, .data⟩ (by simp) rfl).2 (by decide); injection h with h; exact h.symm
      have z5 : s 243 = .agg #[.int .i64 b.kind, .int .i64 b.num, .string b.text] := by have h := (he ⟨5, .data⟩ (by simp) rfl).2 (by decide); injection h with h; exact h.symm
      clear he
      refine opwp_K (fun K2 hK2 => ?_)
      go_simp
      go_at_call 30
      refine (req_any a b x).mono ?_
      rintro _ z ⟨rfl, hz⟩
      go_simp
      exact hK2 _ _ ⟨(.agg #[.int .i64 (eqV a b).kind, .int .i64 (eqV a b).num, .string (eqV a b).text]), (by first | rfl | (simp [z2, z5]; done)), hz, ⟨fun h => absurd h (by decide), fun _ => rfl⟩⟩
    · injection ho with ho
      subst ho
      clear he
      refine opwp_K (fun K2 hK2 => ?_)
      go_simp
      exact hK2 _ _ ⟨_, (by first | rfl | simp), belA _, ⟨fun _ => ⟨_, rfl, Box.new _ _ _, HB.out.size⟩, fun h => absurd rfl h⟩⟩


set_option maxRecDepth 100000 in
set_option maxHeartbeats 4000000 in
theorem rv28_b {y : World} {o : V} {g m : Nat} {q : VL} {a b : V} {p : Nat} (hbb : q.h.b < y.heap.size) (c0 : y.cell? ⟨q.h.b, q.h.o, none⟩ = some (.int .i64 a.kind)) (c1 : y.cell? ⟨q.h.b, q.h.o + 1, none⟩ = some (.int .i64 a.num)) (c2 : y.cell? ⟨q.h.b, q.h.o + 2, none⟩ = some (.string a.text)) (d0 : y.cell? ⟨q.h.b, p, none⟩ = some (.int .i64 b.kind)) (d1 : y.cell? ⟨q.h.b, p + 1, none⟩ = some (.int .i64 b.num)) (d2 : y.cell? ⟨q.h.b, p + 2, none⟩ = some (.string b.text)) (hix0 : ∀ U, (Instr.indexAt 28 (.slice q.h.ao q.l.length q.h.cap) (.int .i64 0)).run Tryd.prog U = .ok (.pointer (some ⟨q.h.b, q.h.o, none⟩)) U) (hix1 : ∀ U, (Instr.indexAt 28 (.slice q.h.ao q.l.length q.h.cap) (.int .i64 (m : Nat))).run Tryd.prog U = .ok (.pointer (some ⟨q.h.b, p, none⟩)) U) {W : World} (HI : Hid (AK y g o W)) {Q : Exit → Act → World → Prop} {c : Code} {u0 u1 u2 u3 u4 u6 u9 u10 u11 u12 u13 u14 u15 u16 u17 u18 u19 u20 u21 u22 u23 u24 u25 u26 u27 u28 u29 u30 u31 u32 u33 u34 u35 u36 u37 u38 u39 u40 u41 u42 u43 u44 u45 u46 u47 u48 u49 u50 u51 u52 u53 u54 u55 u56 u57 u58 u59 u60 u61 u62 u63 u64 u65 u66 u67 u68 u69 u70 u71 u72 u73 u74 u75 u76 u77 u78 u79 u80 u81 u82 u83 u84 u85 u86 u87 u88 u89 u90 u91 u92 u93 u94 u95 u96 u97 u98 u99 u100 u101 u102 u103 u104 u105 u106 u107 u108 u109 u110 u111 u112 u113 u114 u115 u116 u117 u118 u119 u120 u121 u122 u123 u124 u125 u126 u127 u128 u129 u130 u131 u132 u133 u134 u135 u136 u137 u138 u139 u140 u141 u142 u143 u144 u145 u146 u147 u148 u149 u150 u151 u152 u153 u154 u155 u156 u157 u158 u159 u160 u161 u162 u163 u164 u165 u166 u167 u168 u169 u170 u171 u172 u173 u174 u175 u176 u177 u178 u179 u180 u181 u182 u183 u184 u185 u186 u187 u188 u189 u190 u191 u192 u193 u194 u195 u196 u197 u198 u199 u200 u201 u202 u203 u204 u205 u206 u207 u208 u209 u210 u211 u212 u213 u214 u215 u216 u217 u218 u219 u220 u221 u222 u223 u224 u225 u226 u227 u228 u229 u230 u231 u232 u233 u234 u235 u236 u237 u238 u239 u240 u241 u242 u243 u244 u245 u246 u247 u248 u249 u250 u251 u252 u253 u254 u255 u256 u257 u258 u259 u260 u261 u262 u263 u264 u265 u266 u267 u268 u269 u270 : Value} (hc : c = codeIn [1, 1, 1, 1, 0, 1, 4, 1, 3, 1, 3, 1, 3, 1, 3, 1, 3, 1, 3, 1, 3, 1, 3, 1, 3, 1, 3, 1, 3, 1, 3, 1, 3, 1, 3, 1, 3, 1, 3, 1, 3, 1, 3, 1, 3, 1, 3, 1, 3, 1, 2, 1, 0, 1, 4, 5, 1, 0, 4] rvBody) (hend : ∀ x, AK y g (orV o (eqV a b)) x → Q .normal { tmps := (u0 :: u1 :: u2 :: u3 :: u4 :: (.slice q.h.ao q.l.length q.h.cap) :: u6 :: (.pointer (some ⟨g, 0, none⟩)) :: (.int .i64 (m : Nat)) :: u9 :: u10 :: u11 :: u12 :: u13 :: u14 :: u15 :: u16 :: u17 :: u18 :: u19 :: u20 :: u21 :: u22 :: u23 :: u24 :: u25 :: u26 :: u27 :: u28 :: u29 :: u30 :: u31 :: u32 :: u33 :: u34 :: u35 :: u36 :: u37 :: u38 :: u39 :: u40 :: u41 :: u42 :: u43 :: u44 :: u45 :: u46 :: u47 :: u48 :: u49 :: u50 :: u51 :: u52 :: u53 :: u54 :: u55 :: u56 :: u57 :: u58 :: u59 :: u60 :: u61 :: u62 :: u63 :: u64 :: u65 :: u66 :: u67 :: u68 :: u69 :: u70 :: u71 :: u72 :: u73 :: u74 :: u75 :: u76 :: u77 :: u78 :: u79 :: u80 :: u81 :: u82 :: u83 :: u84 :: u85 :: u86 :: u87 :: u88 :: u89 :: u90 :: u91 :: u92 :: u93 :: u94 :: u95 :: u96 :: u97 :: u98 :: u99 :: u100 :: u101 :: u102 :: u103 :: u104 :: u105 :: u106 :: u107 :: u108 :: u109 :: u110 :: u111 :: u112 :: u113 :: u114 :: u115 :: u116 :: u117 :: u118 :: u119 :: u120 :: u121 :: u122 :: u123 :: u124 :: u125 :: u126 :: u127 :: u128 :: u129 :: u130 :: u131 :: u132 :: u133 :: u134 :: u135 :: u136 :: u137 :: u138 :: u139 :: u140 :: u141 :: u142 :: u143 :: u144 :: u145 :: u146 :: u147 :: u148 :: u149 :: u150 :: u151 :: u152 :: u153 :: u154 :: u155 :: u156 :: u157 :: u158 :: u159 :: u160 :: u161 :: u162 :: u163 :: u164 :: u165 :: u166 :: u167 :: u168 :: u169 :: u170 :: u171 :: u172 :: u173 :: u174 :: u175 :: u176 :: u177 :: u178 :: u179 :: u180 :: u181 :: u182 :: u183 :: u184 :: u185 :: u186 :: u187 :: u188 :: u189 :: u190 :: u191 :: u192 :: u193 :: u194 :: u195 :: u196 :: u197 :: u198 :: u199 :: u200 :: u201 :: u202 :: u203 :: u204 :: u205 :: u206 :: u207 :: u208 :: u209 :: u210 :: u211 :: u212 :: u213 :: u214 :: u215 :: u216 :: u217 :: u218 :: u219 :: u220 :: u221 :: u222 :: u223 :: u224 :: u225 :: u226 :: u227 :: u228 :: u229 :: u230 :: u231 :: u232 :: u233 :: u234 :: u235 :: u236 :: u237 :: u238 :: u239 :: u240 :: u241 :: u242 :: u243 :: u244 :: u245 :: u246 :: u247 :: u248 :: u249 :: u250 :: .agg #[.int .i64 o.kind, .int .i64 o.num, .string o.text] :: .slice q.h.ao q.l.length q.h.cap :: .pointer (some ⟨q.h.b, q.h.o, none⟩) :: .agg #[.int .i64 a.kind, .int .i64 a.num, .string a.text] :: .slice q.h.ao q.l.length q.h.cap :: .int .i64 (m : Nat) :: .pointer (some ⟨q.h.b, p, none⟩) :: .agg #[.int .i64 b.kind, .int .i64 b.num, .string b.text] :: .agg #[.int .i64 (eqV a b).kind, .int .i64 (eqV a b).num, .string (eqV a b).text] :: .agg #[.int .i64 (orV o (eqV a b)).kind, .int .i64 (orV o (eqV a b)).num, .string (orV o (eqV a b)).text] :: u261 :: u262 :: u263 :: u264 :: u265 :: u266 :: u267 :: u268 :: u269 :: u270 :: []).toArray, defers := [] } x) : Code.wp Tryd.prog c Q { tmps := (u0 :: u1 :: u2 :: u3 :: u4 :: (.slice q.h.ao q.l.length q.h.cap) :: u6 :: (.pointer (some ⟨g, 0, none⟩)) :: (.int .i64 (m : Nat)) :: u9 :: u10 :: u11 :: u12 :: u13 :: u14 :: u15 :: u16 :: u17 :: u18 :: u19 :: u20 :: u21 :: u22 :: u23 :: u24 :: u25 :: u26 :: u27 :: u28 :: u29 :: u30 :: u31 :: u32 :: u33 :: u34 :: u35 :: u36 :: u37 :: u38 :: u39 :: u40 :: u41 :: u42 :: u43 :: u44 :: u45 :: u46 :: u47 :: u48 :: u49 :: u50 :: u51 :: u52 :: u53 :: u54 :: u55 :: u56 :: u57 :: u58 :: u59 :: u60 :: u61 :: u62 :: u63 :: u64 :: u65 :: u66 :: u67 :: u68 :: u69 :: u70 :: u71 :: u72 :: u73 :: u74 :: u75 :: u76 :: u77 :: u78 :: u79 :: u80 :: u81 :: u82 :: u83 :: u84 :: u85 :: u86 :: u87 :: u88 :: u89 :: u90 :: u91 :: u92 :: u93 :: u94 :: u95 :: u96 :: u97 :: u98 :: u99 :: u100 :: u101 :: u102 :: u103 :: u104 :: u105 :: u106 :: u107 :: u108 :: u109 :: u110 :: u111 :: u112 :: u113 :: u114 :: u115 :: u116 :: u117 :: u118 :: u119 :: u120 :: u121 :: u122 :: u123 :: u124 :: u125 :: u126 :: u127 :: u128 :: u129 :: u130 :: u131 :: u132 :: u133 :: u134 :: u135 :: u136 :: u137 :: u138 :: u139 :: u140 :: u141 :: u142 :: u143 :: u144 :: u145 :: u146 :: u147 :: u148 :: u149 :: u150 :: u151 :: u152 :: u153 :: u154 :: u155 :: u156 :: u157 :: u158 :: u159 :: u160 :: u161 :: u162 :: u163 :: u164 :: u165 :: u166 :: u167 :: u168 :: u169 :: u170 :: u171 :: u172 :: u173 :: u174 :: u175 :: u176 :: u177 :: u178 :: u179 :: u180 :: u181 :: u182 :: u183 :: u184 :: u185 :: u186 :: u187 :: u188 :: u189 :: u190 :: u191 :: u192 :: u193 :: u194 :: u195 :: u196 :: u197 :: u198 :: u199 :: u200 :: u201 :: u202 :: u203 :: u204 :: u205 :: u206 :: u207 :: u208 :: u209 :: u210 :: u211 :: u212 :: u213 :: u214 :: u215 :: u216 :: u217 :: u218 :: u219 :: u220 :: u221 :: u222 :: u223 :: u224 :: u225 :: u226 :: u227 :: u228 :: u229 :: u230 :: u231 :: u232 :: u233 :: u234 :: u235 :: u236 :: u237 :: u238 :: u239 :: u240 :: u241 :: u242 :: u243 :: u244 :: u245 :: u246 :: u247 :: u248 :: u249 :: u250 :: u251 :: u252 :: u253 :: u254 :: u255 :: u256 :: u257 :: u258 :: u259 :: u260 :: u261 :: u262 :: u263 :: u264 :: u265 :: u266 :: u267 :: u268 :: u269 :: u270 :: []).toArray, defers := [] } W := by
  subst hc
  conv => enter [2]; whnf
  refine wp_region_last (by kernel_rfl) (by kernel_rfl) 10 (by kernel_rfl) (by kernel_rfl) (fun s : Nat → Value => ({ tmps := (u0 :: u1 :: u2 :: u3 :: u4 :: (.slice q.h.ao q.l.length q.h.cap) :: u6 :: (.pointer (some ⟨g, 0, none⟩)) :: (.int .i64 (m : Nat)) :: u9 :: u10 :: u11 :: u12 :: u13 :: u14 :: u15 :: u16 :: u17 :: u18 :: u19 :: u20 :: u21 :: u22 :: u23 :: u24 :: u25 :: u26 :: u27 :: u28 :: u29 :: u30 :: u31 :: u32 :: u33 :: u34 :: u35 :: u36 :: u37 :: u38 :: u39 :: u40 :: u41 :: u42 :: u43 :: u44 :: u45 :: u46 :: u47 :: u48 :: u49 :: u50 :: u51 :: u52 :: u53 :: u54 :: u55 :: u56 :: u57 :: u58 :: u59 :: u60 :: u61 :: u62 :: u63 :: u64 :: u65 :: u66 :: u67 :: u68 :: u69 :: u70 :: u71 :: u72 :: u73 :: u74 :: u75 :: u76 :: u77 :: u78 :: u79 :: u80 :: u81 :: u82 :: u83 :: u84 :: u85 :: u86 :: u87 :: u88 :: u89 :: u90 :: u91 :: u92 :: u93 :: u94 :: u95 :: u96 :: u97 :: u98 :: u99 :: u100 :: u101 :: u102 :: u103 :: u104 :: u105 :: u106 :: u107 :: u108 :: u109 :: u110 :: u111 :: u112 :: u113 :: u114 :: u115 :: u116 :: u117 :: u118 :: u119 :: u120 :: u121 :: u122 :: u123 :: u124 :: u125 :: u126 :: u127 :: u128 :: u129 :: u130 :: u131 :: u132 :: u133 :: u134 :: u135 :: u136 :: u137 :: u138 :: u139 :: u140 :: u141 :: u142 :: u143 :: u144 :: u145 :: u146 :: u147 :: u148 :: u149 :: u150 :: u151 :: u152 :: u153 :: u154 :: u155 :: u156 :: u157 :: u158 :: u159 :: u160 :: u161 :: u162 :: u163 :: u164 :: u165 :: u166 :: u167 :: u168 :: u169 :: u170 :: u171 :: u172 :: u173 :: u174 :: u175 :: u176 :: u177 :: u178 :: u179 :: u180 :: u181 :: u182 :: u183 :: u184 :: u185 :: u186 :: u187 :: u188 :: u189 :: u190 :: u191 :: u192 :: u193 :: u194 :: u195 :: u196 :: u197 :: u198 :: u199 :: u200 :: u201 :: u202 :: u203 :: u204 :: u205 :: u206 :: u207 :: u208 :: u209 :: u210 :: u211 :: u212 :: u213 :: u214 :: u215 :: u216 :: u217 :: u218 :: u219 :: u220 :: u221 :: u222 :: u223 :: u224 :: u225 :: u226 :: u227 :: u228 :: u229 :: u230 :: u231 :: u232 :: u233 :: u234 :: u235 :: u236 :: u237 :: u238 :: u239 :: u240 :: u241 :: u242 :: u243 :: u244 :: u245 :: u246 :: u247 :: u248 :: u249 :: u250 :: s 251 :: s 252 :: s 253 :: s 254 :: s 255 :: s 256 :: s 257 :: s 258 :: s 259 :: s 260 :: u261 :: u262 :: u263 :: u264 :: u265 :: u266 :: u267 :: u268 :: u269 :: u270 :: []).toArray, defers := [] } : Act)) (fun k => if k = 251 then u251 else if k = 252 then u252 else if k = 253 then u253 else if k = 254 then u254 else if k = 255 then u255 else if k = 256 then u256 else if k = 257 then u257 else if k = 258 then u258 else if k = 259 then u259 else if k = 260 then u260 else undef) rfl (fun i v _ => ([.agg #[.int .i64 o.kind, .int .i64 o.num, .string o.text], .slice q.h.ao q.l.length q.h.cap, .pointer (some ⟨q.h.b, q.h.o, none⟩), .agg #[.int .i64 a.kind, .int .i64 a.num, .string a.text], .slice q.h.ao q.l.length q.h.cap, .int .i64 (m : Nat), .pointer (some ⟨q.h.b, p, none⟩), .agg #[.int .i64 b.kind, .int .i64 b.num, .string b.text], .agg #[.int .i64 (eqV a b).kind, .int .i64 (eqV a b).num, .string (eqV a b).text], .agg #[.int .i64 (orV o (eqV a b)).kind, .int .i64 (orV o (eqV a b)).num, .string (orV o (eqV a b)).text]] : List Value)[i]? = some v) (fun _ _ _ _ h _ => h) (fun i => ([251, 252, 253, 254, 255, 256, 257, 258, 259, 260] : List Nat).getD i 0) ?inj ?step ?last
  case inj =>
    intro i j hi hj h
    have hI : i = 0 ∨ i = 1 ∨ i = 2 ∨ i = 3 ∨ i = 4 ∨ i = 5 ∨ i = 6 ∨ i = 7 ∨ i = 8 ∨ i = 9 := by omega
    have hJ : j = 0 ∨ j = 1 ∨ j = 2 ∨ j = 3 ∨ j = 4 ∨ j = 5 ∨ j = 6 ∨ j = 7 ∨ j = 8 ∨ j = 9 := by omega
    rcases hI with rfl | rfl | rfl | rfl | rfl | rfl | rfl | rfl | rfl | rfl <;> rcases hJ with rfl | rfl | rfl | rfl | rfl | rfl | rfl | rfl | rfl | rfl <;> first | rfl | (exact absurd h (by decide))
  case last =>
    intro o s x ho hv hb
    have HB := hide hb
    clear hb
    injection ho with ho
    subst ho
    have z0 : s 251 = .agg #[.int .i64 o.kind, .int .i64 o.num, .string o.text] := by have h := (hv 0 (by decide)); injection h with h; exact h.symm
    have z1 : s 252 = .slice q.h.ao q.l.length q.h.cap := by have h := (hv 1 (by decide)); injection h with h; exact h.symm
    have z2 : s 253 = .pointer (some ⟨q.h.b, q.h.o, none⟩) := by have h := (hv 2 (by decide)); injection h with h; exact h.symm
    have z3 : s 254 = .agg #[.int .i64 a.kind, .int .i64 a.num, .string a.text] := by have h := (hv 3 (by decide)); injection h with h; exact h.symm
    have z4 : s 255 = .slice q.h.ao q.l.length q.h.cap := by have h := (hv 4 (by decide)); injection h with h; exact h.symm
    have z5 : s 256 = .int .i64 (m : Nat) := by have h := (hv 5 (by decide)); injection h with h; exact h.symm
    have z6 : s 257 = .pointer (some ⟨q.h.b, p, none⟩) := by have h := (hv 6 (by decide)); injection h with h; exact h.symm
    have z7 : s 258 = .agg #[.int .i64 b.kind, .int .i64 b.num, .string b.text] := by have h := (hv 7 (by decide)); injection h with h; exact h.symm
    have z8 : s 259 = .agg #[.int .i64 (eqV a b).kind, .int .i64 (eqV a b).num, .string (eqV a b).text] := by have h := (hv 8 (by decide)); injection h with h; exact h.symm
    have z9 : s 260 = .agg #[.int .i64 (orV o (eqV a b)).kind, .int .i64 (orV o (eqV a b)).num, .string (orV o (eqV a b)).text] := by have h := (hv 9 (by decide)); injection h with h; exact h.symm
    clear hv
    have hI := HI.out.call HB.out
    have hb := hI.bo
    have o0 := hb.cell (j := 0) rfl
    have o1 := hb.cell (j := 1) rfl
    have o2 := hb.cell (j := 2) rfl
    have f0 := hb.fr 0
    have f1 := hb.fr 1
    have f2 := hb.fr 2
    have HF := hide (hI.set (orV o (eqV a b)))
    clear hI hb
    refine opwp_K (fun K2 hK2 => ?_)
    go_simp
    refine hK2 _ _ ?_
    have h := hend _ HF.out
    first | exact h | (simp only [z0, z1, z2, z3, z4, z5, z6, z7, z8, z9]; exact h)
  case step =>
    intro i o s x hin ho he hb
    have HB := hide hb
    clear hb
    have hcase : i = 0 ∨ i = 1 ∨ i = 2 ∨ i = 3 ∨ i = 4 ∨ i = 5 ∨ i = 6 ∨ i = 7 ∨ i = 8 ∨ i = 9 := by omega
    rcases hcase with rfl | rfl | rfl | rfl | rfl | rfl | rfl | rfl | rfl | rfl
    · injection ho with ho
      subst ho
      clear he
      have hb := HI.out.bo.below HB.out
      have o0 := hb.cell (j := 0) rfl
      have o1 := hb.cell (j := 1) rfl
      have o2 := hb.cell (j := 2) rfl
      refine opwp_K (fun K2 hK2 => ?_)
      go_simp
      exact hK2 _ _ ⟨(.agg #[.int .i64 o.kind, .int .i64 o.num, .string o.text]), (by first | rfl | (simp [List.getD]; done)), Below.refl _ _, rfl⟩
    · injection ho with ho
      subst ho
      clear he
      refine opwp_K (fun K2 hK2 => ?_)
      go_simp
      exact hK2 _ _ ⟨(.slice q.h.ao q.l.length q.h.cap), (by first | rfl | (simp [List.getD]; done)), Below.refl _ _, rfl⟩
    · injection ho with ho
      subst ho
      have z1 : s 252 = .slice q.h.ao q.l.length q.h.cap := by have h := (he ⟨1, .data⟩ (by simp) rfl); injection h with h; exact h.symm
      clear he
      refine opwp_K (fun K2 hK2 => ?_)
      go_simp
      exact hK2 _ _ ⟨(.pointer (some ⟨q.h.b, q.h.o, none⟩)), (by first | rfl | (simp [z1]; done)), Below.refl _ _, rfl⟩
    · injection ho with ho
      subst ho
      have z2 : s 253 = .pointer (some ⟨q.h.b, q.h.o, none⟩) := by have h := (he ⟨2, .data⟩ (by simp) rfl); injection h with h; exact h.symm
      clear he
      have hsz := HI.out.bel.size
      have hq0 := HB.out.cell (p := ⟨q.h.b, q.h.o, none⟩) (by show q.h.b < W.heap.size; omega)
      rw [HI.out.bel.cell (p := ⟨q.h.b, q.h.o, none⟩) (by show q.h.b < y.heap.size; omega), c0] at hq0
      have hq1 := HB.out.cell (p := ⟨q.h.b, q.h.o + 1, none⟩) (by show q.h.b < W.heap.size; omega)
      rw [HI.out.bel.cell (p := ⟨q.h.b, q.h.o + 1, none⟩) (by show q.h.b < y.heap.size; omega), c1] at hq1
      have hq2 := HB.out.cell (p := ⟨q.h.b, q.h.o + 2, none⟩) (by show q.h.b < W.heap.size; omega)
      rw [HI.out.bel.cell (p := ⟨q.h.b, q.h.o + 2, none⟩) (by show q.h.b < y.heap.size; omega), c2] at hq2
      refine opwp_K (fun K2 hK2 => ?_)
      go_simp
      exact hK2 _ _ ⟨(.agg #[.int .i64 a.kind, .int .i64 a.num, .string a.text]), (by first | rfl | (simp [z2]; done)), Below.refl _ _, rfl⟩
    · injection ho with ho
      subst ho
      clear he
      refine opwp_K (fun K2 hK2 => ?_)
      go_simp
      exact hK2 _ _ ⟨(.slice q.h.ao q.l.length q.h.cap), (by first | rfl | (simp [List.getD]; done)), Below.refl _ _, rfl⟩
    · injection ho with ho
      subst ho
      clear he
      refine opwp_K (fun K2 hK2 => ?_)
      go_simp
      exact hK2 _ _ ⟨(.int .i64 (m : Nat)), (by first | rfl | (simp [List.getD]; done)), Below.refl _ _, rfl⟩
    · injection ho with ho
      subst ho
      have z4 : s 255 = .slice q.h.ao q.l.length q.h.cap := by have h := (he ⟨4, .data⟩ (by simp) rfl); injection h with h; exact h.symm
      have z5 : s 256 = .int .i64 (m : Nat) := by have h := (he ⟨5, .data⟩ (by simp) rfl); injection h with h; exact h.symm
      clear he
      refine opwp_K (fun K2 hK2 => ?_)
      go_simp
      exact hK2 _ _ ⟨(.pointer (some ⟨q.h.b, p, none⟩)), (by first | rfl | (simp [z4, z5]; done)), Below.refl _ _, rfl⟩
    · injection ho with ho
      subst ho
      have z6 : s 257 = .pointer (some ⟨q.h.b, p, none⟩) := by have h := (he ⟨6, .data⟩ (by simp) rfl); injection h with h; exact h.symm
      clear he
      have hsz := HI.out.bel.size
      have hq0 := HB.out.cell (p := ⟨q.h.b, p, none⟩) (by show q.h.b < W.heap.size; omega)
      rw [HI.out.bel.cell (p := ⟨q.h.b, p, none⟩) (by show q.h.b < y.heap.size; omega), d0] at hq0
      have hq1 := HB.out.cell (p := ⟨q.h.b, p + 1, none⟩) (by show q.h.b < W.heap.size; omega)
      rw [HI.out.bel.cell (p := ⟨q.h.b, p + 1, none⟩) (by show q.h.b < y.heap.size; omega), d1] at hq1
      have hq2 := HB.out.cell (p := ⟨q.h.b, p + 2, none⟩) (by show q.h.b < W.heap.size; omega)
      rw [HI.out.bel.cell (p := ⟨q.h.b, p + 2, none⟩) (by show q.h.b < y.heap.size; omega), d2] at hq2
      refine opwp_K (fun K2 hK2 => ?_)
      go_simp
      exact hK2 _ _ ⟨(.agg #[.int .i64 b.kind, .int .i64 b.num, .string b.text]), (by first | rfl | (simp [z6]; done)), Below.refl _ _, rfl⟩
    · injection ho with ho
      subst ho
      have z3 : s 254 = .agg #[.int .i64 a.kind, .int .i64 a.num, .string a.text] := by have h := (he ⟨3, .data⟩ (by simp) rfl); injection h with h; exact h.symm
      have z7 : s 258 = .agg #[.int .i64 b.kind, .int .i64 b.num, .string b.text] := by have h := (he ⟨7, .data⟩ (by simp) rfl); injection h with h; exact h.symm
      clear he
      refine opwp_K (fun K2 hK2 => ?_)
      go_simp
      go_at_call 30
      refine (req_any a b x).mono ?_
      rintro _ z ⟨rfl, hz⟩
      go_simp
      exact hK2 _ _ ⟨(.agg #[.int .i64 (eqV a b).kind, .int .i64 (eqV a b).num, .string (eqV a b).text]), (by first | rfl | (simp [z3, z7]; done)), hz, rfl⟩
    · injection ho with ho
      subst ho
      have z0 : s 251 = .agg #[.int .i64 o.kind, .int .i64 o.num, .string o.text] := by have h := (he ⟨0, .data⟩ (by simp) rfl); injection h with h; exact h.symm
      have z8 : s 259 = .agg #[.int .i64 (eqV a b).kind, .int .i64 (eqV a b).num, .string (eqV a b).text] := by have h := (he ⟨8, .data⟩ (by simp) rfl); injection h with h; exact h.symm
      clear he
      refine opwp_K (fun K2 hK2 => ?_)
      go_simp
      go_at_call 36
      refine (ror_any o (eqV a b) x).mono ?_
      rintro _ z ⟨rfl, hz⟩
      go_simp
      exact hK2 _ _ ⟨(.agg #[.int .i64 (orV o (eqV a b)).kind, .int .i64 (orV o (eqV a b)).num, .string (orV o (eqV a b)).text]), (by first | rfl | (simp [z0, z8]; done)), hz, rfl⟩


set_option maxRecDepth 100000 in
set_option maxHeartbeats 8000000 in
theorem rev_28 (typ num : Int) (text : ByteArray) (col : Int) (kh : Hd) (kids : List Ex) (r : VL) (w : World) (hsm : kids.length ≤ 1000000) (hrow : Row w 6 Ex.cells kh kids) (HKI : Hid (∀ k ∈ kids, k.In w)) (HIH : Hid (∀ k ∈ kids, REv r k)) (HR : Hid (r.In w)) (HKB : Hid (kidsOk 28 kids.length = true)) (hneed : 1 < kids.length) :
    Calls Tryd.prog 11 #[.agg #[.int .i64 28, .int .i64 typ, .int .i64 num, .string text, .int .i64 col, .slice kh.ao kids.length kh.cap], .slice r.h.ao r.l.length r.h.cap] w fun e' w' => e' = .returned (.agg #[.int .i64 (applyV 28 (kids.map (Ex.va r.l))).kind, .int .i64 (applyV 28 (kids.map (Ex.va r.l))).num, .string (applyV 28 (kids.map (Ex.va r.l))).text]) ∧ Below w.heap.size w w' := by
  have hn := hrow.len
  obtain ⟨i0, hi, hz0, hz1, hz2⟩ := info_parts info_val
  have HI := hide (And.intro hi (And.intro hz0 (And.intro hz1 hz2)))
  clear hi hz0 hz1 hz2
  obtain ⟨v, hv⟩ : ∃ v, (applyV 28 (kids.map (Ex.va r.l))) = v := ⟨_, rfl⟩
  have HV := hide hv
  rw [hv]
  clear hv
  go_enter Tryd.func11, Tryd.ntmps11
  go_wp2_with (go_at_call 28; refine (rkids_any 28 kids.length _).mono ?_; rintro e x1 ⟨rfl, hb⟩; rw [HKB.out]; have HS1 := hide (SE.start hb); clear hb)
  go_loopw [6, 5] (fun i v wr => ∃ (k : Nat) (u : Value), u = v ∧ k ≤ kids.length ∧ i = .int .i64 k ∧ wr.ownsRow (w.heap.size + 2) 24 3 v k ((kids.take k).flatMap (fun k => V.cells (k.va r.l))) ∧ Hid (SE w #[.int .i64 28, .int .i64 typ, .int .i64 num, .string text, .int .i64 col, .slice kh.ao kids.length kh.cap] wr)) (fun i _ _ => kids.length - (intOf i).toNat)
  case atStart => exact ⟨0, _, rfl, Nat.zero_le _, rfl, World.ownsRow_nil _ _ _ _, HS1⟩
  case round =>
    obtain ⟨k, u, rfl, hk, rfl, hown, HS2⟩ := hrel
    have HO := hide hown
    have z5 := HS2.out.be.cell (j := 5) rfl
    clear hown HS1
    by_cases hlt : k < kids.length
    · have hlti : (k : Int) < kids.length := by omega
      clear hneed
      obtain ⟨y, hy⟩ : ∃ y, kids[k] = y := ⟨_, rfl⟩
      obtain ⟨p, hix, KC⟩ := kid_at hrow k hlt k rfl hy
      obtain ⟨kb, a0, a1, a2, a3, a4, a5⟩ := KC _ HS2.out.bel
      have HYI := hide (hy ▸ HKI.out _ (List.getElem_mem hlt) : y.In w)
      have HYE := hide (hy ▸ HIH.out _ (List.getElem_mem hlt) : REv r y)
      have HTK := hide (show (kids.take (k + 1)).flatMap (fun k => V.cells (k.va r.l)) = (kids.take k).flatMap (fun k => V.cells (k.va r.l)) ++ V.cells (y.va r.l) from by rw [take_snoc kids hlt, List.flatMap_append, hy]; simp)
      have sl := HS2.out.lt
      clear KC hy
      go_wp2_with (first
        | (go_at_call 11; refine (HYE.out _ (HYI.out.mono HS2.out.bel) (HR.out.mono HS2.out.bel)).mono ?_; rintro e x3 ⟨rfl, hb⟩; have HB3 := hide hb; have HS3 := hide (HS2.out.call hb); clear hb)
        | (at_builtin; refine wpList_append_own _ rfl _ _ 28 rfl (w.heap.size + 2) 24 i0 (.agg #[.int .i64 0, .int .i64 0, .string ByteArray.empty]) 3 32 Tryd.underlying28 HI.out.1 HI.out.2.1 HI.out.2.2.1 HI.out.2.2.2 rfl (by decide) _ _ _ rfl ((HO.out.kept (only_below HB3.out none) (Classical.em _)).alloc _) ⟨x3.heap.size, 0, none⟩ 1 1 (V.cells (y.va r.l)) rfl rfl (new_cells (l := V.cells (y.va r.l))) (v_one _) (by unfold maxLen; omega) (by omega) (by have := HS3.out.lt; simp; omega) ?_; intro v' x4 hown' hgrow _; have HO4 := hide (show x4.ownsRow (w.heap.size + 2) 24 3 v' (k + 1) ((kids.take (k + 1)).flatMap (fun k => V.cells (k.va r.l))) from by rw [HTK.out]; exact hown'); have HG4 := hide hgrow; clear hown' hgrow))
      go_roundw
      case rel =>
        refine ⟨k + 1, _, rfl, by omega, by go_num, HO4.out, hide ?_⟩
        have hg := HG4.out
        have h1 := HS3.out.call (belA (.cells (V.cells (y.va r.l)).toArray 24))
        have hlo := HO.out.lt
        exact ⟨h1.bel.grown hg h1.bel.size (fun j hj => by have := (hlo j hj).1; omega), h1.be.grown hg (fun e => by have := (hlo _ e.symm).1; omega), h1.br.grown hg (fun e => by have := (hlo _ e.symm).1; omega)⟩
      case measure => simp [intOf]; omega
    · have hke : k = kids.length := by omega
      have hlti : ¬ (k : Int) < kids.length := by omega
      have ho := HO.out
      have hlo := HO.out.lt
      rw [hke, List.take_length, ← flat_map] at ho
      obtain ⟨q, hvq, hq, hqin⟩ := vl_mk ho (fun x hx => by obtain ⟨z, hz, rfl⟩ := List.mem_map.1 hx; exact Ex.va_wf HR.out.2 (HKI.out z hz))
      have hql : 1 < q.l.length := by rw [hq, List.length_map]; exact hneed
      have h0 : 0 < q.l.length := by omega
      subst hvq
      have hqb : q.h.b ≠ w.heap.size + 1 := by
        have h1 := (hqin.1.2.2.1 h0).1
        have h2 := (hlo q.h.b (by show Value.ownBlock (.slice q.h.ao _ _) = _; rw [h1]; rfl)).1
        omega
      obtain ⟨hix0, hbb, c0, c1, c2⟩ := apl0 hqin h0
      obtain ⟨a, ha⟩ : ∃ a, q.l[0] = a := ⟨_, rfl⟩
      have HA := hide (ha ▸ hqin.2 _ (List.getElem_mem h0) : a.wf)
      have hga := getD_of h0 ha
      rw [ha] at c0 c1 c2
      obtain ⟨p, hix1, d0, d1, d2⟩ := apl1 hqin hql
      obtain ⟨b, hb⟩ : ∃ b, q.l[1] = b := ⟨_, rfl⟩
      have HB := hide (hb ▸ hqin.2 _ (List.getElem_mem hql) : b.wf)
      have hgb := getD_of hql hb
      rw [hb] at d0 d1 d2
      have HE := hide (show inG a (eqV a b) (q.l.drop 2) = v from by rw [← HV.out, ← hq, ← inV_cons, ← hb, ← List.drop_eq_getElem_cons hql, List.drop_one]; unfold applyV; dsimp only; rw [hga]; simp)
      have HSB := hide HS2.out.bel
      have z0 := HS2.out.be.cell (j := 0) rfl
      generalize wr = y1 at *
      have HQI := hide hqin
      have HAB := hide (And.intro hqb (And.intro hix0 (And.intro hix1 (And.intro c0 (And.intro c1 (And.intro c2 (And.intro d0 (And.intro d1 (And.intro d2 hbb)))))))))
      obtain ⟨n, hqn⟩ : ∃ n, q.l.length = n := ⟨_, rfl⟩
      have hlen2 : n = kids.length := by rw [← hqn, hq, List.length_map]
      have hqn2 : 2 ≤ q.l.length := by omega
      have hn2 := hqin.1.len
      clear ha hga hq hqin ho hlo HO hke hb hgb c0 c1 c2 d0 d1 d2 hlen2 hbb hrow hsm hqn hix0 hix1 hneed
      go_wp2
      obtain ⟨hqb, hix0, hix1, c0, c1, c2, d0, d1, d2, hbb⟩ := HAB.out
      refine rv28_a (q := q) (a := a) (b := b) (p := p) hbb c0 c1 c2 d0 d1 d2 hix0 hix1 ?hc ?hend
      case hc => rfl
      case hend =>
        intro g x1 h1
        have HK1 := hide h1
        clear h1 hix0 hix1 c0 c1 c2 d0 d1 d2
        go_wp2
        go_loopw [8] (fun i wr => ∃ m : Nat, 2 ≤ m ∧ m ≤ q.l.length ∧ i = .int .i64 m ∧ Hid (AK y1 g (inG a (eqV a b) ((q.l.drop 2).take (m - 2))) wr)) (fun i _ => q.l.length - (intOf i).toNat)
        case atStart => exact ⟨2, Nat.le_refl _, hqn2, rfl, HK1⟩
        case round =>
          obtain ⟨m, hm2, hm, rfl, HI⟩ := hrel
          by_cases hmlt : m < q.l.length
          · have hmlti : (m : Int) < q.l.length := by omega
            obtain ⟨o2, ho2⟩ : ∃ o2, inG a (eqV a b) ((q.l.drop 2).take (m - 2)) = o2 := ⟨_, rfl⟩
            rw [ho2] at HI
            have hixm := HQI.out.1.ix hmlt Tryd.underlying28 szval
            obtain ⟨g0, g1, g2⟩ := val_at HQI.out.1 hmlt
            obtain ⟨u, hu⟩ : ∃ u, q.l[m] = u := ⟨_, rfl⟩
            rw [hu] at g0 g1 g2
            have HS := hide (show inG a (eqV a b) ((q.l.drop 2).take (m + 1 - 2)) = orV o2 (eqV a u) from by
              have h2 : m - 2 < (q.l.drop 2).length := by rw [List.length_drop]; omega
              have h3 := inG_succ a (eqV a b) (q.l.drop 2) h2
              rw [show m + 1 - 2 = m - 2 + 1 by omega, h3, ho2, List.getElem_drop]
              congr 2
              rw [← hu]
              congr 1
              omega)
            have HG := hide (And.intro hixm (And.intro g0 (And.intro g1 g2)))
            generalize q.h.o + m * 3 = pm at *
            clear ho2 hu hixm g0 g1 g2
            go_wp2
            obtain ⟨hixm, g0, g1, g2⟩ := HG.out
            obtain ⟨hqb, hix0, hix1, c0, c1, c2, d0, d1, d2, hbb⟩ := HAB.out
            refine rv28_b (y := y1) (o := o2) (g := g) (m := m) (q := q) (a := a) (b := u) (p := pm) hbb c0 c1 c2 g0 g1 g2 hix0 hixm HI ?hc ?hend
            case hc => rfl
            case hend =>
              intro x hx
              have HX := hide hx
              clear hx hix0 hix1 hixm c0 c1 c2 d0 d1 d2 g0 g1 g2
              go_wp2
              go_roundw
              case rel => exact ⟨m + 1, by omega, by omega, by go_num, hide (by rw [HS.out]; exact HX.out)⟩
              case measure => simp [intOf]; omega
          · have hmlti : ¬ (m : Int) < q.l.length := by omega
            have hme : m = q.l.length := by omega
            have HV2 := hide (show inG a (eqV a b) ((q.l.drop 2).take (m - 2)) = v from by rw [← HE.out, hme, ← List.length_drop, List.take_length])
            rw [HV2.out] at HI
            have HS3 := hide (HS2.out.call HI.out.bel)
            have k0 := HI.out.bo.cell (j := 0) rfl
            have k1 := HI.out.bo.cell (j := 1) rfl
            have k2 := HI.out.bo.cell (j := 2) rfl
            have e0 := HS3.out.br.cell (j := 0) rfl
            have e1 := HS3.out.br.cell (j := 1) rfl
            have e2 := HS3.out.br.cell (j := 2) rfl
            have f0 := HS3.out.br.fr 0
            have f1 := HS3.out.br.fr 1
            have f2 := HS3.out.br.fr 2
            clear hme
            go_wp2
            exact bodyPost_ret (v := .agg #[.int .i64 v.kind, .int .i64 v.num, .string v.text]) (by simp [results, Tryd.results11, go_sem, e0, e1, e2]) rfl ⟨rfl, HS3.out.fin _ _ _⟩
end Go.Proofs.YtlkhiihehaiinaaDoor

/- ref02.Eval: any operation of columns. -/
namespace Go.Proofs.YtlkhiihehaiinaaDoor
open Go.RowKit

noncomputable def revV (o : Int) (l : List V) : V := if o = 26 then (if truV (l.getD 0 nulV) = 1 then l.getD 1 nulV else l.getD 2 nulV) else applyV o l
set_option maxRecDepth 10000 in
theorem rev_cols (o : Nat) (kh : Hd) (r : VL) (w : World) (h6 : 6 ≤ o) (h28 : o ≤ 28) (hk : kidsOk o r.l.length = true) (hsm : r.l.length ≤ 1000000) (hrow : Row w 6 Ex.cells kh ((List.range r.l.length).map colE)) (hr : r.In w) :
    Calls Tryd.prog 11 #[.agg #[.int .i64 (o : Nat), .int .i64 0, .int .i64 0, .string ⟨#[]⟩, .int .i64 0, .slice kh.ao r.l.length kh.cap], .slice r.h.ao r.l.length r.h.cap] w fun e w' => e = .returned (.agg #[.int .i64 (revV o r.l).kind, .int .i64 (revV o r.l).num, .string (revV o r.l).text]) ∧ Below w.heap.size w w' := by
  have hlen : ((List.range r.l.length).map colE).length = r.l.length := by simp
  have hcv := cols_va r.l
  have hki : Hid (∀ k ∈ (List.range r.l.length).map colE, k.In w) := hide (fun k hk => by obtain ⟨i, hi, rfl⟩ := List.mem_map.1 hk; exact col_in (by have := List.mem_range.1 hi; omega))
  have hih : Hid (∀ k ∈ (List.range r.l.length).map colE, REv r k) := hide (fun k hk => by obtain ⟨i, hi, rfl⟩ := List.mem_map.1 hk; exact rev_col r i (List.mem_range.1 hi))
  obtain ⟨kids, hkd⟩ : ∃ kids, (List.range r.l.length).map colE = kids := ⟨_, rfl⟩
  rw [hkd] at hlen hcv hki hih hrow
  clear hkd
  have hc : o = 6 ∨ o = 7 ∨ o = 8 ∨ o = 9 ∨ o = 10 ∨ o = 11 ∨ o = 12 ∨ o = 13 ∨ o = 14 ∨ o = 15 ∨ o = 16 ∨ o = 17 ∨ o = 18 ∨ o = 19 ∨ o = 20 ∨ o = 21 ∨ o = 22 ∨ o = 23 ∨ o = 24 ∨ o = 25 ∨ o = 26 ∨ o = 27 ∨ o = 28 := by omega
  rcases hc with rfl | rfl | rfl | rfl | rfl | rfl | rfl | rfl | rfl | rfl | rfl | rfl | rfl | rfl | rfl | rfl | rfl | rfl | rfl | rfl | rfl | rfl | rfl
  · have hn : 1 < kids.length := by
      have h := hk
      simp [kidsOk] at h
      omega
    have hh := rev_6 0 0 ⟨#[]⟩ 0 kh kids r w (by omega) hrow hki hih (hide hr) (hide (by rw [hlen]; exact hk)) hn
    rw [hcv, hlen] at hh
    rw [show (((6 : Nat) : Int) = 6) from rfl, show revV 6 r.l = applyV 6 r.l from if_neg (by decide)]
    exact hh
  · have hn : 1 < kids.length := by
      have h := hk
      simp [kidsOk] at h
      omega
    have hh := rev_7 0 0 ⟨#[]⟩ 0 kh kids r w (by omega) hrow hki hih (hide hr) (hide (by rw [hlen]; exact hk)) hn
    rw [hcv, hlen] at hh
    rw [show (((7 : Nat) : Int) = 7) from rfl, show revV 7 r.l = applyV 7 r.l from if_neg (by decide)]
    exact hh
  · have hn : 1 < kids.length := by
      have h := hk
      simp [kidsOk] at h
      omega
    have hh := rev_8 0 0 ⟨#[]⟩ 0 kh kids r w (by omega) hrow hki hih (hide hr) (hide (by rw [hlen]; exact hk)) hn
    rw [hcv, hlen] at hh
    rw [show (((8 : Nat) : Int) = 8) from rfl, show revV 8 r.l = applyV 8 r.l from if_neg (by decide)]
    exact hh
  · have hn : 1 < kids.length := by
      have h := hk
      simp [kidsOk] at h
      omega
    have hh := rev_9 0 0 ⟨#[]⟩ 0 kh kids r w (by omega) hrow hki hih (hide hr) (hide (by rw [hlen]; exact hk)) hn
    rw [hcv, hlen] at hh
    rw [show (((9 : Nat) : Int) = 9) from rfl, show revV 9 r.l = applyV 9 r.l from if_neg (by decide)]
    exact hh
  · have hn : 1 < kids.length := by
      have h := hk
      simp [kidsOk] at h
      omega
    have hh := rev_10 0 0 ⟨#[]⟩ 0 kh kids r w (by omega) hrow hki hih (hide hr) (hide (by rw [hlen]; exact hk)) hn
    rw [hcv, hlen] at hh
    rw [show (((10 : Nat) : Int) = 10) from rfl, show revV 10 r.l = applyV 10 r.l from if_neg (by decide)]
    exact hh
  · have hn : 0 < kids.length := by
      have h := hk
      simp [kidsOk] at h
      omega
    have hh := rev_11 0 0 ⟨#[]⟩ 0 kh kids r w (by omega) hrow hki hih (hide hr) (hide (by rw [hlen]; exact hk)) hn
    rw [hcv, hlen] at hh
    rw [show (((11 : Nat) : Int) = 11) from rfl, show revV 11 r.l = applyV 11 r.l from if_neg (by decide)]
    exact hh
  · have hn : 1 < kids.length := by
      have h := hk
      simp [kidsOk] at h
      omega
    have hh := rev_12 0 0 ⟨#[]⟩ 0 kh kids r w (by omega) hrow hki hih (hide hr) (hide (by rw [hlen]; exact hk)) hn
    rw [hcv, hlen] at hh
    rw [show (((12 : Nat) : Int) = 12) from rfl, show revV 12 r.l = applyV 12 r.l from if_neg (by decide)]
    exact hh
  · have hn : 0 < kids.length := by
      have h := hk
      simp [kidsOk] at h
      omega
    have hh := rev_13 0 0 ⟨#[]⟩ 0 kh kids r w (by omega) hrow hki hih (hide hr) (hide (by rw [hlen]; exact hk)) hn
    rw [hcv, hlen] at hh
    rw [show (((13 : Nat) : Int) = 13) from rfl, show revV 13 r.l = applyV 13 r.l from if_neg (by decide)]
    exact hh
  · have hn : 1 < kids.length := by
      have h := hk
      simp [kidsOk] at h
      omega
    have hh := rev_14 0 0 ⟨#[]⟩ 0 kh kids r w (by omega) hrow hki hih (hide hr) (hide (by rw [hlen]; exact hk)) hn
    rw [hcv, hlen] at hh
    rw [show (((14 : Nat) : Int) = 14) from rfl, show revV 14 r.l = applyV 14 r.l from if_neg (by decide)]
    exact hh
  · have hn : 1 < kids.length := by
      have h := hk
      simp [kidsOk] at h
      omega
    have hh := rev_15 0 0 ⟨#[]⟩ 0 kh kids r w (by omega) hrow hki hih (hide hr) (hide (by rw [hlen]; exact hk)) hn
    rw [hcv, hlen] at hh
    rw [show (((15 : Nat) : Int) = 15) from rfl, show revV 15 r.l = applyV 15 r.l from if_neg (by decide)]
    exact hh
  · have hn : 1 < kids.length := by
      have h := hk
      simp [kidsOk] at h
      omega
    have hh := rev_16 0 0 ⟨#[]⟩ 0 kh kids r w (by omega) hrow hki hih (hide hr) (hide (by rw [hlen]; exact hk)) hn
    rw [hcv, hlen] at hh
    rw [show (((16 : Nat) : Int) = 16) from rfl, show revV 16 r.l = applyV 16 r.l from if_neg (by decide)]
    exact hh
  · have hn : 1 < kids.length := by
      have h := hk
      simp [kidsOk] at h
      omega
    have hh := rev_17 0 0 ⟨#[]⟩ 0 kh kids r w (by omega) hrow hki hih (hide hr) (hide (by rw [hlen]; exact hk)) hn
    rw [hcv, hlen] at hh
    rw [show (((17 : Nat) : Int) = 17) from rfl, show revV 17 r.l = applyV 17 r.l from if_neg (by decide)]
    exact hh
  · have hn : 1 < kids.length := by
      have h := hk
      simp [kidsOk] at h
      omega
    have hh := rev_18 0 0 ⟨#[]⟩ 0 kh kids r w (by omega) hrow hki hih (hide hr) (hide (by rw [hlen]; exact hk)) hn
    rw [hcv, hlen] at hh
    rw [show (((18 : Nat) : Int) = 18) from rfl, show revV 18 r.l = applyV 18 r.l from if_neg (by decide)]
    exact hh
  · have hn : 1 < kids.length := by
      have h := hk
      simp [kidsOk] at h
      omega
    have hh := rev_19 0 0 ⟨#[]⟩ 0 kh kids r w (by omega) hrow hki hih (hide hr) (hide (by rw [hlen]; exact hk)) hn
    rw [hcv, hlen] at hh
    rw [show (((19 : Nat) : Int) = 19) from rfl, show revV 19 r.l = applyV 19 r.l from if_neg (by decide)]
    exact hh
  · have hn : 1 < kids.length := by
      have h := hk
      simp [kidsOk] at h
      omega
    have hh := rev_20 0 0 ⟨#[]⟩ 0 kh kids r w (by omega) hrow hki hih (hide hr) (hide (by rw [hlen]; exact hk)) hn
    rw [hcv, hlen] at hh
    rw [show (((20 : Nat) : Int) = 20) from rfl, show revV 20 r.l = applyV 20 r.l from if_neg (by decide)]
    exact hh
  · have hn : 0 < kids.length := by
      have h := hk
      simp [kidsOk] at h
      omega
    have hh := rev_21 0 0 ⟨#[]⟩ 0 kh kids r w (by omega) hrow hki hih (hide hr) (hide (by rw [hlen]; exact hk)) hn
    rw [hcv, hlen] at hh
    rw [show (((21 : Nat) : Int) = 21) from rfl, show revV 21 r.l = applyV 21 r.l from if_neg (by decide)]
    exact hh
  · have hn : 1 < kids.length := by
      have h := hk
      simp [kidsOk] at h
      omega
    have hh := rev_22 0 0 ⟨#[]⟩ 0 kh kids r w (by omega) hrow hki hih (hide hr) (hide (by rw [hlen]; exact hk)) hn
    rw [hcv, hlen] at hh
    rw [show (((22 : Nat) : Int) = 22) from rfl, show revV 22 r.l = applyV 22 r.l from if_neg (by decide)]
    exact hh
  · have hn : 1 < kids.length := by
      have h := hk
      simp [kidsOk] at h
      omega
    have hh := rev_23 0 0 ⟨#[]⟩ 0 kh kids r w (by omega) hrow hki hih (hide hr) (hide (by rw [hlen]; exact hk)) hn
    rw [hcv, hlen] at hh
    rw [show (((23 : Nat) : Int) = 23) from rfl, show revV 23 r.l = applyV 23 r.l from if_neg (by decide)]
    exact hh
  · have hn : 0 < kids.length := by
      have h := hk
      simp [kidsOk] at h
      omega
    have hh := rev_24 0 0 ⟨#[]⟩ 0 kh kids r w (by omega) hrow hki hih (hide hr) (hide (by rw [hlen]; exact hk)) hn
    rw [hcv, hlen] at hh
    rw [show (((24 : Nat) : Int) = 24) from rfl, show revV 24 r.l = applyV 24 r.l from if_neg (by decide)]
    exact hh
  · have hn : 0 < kids.length := by
      have h := hk
      simp [kidsOk] at h
      omega
    have hh := rev_25 0 0 ⟨#[]⟩ 0 kh kids r w (by omega) hrow hki hih (hide hr) (hide (by rw [hlen]; exact hk)) hn
    rw [hcv, hlen] at hh
    rw [show (((25 : Nat) : Int) = 25) from rfl, show revV 25 r.l = applyV 25 r.l from if_neg (by decide)]
    exact hh
  · have hn : 2 < kids.length := by
      have h := hk
      simp [kidsOk] at h
      omega
    have hh := rev_26 0 0 ⟨#[]⟩ 0 kh kids r w (by omega) hrow hki hih (hide hr) (hide (by rw [hlen]; exact hk)) hn
    rw [hcv, hlen] at hh
    rw [show (((26 : Nat) : Int) = 26) from rfl, show revV 26 r.l = (if truV (r.l.getD 0 nulV) = 1 then r.l.getD 1 nulV else r.l.getD 2 nulV) from if_pos rfl]
    exact hh
  · have hn : 1 < kids.length := by
      have h := hk
      simp [kidsOk] at h
      omega
    have hh := rev_27 0 0 ⟨#[]⟩ 0 kh kids r w (by omega) hrow hki hih (hide hr) (hide (by rw [hlen]; exact hk)) hn
    rw [hcv, hlen] at hh
    rw [show (((27 : Nat) : Int) = 27) from rfl, show revV 27 r.l = applyV 27 r.l from if_neg (by decide)]
    exact hh
  · have hn : 1 < kids.length := by
      have h := hk
      simp [kidsOk] at h
      omega
    have hh := rev_28 0 0 ⟨#[]⟩ 0 kh kids r w (by omega) hrow hki hih (hide hr) (hide (by rw [hlen]; exact hk)) hn
    rw [hcv, hlen] at hh
    rw [show (((28 : Nat) : Int) = 28) from rfl, show revV 28 r.l = applyV 28 r.l from if_neg (by decide)]
    exact hh
end Go.Proofs.YtlkhiihehaiinaaDoor

/- Each fault of an operation shows for some operands: plainly. -/
namespace Go.Proofs.YtlkhiihehaiinaaDoor
open Go.RowKit

def txtC (s : ByteArray) : Bool := decide (s.size ≤ 24) && s.data.toList.all (fun b => goodN b.toNat)
theorem txt_C (s : ByteArray) : txt s = txtC s := by
  unfold txtC
  by_cases h : TxtOk s
  · rw [txt_yes h, decide_eq_true h.1, Bool.true_and]
    symm
    rw [List.all_eq_true]
    intro b hb
    obtain ⟨j, hj, rfl⟩ := List.getElem_of_mem hb
    have hj2 : j < s.size := by have : j < s.data.toList.length := hj; simpa using this
    have h2 := h.2 j hj2
    have e : s.data.toList[j]'hj = s[j]'hj2 := by rw [Array.getElem_toList]; rfl
    rw [e]
    exact h2
  · rw [txt_no h]
    symm
    rw [Bool.and_eq_false_iff]
    by_cases hs : s.size ≤ 24
    · right
      rw [Bool.eq_false_iff]
      intro ha
      apply h
      refine ⟨hs, fun j hj => ?_⟩
      rw [List.all_eq_true] at ha
      have h3 := ha (s[j]'hj) (by
        have : s[j]'hj = s.data.toList[j]'(by simpa using hj) := by rw [Array.getElem_toList]; rfl
        rw [this]
        exact List.getElem_mem _)
      exact h3
    · left; exact decide_eq_false hs
def validC (v : V) : Bool := if v.kind = 0 then (v.num == 0) && (v.text.data.toList == []) else if v.kind = 1 then inR v.num && (v.text.data.toList == []) else if v.kind = 2 then in01 v.num && (v.text.data.toList == []) else if v.kind = 3 then (v.num == 0) && txtC v.text else false
theorem valid_C (v : V) : validV v = validC v := by unfold validV validC; rw [ByteArray.toList_eq, txt_C]
def sameC (a b : V) : Bool := (a.kind == b.kind) && (a.num == b.num) && (a.text.data.toList == b.text.data.toList)
theorem same_C (a b : V) : sameB a b = sameC a b := by unfold sameB sameC; rw [ByteArray.toList_eq, ByteArray.toList_eq]
def eqC (a b : V) : V := if a.kind = 0 ∨ b.kind = 0 then nulV else bV (sameC a b)
theorem eq_C (a b : V) : eqV a b = eqC a b := by unfold eqV eqC; rw [same_C]
def cmpSC (s t : ByteArray) : Int := if Op.bytesLess s.data.toList t.data.toList then -1 else if s.data.toList == t.data.toList then 0 else 1
def cmpC (a b : V) : Int := if cmpI a.kind b.kind ≠ 0 then cmpI a.kind b.kind else if cmpI a.num b.num ≠ 0 then cmpI a.num b.num else cmpSC a.text b.text
theorem cmp_C (a b : V) : cmpV a b = cmpC a b := by unfold cmpV cmpC cmpS cmpSC; rw [ByteArray.toList_eq, ByteArray.toList_eq]
def lessC (a b : V) : V := if a.kind = 0 ∨ b.kind = 0 then nulV else bV (decide (cmpC a b < 0))
theorem less_C (a b : V) : lessV a b = lessC a b := by unfold lessV lessC; rw [cmp_C]
def catC (a b : ByteArray) : ByteArray := ⟨(a.data.toList ++ b.data.toList).toArray⟩
theorem cat_C (a b : ByteArray) : a ++ b = catC a b := by
  apply ByteArray.ext
  unfold catC
  simp
def arithC (op : Int) (a b : V) : V :=
  if validC a = false ∨ validC b = false ∨ a.kind ≠ b.kind then nulV
  else if a.kind = 1 then (match numP op a.num b.num with | some n => if inR n then numV n else nulV | none => nulV)
  else if a.kind = 3 ∧ op = 12 then (if txtC (catC a.text b.text) then txtV (catC a.text b.text) else nulV) else nulV
theorem arith_C (op : Int) (a b : V) : arithV op a b = arithC op a b := by unfold arithV arithC; simp only [valid_C, txt_C, cat_C]; rfl
def inC (a : V) (l : List V) : V := l.foldl (fun o x => orV o (eqC a x)) (bV false)
theorem in_C (a : V) (l : List V) : inV a l = inC a l := by unfold inV inC; simp only [eq_C]
def applyC (op : Int) (l : List V) : V :=
  let a := l.getD 0 nulV
  let b := l.getD 1 nulV
  if (6 ≤ op ∧ op ≤ 10) ∨ op = 12 then arithC op a b
  else if op = 11 then arithC 7 ⟨1, 0, ⟨#[]⟩⟩ a
  else if op = 13 then (if a.kind = 3 then numV a.text.size else nulV)
  else if op = 14 then eqC a b else if op = 15 then notV (eqC a b) else if op = 16 then lessC a b else if op = 17 then notV (lessC b a)
  else if op = 18 then lessC b a else if op = 19 then notV (lessC a b) else if op = 20 then bV (sameC a b) else if op = 21 then bV (a.kind == 0)
  else if op = 22 then andV a b else if op = 23 then orV a b else if op = 24 then notV a else if op = 25 then bV (truV a == 1)
  else if op = 27 then (if a.kind = 0 then b else a) else if op = 28 then inC a l.tail else nulV
theorem apply_C (op : Int) (l : List V) : applyV op l = applyC op l := by unfold applyV applyC; simp only [arith_C, eq_C, less_C, same_C, in_C]
def topC (op : Int) (L : List V) : V :=
  if knownB op L.length = false then nulV
  else if op = 2 then ⟨1, 0, ⟨#[]⟩⟩ else if op = 3 then ⟨2, 0, ⟨#[]⟩⟩ else if op = 4 then ⟨3, 0, ⟨#[]⟩⟩
  else if op = 5 then (if 0 ≤ (0 : Int) ∧ (0 : Int) < L.length then L.getD (0 : Int).toNat nulV else nulV)
  else if op = 26 then (if truV (L.getD 0 nulV) = 1 then L.getD 1 nulV else L.getD 2 nulV)
  else applyC op L
theorem top_C (op : Int) (L : List V) : appV op L = topC op L := by unfold appV topV topC; rw [apply_C]
def invC (v : V) : V := if v.kind = 2 then notV v else if v.kind = 1 then arithC 6 v ⟨1, 1, ⟨#[]⟩⟩ else if v.kind = 3 then arithC 12 v ⟨3, 0, ⟨#[33]⟩⟩ else v
theorem inv_C (v : V) : invV v = invC v := by unfold invV invC; simp only [arith_C]
def fvC (f o : Nat) (l : List V) : V :=
  if f = 0 then invC (topC o l) else if f = 1 then (if l.any isN = true then nulV else topC o l) else if f = 2 then topC o (zeroL o l) else if f = 3 then topC o (swapL l) else topC (rpN o) l
theorem fv_C (f o : Nat) (l : List V) : fvV f o l = fvC f o l := by unfold fvV fvC; simp only [top_C, inv_C]
def revC (o : Int) (l : List V) : V := if o = 26 then (if truV (l.getD 0 nulV) = 1 then l.getD 1 nulV else l.getD 2 nulV) else applyC o l
theorem rev_C (o : Int) (l : List V) : revV o l = revC o l := by unfold revV revC; rw [apply_C]
/-- The operands that the law tries. -/
def vals8 : List V := [nulV, ⟨1, 0, ⟨#[]⟩⟩, ⟨1, 1, ⟨#[]⟩⟩, ⟨1, 3, ⟨#[]⟩⟩, ⟨2, 0, ⟨#[]⟩⟩, ⟨2, 1, ⟨#[]⟩⟩, ⟨3, 0, ⟨#[97]⟩⟩, ⟨3, 0, ⟨#[98]⟩⟩]
def rowL (n x : Nat) : List V := [vals8.getD (x % 8) nulV, vals8.getD (x / 8 % 8) nulV, vals8.getD (x / 64 % 8) nulV].take n
def nOf (o : Nat) : Nat := if o = 11 ∨ o = 13 ∨ o = 21 ∨ o = 24 ∨ o = 25 then 1 else if o = 26 ∨ o = 28 then 3 else 2
/-- For each fault a row of operands at which it shows. -/
def xtab : List Nat := [9, 9, 9, 17, 17, 1, 54, 6, 9, 9, 9, 9, 9, 9, 0, 0, 4, 5, 4, 0, 13, 1, 9, 0, 0, 4, 5, 0, 13, 1, 9, 0, 0, 0, 16, 16, 0, 0, 0, 0, 0, 0, 0, 0, 0, 0, 0, 0, 0, 10, 10, 10, 55, 10, 10, 10, 10, 10, 65, 17, 17, 10, 18, 18, 0, 10, 9, 9, 9, 9, 0, 4, 4]
def showsC (p : Nat × Nat) (x : Nat) : Bool := decide (x < 8 ^ nOf p.2) && !sameC (fvC p.1 p.2 (rowL (nOf p.2) x)) (revC p.2 (rowL (nOf p.2) x))
theorem shows_tab : ((List.range 73).all fun k => showsC (ftab.getD k (0, 0)) (xtab.getD k 0)) = true := by kernel_rfl
/-- Each fault of an operation shows for some operands. -/
theorem shows_at {k f o : Nat} (h : ftab[k]? = some (f, o)) : ∃ x, x < 8 ^ nOf o ∧ sameB (fvV f o (rowL (nOf o) x)) (revV o (rowL (nOf o) x)) = false := by
  have h1 := List.all_eq_true.1 shows_tab k (List.mem_range.2 (ftab_lt h))
  rw [List.getD_eq_getElem?_getD, h, Option.getD_some] at h1
  unfold showsC at h1
  rw [Bool.and_eq_true, Bool.not_eq_true'] at h1
  refine ⟨_, of_decide_eq_true h1.1, ?_⟩
  rw [fv_C, rev_C, same_C]
  exact h1.2
theorem rowL_len (n x : Nat) (hn : n ≤ 3) : (rowL n x).length = n := by
  unfold rowL
  rw [List.length_take]
  simp only [List.length_cons, List.length_nil]
  omega
theorem nOf_cases (o : Nat) : nOf o = 1 ∨ nOf o = 2 ∨ nOf o = 3 := by
  unfold nOf
  split
  · exact .inl rfl
  · split
    · exact .inr (.inr rfl)
    · exact .inr (.inl rfl)
theorem kids_nOf {o : Nat} (h6 : 6 ≤ o) (h28 : o ≤ 28) : kidsOk o (nOf o) = true ∧ fitsB o (nOf o) = true := by
  have hc : o = 6 ∨ o = 7 ∨ o = 8 ∨ o = 9 ∨ o = 10 ∨ o = 11 ∨ o = 12 ∨ o = 13 ∨ o = 14 ∨ o = 15 ∨ o = 16 ∨ o = 17 ∨ o = 18 ∨ o = 19 ∨ o = 20 ∨ o = 21 ∨ o = 22 ∨ o = 23 ∨ o = 24 ∨ o = 25 ∨ o = 26 ∨ o = 27 ∨ o = 28 := by omega
  rcases hc with rfl | rfl | rfl | rfl | rfl | rfl | rfl | rfl | rfl | rfl | rfl | rfl | rfl | rfl | rfl | rfl | rfl | rfl | rfl | rfl | rfl | rfl | rfl <;> exact ⟨by kernel_rfl, by kernel_rfl⟩
end Go.Proofs.YtlkhiihehaiinaaDoor

/- conjunctive.match. -/
import Derived.Test.YtiijaaohphokcaaGreatDoorG08
import Derived.Test.YtiijaaohphokcaaGreatDoorG09
import Derived.OwnWalk
import Derived.Deep.DeepCutAuto
set_option maxRecDepth 100000
set_option maxHeartbeats 16000000
namespace Go.Proofs.YtiijaaohphokcaaGreatDoor
open Go.RowKit
theorem owp_make {P:Program} {w:World} {o:Oper} {a:Act} {K:Act→World→Prop} {Q:Exit→Act→World→Prop} (l c:Operand) (t:TypeId) (hop:o.op=Op.makeSlice t l c)
  (base:Nat) (e:TypeId) (i:TypeInfo) (z:Value) (size:Nat) (h1:P.underlying t=some (.slice e)) (h2:P.info? e=some i) (h3:i.zero=some z) (h4:i.size=size)
  (n:Nat) (hl:a.eval l = .int .i64 (n:Nat)) (hc:a.eval c = .int .i64 (n:Nat)) (b2:i.bytes*n≤281474976710656) (b3:n≤maxLen) (b4:base≤w.heap.size)
  (hK: ∀w',w'.ownsRow base e size (.slice (some ⟨w.heap.size,0,none⟩) n n) n (madeCells z.cells (n*size)).toList→w.grownBy w' none→K (a.put o.dst (.slice (some ⟨w.heap.size,0,none⟩) n n)) w') :o.wp P a w K Q:=by
 obtain⟨w',hrun,r1,r2⟩:=run_make_full (P:=P) w base t e i z size h1 h2 h3 h4 .i64 .i64 n b2 b3 b4
 unfold Oper.wp
 simp [execOp,hop,hl,hc,hrun,Result.andThen];exact hK w' r1 r2
theorem grown_below {w x:World} (h:w.grownBy x none) :Below w.heap.size w x:=⟨h.os,h.tape,h.output,h.size,fun b hb=>h.block b hb (by simp)⟩
theorem row_ne_box {w:World} {base n c g g' size:Nat} {e T:TypeId} {xs:List Value} {cs:Array Value} (h:w.ownsRow base e size (.slice (some ⟨g,0,none⟩) n c) n xs) (hb:Box w g' cs T) (hne:e≠T) :g≠g':=by
 rintro rfl;rcases h.2 with⟨h2,_⟩ | ⟨g2,cap',cur,hv,_,hg,_⟩
 ·cases h2
 ·injection hv with e1
  injection e1 with e1;injection e1 with e1 _;subst e1
  unfold Box at hb
  rw [hg]at hb;injection hb with hb;injection hb with _ hb;exact hne hb
theorem row_ne_row {w:World} {b1 b2 n n' c c' g g' s s':Nat} {e e':TypeId} {xs ys:List Value} (h:w.ownsRow b1 e s (.slice (some ⟨g,0,none⟩) n c) n xs) (k:w.ownsRow b2 e' s' (.slice (some ⟨g',0,none⟩) n' c') n' ys) (hne:e≠e') :g≠g':=by
 rcases k.2 with⟨h2,_⟩ | ⟨g2,cap',cur,hv,_,hg,_⟩
 ·cases h2
 ·injection hv with e1
  injection e1 with e1;injection e1 with e1 _;subst e1;rcases h.2 with⟨h2,_⟩ | ⟨g3,cap3,cur3,hv3,_,hg3,_⟩
  ·cases h2
  ·injection hv3 with e3
   injection e3 with e3;injection e3 with e3 _;subst e3;rintro rfl;rw [hg]at hg3;injection hg3 with hg3;injection hg3 with _ hg3;exact hne hg3.symm
theorem info_ptr: (Tryz.prog.info? 172).map (fun i=>(i.zero,i.size,i.bytes)) =some (some (.pointer none),1,8):=by kernel_rfl
theorem info_bool: (Tryz.prog.info? 4).map (fun i=>(i.zero,i.size,i.bytes)) =some (some (.bool false),1,1):=by kernel_rfl
noncomputable def mtBody:Code:=Tryz.f47.body.getD .skip
theorem made_cells (z:Value) (hz:z.cells = #[z]) (n:Nat) : (madeCells z.cells (n*1)).toList=List.replicate n z:=by
 rw [hz,Nat.mul_one];apply List.ext_getElem
 ·simp [madeCells]
 ·intro i h1 h2
  simp [madeCells,Nat.mod_one]
theorem mt_reg {g3 g4:Nat} {q r:Cq} {single:Bool} {W:World} (hqv:q.vars≤1000) (hrl:r.lits.length≤1000) (HQB:Hid (Box W g3 #[.int .i64 (q.vars:Nat),.slice q.lh.ao q.lits.length q.lh.cap,.slice q.head.h.ao q.head.l.length q.head.h.cap] 32)) (HRB:Hid (Box W g4 #[.int .i64 (r.vars:Nat),.slice r.lh.ao r.lits.length r.lh.cap,.slice r.head.h.ao r.head.l.length r.head.h.cap] 32)) {Q:Exit→Act→World→Prop} {c:Code} {u0 u1 u5 u6 u7 u8 u9 u10 u11 u12 u13 u14 u15 u16 u17 u18 u19 u20 u21 u22 u23 u24 u25 u26 u27 u28 u29 u30 u31 u32 u33 u34 u35 u36 u37:Value} (hc:c=codeIn [1,0] mtBody) (hend: ∀b5 c9 b10 c10 b11 x,Below W.heap.size W x→Box x b11 #[.int .i64 0,.slice none 0 0,.slice none 0 0,.int .i64 0,.slice none 0 0,.slice none 0 0,.bool false,.slice none 0 0,.slice none 0 0,.slice none 0 0] 135→x.ownsRow W.heap.size 172 1 (.slice (some ⟨b10,0,none⟩) q.vars q.vars) q.vars (madeCells (Value.pointer none).cells (q.vars*1)).toList→x.ownsRow W.heap.size 4 1 (.slice (some ⟨c10,0,none⟩) r.lits.length r.lits.length) r.lits.length (madeCells (Value.bool false).cells (r.lits.length*1)).toList→(b10≠b11∧c10≠b11∧b10≠c10)→W.heap.size≤b11→Q .normal { tmps:=(u0 :: u1 :: (.bool single) :: (.pointer (some ⟨g3,0,none⟩)) :: (.pointer (some ⟨g4,0,none⟩)) :: u5 :: u6 :: u7 :: .pointer (some ⟨b11,0,none⟩) :: u9 :: u10 :: .agg #[.int .i64 (q.vars:Nat),.slice q.lh.ao q.lits.length q.lh.cap,.slice q.head.h.ao q.head.l.length q.head.h.cap] :: .agg #[.int .i64 (r.vars:Nat),.slice r.lh.ao r.lits.length r.lh.cap,.slice r.head.h.ao r.head.l.length r.head.h.cap] :: .bool single :: .pointer (some ⟨g3,0,none⟩) :: .int .i64 (q.vars:Nat) :: .slice (some ⟨b5,0,none⟩) q.vars q.vars :: .pointer (some ⟨g4,1,none⟩) :: .slice r.lh.ao r.lits.length r.lh.cap :: .int .i64 (r.lits.length:Nat) :: .slice (some ⟨c9,0,none⟩) r.lits.length r.lits.length :: .agg #[.int .i64 (q.vars:Nat),.slice q.lh.ao q.lits.length q.lh.cap,.slice q.head.h.ao q.head.l.length q.head.h.cap,.int .i64 (r.vars:Nat),.slice r.lh.ao r.lits.length r.lh.cap,.slice r.head.h.ao r.head.l.length r.head.h.cap,.bool single,.slice (some ⟨b10,0,none⟩) q.vars q.vars,.slice (some ⟨c10,0,none⟩) r.lits.length r.lits.length,.slice none 0 0] :: u22 :: u23 :: u24 :: u25 :: u26 :: u27 :: u28 :: u29 :: u30 :: u31 :: u32 :: u33 :: u34 :: u35 :: u36 :: u37 :: []).toArray,defers:= [] } ((((((((((x.setCell ⟨b11,0,none⟩ (.int .i64 (q.vars:Nat))).setCell ⟨b11,1,none⟩ (.slice q.lh.ao q.lits.length q.lh.cap)).setCell ⟨b11,2,none⟩ (.slice q.head.h.ao q.head.l.length q.head.h.cap)).setCell ⟨b11,3,none⟩ (.int .i64 (r.vars:Nat))).setCell ⟨b11,4,none⟩ (.slice r.lh.ao r.lits.length r.lh.cap)).setCell ⟨b11,5,none⟩ (.slice r.head.h.ao r.head.l.length r.head.h.cap)).setCell ⟨b11,6,none⟩ (.bool single)).setCell ⟨b11,7,none⟩ (.slice (some ⟨b10,0,none⟩) q.vars q.vars)).setCell ⟨b11,8,none⟩ (.slice (some ⟨c10,0,none⟩) r.lits.length r.lits.length)).setCell ⟨b11,9,none⟩ (.slice none 0 0))) :Code.wp Tryz.prog c Q { tmps:=(u0 :: u1 :: (.bool single) :: (.pointer (some ⟨g3,0,none⟩)) :: (.pointer (some ⟨g4,0,none⟩)) :: u5 :: u6 :: u7 :: u8 :: u9 :: u10 :: u11 :: u12 :: u13 :: u14 :: u15 :: u16 :: u17 :: u18 :: u19 :: u20 :: u21 :: u22 :: u23 :: u24 :: u25 :: u26 :: u27 :: u28 :: u29 :: u30 :: u31 :: u32 :: u33 :: u34 :: u35 :: u36 :: u37 :: []).toArray,defers:= [] } W:=by
 subst hc;conv=>enter [2];whnf
 refine wp_region_tail (by kernel_rfl) (by kernel_rfl) 12 (by show 12<_;decide) (by kernel_rfl) (by kernel_rfl) (fun s:Nat→Value=>({ tmps:=(u0 :: u1 :: (.bool single) :: (.pointer (some ⟨g3,0,none⟩)) :: (.pointer (some ⟨g4,0,none⟩)) :: u5 :: u6 :: u7 :: s 8 :: u9 :: u10 :: s 11 :: s 12 :: s 13 :: s 14 :: s 15 :: s 16 :: s 17 :: s 18 :: s 19 :: s 20 :: s 21 :: u22 :: u23 :: u24 :: u25 :: u26 :: u27 :: u28 :: u29 :: u30 :: u31 :: u32 :: u33 :: u34 :: u35 :: u36 :: u37 :: []).toArray,defers:= [] } : Act)) (fun k=>if k=11 then u11 else if k=12 then u12 else if k=13 then u13 else if k=14 then u14 else if k=15 then u15 else if k=16 then u16 else if k=17 then u17 else if k=18 then u18 else if k=19 then u19 else if k=20 then u20 else if k=21 then u21 else if k=8 then u8 else undef) rfl (fun i v x=>(i=5→∃b5,v = .slice (some ⟨b5,0,none⟩) q.vars q.vars∧x.ownsRow W.heap.size 172 1 (.slice (some ⟨b5,0,none⟩) q.vars q.vars) q.vars (madeCells (Value.pointer none).cells (q.vars*1)).toList)∧(i=9→∃c9,v = .slice (some ⟨c9,0,none⟩) r.lits.length r.lits.length∧x.ownsRow W.heap.size 4 1 (.slice (some ⟨c9,0,none⟩) r.lits.length r.lits.length) r.lits.length (madeCells (Value.bool false).cells (r.lits.length*1)).toList)∧(i=10→∃b10 c10,v = .agg #[.int .i64 (q.vars:Nat),.slice q.lh.ao q.lits.length q.lh.cap,.slice q.head.h.ao q.head.l.length q.head.h.cap,.int .i64 (r.vars:Nat),.slice r.lh.ao r.lits.length r.lh.cap,.slice r.head.h.ao r.head.l.length r.head.h.cap,.bool single,.slice (some ⟨b10,0,none⟩) q.vars q.vars,.slice (some ⟨c10,0,none⟩) r.lits.length r.lits.length,.slice none 0 0]∧x.ownsRow W.heap.size 172 1 (.slice (some ⟨b10,0,none⟩) q.vars q.vars) q.vars (madeCells (Value.pointer none).cells (q.vars*1)).toList∧x.ownsRow W.heap.size 4 1 (.slice (some ⟨c10,0,none⟩) r.lits.length r.lits.length) r.lits.length (madeCells (Value.bool false).cells (r.lits.length*1)).toList)∧(i=11→∃b,v = .pointer (some ⟨b,0,none⟩)∧Box x b #[.int .i64 0,.slice none 0 0,.slice none 0 0,.int .i64 0,.slice none 0 0,.slice none 0 0,.bool false,.slice none 0 0,.slice none 0 0,.slice none 0 0] 135∧W.heap.size≤b)∧(i≠5→i≠9→i≠10→i≠11→([.agg #[.int .i64 (q.vars:Nat),.slice q.lh.ao q.lits.length q.lh.cap,.slice q.head.h.ao q.head.l.length q.head.h.cap],.agg #[.int .i64 (r.vars:Nat),.slice r.lh.ao r.lits.length r.lh.cap,.slice r.head.h.ao r.head.l.length r.head.h.cap],.bool single,.pointer (some ⟨g3,0,none⟩),.int .i64 (q.vars:Nat),undef,.pointer (some ⟨g4,1,none⟩),.slice r.lh.ao r.lits.length r.lh.cap,.int .i64 (r.lits.length:Nat),undef,undef,undef] :List Value)[i]? = some v)) (fun i v x y h hb=>⟨fun hi=>(by obtain⟨b5,h0,q0⟩:=h.1 hi;exact⟨b5,h0,q0.kept (only_below hb none) (Classical.em _)⟩),fun hi=>(by obtain⟨c9,h0,q0⟩:=h.2.1 hi;exact⟨c9,h0,q0.kept (only_below hb none) (Classical.em _)⟩),fun hi=>(by obtain⟨b10,c10,h0,q0,q1⟩:=h.2.2.1 hi;exact⟨b10,c10,h0,q0.kept (only_below hb none) (Classical.em _),q1.kept (only_below hb none) (Classical.em _)⟩),fun hi=>(by obtain⟨b,h1,h2,h3⟩:=h.2.2.2.1 hi;exact⟨b,h1,h2.below hb,h3⟩),h.2.2.2.2⟩) (fun i=>([11,12,13,14,15,16,17,18,19,20,21,8] :List Nat).getD i 0) ?inj ?step ?last
 case inj=>
  intro i j hi hj h;have hI:i=0∨i=1∨i=2∨i=3∨i=4∨i=5∨i=6∨i=7∨i=8∨i=9∨i=10∨i=11:=by omega
  have hJ:j=0∨j=1∨j=2∨j=3∨j=4∨j=5∨j=6∨j=7∨j=8∨j=9∨j=10∨j=11:=by omega
  rcases hI with rfl|rfl|rfl|rfl|rfl|rfl|rfl|rfl|rfl|rfl|rfl|rfl<;>rcases hJ with rfl|rfl|rfl|rfl|rfl|rfl|rfl|rfl|rfl|rfl|rfl|rfl<;>first|rfl| (exact absurd h (by decide))
 case last=>
  intro s x hv hb;have HB:=ai hb;clear hb;have z0:s 11 = .agg #[.int .i64 (q.vars:Nat),.slice q.lh.ao q.lits.length q.lh.cap,.slice q.head.h.ao q.head.l.length q.head.h.cap]:=by have h:=(hv 0 (by decide)).2.2.2.2 (by decide) (by decide) (by decide) (by decide);injection h with h;exact h.symm
  have z1:s 12 = .agg #[.int .i64 (r.vars:Nat),.slice r.lh.ao r.lits.length r.lh.cap,.slice r.head.h.ao r.head.l.length r.head.h.cap]:=by have h:=(hv 1 (by decide)).2.2.2.2 (by decide) (by decide) (by decide) (by decide);injection h with h;exact h.symm
  have z2:s 13 = .bool single:=by have h:=(hv 2 (by decide)).2.2.2.2 (by decide) (by decide) (by decide) (by decide);injection h with h;exact h.symm
  have z3:s 14 = .pointer (some ⟨g3,0,none⟩):=by have h:=(hv 3 (by decide)).2.2.2.2 (by decide) (by decide) (by decide) (by decide);injection h with h;exact h.symm
  have z4:s 15 = .int .i64 (q.vars:Nat):=by have h:=(hv 4 (by decide)).2.2.2.2 (by decide) (by decide) (by decide) (by decide);injection h with h;exact h.symm
  obtain⟨b5,hz5,hg5_0⟩:=(hv 5 (by decide)).1 rfl
  have z5:s 16 = .slice (some ⟨b5,0,none⟩) q.vars q.vars:=hz5;clear hz5;have z6:s 17 = .pointer (some ⟨g4,1,none⟩):=by have h:=(hv 6 (by decide)).2.2.2.2 (by decide) (by decide) (by decide) (by decide);injection h with h;exact h.symm
  have z7:s 18 = .slice r.lh.ao r.lits.length r.lh.cap:=by have h:=(hv 7 (by decide)).2.2.2.2 (by decide) (by decide) (by decide) (by decide);injection h with h;exact h.symm
  have z8:s 19 = .int .i64 (r.lits.length:Nat):=by have h:=(hv 8 (by decide)).2.2.2.2 (by decide) (by decide) (by decide) (by decide);injection h with h;exact h.symm
  obtain⟨c9,hz9,hg9_0⟩:=(hv 9 (by decide)).2.1 rfl
  have z9:s 20 = .slice (some ⟨c9,0,none⟩) r.lits.length r.lits.length:=hz9;clear hz9;obtain⟨b10,c10,hz10,hg10_0,hg10_1⟩:=(hv 10 (by decide)).2.2.1 rfl
  have z10:s 21 = .agg #[.int .i64 (q.vars:Nat),.slice q.lh.ao q.lits.length q.lh.cap,.slice q.head.h.ao q.head.l.length q.head.h.cap,.int .i64 (r.vars:Nat),.slice r.lh.ao r.lits.length r.lh.cap,.slice r.head.h.ao r.head.l.length r.head.h.cap,.bool single,.slice (some ⟨b10,0,none⟩) q.vars q.vars,.slice (some ⟨c10,0,none⟩) r.lits.length r.lits.length,.slice none 0 0]:=hz10;clear hz10;obtain⟨b11,hz11,hx11,hg11⟩:=(hv 11 (by decide)).2.2.2.1 rfl
  have z11:s 8 = .pointer (some ⟨b11,0,none⟩):=hz11;clear hz11;clear hv;have hne1:=row_ne_box hg10_0 hx11 (by decide)
  have hne2:=row_ne_box hg10_1 hx11 (by decide)
  have hne3:=row_ne_row hg10_0 hg10_1 (by decide)
  have o0:=hx11.cell (j:=0) rfl
  have o1:=hx11.cell (j:=1) rfl
  have o2:=hx11.cell (j:=2) rfl
  have o3:=hx11.cell (j:=3) rfl
  have o4:=hx11.cell (j:=4) rfl
  have o5:=hx11.cell (j:=5) rfl
  have o6:=hx11.cell (j:=6) rfl
  have o7:=hx11.cell (j:=7) rfl
  have o8:=hx11.cell (j:=8) rfl
  have o9:=hx11.cell (j:=9) rfl
  have f0:=hx11.fr 0;have f1:=hx11.fr 1;have f2:=hx11.fr 2;have f3:=hx11.fr 3;have f4:=hx11.fr 4;have f5:=hx11.fr 5;have f6:=hx11.fr 6;have f7:=hx11.fr 7;have f8:=hx11.fr 8;have f9:=hx11.fr 9;have HBX:=ai hx11;have HR1:=ai hg10_0;have HR2:=ai hg10_1;have HN:=ai (And.intro hne1 (And.intro hne2 hne3));clear hx11 hg10_0 hg10_1 hne1 hne2 hne3
  show Oper.wp _ _ _ _ _ _
  refine opwp_K (fun K2 hK2=> ?_)
  go_simp
  refine hK2 _ _ ?_
  show Q _ _ _
  have h:=hend b5 c9 b10 c10 b11 x HB.o HBX.o HR1.o HR2.o HN.o hg11
  first|exact h| (simp only [z0,z1,z2,z3,z4,z5,z6,z7,z8,z9,z10,z11];exact h)
 case step=>
  intro i o s x hin ho he hb;have HB:=ai hb;clear hb;have hcase:i=0∨i=1∨i=2∨i=3∨i=4∨i=5∨i=6∨i=7∨i=8∨i=9∨i=10∨i=11:=by omega
  rcases hcase with rfl|rfl|rfl|rfl|rfl|rfl|rfl|rfl|rfl|rfl|rfl|rfl
  ·injection ho with ho
   subst ho;clear he;have hbe:=HQB.o.below HB.o;have k0:=hbe.cell (j:=0) rfl
   have k1:=hbe.cell (j:=1) rfl
   have k2:=hbe.cell (j:=2) rfl
   clear hbe;refine opwp_K (fun K2 hK2=> ?_)
   go_simp
   exact hK2 _ _ ⟨(.agg #[.int .i64 (q.vars:Nat),.slice q.lh.ao q.lits.length q.lh.cap,.slice q.head.h.ao q.head.l.length q.head.h.cap]),(by first|rfl| (simp [List.getD];done)),Below.refl _ _,⟨fun h=>absurd h (by decide),fun h=>absurd h (by decide),fun h=>absurd h (by decide),fun h=>absurd h (by decide),fun _ _ _ _=>rfl⟩⟩
  ·injection ho with ho
   subst ho;clear he;have hbe:=HRB.o.below HB.o;have k0:=hbe.cell (j:=0) rfl
   have k1:=hbe.cell (j:=1) rfl
   have k2:=hbe.cell (j:=2) rfl
   clear hbe;refine opwp_K (fun K2 hK2=> ?_)
   go_simp
   exact hK2 _ _ ⟨(.agg #[.int .i64 (r.vars:Nat),.slice r.lh.ao r.lits.length r.lh.cap,.slice r.head.h.ao r.head.l.length r.head.h.cap]),(by first|rfl| (simp [List.getD];done)),Below.refl _ _,⟨fun h=>absurd h (by decide),fun h=>absurd h (by decide),fun h=>absurd h (by decide),fun h=>absurd h (by decide),fun _ _ _ _=>rfl⟩⟩
  ·injection ho with ho
   subst ho;clear he;refine opwp_K (fun K2 hK2=> ?_)
   go_simp
   exact hK2 _ _ ⟨(.bool single),(by first|rfl| (simp [List.getD];done)),Below.refl _ _,⟨fun h=>absurd h (by decide),fun h=>absurd h (by decide),fun h=>absurd h (by decide),fun h=>absurd h (by decide),fun _ _ _ _=>rfl⟩⟩
  ·injection ho with ho
   subst ho;clear he;refine opwp_K (fun K2 hK2=> ?_)
   go_simp
   exact hK2 _ _ ⟨(.pointer (some ⟨g3,0,none⟩)),(by first|rfl| (simp [List.getD];done)),Below.refl _ _,⟨fun h=>absurd h (by decide),fun h=>absurd h (by decide),fun h=>absurd h (by decide),fun h=>absurd h (by decide),fun _ _ _ _=>rfl⟩⟩
  ·injection ho with ho
   subst ho;have z3:s 14 = .pointer (some ⟨g3,0,none⟩):=by have h:=(he ⟨3,.data⟩ (by simp) rfl).2.2.2.2 (by decide) (by decide) (by decide) (by decide);injection h with h;exact h.symm
   clear he;have hbe:=HQB.o.below HB.o;have k0:=hbe.cell (j:=0) rfl
   clear hbe;refine opwp_K (fun K2 hK2=> ?_)
   go_simp
   exact hK2 _ _ ⟨(.int .i64 (q.vars:Nat)),(by first|rfl| (simp [z3];done)),Below.refl _ _,⟨fun h=>absurd h (by decide),fun h=>absurd h (by decide),fun h=>absurd h (by decide),fun h=>absurd h (by decide),fun _ _ _ _=>rfl⟩⟩
  ·injection ho with ho
   subst ho;have z4:s 15 = .int .i64 (q.vars:Nat):=by have h:=(he ⟨4,.data⟩ (by simp) rfl).2.2.2.2 (by decide) (by decide) (by decide) (by decide);injection h with h;exact h.symm
   clear he;obtain⟨i0,hi,hz0,hz1,hz2⟩:=info_parts info_ptr;refine owp_make _ _ 133 rfl W.heap.size 172 i0 (.pointer none) 1 Tryz.underlying133 hi hz0 hz1 (q.vars) (by show s 15=_;first|exact z4|exact z8) (by show s 15=_;first|exact z4|exact z8) (by rw [hz2];omega) (by unfold maxLen;omega) HB.o.size ?_
   intro y h1 h2;exact⟨_,rfl,grown_below h2,⟨fun _=>⟨_,rfl,h1⟩,fun h=>absurd h (by decide),fun h=>absurd h (by decide),fun h=>absurd h (by decide),fun h _ _ _=>absurd rfl h⟩⟩
  ·injection ho with ho
   subst ho;clear he;refine opwp_K (fun K2 hK2=> ?_)
   go_simp
   exact hK2 _ _ ⟨(.pointer (some ⟨g4,1,none⟩)),(by first|rfl| (simp [List.getD];done)),Below.refl _ _,⟨fun h=>absurd h (by decide),fun h=>absurd h (by decide),fun h=>absurd h (by decide),fun h=>absurd h (by decide),fun _ _ _ _=>rfl⟩⟩
  ·injection ho with ho
   subst ho;have z6:s 17 = .pointer (some ⟨g4,1,none⟩):=by have h:=(he ⟨6,.data⟩ (by simp) rfl).2.2.2.2 (by decide) (by decide) (by decide) (by decide);injection h with h;exact h.symm
   clear he;have hbe:=HRB.o.below HB.o;have k1:=hbe.cell (j:=1) rfl
   clear hbe;refine opwp_K (fun K2 hK2=> ?_)
   go_simp
   exact hK2 _ _ ⟨(.slice r.lh.ao r.lits.length r.lh.cap),(by first|rfl| (simp [z6];done)),Below.refl _ _,⟨fun h=>absurd h (by decide),fun h=>absurd h (by decide),fun h=>absurd h (by decide),fun h=>absurd h (by decide),fun _ _ _ _=>rfl⟩⟩
  ·injection ho with ho
   subst ho;have z7:s 18 = .slice r.lh.ao r.lits.length r.lh.cap:=by have h:=(he ⟨7,.data⟩ (by simp) rfl).2.2.2.2 (by decide) (by decide) (by decide) (by decide);injection h with h;exact h.symm
   clear he;refine opwp_K (fun K2 hK2=> ?_)
   go_simp
   exact hK2 _ _ ⟨(.int .i64 (r.lits.length:Nat)),(by first|rfl| (simp [z7];done)),Below.refl _ _,⟨fun h=>absurd h (by decide),fun h=>absurd h (by decide),fun h=>absurd h (by decide),fun h=>absurd h (by decide),fun _ _ _ _=>rfl⟩⟩
  ·injection ho with ho
   subst ho;have z8:s 19 = .int .i64 (r.lits.length:Nat):=by have h:=(he ⟨8,.data⟩ (by simp) rfl).2.2.2.2 (by decide) (by decide) (by decide) (by decide);injection h with h;exact h.symm
   clear he;obtain⟨i0,hi,hz0,hz1,hz2⟩:=info_parts info_bool;refine owp_make _ _ 102 rfl W.heap.size 4 i0 (.bool false) 1 Tryz.underlying102 hi hz0 hz1 (r.lits.length) (by show s 19=_;first|exact z4|exact z8) (by show s 19=_;first|exact z4|exact z8) (by rw [hz2];omega) (by unfold maxLen;omega) HB.o.size ?_
   intro y h1 h2;exact⟨_,rfl,grown_below h2,⟨fun h=>absurd h (by decide),fun _=>⟨_,rfl,h1⟩,fun h=>absurd h (by decide),fun h=>absurd h (by decide),fun _ h _ _=>absurd rfl h⟩⟩
  ·injection ho with ho
   subst ho;have z0:s 11 = .agg #[.int .i64 (q.vars:Nat),.slice q.lh.ao q.lits.length q.lh.cap,.slice q.head.h.ao q.head.l.length q.head.h.cap]:=by have h:=(he ⟨0,.data⟩ (by simp) rfl).2.2.2.2 (by decide) (by decide) (by decide) (by decide);injection h with h;exact h.symm
   have z1:s 12 = .agg #[.int .i64 (r.vars:Nat),.slice r.lh.ao r.lits.length r.lh.cap,.slice r.head.h.ao r.head.l.length r.head.h.cap]:=by have h:=(he ⟨1,.data⟩ (by simp) rfl).2.2.2.2 (by decide) (by decide) (by decide) (by decide);injection h with h;exact h.symm
   have z2:s 13 = .bool single:=by have h:=(he ⟨2,.data⟩ (by simp) rfl).2.2.2.2 (by decide) (by decide) (by decide) (by decide);injection h with h;exact h.symm
   obtain⟨b5,hz5,hg5_0⟩:=(he ⟨5,.data⟩ (by simp) rfl).1 rfl
   have z5:s 16 = .slice (some ⟨b5,0,none⟩) q.vars q.vars:=hz5;clear hz5;obtain⟨c9,hz9,hg9_0⟩:=(he ⟨9,.data⟩ (by simp) rfl).2.1 rfl
   have z9:s 20 = .slice (some ⟨c9,0,none⟩) r.lits.length r.lits.length:=hz9;clear hz9;clear he;refine opwp_K (fun K2 hK2=> ?_)
   go_simp
   exact hK2 _ _ ⟨_,(by first|rfl| (simp [z0,z1,z2,z5,z9];done)),Below.refl _ _,⟨fun h=>absurd h (by decide),fun h=>absurd h (by decide),fun _=>⟨_,_,rfl,hg5_0,hg9_0⟩,fun h=>absurd h (by decide),fun _ _ h _=>absurd rfl h⟩⟩
  ·injection ho with ho
   subst ho;clear he;refine opwp_K (fun K2 hK2=> ?_)
   go_simp
   exact hK2 _ _ ⟨_,(by first|rfl|simp),belA _,⟨fun h=>absurd h (by decide),fun h=>absurd h (by decide),fun h=>absurd h (by decide),fun _=>⟨_,rfl,Box.new _ _ _,HB.o.size⟩,fun _ _ _ h=>absurd rfl h⟩⟩
end Go.Proofs.YtiijaaohphokcaaGreatDoor
/- conjunctive.match answers whether there is a map. -/
namespace Go.Proofs.YtiijaaohphokcaaGreatDoor
open Go.RowKit
def Matches (single:Bool) (q r:Cj V) :Prop:=if single=true then∃h,IsEmb h q r else Hom q r
def MatchPost (q r:Cq) (single:Bool) (w:World) (e:Ending) (w':World) :Prop:=∃(v:Value) (b:Bool),e = .returned (.tuple #[v,.bool b])∧(b=true↔Matches single q.cj r.cj)∧Below w.heap.size w w'
theorem set10 (x:World) (g:Nat) (a b c d e f h i j k:Value) :x.grownBy ((((((((((x.setCell ⟨g,0,none⟩ a).setCell ⟨g,1,none⟩ b).setCell ⟨g,2,none⟩ c).setCell ⟨g,3,none⟩ d).setCell ⟨g,4,none⟩ e).setCell ⟨g,5,none⟩ f).setCell ⟨g,6,none⟩ h).setCell ⟨g,7,none⟩ i).setCell ⟨g,8,none⟩ j).setCell ⟨g,9,none⟩ k) (some g):=
 (((((((((gb_set _ _ _ _).trans (gb_set _ _ _ _)).trans (gb_set _ _ _ _)).trans (gb_set _ _ _ _)).trans (gb_set _ _ _ _)).trans (gb_set _ _ _ _)).trans (gb_set _ _ _ _)).trans (gb_set _ _ _ _)).trans (gb_set _ _ _ _)).trans (gb_set _ _ _ _)
theorem boxset10 {x:World} {g:Nat} {T:TypeId} {p0 p1 p2 p3 p4 p5 p6 p7 p8 p9:Value} (h0:Box x g #[p0,p1,p2,p3,p4,p5,p6,p7,p8,p9] T) (a b c d e f h i j k:Value) :Box ((((((((((x.setCell ⟨g,0,none⟩ a).setCell ⟨g,1,none⟩ b).setCell ⟨g,2,none⟩ c).setCell ⟨g,3,none⟩ d).setCell ⟨g,4,none⟩ e).setCell ⟨g,5,none⟩ f).setCell ⟨g,6,none⟩ h).setCell ⟨g,7,none⟩ i).setCell ⟨g,8,none⟩ j).setCell ⟨g,9,none⟩ k) g #[a,b,c,d,e,f,h,i,j,k] T:=by
 have:=(((((((((h0.set 0 a).set 1 b).set 2 c).set 3 d).set 4 e).set 5 f).set 6 h).set 7 i).set 8 j).set 9 k
 simpa only [List.setIfInBounds_toArray,List.set_cons_zero,List.set_cons_succ]using this
theorem repl_get {n j:Nat} {z:Value} (h:j<n) : (List.replicate n z)[j]? = some z:=by rw [List.getElem?_replicate,if_pos h]
theorem mw_start {w W x Y:World} {b10 c10 b11:Nat} {q r:Cq} {single:Bool} (hW:Below w.heap.size w W) (hb:Below W.heap.size W x) (hr1:x.ownsRow W.heap.size 172 1 (.slice (some ⟨b10,0,none⟩) q.vars q.vars) q.vars (madeCells (Value.pointer none).cells (q.vars*1)).toList)
  (hr2:x.ownsRow W.heap.size 4 1 (.slice (some ⟨c10,0,none⟩) r.lits.length r.lits.length) r.lits.length (madeCells (Value.bool false).cells (r.lits.length*1)).toList) (hne:b10≠b11∧c10≠b11∧b10≠c10) (h11:W.heap.size≤b11) (hg:x.grownBy Y (some b11)) (hbox:Box Y b11 (mcells q r single b10 c10 (.slice none 0 0)) 135) :
  MW w b11 b10 c10 q r single sb0 (fun _=>false) 0 (.slice none 0 0) Y:=by
 have h1:=hr1.kept hg (.inr (fun e=>hne.1 (Option.some.inj e)))
 have h2:=hr2.kept hg (.inr (fun e=>hne.2.1 (Option.some.inj e)))
 have l1:=h1.lt b10 rfl;have l2:=h2.lt c10 rfl;have hs:=hW.size;rw [made_cells _ rfl]at h1 h2;refine⟨(bT hW hb).grown hg (bT hW hb).size (fun j e=>by injection e with e;omega),hbox,⟨[],World.ownsRow_nil _ _ _ _⟩,fun y hy=>⟨fun _=> ?_,fun t e=>by cases e⟩,fun y t e=>(by cases e),fun j=>h1.frozenAt j,fun j hj=> ?_,fun j=>h2.frozenAt j,⟨by omega,by omega,by omega⟩,⟨hbox.lt,l1.2,l2.2⟩,⟨fun e=>hne.1 e.symm,fun e=>hne.2.1 e.symm,hne.2.2,by simp [Value.ownBlock],by simp [Value.ownBlock],by simp [Value.ownBlock]⟩⟩
 ·rw [h1.cellAt y (by omega)];exact repl_get hy
 ·rw [h2.cellAt j (by omega)];exact repl_get hj
theorem match_any (q r:Cq) (single:Bool) (w:World) (hq:QOk w q r) (hv: ∀x,Tm.v x∈q.head.l→x<q.vars) (hc: ∀x,Tm.v x∈q.head.l→Occ q.cj x) (hhl:q.head.l.length≤1000) :
  Calls Tryz.prog 47 #[.agg #[.int .i64 (q.vars:Nat),.slice q.lh.ao q.lits.length q.lh.cap,.slice q.head.h.ao q.head.l.length q.head.h.cap],.agg #[.int .i64 (r.vars:Nat),.slice r.lh.ao r.lits.length r.lh.cap,.slice r.head.h.ao r.head.l.length r.head.h.cap],.bool single] w (MatchPost q r single w):=by
 have HQ:=ai hq;have HV:=ai hv;have HC:=ai hc;have hqv:=hq.qi.vr;have hrl:=hq.rl;obtain⟨W,hW⟩ : ∃W,(w.alloc (.cells #[.int .i64 (q.vars:Nat),.slice q.lh.ao q.lits.length q.lh.cap,.slice q.head.h.ao q.head.l.length q.head.h.cap] 32)).alloc (.cells #[.int .i64 (r.vars:Nat),.slice r.lh.ao r.lits.length r.lh.cap,.slice r.head.h.ao r.head.l.length r.head.h.cap] 32) =W:=⟨_,rfl⟩;have HW:=ai (show Below w.heap.size w W from by rw [←hW];exact belAA _ _)
 have HQB:=ai (show Box W w.heap.size #[.int .i64 (q.vars:Nat),.slice q.lh.ao q.lits.length q.lh.cap,.slice q.head.h.ao q.head.l.length q.head.h.cap] 32 from by rw [←hW];exact(Box.new _ _ _).below (belA _))
 have HRB:=ai (show Box W (w.heap.size+1) #[.int .i64 (r.vars:Nat),.slice r.lh.ao r.lits.length r.lh.cap,.slice r.head.h.ao r.head.l.length r.head.h.cap] 32 from by rw [←hW];have h:=Box.new (w.alloc (.cells #[.int .i64 (q.vars:Nat),.slice q.lh.ao q.lits.length q.lh.cap,.slice q.head.h.ao q.head.l.length q.head.h.cap] 32)) #[.int .i64 (r.vars:Nat),.slice r.lh.ao r.lits.length r.lh.cap,.slice r.head.h.ao r.head.l.length r.head.h.cap] 32;simpa only [World.size_alloc]using h)
 clear hq hv hc
 go_enter Tryz.func47,Tryz.ntmps47;go_wp2;clear hW;refine mt_reg (g3:=w.heap.size) (g4:=w.heap.size+1) (q:=q) (r:=r) (single:=single) (W:=W) hqv hrl HQB HRB ?hc ?hend
 case hc=>rfl
 case hend=>
 intro b5 c9 gs gu gm x hb hbox hr1 hr2 hne h11;have hg:=set10 x gm (.int .i64 (q.vars:Nat)) (.slice q.lh.ao q.lits.length q.lh.cap) (.slice q.head.h.ao q.head.l.length q.head.h.cap) (.int .i64 (r.vars:Nat)) (.slice r.lh.ao r.lits.length r.lh.cap) (.slice r.head.h.ao r.head.l.length r.head.h.cap) (.bool single) (.slice (some ⟨gs,0,none⟩) q.vars q.vars) (.slice (some ⟨gu,0,none⟩) r.lits.length r.lits.length) (.slice none 0 0);have hbx:=boxset10 hbox (.int .i64 (q.vars:Nat)) (.slice q.lh.ao q.lits.length q.lh.cap) (.slice q.head.h.ao q.head.l.length q.head.h.cap) (.int .i64 (r.vars:Nat)) (.slice r.lh.ao r.lits.length r.lh.cap) (.slice r.head.h.ao r.head.l.length r.head.h.cap) (.bool single) (.slice (some ⟨gs,0,none⟩) q.vars q.vars) (.slice (some ⟨gu,0,none⟩) r.lits.length r.lits.length) (.slice none 0 0);generalize ((((((((((x.setCell ⟨gm,0,none⟩ (.int .i64 (q.vars:Nat))).setCell ⟨gm,1,none⟩ (.slice q.lh.ao q.lits.length q.lh.cap)).setCell ⟨gm,2,none⟩ (.slice q.head.h.ao q.head.l.length q.head.h.cap)).setCell ⟨gm,3,none⟩ (.int .i64 (r.vars:Nat))).setCell ⟨gm,4,none⟩ (.slice r.lh.ao r.lits.length r.lh.cap)).setCell ⟨gm,5,none⟩ (.slice r.head.h.ao r.head.l.length r.head.h.cap)).setCell ⟨gm,6,none⟩ (.bool single)).setCell ⟨gm,7,none⟩ (.slice (some ⟨gs,0,none⟩) q.vars q.vars)).setCell ⟨gm,8,none⟩ (.slice (some ⟨gu,0,none⟩) r.lits.length r.lits.length)).setCell ⟨gm,9,none⟩ (.slice none 0 0)) =Y at *;have HM:=ai (mw_start HW.o hb hr1 hr2 hne h11 hg hbx);have k2:Y.cell? ⟨w.heap.size,2,none⟩ =some (.slice q.head.h.ao q.head.l.length q.head.h.cap):=((HQB.o.below hb).grown hg (by have:=HQB.o.lt;intro e;injection e with e;omega)).cell (j:=2) rfl
 have k5:Y.cell? ⟨w.heap.size+1,2,none⟩ =some (.slice r.head.h.ao r.head.l.length r.head.h.cap):=((HRB.o.below hb).grown hg (by have:=HRB.o.lt;intro e;injection e with e;omega)).cell (j:=2) rfl
 have HBE:=ai (becomes_any w gm gs gu 0 (.slice none 0 0) q r single sb0 (fun _=>false) q.head r.head Y HM.o HQ.o.qi.hd.row HQ.o.ri.hd.row HV.o hqv hhl)
 clear hb hbox hr1 hr2 hne h11 hg hbx;go_upto_region 3 with(go_at_call 86;refine HBE.o.mono ?_;rintro e Y1 ⟨σ',now,nl,ok,rfl,_,_,_,_,_,hM1,hres,_⟩;have HM1:=ai hM1;have HRES:=ai hres;clear hM1 hres)
 clear k2 k5 HBE
 cases ok with
 | false=>
  have HNO:=ai (show¬Matches single q.cj r.cj from by
   have hb:=HRES.o;rw [if_neg (by decide)]at hb
   unfold Matches
   cases hs:single with
   | false=>rw [if_neg (by decide)];rw [hs]at hb;exact bars_hom hb
   | true=>rw [if_pos rfl];rw [hs]at hb;exact bars_emb HC.o hb)
  go_wp2
  go_ret2
  exact⟨_,false,rfl,⟨fun h=>(by cases h),fun h=>absurd h HNO.o⟩,HM1.o.bel⟩
 | true=>
  have HBC:=ai (show Became single sb0 q.head.l r.head.l σ' from by have h:=HRES.o;rwa [if_pos rfl]at h)
  have HIFF:=ai (show Fits single r.cj.lits σ' (fun _=>false) (q.cj.lits.drop 0)↔Matches single q.cj r.cj from by
   rw [List.drop_zero]
   unfold Matches
   have hb:=HBC.o
   cases hs:single with
   | false=>rw [if_neg (by decide)];rw [hs]at hb;exact fits_hom hb
   | true=>rw [if_pos rfl];rw [hs]at hb;exact fits_emb hb (fun _=>rfl) HC.o)
  have HRS:=ai (rest_any w gm gs gu q r single HQ.o q.lits.length 0 σ' (fun _=>false) _ Y1 (by omega) HM1.o (HBC.o.ok (sbok0 single)))
  go_upto_if 35 with(go_at_call 87;refine HRS.o.mono ?_;rintro e Y2 ⟨b2,rfl,hb2,hT,hF⟩;have HB2:=ai hb2;have HT:=ai hT;have HF:=ai hF;clear hb2 hT hF)
  clear HRS
  cases b2 with
  | false=>
   have HNO:=ai (show¬Matches single q.cj r.cj from fun h=>(HF.o (by trivial)).1 (HIFF.o.2 h))
   go_wp2
   go_ret2
   exact⟨_,false,rfl,⟨fun h=>(by cases h),fun h=>absurd h HNO.o⟩,HB2.o⟩
  | true=>
   obtain⟨hfit,u,hu⟩:=HT.o (by trivial)
   have HYES:=ai (HIFF.o.1 hfit);clear hfit HT;go_wp2
   go_ret2
   exact⟨_,true,rfl,⟨fun _=>HYES.o,fun _=>rfl⟩,HB2.o⟩
end Go.Proofs.YtiijaaohphokcaaGreatDoor
/- conjunctive.both, Contains, Alike: of queries that are valid. -/
namespace Go.Proofs.YtiijaaohphokcaaGreatDoor
open Go.RowKit
def Fine (w:World) (s:Sch) (q:Cq) :Prop:=∀W,Below w.heap.size w W→Calls Tryz.prog 31 #[.agg #[.slice s.th.ao s.tabs.length s.th.cap],.agg #[.int .i64 (q.vars:Nat),.slice q.lh.ao q.lits.length q.lh.cap,.slice q.head.h.ao q.head.l.length q.head.h.cap]] W fun e w'=>e = .returned (.int .i64 0)∧Below W.heap.size W w'
theorem Fine.mono {w x:World} {s:Sch} {q:Cq} (h:Fine w s q) (hb:Below w.heap.size w x) :Fine x s q:=fun W h2=>h W (bT hb h2)
theorem boxes3X {w X:World} {c0 c1 c2:Array Value} {T0 T1 T2:TypeId} (h: ((w.alloc (.cells c0 T0)).alloc (.cells c1 T1)).alloc (.cells c2 T2) =X) :Box X w.heap.size c0 T0∧Box X (w.heap.size+1) c1 T1∧Box X (w.heap.size+1+1) c2 T2:=by
 subst h;have h1:=Box.new (w.alloc (.cells c0 T0)) c1 T1;have h2:=Box.new ((w.alloc (.cells c0 T0)).alloc (.cells c1 T1)) c2 T2;simp only [World.size_alloc]at h1 h2;exact⟨((Box.new w c0 T0).below (belA _)).below (belA _),h1.below (belA _),h2⟩
theorem both_any (s:Sch) (a b:Cq) (w:World) (ha:Fine w s a) (hb:Fine w s b) :Calls Tryz.prog 49 #[.agg #[.slice s.th.ao s.tabs.length s.th.cap],.agg #[.int .i64 (a.vars:Nat),.slice a.lh.ao a.lits.length a.lh.cap,.slice a.head.h.ao a.head.l.length a.head.h.cap],.agg #[.int .i64 (b.vars:Nat),.slice b.lh.ao b.lits.length b.lh.cap,.slice b.head.h.ao b.head.l.length b.head.h.cap]] w fun e w'=>e = .returned (.int .i64 0)∧Below w.heap.size w w':=by
 unfold Fine at ha hb
 have HA:=ai ha;have HB:=ai hb;obtain⟨X,hX⟩ : ∃X,((w.alloc (.cells #[.slice s.th.ao s.tabs.length s.th.cap] 27)).alloc (.cells #[.int .i64 (a.vars:Nat),.slice a.lh.ao a.lits.length a.lh.cap,.slice a.head.h.ao a.head.l.length a.head.h.cap] 32)).alloc (.cells #[.int .i64 (b.vars:Nat),.slice b.lh.ao b.lits.length b.lh.cap,.slice b.head.h.ao b.head.l.length b.head.h.cap] 32) =X:=⟨_,rfl⟩;have HBX:=ai (show Below w.heap.size w X from by rw [←hX];exact bel3 (Below.refl _ _))
 have hbs:=boxes3X hX;have HS:=ai hbs.1;have HB1:=ai hbs.2.1;have HB2:=ai hbs.2.2;have s0:=hbs.1.cell (j:=0) rfl
 have a0:=hbs.2.1.cell (j:=0) rfl
 have a1:=hbs.2.1.cell (j:=1) rfl
 have a2:=hbs.2.1.cell (j:=2) rfl
 clear ha hb hbs
 go_enter Tryz.func49,Tryz.ntmps49;go_upto_region 1 with fail
 try rw [hX]
 clear hX;go_wp2_with (first
  | (go_at_call 31;with_reducible refine(HA.o _ HBX.o).mono ?_;rintro e Y ⟨rfl,hb⟩;have HBY:=ai hb;clear hb s0 a0 a1 a2;have s0:=(HS.o.below HBY.o).cell (j:=0) rfl;have b0:=(HB2.o.below HBY.o).cell (j:=0) rfl;have b1:=(HB2.o.below HBY.o).cell (j:=1) rfl;have b2:=(HB2.o.below HBY.o).cell (j:=2) rfl)
  | (go_at_call 31;with_reducible refine(HB.o _ (bT HBX.o HBY.o)).mono ?_;rintro e Z ⟨rfl,hb⟩;have HBZ:=ai hb;clear hb))
 go_ret
 exact⟨rfl,bT HBX.o (bT HBY.o HBZ.o)⟩
structure RightQ (w:World) (T:List (List Int)) (q:Cq) (B:Nat) :Prop where
 qi:q.In w B
 ri: ∃τ,Right T q.vars q.cj τ
 tl: ∀ty∈T,ty.length≤1000
theorem RightQ.mono {w x:World} {T:List (List Int)} {q:Cq} {B:Nat} (h:RightQ w T q B) (hb:Below w.heap.size w x) :RightQ x T q B:=⟨h.qi.mono hb,h.ri,h.tl⟩
theorem RightQ.grown {w x:World} {T:List (List Int)} {q:Cq} {B b:Nat} (h:RightQ w T q B) (hg:w.grownBy x (some b)) (hb:b<B) :RightQ x T q B:=⟨h.qi.grown hg hb,h.ri,h.tl⟩
theorem RightQ.hv {w:World} {T:List (List Int)} {q:Cq} {B:Nat} (h:RightQ w T q B) : ∀x,Tm.v x∈q.head.l→x<q.vars:=fun x hx=>by obtain⟨τ,hr⟩:=h.ri;exact hr.hd _ hx
theorem RightQ.hc {w:World} {T:List (List Int)} {q:Cq} {B:Nat} (h:RightQ w T q B) : ∀x,Tm.v x∈q.head.l→Occ q.cj x:=fun x hx=>by obtain⟨τ,hr⟩:=h.ri;exact hr.cov.1 x hx
theorem RightQ.hl {w:World} {T:List (List Int)} {q:Cq} {B:Nat} (h:RightQ w T q B) :q.head.l.length≤24∧q.lits.length≤8:=by
 obtain⟨τ,hr⟩:=h.ri;have h1:=hr.n8;exact⟨hr.h24,by rwa [show q.cj.lits.length=q.lits.length from List.length_map _]at h1⟩
theorem RightQ.ok {w:World} {T:List (List Int)} {q r:Cq} {B C:Nat} (h:RightQ w T q B) (k:RightQ w T r C) :QOk w q r:=by
 obtain⟨τ,hr⟩:=h.ri;refine⟨h.qi.le (Nat.zero_le _),k.qi.le (Nat.zero_le _),fun l hl x hx=> ?_,by have:=h.hl;omega,by have:=k.hl;omega,fun l hl=> ?_⟩
 ·exact hr.lt ⟨l.lt,List.mem_map_of_mem hl,hx⟩
 ·obtain⟨ty,h1,h2,_⟩:=hr.lit l.lt (List.mem_map_of_mem hl)
  have h3:l.sl.l.length=ty.length:=h2;rw [h3];exact h.tl ty (List.mem_of_getElem? h1)
def ContPost (a b:Cq) (w:World) (e:Ending) (w':World) :Prop:=∃c:Bool,e = .returned (.tuple #[.bool c,.int .i64 0])∧(c=true↔Hom b.cj a.cj)∧Below w.heap.size w w'
def AlikePost (a b:Cq) (w:World) (e:Ending) (w':World) :Prop:=∃c:Bool,e = .returned (.tuple #[.bool c,.int .i64 0])∧(c=true↔(a.vars=b.vars∧a.lits.length=b.lits.length∧∃h,IsEmb h a.cj b.cj))∧Below w.heap.size w w'
theorem contains_any (s:Sch) (T:List (List Int)) (a b:Cq) (B C:Nat) (w:World) (ha:Fine w s a) (hb:Fine w s b) (ra:RightQ w T a B) (rb:RightQ w T b C) :Calls Tryz.prog 13 #[.agg #[.slice s.th.ao s.tabs.length s.th.cap],.agg #[.int .i64 (a.vars:Nat),.slice a.lh.ao a.lits.length a.lh.cap,.slice a.head.h.ao a.head.l.length a.head.h.cap],.agg #[.int .i64 (b.vars:Nat),.slice b.lh.ao b.lits.length b.lh.cap,.slice b.head.h.ao b.head.l.length b.head.h.cap]] w (ContPost a b w):=by
 have HBT:=ai (fun(W:World) (h:Below w.heap.size w W)=>both_any s a b W (ha.mono h) (hb.mono h))
 have HMT:=ai (fun(W:World) (h:Below w.heap.size w W)=>match_any b a false W ((rb.mono h).ok (ra.mono h)) rb.hv rb.hc (by have:=rb.hl;omega))
 obtain⟨X,hX⟩ : ∃X,((w.alloc (.cells #[.slice s.th.ao s.tabs.length s.th.cap] 27)).alloc (.cells #[.int .i64 (a.vars:Nat),.slice a.lh.ao a.lits.length a.lh.cap,.slice a.head.h.ao a.head.l.length a.head.h.cap] 32)).alloc (.cells #[.int .i64 (b.vars:Nat),.slice b.lh.ao b.lits.length b.lh.cap,.slice b.head.h.ao b.head.l.length b.head.h.cap] 32) =X:=⟨_,rfl⟩;have HBX:=ai (show Below w.heap.size w X from by rw [←hX];exact bel3 (Below.refl _ _))
 have hbs:=boxes3X hX;have HB1:=ai hbs.2.1;have HB2:=ai hbs.2.2;have s0:=hbs.1.cell (j:=0) rfl
 have a0:=hbs.2.1.cell (j:=0) rfl
 have a1:=hbs.2.1.cell (j:=1) rfl
 have a2:=hbs.2.1.cell (j:=2) rfl
 have b0:=hbs.2.2.cell (j:=0) rfl
 have b1:=hbs.2.2.cell (j:=1) rfl
 have b2:=hbs.2.2.cell (j:=2) rfl
 clear ha hb hbs ra rb
 go_enter Tryz.func13,Tryz.ntmps13;go_upto_region 1 with fail
 try rw [hX]
 clear hX;go_upto_region 5 with(first
  | (go_at_call 49;with_reducible refine(HBT.o _ HBX.o).mono ?_;rintro e Y ⟨rfl,hb⟩;have HBY:=ai (bT HBX.o hb);have hb2:=HB2.o.below hb;have hb1:=HB1.o.below hb;clear s0 a0 a1 a2 b0 b1 b2;have a0:=hb1.cell (j:=0) rfl;have a1:=hb1.cell (j:=1) rfl;have a2:=hb1.cell (j:=2) rfl;have b0:=hb2.cell (j:=0) rfl;have b1:=hb2.cell (j:=1) rfl;have b2:=hb2.cell (j:=2) rfl;clear hb hb1 hb2)
  | (go_at_call 47;(with_reducible refine(HMT.o _ HBY.o).mono ?_);(rintro e Z ⟨v,c,rfl,hc,hb⟩;have HC:=ai hc;have HBZ:=ai (bT HBY.o hb);clear hc hb)))
 clear a0 a1 a2 b0 b1 b2;go_wp2
 go_ret2
 exact⟨c,rfl,by rw [HC.o];unfold Matches;rw [if_neg (by decide)],HBZ.o⟩
theorem alike_any (s:Sch) (T:List (List Int)) (a b:Cq) (B C:Nat) (w:World) (ha:Fine w s a) (hb:Fine w s b) (ra:RightQ w T a B) (rb:RightQ w T b C) :Calls Tryz.prog 15 #[.agg #[.slice s.th.ao s.tabs.length s.th.cap],.agg #[.int .i64 (a.vars:Nat),.slice a.lh.ao a.lits.length a.lh.cap,.slice a.head.h.ao a.head.l.length a.head.h.cap],.agg #[.int .i64 (b.vars:Nat),.slice b.lh.ao b.lits.length b.lh.cap,.slice b.head.h.ao b.head.l.length b.head.h.cap]] w (AlikePost a b w):=by
 have HBT:=ai (fun(W:World) (h:Below w.heap.size w W)=>both_any s a b W (ha.mono h) (hb.mono h))
 have HMT:=ai (fun(W:World) (h:Below w.heap.size w W)=>match_any a b true W ((ra.mono h).ok (rb.mono h)) ra.hv ra.hc (by have:=ra.hl;omega))
 obtain⟨X,hX⟩ : ∃X,((w.alloc (.cells #[.slice s.th.ao s.tabs.length s.th.cap] 27)).alloc (.cells #[.int .i64 (a.vars:Nat),.slice a.lh.ao a.lits.length a.lh.cap,.slice a.head.h.ao a.head.l.length a.head.h.cap] 32)).alloc (.cells #[.int .i64 (b.vars:Nat),.slice b.lh.ao b.lits.length b.lh.cap,.slice b.head.h.ao b.head.l.length b.head.h.cap] 32) =X:=⟨_,rfl⟩;have HBX:=ai (show Below w.heap.size w X from by rw [←hX];exact bel3 (Below.refl _ _))
 have hbs:=boxes3X hX;have HB1:=ai hbs.2.1;have HB2:=ai hbs.2.2;have s0:=hbs.1.cell (j:=0) rfl
 have a0:=hbs.2.1.cell (j:=0) rfl
 have a1:=hbs.2.1.cell (j:=1) rfl
 have a2:=hbs.2.1.cell (j:=2) rfl
 have b0:=hbs.2.2.cell (j:=0) rfl
 have b1:=hbs.2.2.cell (j:=1) rfl
 have b2:=hbs.2.2.cell (j:=2) rfl
 clear ha hb hbs ra rb;by_cases hv:a.vars=b.vars∧a.lits.length=b.lits.length
 case neg=>
  have HNO:=ai (show¬(a.vars=b.vars∧a.lits.length=b.lits.length∧∃h,IsEmb h a.cj b.cj)from fun h=>hv ⟨h.1,h.2.1⟩)
  have ht: (a.vars=b.vars∧¬a.lits.length=b.lits.length)∨¬a.vars=b.vars:=by
   by_cases h:a.vars=b.vars
   ·exact .inl ⟨h,fun h2=>hv ⟨h,h2⟩⟩
   ·exact .inr h
  clear hv;rcases ht with⟨h1,h2⟩ |h1
  ·have hb1: ((a.vars:Int) != (b.vars:Int)) =false:=by rw [h1];exact bne_self_eq_false _
   have hb2: ((a.lits.length:Int) != (b.lits.length:Int)) =true:=bne_iff_ne.2 (by omega)
   clear h1 h2
   go_enter Tryz.func15,Tryz.ntmps15;go_upto_region 1 with fail
   try rw [hX]
   clear hX;go_wp2_with (go_at_call 49;with_reducible refine(HBT.o _ HBX.o).mono ?_;rintro e Y ⟨rfl,hb⟩;have HBY:=ai (bT HBX.o hb);have hb2:=HB2.o.below hb;have hb1:=HB1.o.below hb;clear s0 a0 a1 a2 b0 b1 b2;have a0:=hb1.cell (j:=0) rfl;have a1:=hb1.cell (j:=1) rfl;have b0:=hb2.cell (j:=0) rfl;have b1:=hb2.cell (j:=1) rfl;clear hb hb1 hb2)
   go_ret2
   exact⟨false,rfl,⟨fun h=>(by cases h),fun h=>absurd h HNO.o⟩,HBY.o⟩
  ·have hb1: ((a.vars:Int) != (b.vars:Int)) =true:=bne_iff_ne.2 (by omega)
   clear h1
   go_enter Tryz.func15,Tryz.ntmps15;go_upto_region 1 with fail
   try rw [hX]
   clear hX;go_wp2_with (go_at_call 49;with_reducible refine(HBT.o _ HBX.o).mono ?_;rintro e Y ⟨rfl,hb⟩;have HBY:=ai (bT HBX.o hb);have hb2:=HB2.o.below hb;have hb1:=HB1.o.below hb;clear s0 a0 a1 a2 b0 b1 b2;have a0:=hb1.cell (j:=0) rfl;have a1:=hb1.cell (j:=1) rfl;have b0:=hb2.cell (j:=0) rfl;have b1:=hb2.cell (j:=1) rfl;clear hb hb1 hb2)
   go_ret2
   exact⟨false,rfl,⟨fun h=>(by cases h),fun h=>absurd h HNO.o⟩,HBY.o⟩
 have hb1: ((a.vars:Int) != (b.vars:Int)) =false:=by rw [hv.1];exact bne_self_eq_false _
 have hb2: ((a.lits.length:Int) != (b.lits.length:Int)) =false:=by rw [hv.2];exact bne_self_eq_false _
 have HVV:=ai hv;clear hv
 go_enter Tryz.func15,Tryz.ntmps15;go_upto_region 1 with fail
 try rw [hX]
 clear hX;go_upto_region 7 with(first
  | (go_at_call 49;with_reducible refine(HBT.o _ HBX.o).mono ?_;rintro e Y ⟨rfl,hb⟩;have HBY:=ai (bT HBX.o hb);have hq2:=HB2.o.below hb;have hq1:=HB1.o.below hb;clear s0 a0 a1 a2 b0 b1 b2;have a0:=hq1.cell (j:=0) rfl;have a1:=hq1.cell (j:=1) rfl;have a2:=hq1.cell (j:=2) rfl;have b0:=hq2.cell (j:=0) rfl;have b1:=hq2.cell (j:=1) rfl;have b2:=hq2.cell (j:=2) rfl;clear hb hq1 hq2)
  | (go_at_call 47;(with_reducible refine(HMT.o _ HBY.o).mono ?_);(rintro e Z ⟨v,c,rfl,hc,hb⟩;have HC:=ai hc;have HBZ:=ai (bT HBY.o hb);clear hc hb)))
 clear a0 a1 a2 b0 b1 b2;go_wp2
 go_ret2
 exact⟨c,rfl,by rw [HC.o];unfold Matches;rw [if_pos rfl];exact⟨fun h=>⟨HVV.o.1,HVV.o.2,h⟩,fun h=>h.2.2⟩,HBZ.o⟩
end Go.Proofs.YtiijaaohphokcaaGreatDoor

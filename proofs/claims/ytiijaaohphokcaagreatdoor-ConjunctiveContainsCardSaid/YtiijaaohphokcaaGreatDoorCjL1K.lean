/- querylabfield.Weaker: its regions that draw their order. -/
import Derived.Test.YtiijaaohphokcaaGreatDoorG26
import Derived.Deep.RegionLawGrows
set_option maxRecDepth 100000
set_option maxHeartbeats 16000000
namespace Go.Proofs.YtiijaaohphokcaaGreatDoor
open Go.RowKit
noncomputable def wkBody:Code:=Tryz.f11.body.getD .skip
theorem wp_append_grows {P:Program} (w:World) {o:Oper} {a:Act} {K:Act→World→Prop} {Q:Exit→Act→World→Prop}
  (s x:Operand) (t:TypeId) (hop:o.op=Op.call { callee:=Callee.builtin Builtin.append,args:=#[s,x],argTypes:=#[t,t] })
  (e:TypeId) (i:TypeInfo) (z:Value) (size bytes:Nat) (h1:P.underlying t=some (.slice e)) (h2:P.info? e=some i) (h3:i.zero=some z) (h4:i.size=size) (h5:i.bytes=bytes) (h6:z.cells.size=size) (h7:0<size)
  (b:Nat) (hs:a.eval s = .slice (some ⟨b,0,none⟩) 0 0)
  (ad:Addr) (m c:Nat) (news:List Value) (hx:a.eval x = .slice (some ad) m c) (hn:news.length=m*size) (hc: ∀j u,news[j]? = some u→w.cell? (ad.add j) =some u)
  (hm:0<m) (b1:m≤maxLen) (b2:m*bytes≤140737488355328)
  (hK: ∀v' w',w'.ownsRow w.heap.size e size v' m news→w.grownBy w' none→K (a.put o.dst v') w') :o.wp P a w K Q:=by
 obtain⟨v',w',hrun,r1,r2⟩:=run_append_arg_grows (P:=P) w t o.type e i z size bytes h1 h2 h3 h4 h5 h6 h7 ⟨b,0,none⟩ 0 0 [] (by simp) (fun j u h=>by simp at h) ad m c news hn hc (by omega) (by omega) (by rw [Nat.zero_add];exact b2)
 unfold Oper.wp
 simp [execOp,hop,resolve,invoke,builtin,hs,hx,hrun,Result.andThen];exact hK v' w' (by simpa using r1) r2
theorem row_news {α:Type} {x:World} {size:Nat} {cells:α→List Value} {h:Hd} {xs:List α} (hs: ∀x,(cells x).length=size) (hp:0<size) (hr:Row x size cells h xs) : ∀j u,(xs.flatMap cells)[j]? = some u→x.cell? ((⟨h.b,h.o,none⟩ :Addr).add j) =some u:=fun j u hj=>by
 have hlt:j<xs.length*size:=by
  have:=(List.getElem?_eq_some_iff.1 hj).1
  rwa [flatMap_len hs]at this
 have hi:j / size<xs.length:=Nat.div_lt_of_lt_mul (by rwa [Nat.mul_comm])
 have hm:j % size<size:=Nat.mod_lt _ hp;have e:j / size*size+j % size=j:=by rw [Nat.mul_comm];exact Nat.div_add_mod j size
 rw [←e,flatMap_at hs xs _ _ hi hm]at hj;have:=hr.2.2.2 _ hi _ u hj;rw [Addr.add_lit,←e,←Nat.add_assoc];exact this
theorem one_flat {α:Type} {cells:α→List Value} (h: ∀x,∀u∈cells x,u.oneCell'=true) (xs:List α) : ∀u∈xs.flatMap cells,u.oneCell'=true:=fun u hu=>by
 obtain⟨x,_,hx⟩:=List.mem_flatMap.1 hu;exact h x u hx
theorem own_base {w:World} {base base':Nat} {e:TypeId} {size:Nat} {v:Value} {n:Nat} {xs:List Value} (h:w.ownsRow base e size v n xs) (hb:base'≤base) :w.ownsRow base' e size v n xs:=by
 obtain⟨h1,h2⟩:=h;refine⟨h1,?_⟩
 rcases h2 with h2| ⟨g,cap,cur,e1,h3,h4⟩
 ·exact .inl h2
 ·exact .inr ⟨g,cap,cur,e1,Nat.le_trans hb h3,h4⟩
theorem wk_reg1 {g5:Nat} {q:Cq} {W:World} (HQB:Hid (Box W g5 #[.int .i64 (q.vars:Nat),.slice q.lh.ao q.lits.length q.lh.cap,.slice q.head.h.ao q.head.l.length q.head.h.cap] 32)) (HQI:Hid (q.In W 0)) (HLN:Hid (0<q.lits.length∧q.lits.length≤1000)) (HAO:Hid (q.lh.ao=some ⟨q.lh.b,q.lh.o,none⟩)) {Q:Exit→Act→World→Prop} {c:Code} {u0 u1 u2 u3 u4 u6 u7 u8 u9 u10 u11 u12 u13 u14 u15 u16 u17 u18 u19 u20 u21 u22 u23 u24 u25 u26 u27 u28 u29 u30 u31 u32 u33 u34 u35 u36 u37 u38 u39 u40 u41 u42 u43 u44 u45 u46 u47 u48 u49 u50 u51 u52 u53 u54 u55 u56 u57 u58 u59 u60 u61 u62 u63 u64 u65 u66 u67 u68 u69 u70 u71 u72 u73 u74 u75:Value} (hc:c=codeIn [1,0] wkBody) (hend: ∀b4 g7 c7 g8 c8 b9 x,Below W.heap.size W x→x.ownsRow W.heap.size 56 2 (.slice (some ⟨g8,0,none⟩) q.lits.length c8) q.lits.length (q.lits.flatMap Li.cells)→Box x b9 #[.int .i64 0,.slice none 0 0,.slice none 0 0] 32→W.heap.size≤b9→Q .normal { tmps:=(u0 :: u1 :: u2 :: u3 :: u4 :: (.pointer (some ⟨g5,0,none⟩)) :: u6 :: .pointer (some ⟨b9,0,none⟩) :: u8 :: u9 :: u10 :: .pointer (some ⟨g5,0,none⟩) :: .int .i64 (q.vars:Nat) :: .pointer (some ⟨g5,2,none⟩) :: .slice q.head.h.ao q.head.l.length q.head.h.cap :: .slice (some ⟨b4,0,none⟩) 0 0 :: .pointer (some ⟨g5,1,none⟩) :: .slice (some ⟨q.lh.b,q.lh.o,none⟩) q.lits.length q.lh.cap :: .slice (some ⟨g7,0,none⟩) q.lits.length c7 :: .agg #[.int .i64 (q.vars:Nat),.slice (some ⟨g8,0,none⟩) q.lits.length c8,.slice q.head.h.ao q.head.l.length q.head.h.cap] :: u20 :: u21 :: u22 :: u23 :: u24 :: u25 :: u26 :: u27 :: u28 :: u29 :: u30 :: u31 :: u32 :: u33 :: u34 :: u35 :: u36 :: u37 :: u38 :: u39 :: u40 :: u41 :: u42 :: u43 :: u44 :: u45 :: u46 :: u47 :: u48 :: u49 :: u50 :: u51 :: u52 :: u53 :: u54 :: u55 :: u56 :: u57 :: u58 :: u59 :: u60 :: u61 :: u62 :: u63 :: u64 :: u65 :: u66 :: u67 :: u68 :: u69 :: u70 :: u71 :: u72 :: u73 :: u74 :: u75 :: []).toArray,defers:= [] } (((x.setCell ⟨b9,0,none⟩ (.int .i64 (q.vars:Nat))).setCell ⟨b9,1,none⟩ (.slice (some ⟨g8,0,none⟩) q.lits.length c8)).setCell ⟨b9,2,none⟩ (.slice q.head.h.ao q.head.l.length q.head.h.cap))) :Code.wp Tryz.prog c Q { tmps:=(u0 :: u1 :: u2 :: u3 :: u4 :: (.pointer (some ⟨g5,0,none⟩)) :: u6 :: u7 :: u8 :: u9 :: u10 :: u11 :: u12 :: u13 :: u14 :: u15 :: u16 :: u17 :: u18 :: u19 :: u20 :: u21 :: u22 :: u23 :: u24 :: u25 :: u26 :: u27 :: u28 :: u29 :: u30 :: u31 :: u32 :: u33 :: u34 :: u35 :: u36 :: u37 :: u38 :: u39 :: u40 :: u41 :: u42 :: u43 :: u44 :: u45 :: u46 :: u47 :: u48 :: u49 :: u50 :: u51 :: u52 :: u53 :: u54 :: u55 :: u56 :: u57 :: u58 :: u59 :: u60 :: u61 :: u62 :: u63 :: u64 :: u65 :: u66 :: u67 :: u68 :: u69 :: u70 :: u71 :: u72 :: u73 :: u74 :: u75 :: []).toArray,defers:= [] } W:=by
 subst hc;conv=>enter [2];whnf
 refine wp_region_tail (by kernel_rfl) (by kernel_rfl) 10 (by show 10<_;decide) (by kernel_rfl) (by kernel_rfl) (fun s:Nat→Value=>({ tmps:=(u0 :: u1 :: u2 :: u3 :: u4 :: (.pointer (some ⟨g5,0,none⟩)) :: u6 :: s 7 :: u8 :: u9 :: u10 :: s 11 :: s 12 :: s 13 :: s 14 :: s 15 :: s 16 :: s 17 :: s 18 :: s 19 :: u20 :: u21 :: u22 :: u23 :: u24 :: u25 :: u26 :: u27 :: u28 :: u29 :: u30 :: u31 :: u32 :: u33 :: u34 :: u35 :: u36 :: u37 :: u38 :: u39 :: u40 :: u41 :: u42 :: u43 :: u44 :: u45 :: u46 :: u47 :: u48 :: u49 :: u50 :: u51 :: u52 :: u53 :: u54 :: u55 :: u56 :: u57 :: u58 :: u59 :: u60 :: u61 :: u62 :: u63 :: u64 :: u65 :: u66 :: u67 :: u68 :: u69 :: u70 :: u71 :: u72 :: u73 :: u74 :: u75 :: []).toArray,defers:= [] } : Act)) (fun k=>if k=11 then u11 else if k=12 then u12 else if k=13 then u13 else if k=14 then u14 else if k=15 then u15 else if k=16 then u16 else if k=17 then u17 else if k=18 then u18 else if k=19 then u19 else if k=7 then u7 else undef) rfl (fun i v x=>(i=4→∃b4,v = .slice (some ⟨b4,0,none⟩) 0 0∧W.heap.size≤b4)∧(i=7→∃g7 c7,v = .slice (some ⟨g7,0,none⟩) q.lits.length c7∧(x.ownsRow W.heap.size 56 2 (.slice (some ⟨g7,0,none⟩) q.lits.length c7) q.lits.length (q.lits.flatMap Li.cells)))∧(i=8→∃g8 c8,v = .agg #[.int .i64 (q.vars:Nat),.slice (some ⟨g8,0,none⟩) q.lits.length c8,.slice q.head.h.ao q.head.l.length q.head.h.cap]∧(x.ownsRow W.heap.size 56 2 (.slice (some ⟨g8,0,none⟩) q.lits.length c8) q.lits.length (q.lits.flatMap Li.cells)))∧(i=9→∃b,v = .pointer (some ⟨b,0,none⟩)∧Box x b #[.int .i64 0,.slice none 0 0,.slice none 0 0] 32∧W.heap.size≤b)∧(i≠4→i≠7→i≠8→i≠9→([.pointer (some ⟨g5,0,none⟩),.int .i64 (q.vars:Nat),.pointer (some ⟨g5,2,none⟩),.slice q.head.h.ao q.head.l.length q.head.h.cap,undef,.pointer (some ⟨g5,1,none⟩),.slice (some ⟨q.lh.b,q.lh.o,none⟩) q.lits.length q.lh.cap,undef,undef,undef] :List Value)[i]? = some v)) (fun i v x y h hb=>⟨fun hi=>(by obtain⟨b4,h0,q0⟩:=h.1 hi;exact⟨b4,h0,q0⟩),fun hi=>(by obtain⟨g7,c7,h0,q0⟩:=h.2.1 hi;exact⟨g7,c7,h0,q0.kept (only_below hb none) (Classical.em _)⟩),fun hi=>(by obtain⟨g8,c8,h0,q0⟩:=h.2.2.1 hi;exact⟨g8,c8,h0,q0.kept (only_below hb none) (Classical.em _)⟩),fun hi=>(by obtain⟨b,h1,h2,h3⟩:=h.2.2.2.1 hi;exact⟨b,h1,h2.below hb,h3⟩),h.2.2.2.2⟩) (fun i=>([11,12,13,14,15,16,17,18,19,7] :List Nat).getD i 0) ?inj ?step ?last
 case inj=>
  intro i j hi hj h;have hI:i=0∨i=1∨i=2∨i=3∨i=4∨i=5∨i=6∨i=7∨i=8∨i=9:=by omega
  have hJ:j=0∨j=1∨j=2∨j=3∨j=4∨j=5∨j=6∨j=7∨j=8∨j=9:=by omega
  rcases hI with rfl|rfl|rfl|rfl|rfl|rfl|rfl|rfl|rfl|rfl<;>rcases hJ with rfl|rfl|rfl|rfl|rfl|rfl|rfl|rfl|rfl|rfl<;>first|rfl| (exact absurd h (by decide))
 case last=>
  intro s x hv hb;have HB:=ai hb;clear hb;have z0:s 11 = .pointer (some ⟨g5,0,none⟩):=by have h:=(hv 0 (by decide)).2.2.2.2 (by decide) (by decide) (by decide) (by decide);injection h with h;exact h.symm
  have z1:s 12 = .int .i64 (q.vars:Nat):=by have h:=(hv 1 (by decide)).2.2.2.2 (by decide) (by decide) (by decide) (by decide);injection h with h;exact h.symm
  have z2:s 13 = .pointer (some ⟨g5,2,none⟩):=by have h:=(hv 2 (by decide)).2.2.2.2 (by decide) (by decide) (by decide) (by decide);injection h with h;exact h.symm
  have z3:s 14 = .slice q.head.h.ao q.head.l.length q.head.h.cap:=by have h:=(hv 3 (by decide)).2.2.2.2 (by decide) (by decide) (by decide) (by decide);injection h with h;exact h.symm
  obtain⟨b4,hz4,hg4_0⟩:=(hv 4 (by decide)).1 rfl
  have z4:s 15 = .slice (some ⟨b4,0,none⟩) 0 0:=hz4;clear hz4;have z5:s 16 = .pointer (some ⟨g5,1,none⟩):=by have h:=(hv 5 (by decide)).2.2.2.2 (by decide) (by decide) (by decide) (by decide);injection h with h;exact h.symm
  have z6:s 17 = .slice (some ⟨q.lh.b,q.lh.o,none⟩) q.lits.length q.lh.cap:=by have h:=(hv 6 (by decide)).2.2.2.2 (by decide) (by decide) (by decide) (by decide);injection h with h;exact h.symm
  obtain⟨g7,c7,hz7,hg7_0⟩:=(hv 7 (by decide)).2.1 rfl
  have z7:s 18 = .slice (some ⟨g7,0,none⟩) q.lits.length c7:=hz7;clear hz7;obtain⟨g8,c8,hz8,hg8_0⟩:=(hv 8 (by decide)).2.2.1 rfl
  have z8:s 19 = .agg #[.int .i64 (q.vars:Nat),.slice (some ⟨g8,0,none⟩) q.lits.length c8,.slice q.head.h.ao q.head.l.length q.head.h.cap]:=hz8;clear hz8;obtain⟨b9,hz9,hx9,hg9⟩:=(hv 9 (by decide)).2.2.2.1 rfl
  have z9:s 7 = .pointer (some ⟨b9,0,none⟩):=hz9;clear hz9;clear hv;have o0:=hx9.cell (j:=0) rfl
  have o1:=hx9.cell (j:=1) rfl
  have o2:=hx9.cell (j:=2) rfl
  have f0:=hx9.fr 0;have f1:=hx9.fr 1;have f2:=hx9.fr 2;have HBX:=ai hx9;have HOW:=ai hg8_0;clear hx9 hg8_0 hg7_0
  show Oper.wp _ _ _ _ _ _
  refine opwp_K (fun K2 hK2=> ?_)
  go_simp
  refine hK2 _ _ ?_
  show Q _ _ _
  have h:=hend b4 g7 c7 g8 c8 b9 x HB.o HOW.o HBX.o hg9
  first|exact h| (simp only [z0,z1,z2,z3,z4,z5,z6,z7,z8,z9];exact h)
 case step=>
  intro i o s x hin ho he hb;have HB:=ai hb;clear hb;have hcase:i=0∨i=1∨i=2∨i=3∨i=4∨i=5∨i=6∨i=7∨i=8∨i=9:=by omega
  rcases hcase with rfl|rfl|rfl|rfl|rfl|rfl|rfl|rfl|rfl|rfl
  ·injection ho with ho
   subst ho;clear he;refine opwp_K (fun K2 hK2=> ?_)
   go_simp
   exact hK2 _ _ ⟨(.pointer (some ⟨g5,0,none⟩)),(by first|rfl| (simp [List.getD];done)),Below.refl _ _,⟨fun h=>absurd h (by decide),fun h=>absurd h (by decide),fun h=>absurd h (by decide),fun h=>absurd h (by decide),fun _ _ _ _=>rfl⟩⟩
  ·injection ho with ho
   subst ho;have z0:s 11 = .pointer (some ⟨g5,0,none⟩):=by have h:=(he ⟨0,.data⟩ (by simp) rfl).2.2.2.2 (by decide) (by decide) (by decide) (by decide);injection h with h;exact h.symm
   clear he;have hbe:=HQB.o.below HB.o;have k0:=hbe.cell (j:=0) rfl
   clear hbe;refine opwp_K (fun K2 hK2=> ?_)
   go_simp
   exact hK2 _ _ ⟨(.int .i64 (q.vars:Nat)),(by first|rfl| (simp [z0];done)),Below.refl _ _,⟨fun h=>absurd h (by decide),fun h=>absurd h (by decide),fun h=>absurd h (by decide),fun h=>absurd h (by decide),fun _ _ _ _=>rfl⟩⟩
  ·injection ho with ho
   subst ho;clear he;refine opwp_K (fun K2 hK2=> ?_)
   go_simp
   exact hK2 _ _ ⟨(.pointer (some ⟨g5,2,none⟩)),(by first|rfl| (simp [List.getD];done)),Below.refl _ _,⟨fun h=>absurd h (by decide),fun h=>absurd h (by decide),fun h=>absurd h (by decide),fun h=>absurd h (by decide),fun _ _ _ _=>rfl⟩⟩
  ·injection ho with ho
   subst ho;have z2:s 13 = .pointer (some ⟨g5,2,none⟩):=by have h:=(he ⟨2,.data⟩ (by simp) rfl).2.2.2.2 (by decide) (by decide) (by decide) (by decide);injection h with h;exact h.symm
   clear he;have hbe:=HQB.o.below HB.o;have k2:=hbe.cell (j:=2) rfl
   clear hbe;refine opwp_K (fun K2 hK2=> ?_)
   go_simp
   exact hK2 _ _ ⟨(.slice q.head.h.ao q.head.l.length q.head.h.cap),(by first|rfl| (simp [z2];done)),Below.refl _ _,⟨fun h=>absurd h (by decide),fun h=>absurd h (by decide),fun h=>absurd h (by decide),fun h=>absurd h (by decide),fun _ _ _ _=>rfl⟩⟩
  ·injection ho with ho
   subst ho;clear he;refine opwp_K (fun K2 hK2=> ?_)
   go_simp
   exact hK2 _ _ ⟨_,(by first|rfl| (simp [List.getD];done)),belA _,⟨fun _=>⟨_,rfl,HB.o.size⟩,fun h=>absurd h (by decide),fun h=>absurd h (by decide),fun h=>absurd h (by decide),fun h _ _ _=>absurd rfl h⟩⟩
  ·injection ho with ho
   subst ho;clear he;refine opwp_K (fun K2 hK2=> ?_)
   go_simp
   exact hK2 _ _ ⟨(.pointer (some ⟨g5,1,none⟩)),(by first|rfl| (simp [List.getD];done)),Below.refl _ _,⟨fun h=>absurd h (by decide),fun h=>absurd h (by decide),fun h=>absurd h (by decide),fun h=>absurd h (by decide),fun _ _ _ _=>rfl⟩⟩
  ·injection ho with ho
   subst ho;have z5:s 16 = .pointer (some ⟨g5,1,none⟩):=by have h:=(he ⟨5,.data⟩ (by simp) rfl).2.2.2.2 (by decide) (by decide) (by decide) (by decide);injection h with h;exact h.symm
   clear he;have hbe:=HQB.o.below HB.o;have k1:=hbe.cell (j:=1) rfl
   clear hbe;rw [HAO.o]at k1;refine opwp_K (fun K2 hK2=> ?_)
   go_simp
   exact hK2 _ _ ⟨(.slice (some ⟨q.lh.b,q.lh.o,none⟩) q.lits.length q.lh.cap),(by first|rfl| (simp [z5];done)),Below.refl _ _,⟨fun h=>absurd h (by decide),fun h=>absurd h (by decide),fun h=>absurd h (by decide),fun h=>absurd h (by decide),fun _ _ _ _=>rfl⟩⟩
  ·injection ho with ho
   subst ho;obtain⟨b4,hz4,hg4_0⟩:=(he ⟨4,.data⟩ (by simp) rfl).1 rfl
   have z4:s 15 = .slice (some ⟨b4,0,none⟩) 0 0:=hz4;clear hz4;have z6:s 17 = .slice (some ⟨q.lh.b,q.lh.o,none⟩) q.lits.length q.lh.cap:=by have h:=(he ⟨6,.data⟩ (by simp) rfl).2.2.2.2 (by decide) (by decide) (by decide) (by decide);injection h with h;exact h.symm
   clear he;obtain⟨i0,hi,hz0,hz1,hz2⟩:=info_parts info_lit;refine wp_append_grows x _ _ 29 rfl 56 i0 (.agg #[.int .i64 0,.slice none 0 0]) 2 32 Tryz.underlying29 hi hz0 hz1 hz2 rfl (by decide) b4 (by show s 15=_;exact z4) ⟨q.lh.b,q.lh.o,none⟩ q.lits.length q.lh.cap (q.lits.flatMap Li.cells) (by show s 17=_;exact z6) (flatMap_len (cells:=Li.cells) (fun _=>rfl) _) (row_news (fun _=>rfl) (by decide) (HQI.o.mono HB.o).row) HLN.o.1 (by have:=HLN.o.2;unfold maxLen;omega) (by have:=HLN.o.2;omega) ?_
   intro v2 y hown hgr;have hv: ∃g c,v2 = .slice (some ⟨g,0,none⟩) q.lits.length c:=by obtain⟨m,hm⟩ : ∃m,q.lits.length=m+1:=⟨q.lits.length - 1,by have:=HLN.o.1;omega⟩;rw [hm]at hown ⊢;obtain⟨g,c,h⟩:=ownsRow_succ hown;exact⟨g,c,h⟩
   obtain⟨g,c,rfl⟩:=hv;exact⟨_,rfl,grown_below hgr,⟨fun h=>absurd h (by decide),fun _=>⟨g,c,rfl,own_base hown HB.o.size⟩,fun h=>absurd h (by decide),fun h=>absurd h (by decide),fun _ h _ _=>absurd rfl h⟩⟩
  ·injection ho with ho
   subst ho;have z1:s 12 = .int .i64 (q.vars:Nat):=by have h:=(he ⟨1,.data⟩ (by simp) rfl).2.2.2.2 (by decide) (by decide) (by decide) (by decide);injection h with h;exact h.symm
   have z3:s 14 = .slice q.head.h.ao q.head.l.length q.head.h.cap:=by have h:=(he ⟨3,.data⟩ (by simp) rfl).2.2.2.2 (by decide) (by decide) (by decide) (by decide);injection h with h;exact h.symm
   obtain⟨g7,c7,hz7,hg7_0⟩:=(he ⟨7,.data⟩ (by simp) rfl).2.1 rfl
   have z7:s 18 = .slice (some ⟨g7,0,none⟩) q.lits.length c7:=hz7;clear hz7;clear he;refine opwp_K (fun K2 hK2=> ?_)
   go_simp
   exact hK2 _ _ ⟨_,(by first|rfl| (simp [z1,z3,z7];done)),Below.refl _ _,⟨fun h=>absurd h (by decide),fun h=>absurd h (by decide),fun _=>⟨g7,c7,rfl,hg7_0⟩,fun h=>absurd h (by decide),fun _ _ h _=>absurd rfl h⟩⟩
  ·injection ho with ho
   subst ho;clear he;refine opwp_K (fun K2 hK2=> ?_)
   go_simp
   exact hK2 _ _ ⟨_,(by first|rfl| (simp [List.getD];done)),belA _,⟨fun h=>absurd h (by decide),fun h=>absurd h (by decide),fun h=>absurd h (by decide),fun _=>⟨_,rfl,Box.new _ _ _,HB.o.size⟩,fun _ _ _ h=>absurd rfl h⟩⟩
theorem wk_reg4 {lb:Nat} {l:Li} {W:World} (HLB:Hid (Box W lb #[.int .i64 (l.tab:Nat),.slice l.sl.h.ao l.sl.l.length l.sl.h.cap] 56)) (HLR:Hid (Row W 4 Tm.cells l.sl.h l.sl.l)) (HLN:Hid (0<l.sl.l.length∧l.sl.l.length≤1000)) (HAO:Hid (l.sl.h.ao=some ⟨l.sl.h.b,l.sl.h.o,none⟩)) {Q:Exit→Act→World→Prop} {c:Code} {u0 u1 u2 u3 u4 u5 u6 u7 u9 u10 u11 u12 u13 u14 u15 u16 u17 u18 u19 u20 u21 u22 u23 u24 u25 u26 u27 u28 u29 u30 u31 u32 u33 u34 u35 u36 u37 u38 u39 u40 u41 u42 u43 u44 u45 u46 u47 u48 u49 u50 u51 u52 u53 u54 u55 u56 u57 u58 u59 u60 u61 u62 u63 u64 u65 u66 u67 u68 u69 u70 u71 u72 u73 u74 u75:Value} (hc:c=codeIn [1,1,0,1,2,1,0] wkBody) (hend: ∀b2 g5 c5 g6 c6 b7 x,Below W.heap.size W x→x.ownsRow W.heap.size 83 4 (.slice (some ⟨g6,0,none⟩) l.sl.l.length c6) l.sl.l.length (l.sl.l.flatMap Tm.cells)→Box x b7 #[.int .i64 0,.slice none 0 0] 56→W.heap.size≤b7→Q .normal { tmps:=(u0 :: u1 :: u2 :: u3 :: u4 :: u5 :: u6 :: u7 :: (.pointer (some ⟨lb,0,none⟩)) :: .pointer (some ⟨b7,0,none⟩) :: u10 :: u11 :: u12 :: u13 :: u14 :: u15 :: u16 :: u17 :: u18 :: u19 :: u20 :: u21 :: u22 :: u23 :: u24 :: u25 :: u26 :: u27 :: u28 :: u29 :: u30 :: u31 :: u32 :: u33 :: u34 :: u35 :: u36 :: u37 :: .pointer (some ⟨lb,0,none⟩) :: .int .i64 (l.tab:Nat) :: .slice (some ⟨b2,0,none⟩) 0 0 :: .pointer (some ⟨lb,1,none⟩) :: .slice (some ⟨l.sl.h.b,l.sl.h.o,none⟩) l.sl.l.length l.sl.h.cap :: .slice (some ⟨g5,0,none⟩) l.sl.l.length c5 :: .agg #[.int .i64 (l.tab:Nat),.slice (some ⟨g6,0,none⟩) l.sl.l.length c6] :: u45 :: u46 :: u47 :: u48 :: u49 :: u50 :: u51 :: u52 :: u53 :: u54 :: u55 :: u56 :: u57 :: u58 :: u59 :: u60 :: u61 :: u62 :: u63 :: u64 :: u65 :: u66 :: u67 :: u68 :: u69 :: u70 :: u71 :: u72 :: u73 :: u74 :: u75 :: []).toArray,defers:= [] } ((x.setCell ⟨b7,0,none⟩ (.int .i64 (l.tab:Nat))).setCell ⟨b7,1,none⟩ (.slice (some ⟨g6,0,none⟩) l.sl.l.length c6))) :Code.wp Tryz.prog c Q { tmps:=(u0 :: u1 :: u2 :: u3 :: u4 :: u5 :: u6 :: u7 :: (.pointer (some ⟨lb,0,none⟩)) :: u9 :: u10 :: u11 :: u12 :: u13 :: u14 :: u15 :: u16 :: u17 :: u18 :: u19 :: u20 :: u21 :: u22 :: u23 :: u24 :: u25 :: u26 :: u27 :: u28 :: u29 :: u30 :: u31 :: u32 :: u33 :: u34 :: u35 :: u36 :: u37 :: u38 :: u39 :: u40 :: u41 :: u42 :: u43 :: u44 :: u45 :: u46 :: u47 :: u48 :: u49 :: u50 :: u51 :: u52 :: u53 :: u54 :: u55 :: u56 :: u57 :: u58 :: u59 :: u60 :: u61 :: u62 :: u63 :: u64 :: u65 :: u66 :: u67 :: u68 :: u69 :: u70 :: u71 :: u72 :: u73 :: u74 :: u75 :: []).toArray,defers:= [] } W:=by
 subst hc;conv=>enter [2];whnf
 refine wp_region_tail (by kernel_rfl) (by kernel_rfl) 8 (by show 8<_;decide) (by kernel_rfl) (by kernel_rfl) (fun s:Nat→Value=>({ tmps:=(u0 :: u1 :: u2 :: u3 :: u4 :: u5 :: u6 :: u7 :: (.pointer (some ⟨lb,0,none⟩)) :: s 9 :: u10 :: u11 :: u12 :: u13 :: u14 :: u15 :: u16 :: u17 :: u18 :: u19 :: u20 :: u21 :: u22 :: u23 :: u24 :: u25 :: u26 :: u27 :: u28 :: u29 :: u30 :: u31 :: u32 :: u33 :: u34 :: u35 :: u36 :: u37 :: s 38 :: s 39 :: s 40 :: s 41 :: s 42 :: s 43 :: s 44 :: u45 :: u46 :: u47 :: u48 :: u49 :: u50 :: u51 :: u52 :: u53 :: u54 :: u55 :: u56 :: u57 :: u58 :: u59 :: u60 :: u61 :: u62 :: u63 :: u64 :: u65 :: u66 :: u67 :: u68 :: u69 :: u70 :: u71 :: u72 :: u73 :: u74 :: u75 :: []).toArray,defers:= [] } : Act)) (fun k=>if k=38 then u38 else if k=39 then u39 else if k=40 then u40 else if k=41 then u41 else if k=42 then u42 else if k=43 then u43 else if k=44 then u44 else if k=9 then u9 else undef) rfl (fun i v x=>(i=2→∃b2,v = .slice (some ⟨b2,0,none⟩) 0 0∧W.heap.size≤b2)∧(i=5→∃g5 c5,v = .slice (some ⟨g5,0,none⟩) l.sl.l.length c5∧(x.ownsRow W.heap.size 83 4 (.slice (some ⟨g5,0,none⟩) l.sl.l.length c5) l.sl.l.length (l.sl.l.flatMap Tm.cells)))∧(i=6→∃g6 c6,v = .agg #[.int .i64 (l.tab:Nat),.slice (some ⟨g6,0,none⟩) l.sl.l.length c6]∧(x.ownsRow W.heap.size 83 4 (.slice (some ⟨g6,0,none⟩) l.sl.l.length c6) l.sl.l.length (l.sl.l.flatMap Tm.cells)))∧(i=7→∃b,v = .pointer (some ⟨b,0,none⟩)∧Box x b #[.int .i64 0,.slice none 0 0] 56∧W.heap.size≤b)∧(i≠2→i≠5→i≠6→i≠7→([.pointer (some ⟨lb,0,none⟩),.int .i64 (l.tab:Nat),undef,.pointer (some ⟨lb,1,none⟩),.slice (some ⟨l.sl.h.b,l.sl.h.o,none⟩) l.sl.l.length l.sl.h.cap,undef,undef,undef] :List Value)[i]? = some v)) (fun i v x y h hb=>⟨fun hi=>(by obtain⟨b2,h0,q0⟩:=h.1 hi;exact⟨b2,h0,q0⟩),fun hi=>(by obtain⟨g5,c5,h0,q0⟩:=h.2.1 hi;exact⟨g5,c5,h0,q0.kept (only_below hb none) (Classical.em _)⟩),fun hi=>(by obtain⟨g6,c6,h0,q0⟩:=h.2.2.1 hi;exact⟨g6,c6,h0,q0.kept (only_below hb none) (Classical.em _)⟩),fun hi=>(by obtain⟨b,h1,h2,h3⟩:=h.2.2.2.1 hi;exact⟨b,h1,h2.below hb,h3⟩),h.2.2.2.2⟩) (fun i=>([38,39,40,41,42,43,44,9] :List Nat).getD i 0) ?inj ?step ?last
 case inj=>
  intro i j hi hj h;have hI:i=0∨i=1∨i=2∨i=3∨i=4∨i=5∨i=6∨i=7:=by omega
  have hJ:j=0∨j=1∨j=2∨j=3∨j=4∨j=5∨j=6∨j=7:=by omega
  rcases hI with rfl|rfl|rfl|rfl|rfl|rfl|rfl|rfl<;>rcases hJ with rfl|rfl|rfl|rfl|rfl|rfl|rfl|rfl<;>first|rfl| (exact absurd h (by decide))
 case last=>
  intro s x hv hb;have HB:=ai hb;clear hb;have z0:s 38 = .pointer (some ⟨lb,0,none⟩):=by have h:=(hv 0 (by decide)).2.2.2.2 (by decide) (by decide) (by decide) (by decide);injection h with h;exact h.symm
  have z1:s 39 = .int .i64 (l.tab:Nat):=by have h:=(hv 1 (by decide)).2.2.2.2 (by decide) (by decide) (by decide) (by decide);injection h with h;exact h.symm
  obtain⟨b2,hz2,hg2_0⟩:=(hv 2 (by decide)).1 rfl
  have z2:s 40 = .slice (some ⟨b2,0,none⟩) 0 0:=hz2;clear hz2;have z3:s 41 = .pointer (some ⟨lb,1,none⟩):=by have h:=(hv 3 (by decide)).2.2.2.2 (by decide) (by decide) (by decide) (by decide);injection h with h;exact h.symm
  have z4:s 42 = .slice (some ⟨l.sl.h.b,l.sl.h.o,none⟩) l.sl.l.length l.sl.h.cap:=by have h:=(hv 4 (by decide)).2.2.2.2 (by decide) (by decide) (by decide) (by decide);injection h with h;exact h.symm
  obtain⟨g5,c5,hz5,hg5_0⟩:=(hv 5 (by decide)).2.1 rfl
  have z5:s 43 = .slice (some ⟨g5,0,none⟩) l.sl.l.length c5:=hz5;clear hz5;obtain⟨g6,c6,hz6,hg6_0⟩:=(hv 6 (by decide)).2.2.1 rfl
  have z6:s 44 = .agg #[.int .i64 (l.tab:Nat),.slice (some ⟨g6,0,none⟩) l.sl.l.length c6]:=hz6;clear hz6;obtain⟨b7,hz7,hx7,hg7⟩:=(hv 7 (by decide)).2.2.2.1 rfl
  have z7:s 9 = .pointer (some ⟨b7,0,none⟩):=hz7;clear hz7;clear hv;have o0:=hx7.cell (j:=0) rfl
  have o1:=hx7.cell (j:=1) rfl
  have f0:=hx7.fr 0;have f1:=hx7.fr 1;have HBX:=ai hx7;have HOW:=ai hg6_0;clear hx7 hg6_0 hg5_0
  show Oper.wp _ _ _ _ _ _
  refine opwp_K (fun K2 hK2=> ?_)
  go_simp
  refine hK2 _ _ ?_
  show Q _ _ _
  have h:=hend b2 g5 c5 g6 c6 b7 x HB.o HOW.o HBX.o hg7
  first|exact h| (simp only [z0,z1,z2,z3,z4,z5,z6,z7];exact h)
 case step=>
  intro i o s x hin ho he hb;have HB:=ai hb;clear hb;have hcase:i=0∨i=1∨i=2∨i=3∨i=4∨i=5∨i=6∨i=7:=by omega
  rcases hcase with rfl|rfl|rfl|rfl|rfl|rfl|rfl|rfl
  ·injection ho with ho
   subst ho;clear he;refine opwp_K (fun K2 hK2=> ?_)
   go_simp
   exact hK2 _ _ ⟨(.pointer (some ⟨lb,0,none⟩)),(by first|rfl| (simp [List.getD];done)),Below.refl _ _,⟨fun h=>absurd h (by decide),fun h=>absurd h (by decide),fun h=>absurd h (by decide),fun h=>absurd h (by decide),fun _ _ _ _=>rfl⟩⟩
  ·injection ho with ho
   subst ho;have z0:s 38 = .pointer (some ⟨lb,0,none⟩):=by have h:=(he ⟨0,.data⟩ (by simp) rfl).2.2.2.2 (by decide) (by decide) (by decide) (by decide);injection h with h;exact h.symm
   clear he;have hbe:=HLB.o.below HB.o;have k0:=hbe.cell (j:=0) rfl
   clear hbe;refine opwp_K (fun K2 hK2=> ?_)
   go_simp
   exact hK2 _ _ ⟨(.int .i64 (l.tab:Nat)),(by first|rfl| (simp [z0];done)),Below.refl _ _,⟨fun h=>absurd h (by decide),fun h=>absurd h (by decide),fun h=>absurd h (by decide),fun h=>absurd h (by decide),fun _ _ _ _=>rfl⟩⟩
  ·injection ho with ho
   subst ho;clear he;refine opwp_K (fun K2 hK2=> ?_)
   go_simp
   exact hK2 _ _ ⟨_,(by first|rfl| (simp [List.getD];done)),belA _,⟨fun _=>⟨_,rfl,HB.o.size⟩,fun h=>absurd h (by decide),fun h=>absurd h (by decide),fun h=>absurd h (by decide),fun h _ _ _=>absurd rfl h⟩⟩
  ·injection ho with ho
   subst ho;clear he;refine opwp_K (fun K2 hK2=> ?_)
   go_simp
   exact hK2 _ _ ⟨(.pointer (some ⟨lb,1,none⟩)),(by first|rfl| (simp [List.getD];done)),Below.refl _ _,⟨fun h=>absurd h (by decide),fun h=>absurd h (by decide),fun h=>absurd h (by decide),fun h=>absurd h (by decide),fun _ _ _ _=>rfl⟩⟩
  ·injection ho with ho
   subst ho;have z3:s 41 = .pointer (some ⟨lb,1,none⟩):=by have h:=(he ⟨3,.data⟩ (by simp) rfl).2.2.2.2 (by decide) (by decide) (by decide) (by decide);injection h with h;exact h.symm
   clear he;have hbe:=HLB.o.below HB.o;have k1:=hbe.cell (j:=1) rfl
   clear hbe;rw [HAO.o]at k1;refine opwp_K (fun K2 hK2=> ?_)
   go_simp
   exact hK2 _ _ ⟨(.slice (some ⟨l.sl.h.b,l.sl.h.o,none⟩) l.sl.l.length l.sl.h.cap),(by first|rfl| (simp [z3];done)),Below.refl _ _,⟨fun h=>absurd h (by decide),fun h=>absurd h (by decide),fun h=>absurd h (by decide),fun h=>absurd h (by decide),fun _ _ _ _=>rfl⟩⟩
  ·injection ho with ho
   subst ho;obtain⟨b2,hz2,hg2_0⟩:=(he ⟨2,.data⟩ (by simp) rfl).1 rfl
   have z2:s 40 = .slice (some ⟨b2,0,none⟩) 0 0:=hz2;clear hz2;have z4:s 42 = .slice (some ⟨l.sl.h.b,l.sl.h.o,none⟩) l.sl.l.length l.sl.h.cap:=by have h:=(he ⟨4,.data⟩ (by simp) rfl).2.2.2.2 (by decide) (by decide) (by decide) (by decide);injection h with h;exact h.symm
   clear he;obtain⟨i0,hi,hz0,hz1,hz2⟩:=info_parts info_slot4;refine wp_append_grows x _ _ 30 rfl 83 i0 (.agg #[.int .i64 0,.int .i64 0,.int .i64 0,.string ⟨#[]⟩]) 4 40 Tryz.underlying30 hi hz0 hz1 hz2 rfl (by decide) b2 (by show s 40=_;exact z2) ⟨l.sl.h.b,l.sl.h.o,none⟩ l.sl.l.length l.sl.h.cap (l.sl.l.flatMap Tm.cells) (by show s 42=_;exact z4) (flatMap_len Tm.cells_len _) (row_news Tm.cells_len (by decide) (HLR.o.mono HB.o)) HLN.o.1 (by have:=HLN.o.2;unfold maxLen;omega) (by have:=HLN.o.2;omega) ?_
   intro v2 y hown hgr;have hv: ∃g c,v2 = .slice (some ⟨g,0,none⟩) l.sl.l.length c:=by obtain⟨m,hm⟩ : ∃m,l.sl.l.length=m+1:=⟨l.sl.l.length - 1,by have:=HLN.o.1;omega⟩;rw [hm]at hown ⊢;obtain⟨g,c,h⟩:=ownsRow_succ hown;exact⟨g,c,h⟩
   obtain⟨g,c,rfl⟩:=hv;exact⟨_,rfl,grown_below hgr,⟨fun h=>absurd h (by decide),fun _=>⟨g,c,rfl,own_base hown HB.o.size⟩,fun h=>absurd h (by decide),fun h=>absurd h (by decide),fun _ h _ _=>absurd rfl h⟩⟩
  ·injection ho with ho
   subst ho;have z1:s 39 = .int .i64 (l.tab:Nat):=by have h:=(he ⟨1,.data⟩ (by simp) rfl).2.2.2.2 (by decide) (by decide) (by decide) (by decide);injection h with h;exact h.symm
   obtain⟨g5,c5,hz5,hg5_0⟩:=(he ⟨5,.data⟩ (by simp) rfl).2.1 rfl
   have z5:s 43 = .slice (some ⟨g5,0,none⟩) l.sl.l.length c5:=hz5;clear hz5;clear he;refine opwp_K (fun K2 hK2=> ?_)
   go_simp
   exact hK2 _ _ ⟨_,(by first|rfl| (simp [z1,z5];done)),Below.refl _ _,⟨fun h=>absurd h (by decide),fun h=>absurd h (by decide),fun _=>⟨g5,c5,rfl,hg5_0⟩,fun h=>absurd h (by decide),fun _ _ h _=>absurd rfl h⟩⟩
  ·injection ho with ho
   subst ho;clear he;refine opwp_K (fun K2 hK2=> ?_)
   go_simp
   exact hK2 _ _ ⟨_,(by first|rfl| (simp [List.getD];done)),belA _,⟨fun h=>absurd h (by decide),fun h=>absurd h (by decide),fun h=>absurd h (by decide),fun _=>⟨_,rfl,Box.new _ _ _,HB.o.size⟩,fun _ _ _ h=>absurd rfl h⟩⟩
end Go.Proofs.YtiijaaohphokcaaGreatDoor

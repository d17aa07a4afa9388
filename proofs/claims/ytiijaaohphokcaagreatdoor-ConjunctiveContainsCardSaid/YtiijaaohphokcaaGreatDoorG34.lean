/- conjunctive.(*solver).from: the region that appends a variable's value to a row. -/
import Derived.Test.YtiijaaohphokcaaGreatDoorG33
import Derived.Test.YtiijaaohphokcaaGreatDoorG09
import Derived.Test.YtiijaaohphokcaaGreatDoorG08
import Derived.Laws.AppendOwnNone
import Derived.Maps.AppendAt
import Derived.Deep.DeepCutAuto
set_option maxRecDepth 100000
set_option maxHeartbeats 16000000
namespace Go.Proofs.YtiijaaohphokcaaGreatDoor
open Go.RowKit
theorem info_v3: (Tryz.prog.info? 81).map (fun i=>(i.zero,i.size,i.bytes)) =some (some (.agg #[.int .i64 0,.int .i64 0,.string ByteArray.empty]),3,32):=by kernel_rfl
theorem va_one (u:V) : ∀v∈u.cells,v.oneCell'=true:=by intro v hv;simp only [V.cells,List.mem_cons,List.not_mem_nil,or_false]at hv;rcases hv with rfl|rfl|rfl<;>rfl
theorem box_cells3 {w:World} {b:Nat} {T:TypeId} {l:List Value} (h:Box w b l.toArray T) : ∀j u,l[j]? = some u→w.cell? ((⟨b,0,none⟩ :Addr).add j) =some u:=by
 intro j u hu;rw [Addr.add_lit,Nat.zero_add];exact h.cell (by simpa using hu)
theorem vals_snoc (l:List V) (u:V) : (l ++ [u]).flatMap V.cells=l.flatMap V.cells ++ V.cells u:=by rw [List.flatMap_append,List.flatMap_cons,List.flatMap_nil,List.append_nil]
theorem fr_reg8 {gs gv nv xv xb B:Nat} {u:V} {vs:List V} {rv:Value} {W:World} (hxv:xv<nv) (HVL:Hid (vs.length≤1000)) (HBB:Hid (B≤W.heap.size)) (HO:Hid (W.ownsRow B 81 3 rv vs.length (vs.flatMap V.cells))) (m5y: ∀x,Below W.heap.size W x→x.cell? ⟨gs,5,none⟩ =some (.slice (some ⟨gv,0,none⟩) nv nv)) (c0y: ∀x,Below W.heap.size W x→x.cell? ⟨xb,0,none⟩ =some (.int .i64 (xv:Nat))) (v0y: ∀x,Below W.heap.size W x→x.cell? ⟨gv,xv*3,none⟩ =some (.int .i64 u.kind)) (v1y: ∀x,Below W.heap.size W x→x.cell? ⟨gv,xv*3+1,none⟩ =some (.int .i64 u.num)) (v2y: ∀x,Below W.heap.size W x→x.cell? ⟨gv,xv*3+2,none⟩ =some (.string u.text)) {Q:Exit→Act→World→Prop} {c:Code} {u1 u2 u3 u4 u6 u8 u9 u10 u11 u12 u13 u14 u15 u16 u17 u18 u19 u20 u21 u22 u23 u24 u25 u26 u27 u28 u29 u30 u31 u32 u33 u34 u35 u36 u37 u38 u39 u40 u41 u42 u43 u44 u45 u46 u47 u48 u49 u50 u51 u52 u53 u54 u55 u56 u57 u58 u59 u60 u61 u62 u63 u64 u65 u66 u67 u68 u69 u70 u71 u72 u73 u74 u75 u76 u77 u78 u79 u80 u81 u82 u83 u84 u85 u86 u87 u88 u89 u90 u91 u92 u93 u94 u95 u96 u97 u98 u99 u100 u101 u102 u103 u104 u105 u106 u107 u108 u109 u110 u111 u112 u113 u114 u115 u116 u117 u118 u119 u120 u121:Value} (hc:c=codeIn [1,0,1,2,1,0,1,4,5,1,1,0,4,1,1,3] (Tryz.f57.body.getD .skip)) (hend: ∀b9 g4 cap4 x y,Below W.heap.size W x→x.grownBy y rv.ownBlock→y.ownsRow B 81 3 (.slice (some ⟨g4,0,none⟩) (vs.length+1) cap4) (vs ++ [u]).length ((vs ++ [u]).flatMap V.cells)→Q .normal { tmps:=((.pointer (some ⟨gs,0,none⟩)) :: u1 :: u2 :: u3 :: u4 :: .slice (some ⟨g4,0,none⟩) (vs.length+1) cap4 :: u6 :: (.pointer (some ⟨xb,0,none⟩)) :: u8 :: u9 :: u10 :: u11 :: u12 :: u13 :: u14 :: u15 :: u16 :: u17 :: u18 :: u19 :: u20 :: u21 :: u22 :: u23 :: u24 :: u25 :: u26 :: u27 :: u28 :: u29 :: u30 :: u31 :: u32 :: u33 :: u34 :: u35 :: u36 :: u37 :: u38 :: u39 :: u40 :: rv :: .pointer (some ⟨gs,0,none⟩) :: .pointer (some ⟨gs,0,none⟩) :: .pointer (some ⟨gs,5,none⟩) :: .slice (some ⟨gv,0,none⟩) nv nv :: .pointer (some ⟨xb,0,none⟩) :: .int .i64 (xv:Nat) :: .pointer (some ⟨gv,xv*3,none⟩) :: .agg #[.int .i64 u.kind,.int .i64 u.num,.string u.text] :: .slice (some ⟨b9,0,none⟩) 1 1 :: .slice (some ⟨g4,0,none⟩) (vs.length+1) cap4 :: u52 :: u53 :: u54 :: u55 :: u56 :: u57 :: u58 :: u59 :: u60 :: u61 :: u62 :: u63 :: u64 :: u65 :: u66 :: u67 :: u68 :: u69 :: u70 :: u71 :: u72 :: u73 :: u74 :: u75 :: u76 :: u77 :: u78 :: u79 :: u80 :: u81 :: u82 :: u83 :: u84 :: u85 :: u86 :: u87 :: u88 :: u89 :: u90 :: u91 :: u92 :: u93 :: u94 :: u95 :: u96 :: u97 :: u98 :: u99 :: u100 :: u101 :: u102 :: u103 :: u104 :: u105 :: u106 :: u107 :: u108 :: u109 :: u110 :: u111 :: u112 :: u113 :: u114 :: u115 :: u116 :: u117 :: u118 :: u119 :: u120 :: u121 :: []).toArray,defers:= [] } y) :Code.wp Tryz.prog c Q { tmps:=((.pointer (some ⟨gs,0,none⟩)) :: u1 :: u2 :: u3 :: u4 :: rv :: u6 :: (.pointer (some ⟨xb,0,none⟩)) :: u8 :: u9 :: u10 :: u11 :: u12 :: u13 :: u14 :: u15 :: u16 :: u17 :: u18 :: u19 :: u20 :: u21 :: u22 :: u23 :: u24 :: u25 :: u26 :: u27 :: u28 :: u29 :: u30 :: u31 :: u32 :: u33 :: u34 :: u35 :: u36 :: u37 :: u38 :: u39 :: u40 :: u41 :: u42 :: u43 :: u44 :: u45 :: u46 :: u47 :: u48 :: u49 :: u50 :: u51 :: u52 :: u53 :: u54 :: u55 :: u56 :: u57 :: u58 :: u59 :: u60 :: u61 :: u62 :: u63 :: u64 :: u65 :: u66 :: u67 :: u68 :: u69 :: u70 :: u71 :: u72 :: u73 :: u74 :: u75 :: u76 :: u77 :: u78 :: u79 :: u80 :: u81 :: u82 :: u83 :: u84 :: u85 :: u86 :: u87 :: u88 :: u89 :: u90 :: u91 :: u92 :: u93 :: u94 :: u95 :: u96 :: u97 :: u98 :: u99 :: u100 :: u101 :: u102 :: u103 :: u104 :: u105 :: u106 :: u107 :: u108 :: u109 :: u110 :: u111 :: u112 :: u113 :: u114 :: u115 :: u116 :: u117 :: u118 :: u119 :: u120 :: u121 :: []).toArray,defers:= [] } W:=by
 subst hc;conv=>enter [2];whnf
 refine wp_region_tail (by kernel_rfl) (by kernel_rfl) 10 (by show 10<_;decide) (by kernel_rfl) (by kernel_rfl) (fun s:Nat→Value=>({ tmps:=((.pointer (some ⟨gs,0,none⟩)) :: u1 :: u2 :: u3 :: u4 :: rv :: u6 :: (.pointer (some ⟨xb,0,none⟩)) :: u8 :: u9 :: u10 :: u11 :: u12 :: u13 :: u14 :: u15 :: u16 :: u17 :: u18 :: u19 :: u20 :: u21 :: u22 :: u23 :: u24 :: u25 :: u26 :: u27 :: u28 :: u29 :: u30 :: u31 :: u32 :: u33 :: u34 :: u35 :: u36 :: u37 :: u38 :: u39 :: u40 :: s 41 :: s 42 :: s 43 :: s 44 :: s 45 :: s 46 :: s 47 :: s 48 :: s 49 :: s 50 :: u51 :: u52 :: u53 :: u54 :: u55 :: u56 :: u57 :: u58 :: u59 :: u60 :: u61 :: u62 :: u63 :: u64 :: u65 :: u66 :: u67 :: u68 :: u69 :: u70 :: u71 :: u72 :: u73 :: u74 :: u75 :: u76 :: u77 :: u78 :: u79 :: u80 :: u81 :: u82 :: u83 :: u84 :: u85 :: u86 :: u87 :: u88 :: u89 :: u90 :: u91 :: u92 :: u93 :: u94 :: u95 :: u96 :: u97 :: u98 :: u99 :: u100 :: u101 :: u102 :: u103 :: u104 :: u105 :: u106 :: u107 :: u108 :: u109 :: u110 :: u111 :: u112 :: u113 :: u114 :: u115 :: u116 :: u117 :: u118 :: u119 :: u120 :: u121 :: []).toArray,defers:= [] } : Act)) (fun k=>if k=41 then u41 else if k=42 then u42 else if k=43 then u43 else if k=44 then u44 else if k=45 then u45 else if k=46 then u46 else if k=47 then u47 else if k=48 then u48 else if k=49 then u49 else if k=50 then u50 else undef) rfl (fun i v x=>(i=9→∃b,v = .slice (some ⟨b,0,none⟩) 1 1∧Box x b #[.int .i64 u.kind,.int .i64 u.num,.string u.text] 81∧W.heap.size≤b)∧(i≠9→([rv,.pointer (some ⟨gs,0,none⟩),.pointer (some ⟨gs,0,none⟩),.pointer (some ⟨gs,5,none⟩),.slice (some ⟨gv,0,none⟩) nv nv,.pointer (some ⟨xb,0,none⟩),.int .i64 (xv:Nat),.pointer (some ⟨gv,xv*3,none⟩),.agg #[.int .i64 u.kind,.int .i64 u.num,.string u.text],undef] :List Value)[i]? = some v)) (fun i v x y h hb=>⟨fun hi=>(by obtain⟨b,h1,h2,h3⟩:=h.1 hi;exact⟨b,h1,h2.below hb,h3⟩),h.2⟩) (fun i=>([41,42,43,44,45,46,47,48,49,50] :List Nat).getD i 0) ?inj ?step ?last
 case inj=>
  intro i j hi hj h;have hI:i=0∨i=1∨i=2∨i=3∨i=4∨i=5∨i=6∨i=7∨i=8∨i=9:=by omega
  have hJ:j=0∨j=1∨j=2∨j=3∨j=4∨j=5∨j=6∨j=7∨j=8∨j=9:=by omega
  rcases hI with rfl|rfl|rfl|rfl|rfl|rfl|rfl|rfl|rfl|rfl<;>rcases hJ with rfl|rfl|rfl|rfl|rfl|rfl|rfl|rfl|rfl|rfl<;>first|rfl| (exact absurd h (by decide))
 case last=>
  intro s x hv hb;have HB:=ai hb;clear hb;have z0:s 41=rv:=by have h:=(hv 0 (by decide)).2 (by decide);injection h with h;exact h.symm
  have z1:s 42 = .pointer (some ⟨gs,0,none⟩):=by have h:=(hv 1 (by decide)).2 (by decide);injection h with h;exact h.symm
  have z2:s 43 = .pointer (some ⟨gs,0,none⟩):=by have h:=(hv 2 (by decide)).2 (by decide);injection h with h;exact h.symm
  have z3:s 44 = .pointer (some ⟨gs,5,none⟩):=by have h:=(hv 3 (by decide)).2 (by decide);injection h with h;exact h.symm
  have z4:s 45 = .slice (some ⟨gv,0,none⟩) nv nv:=by have h:=(hv 4 (by decide)).2 (by decide);injection h with h;exact h.symm
  have z5:s 46 = .pointer (some ⟨xb,0,none⟩):=by have h:=(hv 5 (by decide)).2 (by decide);injection h with h;exact h.symm
  have z6:s 47 = .int .i64 (xv:Nat):=by have h:=(hv 6 (by decide)).2 (by decide);injection h with h;exact h.symm
  have z7:s 48 = .pointer (some ⟨gv,xv*3,none⟩):=by have h:=(hv 7 (by decide)).2 (by decide);injection h with h;exact h.symm
  have z8:s 49 = .agg #[.int .i64 u.kind,.int .i64 u.num,.string u.text]:=by have h:=(hv 8 (by decide)).2 (by decide);injection h with h;exact h.symm
  obtain⟨b9,hz9,hx9,hg9⟩:=(hv 9 (by decide)).1 rfl
  have z9:s 50 = .slice (some ⟨b9,0,none⟩) 1 1:=hz9;clear hz9;clear hv;obtain⟨i0,hi,hz0,hz1,hz2⟩:=info_parts info_v3;have HLX:=ai (HO.o.kept (only_below HB.o none) (Classical.em _))
  show Oper.wp _ _ _ _ _ _
  refine wp_append_own x _ _ 96 rfl B 81 i0 (.agg #[.int .i64 0,.int .i64 0,.string ByteArray.empty]) 3 32 Tryz.underlying96 hi hz0 hz1 hz2 rfl (by decide) rv vs.length _ (by show s 41=_;exact z0) HLX.o ⟨b9,0,none⟩ 1 1 [.int .i64 u.kind,.int .i64 u.num,.string u.text] (by show s 50=_;exact z9) rfl (box_cells3 (l:= [.int .i64 u.kind,.int .i64 u.num,.string u.text]) hx9) (va_one u) (by have:=HVL.o;unfold maxLen;omega) (by have:=HVL.o;omega) (Nat.le_trans HBB.o HB.o.size) ?_
  intro v2 y2 hown hgr _;obtain⟨g4,cap4,rfl,_,_⟩:=World.ownsRow.form hown (by omega)
  have HS:=ai (show y2.ownsRow B 81 3 (.slice (some ⟨g4,0,none⟩) (vs.length+1) cap4) (vs ++ [u]).length ((vs ++ [u]).flatMap V.cells)from by rw [vals_snoc,List.length_append];exact hown)
  have HG:=ai hgr;clear hown hgr hi hz0 hz1 hz2 hx9 hg9
  show Oper.wp _ _ _ _ _ _
  refine opwp_K (fun K2 hK2=> ?_)
  go_simp
  refine hK2 _ _ ?_
  have h:=hend b9 g4 cap4 x y2 HB.o HG.o HS.o
  show Q _ _ _
  first|exact h| (simp only [z0,z1,z2,z3,z4,z5,z6,z7,z8,z9];exact h)
 case step=>
  intro i o s x hin ho he hb;have HB:=ai hb;clear hb;have hcase:i=0∨i=1∨i=2∨i=3∨i=4∨i=5∨i=6∨i=7∨i=8∨i=9:=by omega
  rcases hcase with rfl|rfl|rfl|rfl|rfl|rfl|rfl|rfl|rfl|rfl
  ·injection ho with ho
   subst ho;clear he;refine opwp_K (fun K2 hK2=> ?_)
   go_simp
   exact hK2 _ _ ⟨(rv),(by first|rfl| (simp [List.getD];done)),Below.refl _ _,⟨fun h=>absurd h (by decide),fun _=>rfl⟩⟩
  ·injection ho with ho
   subst ho;clear he;refine opwp_K (fun K2 hK2=> ?_)
   go_simp
   exact hK2 _ _ ⟨(.pointer (some ⟨gs,0,none⟩)),(by first|rfl| (simp [List.getD];done)),Below.refl _ _,⟨fun h=>absurd h (by decide),fun _=>rfl⟩⟩
  ·injection ho with ho
   subst ho;have z1:s 42 = .pointer (some ⟨gs,0,none⟩):=by have h:=(he ⟨1,.data⟩ (by simp) rfl).2 (by decide);injection h with h;exact h.symm
   clear he;refine opwp_K (fun K2 hK2=> ?_)
   go_simp
   exact hK2 _ _ ⟨(.pointer (some ⟨gs,0,none⟩)),(by first|rfl| (simp [z1];done)),Below.refl _ _,⟨fun h=>absurd h (by decide),fun _=>rfl⟩⟩
  ·injection ho with ho
   subst ho;have z2:s 43 = .pointer (some ⟨gs,0,none⟩):=by have h:=(he ⟨2,.data⟩ (by simp) rfl).2 (by decide);injection h with h;exact h.symm
   clear he;refine opwp_K (fun K2 hK2=> ?_)
   go_simp
   exact hK2 _ _ ⟨(.pointer (some ⟨gs,5,none⟩)),(by first|rfl| (simp [z2];done)),Below.refl _ _,⟨fun h=>absurd h (by decide),fun _=>rfl⟩⟩
  ·injection ho with ho
   subst ho;have z3:s 44 = .pointer (some ⟨gs,5,none⟩):=by have h:=(he ⟨3,.data⟩ (by simp) rfl).2 (by decide);injection h with h;exact h.symm
   clear he;have k0:=m5y x HB.o;refine opwp_K (fun K2 hK2=> ?_)
   go_simp
   exact hK2 _ _ ⟨(.slice (some ⟨gv,0,none⟩) nv nv),(by first|rfl| (simp [z3];done)),Below.refl _ _,⟨fun h=>absurd h (by decide),fun _=>rfl⟩⟩
  ·injection ho with ho
   subst ho;clear he;refine opwp_K (fun K2 hK2=> ?_)
   go_simp
   exact hK2 _ _ ⟨(.pointer (some ⟨xb,0,none⟩)),(by first|rfl| (simp [List.getD];done)),Below.refl _ _,⟨fun h=>absurd h (by decide),fun _=>rfl⟩⟩
  ·injection ho with ho
   subst ho;have z5:s 46 = .pointer (some ⟨xb,0,none⟩):=by have h:=(he ⟨5,.data⟩ (by simp) rfl).2 (by decide);injection h with h;exact h.symm
   clear he;have k0:=c0y x HB.o;refine opwp_K (fun K2 hK2=> ?_)
   go_simp
   exact hK2 _ _ ⟨(.int .i64 (xv:Nat)),(by first|rfl| (simp [z5];done)),Below.refl _ _,⟨fun h=>absurd h (by decide),fun _=>rfl⟩⟩
  ·injection ho with ho
   subst ho;have z4:s 45 = .slice (some ⟨gv,0,none⟩) nv nv:=by have h:=(he ⟨4,.data⟩ (by simp) rfl).2 (by decide);injection h with h;exact h.symm
   have z6:s 47 = .int .i64 (xv:Nat):=by have h:=(he ⟨6,.data⟩ (by simp) rfl).2 (by decide);injection h with h;exact h.symm
   clear he;have hixv:=index_ptr3 Tryz.underlying96 szv3 gv nv nv xv hxv;refine opwp_K (fun K2 hK2=> ?_)
   go_simp
   exact hK2 _ _ ⟨(.pointer (some ⟨gv,xv*3,none⟩)),(by first|rfl| (simp [z4,z6];done)),Below.refl _ _,⟨fun h=>absurd h (by decide),fun _=>rfl⟩⟩
  ·injection ho with ho
   subst ho;have z7:s 48 = .pointer (some ⟨gv,xv*3,none⟩):=by have h:=(he ⟨7,.data⟩ (by simp) rfl).2 (by decide);injection h with h;exact h.symm
   clear he;have k0:=v0y x HB.o;have k1:=v1y x HB.o;have k2:=v2y x HB.o;refine opwp_K (fun K2 hK2=> ?_)
   go_simp
   exact hK2 _ _ ⟨(.agg #[.int .i64 u.kind,.int .i64 u.num,.string u.text]),(by first|rfl| (simp [z7];done)),Below.refl _ _,⟨fun h=>absurd h (by decide),fun _=>rfl⟩⟩
  ·injection ho with ho
   subst ho;have z8:s 49 = .agg #[.int .i64 u.kind,.int .i64 u.num,.string u.text]:=by have h:=(he ⟨8,.data⟩ (by simp) rfl).2 (by decide);injection h with h;exact h.symm
   clear he;refine opwp_K (fun K2 hK2=> ?_)
   go_simp
   exact hK2 _ _ ⟨_,(by first|rfl| (simp [z8];done)),belA _,⟨fun _=>⟨_,rfl,Box.new _ _ _,HB.o.size⟩,fun h=>absurd rfl h⟩⟩
end Go.Proofs.YtiijaaohphokcaaGreatDoor
/- conjunctive.(*solver).from. -/
namespace Go.Proofs.YtiijaaohphokcaaGreatDoor
open Go.RowKit
theorem own_vals {w:World} {base:Nat} {v:Value} {vs:List V} (h:w.ownsRow base 81 3 v vs.length (vs.flatMap V.cells)) (hw: ∀u∈vs,u.wf) : ∃hd:Hd,v = .slice hd.ao vs.length hd.cap∧VL.In w ⟨hd,vs⟩∧(0<vs.length→base≤hd.b):=by
 obtain⟨hd,hv,hr⟩:=own_row (size:=3) (cells:=V.cells) (fun _=>rfl) (by decide) h
 refine⟨hd,hv,⟨hr,hw⟩,fun hp=> ?_⟩
 have h2:hd.ao=some ⟨hd.b,hd.o,none⟩:=(hr.2.2.1 hp).1;rw [h2]at hv;exact(h.lt hd.b (by rw [hv];rfl)).1
theorem info_rv: (Tryz.prog.info? 96).map (fun i=>(i.zero,i.size,i.bytes)) =some (some (.slice none 0 0),1,24):=by kernel_rfl
theorem szrv: (Tryz.prog.info? 96).map (·.size) =some 1:=by kernel_rfl
theorem szrl: (Tryz.prog.info? 49).map (·.size) =some 1:=by kernel_rfl
structure EOk (w0:World) (q:Cq) (x:Ins) :Prop where
 qi:q.In w0 0
 xi:x.In w0
 vq: ∀l∈q.lits,∀n,Tm.v n∈l.sl.l→n<q.vars
 hv: ∀n,Tm.v n∈q.head.l→n<q.vars
 ql:q.lits.length≤1000
 hl:q.head.l.length≤1000
 qs: ∀l∈q.lits,l.sl.l.length≤1000
 tb: ∀l∈q.lits,∃h:l.tab<x.l.length,(x.l[l.tab]).l.length≤1000∧∀v∈(x.l[l.tab]).l,l.sl.l.length=v.l.length
def FromPost (w0:World) (gs gb gv n:Nat) (lv:Value) (q:Cq) (x:Ins) (σ:Vb V) (rows:List VL) (w:World) (e:Ending) (w':World) :Prop:=
 ∃(rows':List VL) (lv':Value),e = .returned (.bool true)∧EW w0 gs gb gv q x σ lv' rows' w'∧rows'.map VL.l=rows.map VL.l ++ evalL x.D (headL nulV q.head.l) (q.cj.lits.drop n) σ∧Kept w w' gs gb gv lv∧Fresh w lv lv'
noncomputable def stepL (x:Ins) (q:Cq) (n:Nat) (σ:Vb V) (l:List (Tm V)) (row:List V) :List (List V):=match fitsL σ l row with
 | none=> []
 | some σ'=>evalL x.D (headL nulV q.head.l) (q.cj.lits.drop n) σ'
theorem take_len {α β:Type} (f:α→List β) : ∀(l:List α) (k:Nat),((l.take k).flatMap f).length≤(l.flatMap f).length
 | [],k=>by simp
 | a :: l,0=>by simp
 | a :: l,k+1=>by
  simp only [List.take_succ_cons,List.flatMap_cons,List.length_append];have:=take_len f l k;omega
theorem take_step {α β:Type} (f:α→List β) {l:List α} {k:Nat} (h:k<l.length) : (l.take (k+1)).flatMap f= (l.take k).flatMap f ++ f l[k]:=by
 rw [List.take_succ_eq_append_getElem h,List.flatMap_append,List.flatMap_cons,List.flatMap_nil,List.append_nil]
theorem from_any (w0:World) (gs gb gv:Nat) (q:Cq) (x:Ins) (hq:EOk w0 q x) : ∀(d n:Nat) (σ:Vb V) (lv:Value) (rows:List VL) (w:World),n+d=q.lits.length→EW w0 gs gb gv q x σ lv rows w→
  (∀y,Tm.v y∈q.head.l→σ y≠none∨∃l∈q.cj.lits.drop n,Tm.v y∈l.2)→rows.length+ (evalL x.D (headL nulV q.head.l) (q.cj.lits.drop n) σ).length≤1000→
  Calls Tryz.prog 57 #[.pointer (some ⟨gs,0,none⟩),.int .i64 (n:Nat)] w (FromPost w0 gs gb gv n lv q x σ rows w):=by
 intro d;have HQ:=ai hq;have hql:=hq.ql;have hhl:=hq.hl;have hvr:=hq.qi.vr;clear hq
 induction d with
 | zero=>
  intro n σ lv rows w hn hM hcv hlen;have HM:=ai hM;have m1:=hM.box.cell (j:=1) rfl
  have m2:=hM.box.cell (j:=2) rfl
  have hdr:q.cj.lits.drop n = []:=List.drop_of_length_le (by show(q.lits.map _).length≤n;rw [List.length_map];omega)
  rw [hdr]at hcv hlen;have hrl:rows.length+1≤1000:=hlen;have HDR:=ai hdr;have HCV:=ai (show∀y,Tm.v y∈q.head.l→σ y≠none from fun y hy=>(hcv y hy).elim id (fun⟨l,h,_⟩=>by cases h))
  have he: ((n:Int) == (q.lits.length:Int)) =true:=beq_iff_eq.2 (by omega)
  have hhn:q.head.l.length≤9223372036854775807:=by omega
  obtain⟨i3,hi3,hz30,hz31,hz32⟩:=info_parts info_v3;have HI3:=ai (And.intro hi3 (And.intro hz30 (And.intro hz31 hz32)));obtain⟨ir,hir,hzr0,hzr1,hzr2⟩:=info_parts info_rv;have HIR:=ai (And.intro hir (And.intro hzr0 (And.intro hzr1 hzr2)));have HHW:=ai (show∀t∈q.head.l,t.wf from HQ.o.qi.hd.wf)
  clear hM hcv hlen hn hi3 hz30 hz31 hz32 hir hzr0 hzr1 hzr2 hdr
  go_enter Tryz.func57,Tryz.ntmps57;go_wp2;clear m1 m2 he;go_loopw [5,29] (fun rv i wr=>∃(m:Nat) (vs:List V) (u:Value),u=rv∧m≤q.head.l.length∧i = .int .i64 m∧Hid (wr.ownsRow w.heap.size 81 3 rv vs.length (vs.flatMap V.cells))∧Hid (vs=headL nulV (q.head.l.take m) σ)∧Hid (∀v∈vs,v.wf)∧Hid (EW w0 gs gb gv q x σ lv rows wr)∧Hid (Kept w wr gs gb gv lv)) (fun _ i _=>q.head.l.length - (intOf i).toNat)
  case atStart=>exact⟨0,[],_,rfl,Nat.zero_le _,rfl,ai (World.ownsRow_nil _ _ _ _),ai rfl,ai (fun _ h=>by cases h),HM,ai (Kept.refl _ _ _ _ _)⟩
  case round=>
  obtain⟨m,vs,u,rfl,hm,rfl,HO,HVS,HVW,HMW,HK⟩:=hrel;have HVL:=ai (show vs.length≤1000 from by rw [HVS.o];unfold headL;rw [List.length_map,List.length_take];omega)
  by_cases hlt:m<q.head.l.length
  ·have hlti: (m:Int) <q.head.l.length:=by omega
   have HHR:=ai (HQ.o.qi.hd.row.mono HMW.o.bel);have hix:=HHR.o.ix hlt Tryz.underlying30 szslot;obtain⟨c0,c1,c2,c3⟩:=tm_at HHR.o hlt;obtain⟨t,ht⟩ : ∃t,q.head.l[m] =t:=⟨_,rfl⟩;have HTM:=ai (show t∈q.head.l from ht▸List.getElem_mem hlt)
   have HTK:=ai (show headL nulV (q.head.l.take (m+1)) σ=headL nulV (q.head.l.take m) σ ++ [t.at fun y=>(σ y).getD nulV]from by unfold headL;rw [List.take_succ_eq_append_getElem hlt,List.map_append,ht];rfl)
   rw [ht]at c0 c1 c2 c3;have hbk:=HHR.o.blk hlt;clear ht;generalize q.head.h.o+m*4=ph at *;obtain⟨X,hX⟩ : ∃X,wr.alloc (.cells #[.int .i64 t.nr,.int .i64 t.val.kind,.int .i64 t.val.num,.string t.val.text] 83) =X:=⟨_,rfl⟩;have HBX:=ai (show Below wr.heap.size wr X from by rw [←hX];exact belA _)
   have HXB:=ai (show Box X wr.heap.size #[.int .i64 t.nr,.int .i64 t.val.kind,.int .i64 t.val.num,.string t.val.text] 83 from by rw [←hX];exact Box.new _ _ _)
   have HXW:=ai (HMW.o.call HBX.o);have HXO:=ai (HO.o.kept (only_below HBX.o none) (Classical.em _));have HXK:=ai (HK.o.trans (Kept.call (gm:=gs) (gs:=gb) (gu:=gv) (lv:=lv) HBX.o) (Fresh.refl _ _))
   have HWS:=ai HK.o.1;have hlo:=HM.o.lo;have hhi:=HM.o.hi
   cases t with
   | c kc=>
    have HKW:=ai (show kc.wf from HHW.o _ HTM.o)
    have hvv: (Tm.c kc:Tm V).val=kc:=rfl;have hnr: (Tm.c kc:Tm V).nr = -1:=rfl;rw [hvv,hnr]at hX;rw [hvv]at c1 c2 c3;rw [hnr]at c0;have v0:X.cell? ⟨wr.heap.size,0,none⟩ =some (.int .i64 (-1)):=HXB.o.cell (j:=0) rfl
    have v1:X.cell? ⟨wr.heap.size,1,none⟩ =some (.int .i64 kc.kind):=HXB.o.cell (j:=1) rfl
    have v2:X.cell? ⟨wr.heap.size,2,none⟩ =some (.int .i64 kc.num):=HXB.o.cell (j:=2) rfl
    have v3:X.cell? ⟨wr.heap.size,3,none⟩ =some (.string kc.text):=HXB.o.cell (j:=3) rfl
    clear hvv hnr;go_upto_region 6 with fail
    try rw [hX]
    clear hX c0 c1 c2 c3 hix;go_wp2_with (at_builtin;refine wpList_append_own _ rfl _ _ 96 rfl w.heap.size 81 i3 (.agg #[.int .i64 0,.int .i64 0,.string ByteArray.empty]) 3 32 Tryz.underlying96 HI3.o.1 HI3.o.2.1 HI3.o.2.2.1 HI3.o.2.2.2 rfl (by decide) _ _ _ rfl (HXO.o.alloc _) ⟨X.heap.size,0,none⟩ 1 1 (V.cells kc) rfl rfl (new_cells (l:=V.cells kc)) (va_one kc) (by have:=HVL.o;unfold maxLen;omega) (by have:=HVL.o;omega) (by have:=HXK.o.1;simp;omega) ?_;intro nv2 Y4 hown4 hgr4 _)
    have HO4:=ai (show Y4.ownsRow w.heap.size 81 3 nv2 (vs ++ [kc]).length ((vs ++ [kc]).flatMap V.cells)from by rw [vals_snoc,List.length_append];exact hown4)
    have HK4:=ai (kept_row (HXK.o.trans (Kept.call (gm:=gs) (gs:=gb) (gu:=gv) (lv:=lv) (belA _)) (Fresh.refl _ _)) hgr4 (fun b e=>(HXO.o.lt b e).1))
    have HW4:=ai ((HXW.o.call (belA _)).grown hgr4 (fun j e=>by have h1:=(HXO.o.lt j e).1;have h2:=HM.o.bel.size;exact⟨by omega,by omega,by omega,by omega,fun h=>by have:=(HM.o.own.lt j h).2;omega,fun t ht hp=>by have:=((HM.o.rin t ht).1.2.2.1 hp).2;omega⟩))
    clear hown4 hgr4 v0 v1 v2 v3;go_roundw
    case rel=>exact⟨m+1,vs ++ [kc],nv2,rfl,by omega,by go_num,HO4,ai (by rw [HTK.o,←HVS.o];rfl),ai (fun v hv=>by rcases List.mem_append.1 hv with h|h;exact HVW.o v h;rw [List.mem_singleton.1 h];exact HKW.o),HW4,HK4⟩
    case measure=>simp [intOf];omega
   | v y=>
    have hyv:y<q.vars:=HQ.o.hv y HTM.o;have hnr: (Tm.v y:Tm V).nr= (y:Int):=rfl;rw [hnr]at hX c0;have v0:X.cell? ⟨wr.heap.size,0,none⟩ =some (.int .i64 (y:Nat)):=HXB.o.cell (j:=0) rfl
    have hnn: ¬(y:Int) <0:=by omega
    obtain⟨uv,huv,huw,g0,g1,g2⟩:=HXW.o.val y hyv;have HUV:=ai (show(σ y).getD nulV=uv∧uv.wf from by
     rcases huv with h|h
     ·exact absurd h (HCV.o y HTM.o)
     ·rw [h];exact⟨rfl,huw⟩)
    have m5y:=hy_of (HXW.o.box.cell (j:=5) rfl)
    have v0y:=hy_of v0;have g0y:=hy_of g0;have g1y:=hy_of g1;have g2y:=hy_of g2;clear huv huw g0 g1 g2 hnr;go_upto_region 6 with fail
    try rw [hX]
    clear hX c0 c1 c2 c3 hix;go_upto_region 8 with fail
    refine fr_reg8 (gs:=gs) (gv:=gv) (nv:=q.vars) (xv:=y) (xb:=wr.heap.size) (B:=w.heap.size) (u:=uv) (vs:=vs) (rv:=u) (W:=X) hyv HVL (ai HXK.o.1) HXO m5y v0y g0y g1y g2y ?hc ?hend
    case hc=>rfl
    case hend=>
    intro b9 g4 cap4 xz Y4 hbz hgr4 hown4;have HO4:=ai hown4;have HK4:=ai (kept_row (HXK.o.trans (Kept.call (gm:=gs) (gs:=gb) (gu:=gv) (lv:=lv) hbz) (Fresh.refl _ _)) hgr4 (fun b e=>(HXO.o.lt b e).1))
    have HW4:=ai ((HXW.o.call hbz).grown hgr4 (fun j e=>by have h1:=(HXO.o.lt j e).1;have h2:=HM.o.bel.size;exact⟨by omega,by omega,by omega,by omega,fun h=>by have:=(HM.o.own.lt j h).2;omega,fun t ht hp=>by have:=((HM.o.rin t ht).1.2.2.1 hp).2;omega⟩))
    clear hown4 hgr4 hbz v0 m5y v0y g0y g1y g2y;go_wp2;go_roundw
    case rel=>exact⟨m+1,vs ++ [uv],_,rfl,by omega,by go_num,HO4,ai (by rw [HTK.o,←HVS.o,show Tm.at (fun y=>(σ y).getD nulV) (.v y) =uv from HUV.o.1]),ai (fun v hv=>by rcases List.mem_append.1 hv with h|h;exact HVW.o v h;rw [List.mem_singleton.1 h];exact HUV.o.2),HW4,HK4⟩
    case measure=>simp [intOf];omega
  ·have hlti: ¬(m:Int) <q.head.l.length:=by omega
   have HVE:=ai (show vs=headL nulV q.head.l σ from by rw [HVS.o,List.take_of_length_le (by omega)])
   obtain⟨hd,hu,hvin,hvb⟩:=own_vals HO.o HVW.o;subst hu;have HVI:=ai hvin;have HVB:=ai hvb;have HOW:=ai HMW.o.own;have m6:=HMW.o.box.cell (j:=6) rfl
   have hbs:=HMW.o.bel.size;clear hvin hvb HO;go_upto_region 11 with(at_builtin;refine wpList_append_own_at _ rfl _ _ 49 rfl w0.heap.size 96 ir (.slice none 0 0) 1 24 Tryz.underlying49 HIR.o.1 HIR.o.2.1 HIR.o.2.2.1 HIR.o.2.2.2 rfl (by decide) _ rows.length (rows.flatMap VL.cells) rfl (HOW.o.alloc _) ⟨wr.heap.size,0,none⟩ 1 1 [.slice hd.ao vs.length hd.cap] rfl rfl (new_cells (l:= [.slice hd.ao vs.length hd.cap])) (by intro a ha;rw [List.mem_singleton.1 ha];rfl) (by unfold maxLen;omega) (by omega) (by simp;omega) ?_;intro lv4 Y3 hown3 hgr3 _ hblk3;obtain⟨g4,cap4,rfl,_,_⟩:=World.ownsRow.form hown3 (by omega);have HO3:=ai hown3;have HG3:=ai (show(wr.alloc (.cells #[.slice hd.ao vs.length hd.cap] 96)).grownBy Y3 lv.ownBlock from hgr3);have HBL3:=ai (show(Value.slice (some ⟨g4,0,none⟩) (rows.length+1) cap4).ownBlock=lv.ownBlock∨(Value.slice (some ⟨g4,0,none⟩) (rows.length+1) cap4).ownBlock=some (wr.alloc (.cells #[.slice hd.ao vs.length hd.cap] 96)).heap.size from hblk3);have hbx3:=(HMW.o.box.below (belA _)).grown hgr3 (fun e=>HMW.o.ne.2.2.2.1 e.symm);have m6b:=hbx3.cell (j:=6) rfl;have f6b:=hbx3.fr 6;clear hown3 hgr3 hblk3 hbx3)
   have HY3:=ai ((HMW.o.call (belA (.cells #[.slice hd.ao vs.length hd.cap] 96))).o (r:=⟨hd,vs⟩) (lv':=.slice (some ⟨g4,0,none⟩) (rows.length+1) cap4) HG3.o (by rw [List.length_append,List.flatMap_append];exact HO3.o) (fun j hj=>by
    rcases HBL3.o with h|h
    ·exact .inl (by rw [←h];exact hj)
    ·right
     rw [h]at hj;injection hj with hj;omega) (HVI.o.mono (belA _)) (fun hp=>by
    have h1:=HVB.o hp;have h2:=HM.o.hi;refine⟨by show hd.b≠gs;omega,by show hd.b≠gb;omega,by show hd.b≠gv;omega,fun e=> ?_⟩
    have:=(HM.o.own.lt _ e).2;have h1:w.heap.size≤hd.b:=h1;have e:hd.b<w.heap.size:=this;omega))
   have HK4:=ai (((HK.o.trans (Kept.call (gm:=gs) (gs:=gb) (gu:=gv) (lv:=lv) (belA (w:=wr) (.cells #[.slice hd.ao vs.length hd.cap] 96))) (Fresh.refl _ _)).trans (Kept.grown (lv:=lv) HG3.o (fun j e=>.inr (.inr (.inr e)))) (Fresh.refl _ _)).trans (Kept.grown (lv:=lv) (gb_set Y3 gs 6 (.slice (some ⟨g4,0,none⟩) (rows.length+1) cap4)) (fun j e=>.inl (by injection e with e;exact e.symm))) (Fresh.refl _ _))
   have HF4:=ai (show Fresh w lv (.slice (some ⟨g4,0,none⟩) (rows.length+1) cap4)from fun j hj=>by
    rcases HBL3.o with h|h
    ·exact .inl (by rw [←h];exact hj)
    ·right
     rw [h]at hj;injection hj with hj;have:=HK.o.1;simp at hj;omega)
   have HEQ:=ai (show(rows ++ [(⟨hd,vs⟩ :VL)]).map VL.l=rows.map VL.l ++ evalL x.D (headL nulV q.head.l) (q.cj.lits.drop n) σ from by rw [HDR.o,List.map_append,HVE.o];rfl)
   clear m6 m6b f6b HG3 HO3 HBL3 HVI HVB HOW HVW HVE hbs;generalize Y3.setCell ⟨gs,6,none⟩ (.slice (some ⟨g4,0,none⟩) (rows.length+1) cap4) =Y4 at *;have m6:=HY3.o.box.cell (j:=6) rfl
   have hle: ((rows.length+1:Nat) :Int)≤1000:=by omega
   go_wp2;go_ret
   exact⟨_,_,by show Ending.returned (.bool (decide ((rows.length:Int) +1≤1000))) =_;rw [decide_eq_true (by omega)],HY3.o,HEQ.o,HK4.o,HF4.o⟩
 | succ d ih=>
  intro n σ lv rows w hn hM hcv hlen;have IH:=ai (fun(σ:Vb V) (lv:Value) (rows:List VL) (w:World)=>ih (n+1) σ lv rows w (by omega))
  clear ih;have HM:=ai hM;have hnl:n<q.lits.length:=by omega
  have he: ((n:Int) == (q.lits.length:Int)) =false:=beq_eq_false_iff_ne.2 (by omega)
  have m1:=hM.box.cell (j:=1) rfl
  have hqr:=HQ.o.qi.row.mono hM.bel;have hix:=hqr.ix hnl Tryz.underlying29 szlit;obtain⟨c0,c1⟩:=li_at hqr hnl;have hbk:=hqr.blk hnl;obtain⟨a,ha⟩ : ∃a,q.lits[n] =a:=⟨_,rfl⟩;have HAM:=ai (show a∈q.lits from ha▸List.getElem_mem hnl)
  have HDR:=ai (show q.cj.lits.drop n=a.lt :: q.cj.lits.drop (n+1)from by
   have h1:n< (q.lits.map Li.lt).length:=by rw [List.length_map];exact hnl
   show(q.lits.map Li.lt).drop n=a.lt :: (q.lits.map Li.lt).drop (n+1)
   rw [List.drop_eq_getElem_cons h1,List.getElem_map,ha])
  rw [ha]at c0 c1;obtain⟨htb,hfew,hwid⟩:=HQ.o.tb a HAM.o;obtain⟨R,hR⟩ : ∃R,x.l[a.tab] =R:=⟨_,rfl⟩;rw [hR]at hfew hwid;have HWID:=ai hwid;have HRX:=ai (show x.D a.lt.1=R.l.map VL.l from by
   show x.D a.tab=_
   unfold Ins.D
   rw [List.getElem?_eq_getElem htb,hR];rfl)
  have HRI:=ai (show R.In w0 from hR▸HQ.o.xi.2 _ (List.getElem_mem htb))
  obtain⟨F,hF⟩ : ∃F,stepL x q (n+1) σ a.sl.l=F:=⟨_,rfl⟩;have HEV:=ai (show evalL x.D (headL nulV q.head.l) (q.cj.lits.drop n) σ= (R.l.map VL.l).flatMap F from by
   rw [HDR.o,←hF]
   show(x.D a.lt.1).flatMap _=_
   rw [HRX.o];refine congrArg (fun g=>(R.l.map VL.l).flatMap g) (funext fun row=> ?_)
   unfold stepL
   cases h:fitsL σ a.sl.l row with
   | none=>have h2:fitsL σ a.lt.2 row=none:=h;simp only [h2]
   | some s=>have h2:fitsL σ a.lt.2 row=some s:=h;simp only [h2])
  have HF:=ai (show∀row,F row=stepL x q (n+1) σ a.sl.l row from fun row=>by rw [hF])
  have HLEN:=ai (show rows.length+ ((R.l.map VL.l).flatMap F).length≤1000 from by rw [←HEV.o];exact hlen)
  have HCV:=ai (show∀y,Tm.v y∈q.head.l→σ y≠none∨Tm.v y∈a.sl.l∨∃l∈q.cj.lits.drop (n+1),Tm.v y∈l.2 from fun y hy=>by
   rcases hcv y hy with h| ⟨l,h1,h2⟩
   ·exact .inl h
   ·rw [HDR.o]at h1
    rcases List.mem_cons.1 h1 with h1|h1
    ·rw [h1]at h2;exact .inr (.inl h2)
    ·exact .inr (.inr ⟨l,h1,h2⟩))
  obtain⟨W,hW⟩ : ∃W,w.alloc (.cells #[.int .i64 (a.tab:Nat),.slice a.sl.h.ao a.sl.l.length a.sl.h.cap] 56) =W:=⟨_,rfl⟩;have HWB:=ai (show Below w.heap.size w W from by rw [←hW];exact belA _)
  have HBA:=ai (show Box W w.heap.size #[.int .i64 (a.tab:Nat),.slice a.sl.h.ao a.sl.l.length a.sl.h.cap] 56 from by rw [←hW];exact Box.new _ _ _)
  have HWS:=ai (show W.heap.size=w.heap.size+1 from by rw [←hW];simp)
  have HMW:=ai (hM.call HWB.o);have HKW:=ai (Kept.call (gm:=gs) (gs:=gb) (gu:=gv) (lv:=lv) HWB.o)
  have hlo:=hM.lo;have hhi:=hM.hi;have HOL:=ai hM.own.lt;have m3:=HMW.o.box.cell (j:=3) rfl
  have hixt:=(HQ.o.xi.1.mono HMW.o.bel).ix htb Tryz.underlying44 szrl;have t0:=rl_at (HQ.o.xi.1.mono HMW.o.bel) htb;have hbt:=(HQ.o.xi.1.mono HMW.o.bel).blk htb;rw [hR]at t0;have a0:=HBA.o.cell (j:=0) rfl
  have a1:=HBA.o.cell (j:=1) rfl
  clear hM hcv hlen ha hqr hR hF hwid hn
  go_enter Tryz.func57,Tryz.ntmps57;go_upto_region 13 with fail
  try rw [hW]
  clear hW c0 c1 hix m1 he
  go_quiet (fail)
  generalize hW1:W.drewN nq=W1;have HQ1:=ai (show Below W.heap.size W W1 from by rw [←hW1];exact below_drewN (Below.refl _ _) _)
  clear hW1 m3 t0 hixt a0 a1;have HM1:=ai (HMW.o.call HQ1.o);have HB1:=ai (HBA.o.below HQ1.o);have HK1:=ai (HKW.o.trans (Kept.call (gm:=gs) (gs:=gb) (gu:=gv) (lv:=lv) HQ1.o) (Fresh.refl _ _))
  go_wp2;have HRL:=ai HRI.o.1.len;have hrl2:R.l.length≤9223372036854775807:=by omega
  go_loopw [86] (fun i wr=>∃(k:Nat) (lv1:Value) (rows1:List VL),k≤R.l.length∧i = .int .i64 k∧Hid (EW w0 gs gb gv q x σ lv1 rows1 wr)∧Hid (rows1.map VL.l=rows.map VL.l ++ ((R.l.map VL.l).take k).flatMap F)∧Hid (Kept w wr gs gb gv lv)∧Hid (Fresh W lv lv1)∧Hid (Box wr w.heap.size #[.int .i64 (a.tab:Nat),.slice a.sl.h.ao a.sl.l.length a.sl.h.cap] 56)) (fun i _=>R.l.length - (intOf i).toNat)
  case atStart=>exact⟨0,lv,rows,Nat.zero_le _,rfl,HM1,ai (by simp),HK1,ai (Fresh.refl _ _),HB1⟩
  case round=>
  obtain⟨k,lv1,rows1,hk,rfl,HMR,HRW,HKR,HFR,HBR⟩:=hrel;clear HM1 HK1 HB1 HMW HKW HBA;have HFw:=ai (show Fresh w lv lv1 from fun j hj=>(HFR.o j hj).imp id (fun h=>by have:=HWS.o;omega))
  by_cases hlt:k<R.l.length
  ·have hlti: (k:Int) <R.l.length:=by omega
   have HRR:=ai (HRI.o.mono HMR.o.bel);have hixr:=HRR.o.1.ix hlt Tryz.underlying49 szrv;have r0:=vl_at HRR.o.1 hlt;have hbr:=HRR.o.1.blk hlt;obtain⟨r,hr⟩ : ∃r,R.l[k] =r:=⟨_,rfl⟩;have HRM:=ai (show r∈R.l from hr▸List.getElem_mem hlt)
   have HTS:=ai (show((R.l.map VL.l).take (k+1)).flatMap F= ((R.l.map VL.l).take k).flatMap F ++ F r.l from by
    rw [take_step F (by rw [List.length_map];exact hlt),List.getElem_map,hr])
   have HLE:=ai (show rows1.length+ (F r.l).length≤1000 from by
    have h1:=congrArg List.length HRW.o;have h2:=take_len F (R.l.map VL.l) (k+1);rw [HTS.o]at h2;rw [List.length_map,List.length_append,List.length_map]at h1;rw [List.length_append]at h2;have:=HLEN.o;omega)
   rw [hr]at r0;have b1:=HBR.o.cell (j:=1) rfl
   have HRIN:=ai (HRI.o.2 r HRM.o);have hwr:=HKR.o.1;have hwid:a.sl.l.length=r.l.length:=HWID.o r HRM.o;have HFC:=ai (fits_any w0 gs gb gv lv1 q x σ rows1 a.sl r wr HMR.o (HQ.o.qi.sl a HAM.o).row HRIN.o.1 HRIN.o.2 (HQ.o.vq a HAM.o) hvr (HQ.o.qs a HAM.o) hwid);have HWD:=ai hwid;clear hr hwid;go_upto_region 17 with(go_at_call 94;refine HFC.o.mono ?_;rintro e Y ⟨σ',now,nl,ok,rfl,h1,h2,h3,h4,h5,h6,h7,h8⟩;have HNL:=ai h1;have HNI:=ai h2;have HNB:=ai h3;have HBK:=ai h4;have HNV:=ai h5;have HMY:=ai h6;have HFIT:=ai h7;have HKY:=ai h8;clear h1 h2 h3 h4 h5 h6 h7 h8)
   clear r0 b1 hixr HFC;have HLVW:=ai (show∀j,lv1.ownBlock=some j→j<wr.heap.size from fun j e=>(HMR.o.own.lt j e).2)
   have HKWY:=ai (HKR.o.trans HKY.o HFw.o);have HBXW:=ai (HBR.o.lt);have HBY:=ai (show Box Y w.heap.size #[.int .i64 (a.tab:Nat),.slice a.sl.h.ao a.sl.l.length a.sl.h.cap] 56 from HKY.o.box HBR.o (by omega) (by omega) (by omega) (fun e=>by
    rcases HFR.o _ e with h|h
    ·have:=(HOL.o _ h).2;omega
    ·have:=HWS.o;omega))
   go_cut [12] (fun v wx=>v = .bool true∧∃(lv2:Value) (rows2:List VL),Hid (EW w0 gs gb gv q x σ' lv2 rows2 wx)∧Hid (rows2.map VL.l=rows1.map VL.l ++ F r.l)∧Hid (Kept w wx gs gb gv lv)∧Hid (Fresh W lv lv2)∧Hid (nl.In wx)∧Hid (Box wx w.heap.size #[.int .i64 (a.tab:Nat),.slice a.sl.h.ao a.sl.l.length a.sl.h.cap] 56))
   case first=>
    cases ok with
    | false=>
     have HF0:=ai (show rows1.map VL.l=rows1.map VL.l ++ F r.l from by
      have h:=HFIT.o;rw [if_neg (by decide)]at h
      rw [HF.o,show stepL x q (n+1) σ a.sl.l r.l = []from by unfold stepL;rw [h],List.append_nil])
     go_wp2;go_meet
     exact⟨rfl,lv1,rows1,HMY,HF0,HKWY,HFR,HNI,HBY⟩
    | true=>
     have hfit:fitsL σ a.sl.l r.l=some σ':=by have h:=HFIT.o;rwa [if_pos rfl]at h
     have HFE:=ai (show F r.l=evalL x.D (headL nulV q.head.l) (q.cj.lits.drop (n+1)) σ' from by rw [HF.o];unfold stepL;rw [hfit])
     obtain⟨_,hdom⟩:=fitsL_some HWD.o hfit;have hn1:IntKind.i64.wrap ((n:Int) +1) = ((n+1:Nat) :Int):=by rw [IntKind.wrap_i64];omega
     have HRC:=ai (IH.o σ' lv1 rows1 Y HMY.o (fun y hy=>by
      rcases HCV.o y hy with h|h|h
      ·exact .inl ((hdom y).2 (.inl h))
      ·exact .inl ((hdom y).2 (.inr h))
      ·exact .inr h) (by rw [←HFE.o];exact HLE.o))
     clear hfit hdom;go_wp2_with (go_at_call 57;refine HRC.o.mono ?_;rintro e Z ⟨rows2,lv2,rfl,h1,h2,h3,h4⟩;have HMZ:=ai h1;have HRZ:=ai h2;have HKZ:=ai h3;have HFZ:=ai h4;clear h1 h2 h3 h4)
     have HF2:=ai (HFR.o.trans HFZ.o (by have:=HKY.o.1;have:=HWS.o;have:=HBXW.o;omega))
     have HKZ2:=ai (HKWY.o.trans HKZ.o HFw.o);have HNIZ:=ai (HKZ.o.il HNI.o (fun hp=>by
      have h1:=HNB.o hp;exact⟨by omega,by omega,by omega,fun e=>by have:=HLVW.o _ e;omega⟩))
     have HBZ:=ai (show Box Z w.heap.size #[.int .i64 (a.tab:Nat),.slice a.sl.h.ao a.sl.l.length a.sl.h.cap] 56 from HKZ.o.box HBY.o (by omega) (by omega) (by omega) (fun e=>by
      rcases HFR.o _ e with h|h
      ·have:=(HOL.o _ h).2;omega
      ·have:=HWS.o;omega))
     go_meet
     exact⟨rfl,lv2,rows2,HMZ,ai (by rw [HRZ.o,HFE.o]),HKZ2,HF2,HNIZ,HBZ⟩
   case rest=>
   obtain⟨rfl,lv2,rows2,HMC,HRC,HKC,HFC,HNC,HBC⟩:=hcut;have HRN:=ai (show rows2.map VL.l=rows.map VL.l ++ ((R.l.map VL.l).take (k+1)).flatMap F from by rw [HRC.o,HRW.o,HTS.o,List.append_assoc])
   clear HMY HFIT HKY HBY HNI HKWY HMR HKR HFR HBR HRW HRC;have hnn:=HNC.o.1.len;have HNB2:=ai (show 0<nl.l.length→gb<nl.h.b from fun hp=>by have:=HNB.o hp;omega)
   have HLN:=ai (show nl.l.length=now.length from by rw [HNL.o,List.length_map])
   go_wp2;go_loopw [108] (fun i wz=>∃m:Nat,m≤nl.l.length∧i = .int .i64 m∧Hid (EW w0 gs gb gv q x (fun y=>if y∈now.take m then none else σ' y) lv2 rows2 wz)∧Hid (Kept w wz gs gb gv lv)∧Hid (nl.In wz)∧Hid (Box wz w.heap.size #[.int .i64 (a.tab:Nat),.slice a.sl.h.ao a.sl.l.length a.sl.h.cap] 56)) (fun i _=>nl.l.length - (intOf i).toNat)
   case atStart=>exact⟨0,Nat.zero_le _,rfl,ai (HMC.o.congr (fun y=>by simp)),HKC,HNC,HBC⟩
   case round=>
   obtain⟨m,hm,rfl,HMZ,HKZ,HNZ,HBZ⟩:=hrel;by_cases hlm:m<nl.l.length
   ·have hlmi: (m:Int) <nl.l.length:=by omega
    have hixn:=HNZ.o.1.ix hlm Tryz.underlying22 szil;have n0:=int_at HNZ.o.1 hlm;have hmn:m<now.length:=by have:=HLN.o;omega
    obtain⟨v,hvv⟩ : ∃v,now[m] =v:=⟨_,rfl⟩;have hX:nl.l[m] = ((v:Nat) :Int):=by
     have h1:nl.l[m]? = some ((v:Nat) :Int):=by rw [HNL.o,List.getElem?_map,List.getElem?_eq_getElem hmn,hvv];rfl
     exact(List.getElem?_eq_some_iff.1 h1).2
    rw [hX]at n0;have hvq:v<q.vars:=HNV.o v (by rw [←hvv];exact List.getElem_mem hmn)
    have HTK:=ai (show now.take (m+1) =now.take m ++ [v]from by rw [List.take_succ_eq_append_getElem hmn,hvv])
    have m4:=HMZ.o.box.cell (j:=4) rfl
    have hixb:=index_ptr Tryz.underlying102 szbool2 gb q.vars q.vars v hvq;have bf:=HMZ.o.bf v;have b0:=HMZ.o.bnd v hvq;have HS:=ai (HMZ.o.free hvq);have HK2:=ai (HKZ.o.trans (kept_set (gs:=gs) (gb:=gb) (gv:=gv) (b:=gb) (o:=v) (v:=.bool false) (lv:=lv) (.inr (.inl rfl))) (Fresh.refl _ _))
    have HN2:=ai (show nl.In (wr.setCell ⟨gb,v,none⟩ (.bool false))from⟨row_grown HNZ.o.1 (gb_set _ _ _ _) (fun hp=>by have:=HNB2.o hp;omega),HNZ.o.2⟩)
    have HB2:=ai (HBZ.o.grown (gb_set wr gb v (.bool false)) (by intro e;injection e with e;omega))
    clear hX hvv;go_wp2;go_roundw
    case rel=>exact⟨m+1,by omega,by go_num,ai (HS.o.congr (fun y=>by
     rw [HTK.o];by_cases e:y=v
     ·subst e;rw [if_pos rfl,if_pos (by simp)]
     ·rw [if_neg e]
      have:y∈now.take m ++ [v]↔y∈now.take m:=by simp [e]
      simp only [this])),HK2,HN2,HB2⟩
    case measure=>simp [intOf];omega
   ·have hlmi: ¬(m:Int) <nl.l.length:=by omega
    have HFN:=ai (HMZ.o.congr (σ':=σ) (fun y=>by rw [HBK.o y,show now.take m=now from List.take_of_length_le (by have:=HLN.o;omega)]))
    go_wp2;go_roundw
    case rel=>exact⟨k+1,lv2,rows2,by omega,by go_num,HFN,HRN,HKZ,HFC,HBZ⟩
    case measure=>simp [intOf];omega
  ·have hlti: ¬(k:Int) <R.l.length:=by omega
   have HEQ:=ai (show rows1.map VL.l=rows.map VL.l ++ evalL x.D (headL nulV q.head.l) (q.cj.lits.drop n) σ from by
    rw [HRW.o,HEV.o,List.take_of_length_le (by rw [List.length_map];omega)])
   go_wp2;go_ret
   exact⟨rows1,lv1,rfl,HMR.o,HEQ.o,HKR.o,HFw.o⟩
end Go.Proofs.YtiijaaohphokcaaGreatDoor

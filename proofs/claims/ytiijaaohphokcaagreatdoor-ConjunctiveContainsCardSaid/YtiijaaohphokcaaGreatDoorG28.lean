/- A plain schema under construction (querylabfield.Plain); the region that appends a column. -/
import Derived.Test.YtiijaaohphokcaaGreatDoorG26
set_option maxRecDepth 100000
set_option maxHeartbeats 16000000
namespace Go.Proofs.YtiijaaohphokcaaGreatDoor
open Go.RowKit
structure FinT (w:World) (B1:Nat) (x:World) (t:Tab) :Prop where
 eq:t=pt t.name t.ch t.cols t.prim.h
 rc:Row x 3 Col.cells t.ch t.cols
 pr:IL.In x ⟨t.prim.h,[0]⟩
 tc:TyAt x t.ch.b 72
 tp:TyAt x t.prim.h.b 3
 gc:w.heap.size≤t.ch.b
 gp:w.heap.size≤t.prim.h.b
 lc:t.ch.b<B1
 lp:t.prim.h.b<B1
 wf: ∀c∈t.cols,c.wf
 nm:t.name.size≤1000
theorem FinT.eqb {w x y:World} {B1:Nat} {t:Tab} (h:FinT w B1 x t) (hs:x.heap.size≤y.heap.size) (h1:y.heap[t.ch.b]? = x.heap[t.ch.b]?) (h2:y.heap[t.prim.h.b]? = x.heap[t.prim.h.b]?) :FinT w B1 y t:=
 ⟨h.eq,row_eqb h.rc hs h1,⟨row_eqb h.pr.1 hs h2,h.pr.2⟩,h.tc.eqb h1,h.tp.eqb h2,h.gc,h.gp,h.lc,h.lp,h.wf,h.nm⟩
structure PSt (w:World) (b:Nat) (L:IL) (a:Nat) (tabs:List Tab) (tv:Value) (B1:Nat) (z:World) :Prop where
 gb:w.grownBy z (some b)
 ll:b<w.heap.size∧(0<L.l.length→L.h.b<w.heap.size)
 tp:TapeIn z b L a
 br:Box z w.heap.size #[.slice none 0 0] 27
 bs:Box z (w.heap.size+1) #[tv] 27
 ot:z.ownsRow w.heap.size 78 6 tv tabs.length (tabs.flatMap Tab.cells)
 fin: ∀t∈tabs,FinT w B1 z t
 lo:w.heap.size≤B1
section
variable {w z y:World} {b a a' B1:Nat} {L:IL} {tabs:List Tab} {tv:Value}
theorem PSt.move (h:PSt w b L a tabs tv B1 z) (hg:w.grownBy y (some b)) (hs:z.heap.size≤y.heap.size) (ht:TapeIn y b L a') (hk: ∀g T,TyAt z g T→w.heap.size≤g→g<B1→y.heap[g]? = z.heap[g]?) (hk2:y.heap[w.heap.size]? = z.heap[w.heap.size]? ∧y.heap[w.heap.size+1]? = z.heap[w.heap.size+1]? ∧∀g,tv.ownBlock=some g→y.heap[g]? = z.heap[g]?) :PSt w b L a' tabs tv B1 y:=
 ⟨hg,h.ll,ht,hk2.1.trans h.br,hk2.2.1.trans h.bs,own_eqb h.ot hk2.2.2,fun t h1=>(h.fin t h1).eqb hs (hk _ _ (h.fin t h1).tc (h.fin t h1).gc (h.fin t h1).lc) (hk _ _ (h.fin t h1).tp (h.fin t h1).gp (h.fin t h1).lp),h.lo⟩
theorem PSt.below (h:PSt w b L a tabs tv B1 z) (hb:Below z.heap.size z y) :PSt w b L a tabs tv B1 y:=
 h.move (h.gb.trans (only_below hb _)) hb.size (h.tp.mono hb) (fun g T ht _ _=>hb.block g ht.lt) ⟨hb.block _ h.br.lt,hb.block _ h.bs.lt,fun g e=>hb.block g (TyAt.own h.ot e).lt⟩
theorem PSt.tape (h:PSt w b L a tabs tv B1 z) (hg:z.grownBy y (some b)) (ht:TapeIn y b L a') :PSt w b L a' tabs tv B1 y:=by
 have hl:=h.ll.1;have key: ∀g,w.heap.size≤g→g<z.heap.size→y.heap[g]? = z.heap[g]? :=fun g h1 h2=>hg.block g h2 (by intro e;injection e with e;omega)
 exact h.move (h.gb.trans hg) hg.size ht (fun g T ht h1 _=>key g h1 ht.lt) ⟨key _ (Nat.le_refl _) h.br.lt,key _ (by omega) h.bs.lt,fun g e=>key g (h.ot.lt g e).1 (TyAt.own h.ot e).lt⟩
theorem PSt.far {c:Nat} (h:PSt w b L a tabs tv B1 z) (hg:z.grownBy y (some c)) (hc:B1≤c) (h2:w.heap.size+1<B1) (ht:tv.ownBlock≠some c) :PSt w b L a tabs tv B1 y:=by
 have hl:=h.ll;have key: ∀g,g≠c→g<z.heap.size→y.heap[g]? = z.heap[g]? :=fun g h1 h2=>hg.block g h2 (by intro e;injection e with e;exact h1 e)
 exact h.move (h.gb.andThen hg (fun j e=>by injection e with e;left;omega)) hg.size (tz2 h.tp hg hl (by omega)) (fun g _ ht h1 h2=>key g (by omega) ht.lt) ⟨key _ (by omega) h.br.lt,key _ (by omega) h.bs.lt,fun g e=>key g (fun e2=>ht (by rw [←e2];exact e)) (TyAt.own h.ot e).lt⟩
end
structure PT (w:World) (b:Nat) (L:IL) (a:Nat) (tabs:List Tab) (tv:Value) (B1 cx:Nat) (nm:ByteArray) (cols:List Col) (lc:Value) (pg:Nat) (z:World) :Prop where
 ps:PSt w b L a tabs tv B1 z
 bx:Box z cx #[.string nm,lc,.slice (some ⟨pg,0,none⟩) 1 1,.slice none 0 0,.slice none 0 0,.slice none 0 0] 78
 oc:z.ownsRow B1 72 3 lc cols.length (cols.flatMap Col.cells)
 bp:Box z pg #[.int .i64 0] 3
 cl:B1≤cx
 gl:B1≤pg
 lo:w.heap.size+1<B1
 nt:tv.ownBlock≠some cx
section
variable {w z y:World} {b a a' B1 cx pg:Nat} {L:IL} {tabs:List Tab} {tv lc:Value} {nm:ByteArray} {cols:List Col}
theorem PT.below (h:PT w b L a tabs tv B1 cx nm cols lc pg z) (hb:Below z.heap.size z y) :PT w b L a tabs tv B1 cx nm cols lc pg y:=⟨h.ps.below hb,h.bx.below hb,h.oc.kept (only_below hb none) (Classical.em _),h.bp.below hb,h.cl,h.gl,h.lo,h.nt⟩
theorem PT.tape (h:PT w b L a tabs tv B1 cx nm cols lc pg z) (hg:z.grownBy y (some b)) (ht:TapeIn y b L a') :PT w b L a' tabs tv B1 cx nm cols lc pg y:=by
 have hl:=h.ps.ll.1;have h1:=h.ps.lo;have h2:=h.cl;have h3:=h.gl
 exact⟨h.ps.tape hg ht,h.bx.grown hg (by intro e;injection e with e;omega),h.oc.kept hg (.inr (fun e=>by have:=(h.oc.lt b e).1;omega)),h.bp.grown hg (by intro e;injection e with e;omega),h.cl,h.gl,h.lo,h.nt⟩
theorem PT.app {c:Col} {v2:Value} (h:PT w b L a tabs tv B1 cx nm cols lc pg z) (hg:z.grownBy y lc.ownBlock) (ho:y.ownsRow B1 72 3 v2 (cols.length+1) (cols.flatMap Col.cells ++ Col.cells c)) :PT w b L a tabs tv B1 cx nm (cols ++ [c]) v2 pg (y.setCell ⟨cx,1,none⟩ v2)∧Box y cx #[.string nm,lc,.slice (some ⟨pg,0,none⟩) 1 1,.slice none 0 0,.slice none 0 0,.slice none 0 0] 78:=by
 have hlc: ∀ {g T},TyAt z g T→72≠T→lc.ownBlock≠some g:=fun ht hne e=>(TyAt.own h.oc e).ne ht hne rfl
 have hbx:=h.bx.grown hg (fun e=>hlc (TyAt.box h.bx) (by decide) e.symm)
 have hbp:=h.bp.grown hg (fun e=>hlc (TyAt.box h.bp) (by decide) e.symm)
 have hps:PSt w b L a tabs tv B1 y:=by
  cases hv:lc.ownBlock with
  | none=>rw [hv]at hg;exact h.ps.below ⟨hg.os,hg.tape,hg.output,hg.size,fun i hi=>hg.block i hi (by simp)⟩
  | some j=>rw [hv]at hg;exact h.ps.far hg (h.oc.lt j hv).1 h.lo (fun e=>(TyAt.own h.ps.ot e).ne (TyAt.own h.oc hv) (by decide) rfl)
 have hs:=gb_set y cx 1 v2;refine⟨⟨hps.far hs h.cl h.lo h.nt,?_,?_,hbp.grown hs (fun e=>by injection e with e;exact(TyAt.box hbp).ne (TyAt.box hbx) (by decide) e),h.cl,h.gl,h.lo,h.nt⟩,hbx⟩
 ·have:=hbx.set 1 v2
  simpa only [List.setIfInBounds_toArray,List.set_cons_zero,List.set_cons_succ]using this
 ·have e: (cols ++ [c]).flatMap Col.cells=cols.flatMap Col.cells ++ Col.cells c:=by rw [List.flatMap_append,List.flatMap_cons,List.flatMap_nil,List.append_nil]
  rw [e,List.length_append];exact ho.kept hs (.inr (fun e=>(TyAt.own ho e).ne (TyAt.box hbx) (by decide) rfl))
end
structure PG (w:World) (b:Nat) (L:IL) (a:Nat) (tabs:List Tab) (tv:Value) (B1 cx:Nat) (nm:ByteArray) (cols:List Col) (lc:Value) (pg:Nat) (bb:Bool) (x:World) :Prop where
 pt:PT w b L (if bb=true then posAt L a else a) tabs tv B1 cx nm cols lc pg x
theorem PG.below {w x y:World} {b a B1 cx pg:Nat} {L:IL} {tabs:List Tab} {tv lc:Value} {nm:ByteArray} {cols:List Col} {bb:Bool} (h:PG w b L a tabs tv B1 cx nm cols lc pg bb x) (hb:Below x.heap.size x y) :PG w b L a tabs tv B1 cx nm cols lc pg bb y:=⟨h.pt.below hb⟩
theorem info_col3: (Tryz.prog.info? 72).map (fun i=>(i.zero,i.size,i.bytes)) =some (some (.agg #[.string ⟨#[]⟩,.int .i64 0,.bool false]),3,32):=by kernel_rfl
theorem col_one {a:ByteArray} {b:Int} {c:Bool} : ∀u∈ [Value.string a,.int .i64 b,.bool c],u.oneCell'=true:=fun u hu=>by
 simp only [List.mem_cons,List.not_mem_nil,or_false]at hu;rcases hu with rfl|rfl|rfl<;>rfl
def cnm (c:UInt8) :ByteArray:=(⟨#[99]⟩ :ByteArray) ++ ⟨#[c]⟩
theorem conv1 {x:World} {b:Nat} {c:UInt8} (h:Box x b #[.int .u8 (c.toNat:Int)] 5) : (convert 70 9 (.slice (some ⟨b,0,none⟩) 1 1)).run Tryz.prog x = .ok (.string ⟨#[c]⟩) x:=
 run_convert_bytes_back _ 70 9 5 ⟨b,0,none⟩ 1 [c] rfl rfl rfl (fun j hj=>by
  have h0:j=0:=by simp at hj;omega
  subst h0;exact h.cell rfl)
noncomputable def plBody:Code:=Tryz.f8.body.getD .skip
theorem pl_reg9_1 {w:World} {b a B1 cx pg:Nat} {L:IL} {tabs:List Tab} {tv lc:Value} {nm:ByteArray} {cols:List Col} {W:World} (HA:Hid (a≤4611686018427387000)) (HCU:Hid (cols.length≤1000)) (HG0:Hid (PG w b L a tabs tv B1 cx nm cols lc pg false W.drew)) {Q:Exit→Act→World→Prop} {c:Code} {u1 u2 u3 u4 u7 u8 u9 u10 u11 u12 u13 u14 u15 u16 u17 u18 u19 u20 u21 u22 u23 u24 u25 u26 u27 u28 u29 u30 u31 u32 u33 u34 u35 u36 u37 u38 u39 u40 u41 u42 u43 u44 u45 u46 u47 u48 u49 u50 u51 u52:Value} (hc:c=codeIn [1,1,0,1,4,5,1,0,4,1,0,1,4,5,1,0,4] plBody) (hend: ∀(b5 b9:Nat) (t10 t11:Int) (b12:Nat) (t12:Int) (g4 cap4:Nat) x,PT w b L (posAt L a) tabs tv B1 cx nm (cols ++ [⟨cnm 98,t12,false⟩]) (.slice (some ⟨g4,0,none⟩) (cols.length+1) cap4) pg x→(t12=1∨t12=3)→Q .normal { tmps:=((.pointer (some ⟨b,0,none⟩)) :: u1 :: u2 :: u3 :: u4 :: (.pointer (some ⟨cx,0,none⟩)) :: (.int .i64 1) :: u7 :: u8 :: u9 :: u10 :: u11 :: u12 :: u13 :: u14 :: u15 :: u16 :: u17 :: u18 :: u19 :: u20 :: u21 :: u22 :: u23 :: u24 :: u25 :: u26 :: u27 :: u28 :: u29 :: u30 :: .pointer (some ⟨cx,1,none⟩) :: lc :: .int .i64 1 :: .int .i64 98 :: .int .u8 98 :: .slice (some ⟨b5,0,none⟩) 1 1 :: .string ⟨#[98]⟩ :: .string (cnm 98) :: .pointer (some ⟨b,0,none⟩) :: .slice (some ⟨b9,0,none⟩) 3 3 :: .int .i64 t10 :: .agg #[.string (cnm 98),.int .i64 t11,.bool false] :: .slice (some ⟨b12,0,none⟩) 1 1 :: .slice (some ⟨g4,0,none⟩) (cols.length+1) cap4 :: .pointer (some ⟨cx,1,none⟩) :: u46 :: u47 :: u48 :: u49 :: u50 :: u51 :: u52 :: []).toArray,defers:= [] } x) :Code.wp Tryz.prog c Q { tmps:=((.pointer (some ⟨b,0,none⟩)) :: u1 :: u2 :: u3 :: u4 :: (.pointer (some ⟨cx,0,none⟩)) :: (.int .i64 1) :: u7 :: u8 :: u9 :: u10 :: u11 :: u12 :: u13 :: u14 :: u15 :: u16 :: u17 :: u18 :: u19 :: u20 :: u21 :: u22 :: u23 :: u24 :: u25 :: u26 :: u27 :: u28 :: u29 :: u30 :: u31 :: u32 :: u33 :: u34 :: u35 :: u36 :: u37 :: u38 :: u39 :: u40 :: u41 :: u42 :: u43 :: u44 :: u45 :: u46 :: u47 :: u48 :: u49 :: u50 :: u51 :: u52 :: []).toArray,defers:= [] } W:=by
 subst hc;conv=>enter [2];whnf
 refine wp_region_tailH (by kernel_rfl) (by kernel_rfl) 13 (by show 13<_;decide) (by kernel_rfl) (by kernel_rfl) (fun s:Nat→Value=>({ tmps:=((.pointer (some ⟨b,0,none⟩)) :: u1 :: u2 :: u3 :: u4 :: (.pointer (some ⟨cx,0,none⟩)) :: (.int .i64 1) :: u7 :: u8 :: u9 :: u10 :: u11 :: u12 :: u13 :: u14 :: u15 :: u16 :: u17 :: u18 :: u19 :: u20 :: u21 :: u22 :: u23 :: u24 :: u25 :: u26 :: u27 :: u28 :: u29 :: u30 :: s 31 :: s 32 :: s 33 :: s 34 :: s 35 :: s 36 :: s 37 :: s 38 :: s 39 :: s 40 :: s 41 :: s 42 :: s 43 :: u44 :: u45 :: u46 :: u47 :: u48 :: u49 :: u50 :: u51 :: u52 :: []).toArray,defers:= [] } : Act)) (fun k=>if k=31 then u31 else if k=32 then u32 else if k=33 then u33 else if k=34 then u34 else if k=35 then u35 else if k=36 then u36 else if k=37 then u37 else if k=38 then u38 else if k=39 then u39 else if k=40 then u40 else if k=41 then u41 else if k=42 then u42 else if k=43 then u43 else undef) rfl 10 (by decide) (fun i=>([false,false,false,false,false,false,false,false,false,false,true,true,true] :List Bool).getD i false) (by kernel_rfl) (fun x y=>x.grownBy y (some b)) (PG w b L a tabs tv B1 cx nm cols lc pg) ?g0 (fun i v x=>(i=5→∃b5,v = .slice (some ⟨b5,0,none⟩) 1 1∧Box x b5 #[.int .u8 98] 5∧b5≠b)∧(i=9→∃b9,v = .slice (some ⟨b9,0,none⟩) 3 3∧Box x b9 #[.int .i64 1,.int .i64 1,.int .i64 3] 3∧b9≠b)∧(i=10→∃t10,v = .int .i64 t10∧(t10=1∨t10=3))∧(i=11→∃t11,v = .agg #[.string (cnm 98),.int .i64 t11,.bool false]∧(t11=1∨t11=3))∧(i=12→∃b12 t12,v = .slice (some ⟨b12,0,none⟩) 1 1∧Box x b12 #[.string (cnm 98),.int .i64 t12,.bool false] 72∧(t12=1∨t12=3))∧(i≠5→i≠9→i≠10→i≠11→i≠12→([.pointer (some ⟨cx,1,none⟩),lc,.int .i64 1,.int .i64 98,.int .u8 98,undef,.string ⟨#[98]⟩,.string (cnm 98),.pointer (some ⟨b,0,none⟩),undef,undef,undef,undef] :List Value)[i]? = some v)) (fun i v x y h hb=>⟨fun hi=>(by obtain⟨b5,h0,q0,q1⟩:=h.1 hi;exact⟨b5,h0,q0.below hb,q1⟩),fun hi=>(by obtain⟨b9,h0,q0,q1⟩:=h.2.1 hi;exact⟨b9,h0,q0.below hb,q1⟩),fun hi=>(by obtain⟨t10,h0,q0⟩:=h.2.2.1 hi;exact⟨t10,h0,q0⟩),fun hi=>(by obtain⟨t11,h0,q0⟩:=h.2.2.2.1 hi;exact⟨t11,h0,q0⟩),fun hi=>(by obtain⟨b12,t12,h0,q0,q1⟩:=h.2.2.2.2.1 hi;exact⟨b12,t12,h0,q0.below hb,q1⟩),h.2.2.2.2.2⟩) (fun i v x y hd _ _ h hb=>⟨fun hi=>(by obtain⟨b5,h0,q0,q1⟩:=h.1 hi;exact⟨b5,h0,q0.grown hb (by intro e;injection e with e;exact q1 e),q1⟩),fun hi=>(by obtain⟨b9,h0,q0,q1⟩:=h.2.1 hi;exact⟨b9,h0,q0.grown hb (by intro e;injection e with e;exact q1 e),q1⟩),fun hi=>(by subst hi;exact absurd hd (by decide)),fun hi=>(by subst hi;exact absurd hd (by decide)),fun hi=>(by subst hi;exact absurd hd (by decide)),h.2.2.2.2.2⟩) (fun i=>([31,32,33,34,35,36,37,38,39,40,41,42,43] :List Nat).getD i 0) ?inj ?step ?last
 case g0=>exact HG0.o
 case inj=>
  intro i j hi hj h;have hI:i=0∨i=1∨i=2∨i=3∨i=4∨i=5∨i=6∨i=7∨i=8∨i=9∨i=10∨i=11∨i=12:=by omega
  have hJ:j=0∨j=1∨j=2∨j=3∨j=4∨j=5∨j=6∨j=7∨j=8∨j=9∨j=10∨j=11∨j=12:=by omega
  rcases hI with rfl|rfl|rfl|rfl|rfl|rfl|rfl|rfl|rfl|rfl|rfl|rfl|rfl<;>rcases hJ with rfl|rfl|rfl|rfl|rfl|rfl|rfl|rfl|rfl|rfl|rfl|rfl|rfl<;>first|rfl| (exact absurd h (by decide))
 case last=>
  intro s x hv hgt;have HG:=ai hgt;clear hgt;have z0:s 31 = .pointer (some ⟨cx,1,none⟩):=by have h:=(hv 0 (by decide)).2.2.2.2.2 (by decide) (by decide) (by decide) (by decide) (by decide);injection h with h;exact h.symm
  have z1:s 32=lc:=by have h:=(hv 1 (by decide)).2.2.2.2.2 (by decide) (by decide) (by decide) (by decide) (by decide);injection h with h;exact h.symm
  have z2:s 33 = .int .i64 1:=by have h:=(hv 2 (by decide)).2.2.2.2.2 (by decide) (by decide) (by decide) (by decide) (by decide);injection h with h;exact h.symm
  have z3:s 34 = .int .i64 98:=by have h:=(hv 3 (by decide)).2.2.2.2.2 (by decide) (by decide) (by decide) (by decide) (by decide);injection h with h;exact h.symm
  have z4:s 35 = .int .u8 98:=by have h:=(hv 4 (by decide)).2.2.2.2.2 (by decide) (by decide) (by decide) (by decide) (by decide);injection h with h;exact h.symm
  obtain⟨b5,hz5,hg5_0,hg5_1⟩:=(hv 5 (by decide)).1 rfl
  have z5:s 36 = .slice (some ⟨b5,0,none⟩) 1 1:=hz5;clear hz5;have z6:s 37 = .string ⟨#[98]⟩:=by have h:=(hv 6 (by decide)).2.2.2.2.2 (by decide) (by decide) (by decide) (by decide) (by decide);injection h with h;exact h.symm
  have z7:s 38 = .string (cnm 98):=by have h:=(hv 7 (by decide)).2.2.2.2.2 (by decide) (by decide) (by decide) (by decide) (by decide);injection h with h;exact h.symm
  have z8:s 39 = .pointer (some ⟨b,0,none⟩):=by have h:=(hv 8 (by decide)).2.2.2.2.2 (by decide) (by decide) (by decide) (by decide) (by decide);injection h with h;exact h.symm
  obtain⟨b9,hz9,hg9_0,hg9_1⟩:=(hv 9 (by decide)).2.1 rfl
  have z9:s 40 = .slice (some ⟨b9,0,none⟩) 3 3:=hz9;clear hz9;obtain⟨t10,hz10,hg10_0⟩:=(hv 10 (by decide)).2.2.1 rfl
  have z10:s 41 = .int .i64 t10:=hz10;clear hz10;obtain⟨t11,hz11,hg11_0⟩:=(hv 11 (by decide)).2.2.2.1 rfl
  have z11:s 42 = .agg #[.string (cnm 98),.int .i64 t11,.bool false]:=hz11;clear hz11;obtain⟨b12,t12,hz12,hg12_0,hg12_1⟩:=(hv 12 (by decide)).2.2.2.2.1 rfl
  have z12:s 43 = .slice (some ⟨b12,0,none⟩) 1 1:=hz12;clear hz12;clear hv;obtain⟨i0,hi,hz0,hz1,hz2⟩:=info_parts info_col3;have HH:=ai HG.o.pt;rw [if_pos rfl]at HH
  show Oper.wp _ _ _ _ _ _
  refine wp_append_own x _ _ 73 rfl B1 72 i0 (.agg #[.string ⟨#[]⟩,.int .i64 0,.bool false]) 3 32 Tryz.underlying73 hi hz0 hz1 hz2 rfl (by decide) lc cols.length _ (by show s 32=_;exact z1) HH.o.oc ⟨b12,0,none⟩ 1 1 [.string (cnm 98),.int .i64 t12,.bool false] (by show s 43=_;exact z12) rfl (box_cells hg12_0) col_one (by have:=HCU.o;unfold maxLen;omega) (by have:=HCU.o;omega) (Nat.le_trans HH.o.cl (Nat.le_of_lt HH.o.bx.lt)) ?_
  intro v2 y2 hown hgr _;obtain⟨g4,cap4,rfl⟩:=ownsRow_succ hown;obtain⟨hA,hbl⟩:=HH.o.app (c:=⟨cnm 98,t12,false⟩) hgr hown
  have HS:=ai hA;have k1:=hbl.cell (j:=1) rfl
  have f1:=hbl.fr 1;clear hown hgr hi hz0 hz1 hz2 hg12_0 hg5_0 hg9_0 hA hbl
  show Oper.wp _ _ _ _ _ _
  refine opwp_K (fun K2 hK2=> ?_)
  go_simp
  refine hK2 _ _ ?_
  show Oper.wp _ _ _ _ _ _
  clear hK2;refine opwp_K (fun K3 hK3=> ?_)
  go_simp
  refine hK3 _ _ ?_
  have h:=hend b5 b9 t10 t11 b12 t12 g4 cap4 _ HS.o hg12_1
  show Q _ _ _
  first|exact h| (simp only [z0,z1,z2,z3,z4,z5,z6,z7,z8,z9,z10,z11,z12];exact h)
 case step=>
  intro i o s x hin ho he bb hgb hbf hbt;have HG:=ai hgb;clear hgb;have hcase:i=0∨i=1∨i=2∨i=3∨i=4∨i=5∨i=6∨i=7∨i=8∨i=9∨i=10∨i=11∨i=12:=by omega
  rcases hcase with rfl|rfl|rfl|rfl|rfl|rfl|rfl|rfl|rfl|rfl|rfl|rfl|rfl
  ·injection ho with ho
   subst ho;clear he hbf hbt;refine opwp_K (fun K2 hK2=> ?_)
   go_simp
   exact hK2 _ _ ⟨(.pointer (some ⟨cx,1,none⟩)),(by first|rfl| (simp [List.getD];done)),sI_ne (by decide) (Below.refl _ _),gIf_ne (G:=PG w b L a tabs tv B1 cx nm cols lc pg) (by decide) HG.o,⟨fun h=>absurd h (by decide),fun h=>absurd h (by decide),fun h=>absurd h (by decide),fun h=>absurd h (by decide),fun h=>absurd h (by decide),fun _ _ _ _ _=>rfl⟩⟩
  ·injection ho with ho
   subst ho;have z0:s 31 = .pointer (some ⟨cx,1,none⟩):=by have h:=(he ⟨0,.data⟩ (by simp) rfl).2.2.2.2.2 (by decide) (by decide) (by decide) (by decide) (by decide);injection h with h;exact h.symm
   clear he hbf hbt;have k1:=HG.o.pt.bx.cell (j:=1) rfl
   refine opwp_K (fun K2 hK2=> ?_)
   go_simp
   exact hK2 _ _ ⟨(lc),(by first|rfl| (simp [z0];done)),sI_ne (by decide) (Below.refl _ _),gIf_ne (G:=PG w b L a tabs tv B1 cx nm cols lc pg) (by decide) HG.o,⟨fun h=>absurd h (by decide),fun h=>absurd h (by decide),fun h=>absurd h (by decide),fun h=>absurd h (by decide),fun h=>absurd h (by decide),fun _ _ _ _ _=>rfl⟩⟩
  ·injection ho with ho
   subst ho;clear he hbf hbt;refine opwp_K (fun K2 hK2=> ?_)
   go_simp
   exact hK2 _ _ ⟨(.int .i64 1),(by first|rfl| (simp [List.getD];done)),sI_ne (by decide) (Below.refl _ _),gIf_ne (G:=PG w b L a tabs tv B1 cx nm cols lc pg) (by decide) HG.o,⟨fun h=>absurd h (by decide),fun h=>absurd h (by decide),fun h=>absurd h (by decide),fun h=>absurd h (by decide),fun h=>absurd h (by decide),fun _ _ _ _ _=>rfl⟩⟩
  ·injection ho with ho
   subst ho;have z2:s 33 = .int .i64 1:=by have h:=(he ⟨2,.data⟩ (by simp) rfl).2.2.2.2.2 (by decide) (by decide) (by decide) (by decide) (by decide);injection h with h;exact h.symm
   clear he hbf hbt;have hw:IntKind.i64.wrap 98=98:=by rw [IntKind.wrap_i64];omega
   refine opwp_K (fun K2 hK2=> ?_)
   go_simp
   exact hK2 _ _ ⟨(.int .i64 98),(by first|rfl| (simp [z2,hw];done)),sI_ne (by decide) (Below.refl _ _),gIf_ne (G:=PG w b L a tabs tv B1 cx nm cols lc pg) (by decide) HG.o,⟨fun h=>absurd h (by decide),fun h=>absurd h (by decide),fun h=>absurd h (by decide),fun h=>absurd h (by decide),fun h=>absurd h (by decide),fun _ _ _ _ _=>rfl⟩⟩
  ·injection ho with ho
   subst ho;have z3:s 34 = .int .i64 98:=by have h:=(he ⟨3,.data⟩ (by simp) rfl).2.2.2.2.2 (by decide) (by decide) (by decide) (by decide) (by decide);injection h with h;exact h.symm
   clear he hbf hbt;have hw:IntKind.u8.wrap 98=98:=by decide
   refine opwp_K (fun K2 hK2=> ?_)
   go_simp
   exact hK2 _ _ ⟨(.int .u8 98),(by first|rfl| (simp [z3,hw];done)),sI_ne (by decide) (Below.refl _ _),gIf_ne (G:=PG w b L a tabs tv B1 cx nm cols lc pg) (by decide) HG.o,⟨fun h=>absurd h (by decide),fun h=>absurd h (by decide),fun h=>absurd h (by decide),fun h=>absurd h (by decide),fun h=>absurd h (by decide),fun _ _ _ _ _=>rfl⟩⟩
  ·injection ho with ho
   subst ho;have z4:s 35 = .int .u8 98:=by have h:=(he ⟨4,.data⟩ (by simp) rfl).2.2.2.2.2 (by decide) (by decide) (by decide) (by decide) (by decide);injection h with h;exact h.symm
   clear he hbf hbt;have HBZ:=ai HG.o.pt.ps.tp.lt;refine opwp_K (fun K2 hK2=> ?_)
   go_simp
   exact hK2 _ _ ⟨_,(by first|rfl| (simp [z4];done)),sI_ne (by decide) (belA _),gIf_ne (G:=PG w b L a tabs tv B1 cx nm cols lc pg) (by decide) (HG.o.below (belA _)),⟨fun _=>⟨_,rfl,Box.new _ _ _,by have:=HBZ.o;omega⟩,fun h=>absurd h (by decide),fun h=>absurd h (by decide),fun h=>absurd h (by decide),fun h=>absurd h (by decide),fun h _ _ _ _=>absurd rfl h⟩⟩
  ·injection ho with ho
   subst ho;obtain⟨b5,hz5,hg5_0,hg5_1⟩:=(he ⟨5,.data⟩ (by simp) rfl).1 rfl
   have z5:s 36 = .slice (some ⟨b5,0,none⟩) 1 1:=hz5;clear hz5;clear he hbf hbt;have hcv:=conv1 (c:=98) hg5_0
   clear hg5_0;refine opwp_K (fun K2 hK2=> ?_)
   go_simp
   exact hK2 _ _ ⟨(.string ⟨#[98]⟩),(by first|rfl| (simp [z5];done)),sI_ne (by decide) (Below.refl _ _),gIf_ne (G:=PG w b L a tabs tv B1 cx nm cols lc pg) (by decide) HG.o,⟨fun h=>absurd h (by decide),fun h=>absurd h (by decide),fun h=>absurd h (by decide),fun h=>absurd h (by decide),fun h=>absurd h (by decide),fun _ _ _ _ _=>rfl⟩⟩
  ·injection ho with ho
   subst ho;have z6:s 37 = .string ⟨#[98]⟩:=by have h:=(he ⟨6,.data⟩ (by simp) rfl).2.2.2.2.2 (by decide) (by decide) (by decide) (by decide) (by decide);injection h with h;exact h.symm
   clear he hbf hbt;have hsz: ((⟨#[99]⟩ :ByteArray) ++ ⟨#[98]⟩).size=2:=rfl;refine opwp_K (fun K2 hK2=> ?_)
   go_simp
   exact hK2 _ _ ⟨(.string (cnm 98)),(by first|rfl| (simp [z6,cnm];done)),sI_ne (by decide) (Below.refl _ _),gIf_ne (G:=PG w b L a tabs tv B1 cx nm cols lc pg) (by decide) HG.o,⟨fun h=>absurd h (by decide),fun h=>absurd h (by decide),fun h=>absurd h (by decide),fun h=>absurd h (by decide),fun h=>absurd h (by decide),fun _ _ _ _ _=>rfl⟩⟩
  ·injection ho with ho
   subst ho;clear he hbf hbt;refine opwp_K (fun K2 hK2=> ?_)
   go_simp
   exact hK2 _ _ ⟨(.pointer (some ⟨b,0,none⟩)),(by first|rfl| (simp [List.getD];done)),sI_ne (by decide) (Below.refl _ _),gIf_ne (G:=PG w b L a tabs tv B1 cx nm cols lc pg) (by decide) HG.o,⟨fun h=>absurd h (by decide),fun h=>absurd h (by decide),fun h=>absurd h (by decide),fun h=>absurd h (by decide),fun h=>absurd h (by decide),fun _ _ _ _ _=>rfl⟩⟩
  ·injection ho with ho
   subst ho;clear he hbf hbt;have HBZ:=ai HG.o.pt.ps.tp.lt;refine opwp_K (fun K2 hK2=> ?_)
   go_simp
   exact hK2 _ _ ⟨_,(by first|rfl| (simp [List.getD];done)),sI_ne (by decide) (belA _),gIf_ne (G:=PG w b L a tabs tv B1 cx nm cols lc pg) (by decide) (HG.o.below (belA _)),⟨fun h=>absurd h (by decide),fun _=>⟨_,rfl,Box.new _ _ _,by have:=HBZ.o;omega⟩,fun h=>absurd h (by decide),fun h=>absurd h (by decide),fun h=>absurd h (by decide),fun _ h _ _ _=>absurd rfl h⟩⟩
  ·injection ho with ho
   subst ho;have z8:s 39 = .pointer (some ⟨b,0,none⟩):=by have h:=(he ⟨8,.data⟩ (by simp) rfl).2.2.2.2.2 (by decide) (by decide) (by decide) (by decide) (by decide);injection h with h;exact h.symm
   obtain⟨b9,hz9,hg9_0,hg9_1⟩:=(he ⟨9,.data⟩ (by simp) rfl).2.1 rfl
   have z9:s 40 = .slice (some ⟨b9,0,none⟩) 3 3:=hz9;clear hz9;obtain rfl:bb=false:=hbf rfl;clear he hbf hbt;have HQ:=ai HG.o.pt;rw [if_neg (by decide)]at HQ
   have HIL:=ai (il_box (xs:= [1,1,3]) hg9_0 (by decide) (fun n hn=>by simp only [List.mem_cons,List.not_mem_nil,or_false]at hn;rcases hn with rfl|rfl|rfl<;>(constructor<;>decide)))
   have HBN:=ai hg9_1;clear hg9_0 hg9_1;refine opwp_K (fun K2 hK2=> ?_)
   go_simp
   go_at_call 39
   refine(pick_any x b a L ⟨⟨some ⟨b9,0,none⟩,3⟩,[1,1,3]⟩ HQ.o.ps.tp (by have:=HA.o;omega) HIL.o (by show 0<3;decide) HBN.o).mono ?_
   rintro e y ⟨⟨k,hk,_,rfl⟩,h1,h2⟩;have hm:=List.getElem_mem hk;generalize ([1,1,3] :List Int)[k] =tt at *;have hm:tt=1∨tt=3:=by simp only [List.mem_cons,List.not_mem_nil,or_false]at hm;omega
   go_simp
   have hp:=HQ.o.tape h2 h1;exact hK2 _ _ ⟨_,(by first|rfl| (simp [z8,z9];done)),sI_eq rfl (h2),gIf_eq (G:=PG w b L a tabs tv B1 cx nm cols lc pg) (⟨by rw [if_pos rfl];exact hp⟩),⟨fun h=>absurd h (by decide),fun h=>absurd h (by decide),fun _=>⟨tt,rfl,hm⟩,fun h=>absurd h (by decide),fun h=>absurd h (by decide),fun _ _ h _ _=>absurd rfl h⟩⟩
  ·injection ho with ho
   subst ho;have z7:s 38 = .string (cnm 98):=by have h:=(he ⟨7,.data⟩ (by simp) rfl).2.2.2.2.2 (by decide) (by decide) (by decide) (by decide) (by decide);injection h with h;exact h.symm
   obtain⟨t10,hz10,hg10_0⟩:=(he ⟨10,.data⟩ (by simp) rfl).2.2.1 rfl
   have z10:s 41 = .int .i64 t10:=hz10;clear hz10;obtain rfl:bb=true:=hbt ⟨⟨10,.data⟩,by simp,rfl,rfl⟩
   clear he hbf hbt;refine opwp_K (fun K2 hK2=> ?_)
   go_simp
   exact hK2 _ _ ⟨_,(by first|rfl| (simp [z7,z10];done)),sI_ne (by decide) (Below.refl _ _),gIf_ne (G:=PG w b L a tabs tv B1 cx nm cols lc pg) (by decide) HG.o,⟨fun h=>absurd h (by decide),fun h=>absurd h (by decide),fun h=>absurd h (by decide),fun _=>⟨t10,rfl,hg10_0⟩,fun h=>absurd h (by decide),fun _ _ _ h _=>absurd rfl h⟩⟩
  ·injection ho with ho
   subst ho;obtain⟨t11,hz11,hg11_0⟩:=(he ⟨11,.data⟩ (by simp) rfl).2.2.2.1 rfl
   have z11:s 42 = .agg #[.string (cnm 98),.int .i64 t11,.bool false]:=hz11;clear hz11;clear he hbf hbt;refine opwp_K (fun K2 hK2=> ?_)
   go_simp
   exact hK2 _ _ ⟨_,(by first|rfl| (simp [z11];done)),sI_ne (by decide) (belA _),gIf_ne (G:=PG w b L a tabs tv B1 cx nm cols lc pg) (by decide) (HG.o.below (belA _)),⟨fun h=>absurd h (by decide),fun h=>absurd h (by decide),fun h=>absurd h (by decide),fun h=>absurd h (by decide),fun _=>⟨_,t11,rfl,Box.new _ _ _,hg11_0⟩,fun _ _ _ _ h=>absurd rfl h⟩⟩
theorem pl_reg9_2 {w:World} {b a B1 cx pg:Nat} {L:IL} {tabs:List Tab} {tv lc:Value} {nm:ByteArray} {cols:List Col} {W:World} (HA:Hid (a≤4611686018427387000)) (HCU:Hid (cols.length≤1000)) (HG0:Hid (PG w b L a tabs tv B1 cx nm cols lc pg false W.drew)) {Q:Exit→Act→World→Prop} {c:Code} {u1 u2 u3 u4 u7 u8 u9 u10 u11 u12 u13 u14 u15 u16 u17 u18 u19 u20 u21 u22 u23 u24 u25 u26 u27 u28 u29 u30 u31 u32 u33 u34 u35 u36 u37 u38 u39 u40 u41 u42 u43 u44 u45 u46 u47 u48 u49 u50 u51 u52:Value} (hc:c=codeIn [1,1,0,1,4,5,1,0,4,1,0,1,4,5,1,0,4] plBody) (hend: ∀(b5 b9:Nat) (t10 t11:Int) (b12:Nat) (t12:Int) (g4 cap4:Nat) x,PT w b L (posAt L a) tabs tv B1 cx nm (cols ++ [⟨cnm 99,t12,false⟩]) (.slice (some ⟨g4,0,none⟩) (cols.length+1) cap4) pg x→(t12=1∨t12=3)→Q .normal { tmps:=((.pointer (some ⟨b,0,none⟩)) :: u1 :: u2 :: u3 :: u4 :: (.pointer (some ⟨cx,0,none⟩)) :: (.int .i64 2) :: u7 :: u8 :: u9 :: u10 :: u11 :: u12 :: u13 :: u14 :: u15 :: u16 :: u17 :: u18 :: u19 :: u20 :: u21 :: u22 :: u23 :: u24 :: u25 :: u26 :: u27 :: u28 :: u29 :: u30 :: .pointer (some ⟨cx,1,none⟩) :: lc :: .int .i64 2 :: .int .i64 99 :: .int .u8 99 :: .slice (some ⟨b5,0,none⟩) 1 1 :: .string ⟨#[99]⟩ :: .string (cnm 99) :: .pointer (some ⟨b,0,none⟩) :: .slice (some ⟨b9,0,none⟩) 3 3 :: .int .i64 t10 :: .agg #[.string (cnm 99),.int .i64 t11,.bool false] :: .slice (some ⟨b12,0,none⟩) 1 1 :: .slice (some ⟨g4,0,none⟩) (cols.length+1) cap4 :: .pointer (some ⟨cx,1,none⟩) :: u46 :: u47 :: u48 :: u49 :: u50 :: u51 :: u52 :: []).toArray,defers:= [] } x) :Code.wp Tryz.prog c Q { tmps:=((.pointer (some ⟨b,0,none⟩)) :: u1 :: u2 :: u3 :: u4 :: (.pointer (some ⟨cx,0,none⟩)) :: (.int .i64 2) :: u7 :: u8 :: u9 :: u10 :: u11 :: u12 :: u13 :: u14 :: u15 :: u16 :: u17 :: u18 :: u19 :: u20 :: u21 :: u22 :: u23 :: u24 :: u25 :: u26 :: u27 :: u28 :: u29 :: u30 :: u31 :: u32 :: u33 :: u34 :: u35 :: u36 :: u37 :: u38 :: u39 :: u40 :: u41 :: u42 :: u43 :: u44 :: u45 :: u46 :: u47 :: u48 :: u49 :: u50 :: u51 :: u52 :: []).toArray,defers:= [] } W:=by
 subst hc;conv=>enter [2];whnf
 refine wp_region_tailH (by kernel_rfl) (by kernel_rfl) 13 (by show 13<_;decide) (by kernel_rfl) (by kernel_rfl) (fun s:Nat→Value=>({ tmps:=((.pointer (some ⟨b,0,none⟩)) :: u1 :: u2 :: u3 :: u4 :: (.pointer (some ⟨cx,0,none⟩)) :: (.int .i64 2) :: u7 :: u8 :: u9 :: u10 :: u11 :: u12 :: u13 :: u14 :: u15 :: u16 :: u17 :: u18 :: u19 :: u20 :: u21 :: u22 :: u23 :: u24 :: u25 :: u26 :: u27 :: u28 :: u29 :: u30 :: s 31 :: s 32 :: s 33 :: s 34 :: s 35 :: s 36 :: s 37 :: s 38 :: s 39 :: s 40 :: s 41 :: s 42 :: s 43 :: u44 :: u45 :: u46 :: u47 :: u48 :: u49 :: u50 :: u51 :: u52 :: []).toArray,defers:= [] } : Act)) (fun k=>if k=31 then u31 else if k=32 then u32 else if k=33 then u33 else if k=34 then u34 else if k=35 then u35 else if k=36 then u36 else if k=37 then u37 else if k=38 then u38 else if k=39 then u39 else if k=40 then u40 else if k=41 then u41 else if k=42 then u42 else if k=43 then u43 else undef) rfl 10 (by decide) (fun i=>([false,false,false,false,false,false,false,false,false,false,true,true,true] :List Bool).getD i false) (by kernel_rfl) (fun x y=>x.grownBy y (some b)) (PG w b L a tabs tv B1 cx nm cols lc pg) ?g0 (fun i v x=>(i=5→∃b5,v = .slice (some ⟨b5,0,none⟩) 1 1∧Box x b5 #[.int .u8 99] 5∧b5≠b)∧(i=9→∃b9,v = .slice (some ⟨b9,0,none⟩) 3 3∧Box x b9 #[.int .i64 1,.int .i64 1,.int .i64 3] 3∧b9≠b)∧(i=10→∃t10,v = .int .i64 t10∧(t10=1∨t10=3))∧(i=11→∃t11,v = .agg #[.string (cnm 99),.int .i64 t11,.bool false]∧(t11=1∨t11=3))∧(i=12→∃b12 t12,v = .slice (some ⟨b12,0,none⟩) 1 1∧Box x b12 #[.string (cnm 99),.int .i64 t12,.bool false] 72∧(t12=1∨t12=3))∧(i≠5→i≠9→i≠10→i≠11→i≠12→([.pointer (some ⟨cx,1,none⟩),lc,.int .i64 2,.int .i64 99,.int .u8 99,undef,.string ⟨#[99]⟩,.string (cnm 99),.pointer (some ⟨b,0,none⟩),undef,undef,undef,undef] :List Value)[i]? = some v)) (fun i v x y h hb=>⟨fun hi=>(by obtain⟨b5,h0,q0,q1⟩:=h.1 hi;exact⟨b5,h0,q0.below hb,q1⟩),fun hi=>(by obtain⟨b9,h0,q0,q1⟩:=h.2.1 hi;exact⟨b9,h0,q0.below hb,q1⟩),fun hi=>(by obtain⟨t10,h0,q0⟩:=h.2.2.1 hi;exact⟨t10,h0,q0⟩),fun hi=>(by obtain⟨t11,h0,q0⟩:=h.2.2.2.1 hi;exact⟨t11,h0,q0⟩),fun hi=>(by obtain⟨b12,t12,h0,q0,q1⟩:=h.2.2.2.2.1 hi;exact⟨b12,t12,h0,q0.below hb,q1⟩),h.2.2.2.2.2⟩) (fun i v x y hd _ _ h hb=>⟨fun hi=>(by obtain⟨b5,h0,q0,q1⟩:=h.1 hi;exact⟨b5,h0,q0.grown hb (by intro e;injection e with e;exact q1 e),q1⟩),fun hi=>(by obtain⟨b9,h0,q0,q1⟩:=h.2.1 hi;exact⟨b9,h0,q0.grown hb (by intro e;injection e with e;exact q1 e),q1⟩),fun hi=>(by subst hi;exact absurd hd (by decide)),fun hi=>(by subst hi;exact absurd hd (by decide)),fun hi=>(by subst hi;exact absurd hd (by decide)),h.2.2.2.2.2⟩) (fun i=>([31,32,33,34,35,36,37,38,39,40,41,42,43] :List Nat).getD i 0) ?inj ?step ?last
 case g0=>exact HG0.o
 case inj=>
  intro i j hi hj h;have hI:i=0∨i=1∨i=2∨i=3∨i=4∨i=5∨i=6∨i=7∨i=8∨i=9∨i=10∨i=11∨i=12:=by omega
  have hJ:j=0∨j=1∨j=2∨j=3∨j=4∨j=5∨j=6∨j=7∨j=8∨j=9∨j=10∨j=11∨j=12:=by omega
  rcases hI with rfl|rfl|rfl|rfl|rfl|rfl|rfl|rfl|rfl|rfl|rfl|rfl|rfl<;>rcases hJ with rfl|rfl|rfl|rfl|rfl|rfl|rfl|rfl|rfl|rfl|rfl|rfl|rfl<;>first|rfl| (exact absurd h (by decide))
 case last=>
  intro s x hv hgt;have HG:=ai hgt;clear hgt;have z0:s 31 = .pointer (some ⟨cx,1,none⟩):=by have h:=(hv 0 (by decide)).2.2.2.2.2 (by decide) (by decide) (by decide) (by decide) (by decide);injection h with h;exact h.symm
  have z1:s 32=lc:=by have h:=(hv 1 (by decide)).2.2.2.2.2 (by decide) (by decide) (by decide) (by decide) (by decide);injection h with h;exact h.symm
  have z2:s 33 = .int .i64 2:=by have h:=(hv 2 (by decide)).2.2.2.2.2 (by decide) (by decide) (by decide) (by decide) (by decide);injection h with h;exact h.symm
  have z3:s 34 = .int .i64 99:=by have h:=(hv 3 (by decide)).2.2.2.2.2 (by decide) (by decide) (by decide) (by decide) (by decide);injection h with h;exact h.symm
  have z4:s 35 = .int .u8 99:=by have h:=(hv 4 (by decide)).2.2.2.2.2 (by decide) (by decide) (by decide) (by decide) (by decide);injection h with h;exact h.symm
  obtain⟨b5,hz5,hg5_0,hg5_1⟩:=(hv 5 (by decide)).1 rfl
  have z5:s 36 = .slice (some ⟨b5,0,none⟩) 1 1:=hz5;clear hz5;have z6:s 37 = .string ⟨#[99]⟩:=by have h:=(hv 6 (by decide)).2.2.2.2.2 (by decide) (by decide) (by decide) (by decide) (by decide);injection h with h;exact h.symm
  have z7:s 38 = .string (cnm 99):=by have h:=(hv 7 (by decide)).2.2.2.2.2 (by decide) (by decide) (by decide) (by decide) (by decide);injection h with h;exact h.symm
  have z8:s 39 = .pointer (some ⟨b,0,none⟩):=by have h:=(hv 8 (by decide)).2.2.2.2.2 (by decide) (by decide) (by decide) (by decide) (by decide);injection h with h;exact h.symm
  obtain⟨b9,hz9,hg9_0,hg9_1⟩:=(hv 9 (by decide)).2.1 rfl
  have z9:s 40 = .slice (some ⟨b9,0,none⟩) 3 3:=hz9;clear hz9;obtain⟨t10,hz10,hg10_0⟩:=(hv 10 (by decide)).2.2.1 rfl
  have z10:s 41 = .int .i64 t10:=hz10;clear hz10;obtain⟨t11,hz11,hg11_0⟩:=(hv 11 (by decide)).2.2.2.1 rfl
  have z11:s 42 = .agg #[.string (cnm 99),.int .i64 t11,.bool false]:=hz11;clear hz11;obtain⟨b12,t12,hz12,hg12_0,hg12_1⟩:=(hv 12 (by decide)).2.2.2.2.1 rfl
  have z12:s 43 = .slice (some ⟨b12,0,none⟩) 1 1:=hz12;clear hz12;clear hv;obtain⟨i0,hi,hz0,hz1,hz2⟩:=info_parts info_col3;have HH:=ai HG.o.pt;rw [if_pos rfl]at HH
  show Oper.wp _ _ _ _ _ _
  refine wp_append_own x _ _ 73 rfl B1 72 i0 (.agg #[.string ⟨#[]⟩,.int .i64 0,.bool false]) 3 32 Tryz.underlying73 hi hz0 hz1 hz2 rfl (by decide) lc cols.length _ (by show s 32=_;exact z1) HH.o.oc ⟨b12,0,none⟩ 1 1 [.string (cnm 99),.int .i64 t12,.bool false] (by show s 43=_;exact z12) rfl (box_cells hg12_0) col_one (by have:=HCU.o;unfold maxLen;omega) (by have:=HCU.o;omega) (Nat.le_trans HH.o.cl (Nat.le_of_lt HH.o.bx.lt)) ?_
  intro v2 y2 hown hgr _;obtain⟨g4,cap4,rfl⟩:=ownsRow_succ hown;obtain⟨hA,hbl⟩:=HH.o.app (c:=⟨cnm 99,t12,false⟩) hgr hown
  have HS:=ai hA;have k1:=hbl.cell (j:=1) rfl
  have f1:=hbl.fr 1;clear hown hgr hi hz0 hz1 hz2 hg12_0 hg5_0 hg9_0 hA hbl
  show Oper.wp _ _ _ _ _ _
  refine opwp_K (fun K2 hK2=> ?_)
  go_simp
  refine hK2 _ _ ?_
  show Oper.wp _ _ _ _ _ _
  clear hK2;refine opwp_K (fun K3 hK3=> ?_)
  go_simp
  refine hK3 _ _ ?_
  have h:=hend b5 b9 t10 t11 b12 t12 g4 cap4 _ HS.o hg12_1
  show Q _ _ _
  first|exact h| (simp only [z0,z1,z2,z3,z4,z5,z6,z7,z8,z9,z10,z11,z12];exact h)
 case step=>
  intro i o s x hin ho he bb hgb hbf hbt;have HG:=ai hgb;clear hgb;have hcase:i=0∨i=1∨i=2∨i=3∨i=4∨i=5∨i=6∨i=7∨i=8∨i=9∨i=10∨i=11∨i=12:=by omega
  rcases hcase with rfl|rfl|rfl|rfl|rfl|rfl|rfl|rfl|rfl|rfl|rfl|rfl|rfl
  ·injection ho with ho
   subst ho;clear he hbf hbt;refine opwp_K (fun K2 hK2=> ?_)
   go_simp
   exact hK2 _ _ ⟨(.pointer (some ⟨cx,1,none⟩)),(by first|rfl| (simp [List.getD];done)),sI_ne (by decide) (Below.refl _ _),gIf_ne (G:=PG w b L a tabs tv B1 cx nm cols lc pg) (by decide) HG.o,⟨fun h=>absurd h (by decide),fun h=>absurd h (by decide),fun h=>absurd h (by decide),fun h=>absurd h (by decide),fun h=>absurd h (by decide),fun _ _ _ _ _=>rfl⟩⟩
  ·injection ho with ho
   subst ho;have z0:s 31 = .pointer (some ⟨cx,1,none⟩):=by have h:=(he ⟨0,.data⟩ (by simp) rfl).2.2.2.2.2 (by decide) (by decide) (by decide) (by decide) (by decide);injection h with h;exact h.symm
   clear he hbf hbt;have k1:=HG.o.pt.bx.cell (j:=1) rfl
   refine opwp_K (fun K2 hK2=> ?_)
   go_simp
   exact hK2 _ _ ⟨(lc),(by first|rfl| (simp [z0];done)),sI_ne (by decide) (Below.refl _ _),gIf_ne (G:=PG w b L a tabs tv B1 cx nm cols lc pg) (by decide) HG.o,⟨fun h=>absurd h (by decide),fun h=>absurd h (by decide),fun h=>absurd h (by decide),fun h=>absurd h (by decide),fun h=>absurd h (by decide),fun _ _ _ _ _=>rfl⟩⟩
  ·injection ho with ho
   subst ho;clear he hbf hbt;refine opwp_K (fun K2 hK2=> ?_)
   go_simp
   exact hK2 _ _ ⟨(.int .i64 2),(by first|rfl| (simp [List.getD];done)),sI_ne (by decide) (Below.refl _ _),gIf_ne (G:=PG w b L a tabs tv B1 cx nm cols lc pg) (by decide) HG.o,⟨fun h=>absurd h (by decide),fun h=>absurd h (by decide),fun h=>absurd h (by decide),fun h=>absurd h (by decide),fun h=>absurd h (by decide),fun _ _ _ _ _=>rfl⟩⟩
  ·injection ho with ho
   subst ho;have z2:s 33 = .int .i64 2:=by have h:=(he ⟨2,.data⟩ (by simp) rfl).2.2.2.2.2 (by decide) (by decide) (by decide) (by decide) (by decide);injection h with h;exact h.symm
   clear he hbf hbt;have hw:IntKind.i64.wrap 99=99:=by rw [IntKind.wrap_i64];omega
   refine opwp_K (fun K2 hK2=> ?_)
   go_simp
   exact hK2 _ _ ⟨(.int .i64 99),(by first|rfl| (simp [z2,hw];done)),sI_ne (by decide) (Below.refl _ _),gIf_ne (G:=PG w b L a tabs tv B1 cx nm cols lc pg) (by decide) HG.o,⟨fun h=>absurd h (by decide),fun h=>absurd h (by decide),fun h=>absurd h (by decide),fun h=>absurd h (by decide),fun h=>absurd h (by decide),fun _ _ _ _ _=>rfl⟩⟩
  ·injection ho with ho
   subst ho;have z3:s 34 = .int .i64 99:=by have h:=(he ⟨3,.data⟩ (by simp) rfl).2.2.2.2.2 (by decide) (by decide) (by decide) (by decide) (by decide);injection h with h;exact h.symm
   clear he hbf hbt;have hw:IntKind.u8.wrap 99=99:=by decide
   refine opwp_K (fun K2 hK2=> ?_)
   go_simp
   exact hK2 _ _ ⟨(.int .u8 99),(by first|rfl| (simp [z3,hw];done)),sI_ne (by decide) (Below.refl _ _),gIf_ne (G:=PG w b L a tabs tv B1 cx nm cols lc pg) (by decide) HG.o,⟨fun h=>absurd h (by decide),fun h=>absurd h (by decide),fun h=>absurd h (by decide),fun h=>absurd h (by decide),fun h=>absurd h (by decide),fun _ _ _ _ _=>rfl⟩⟩
  ·injection ho with ho
   subst ho;have z4:s 35 = .int .u8 99:=by have h:=(he ⟨4,.data⟩ (by simp) rfl).2.2.2.2.2 (by decide) (by decide) (by decide) (by decide) (by decide);injection h with h;exact h.symm
   clear he hbf hbt;have HBZ:=ai HG.o.pt.ps.tp.lt;refine opwp_K (fun K2 hK2=> ?_)
   go_simp
   exact hK2 _ _ ⟨_,(by first|rfl| (simp [z4];done)),sI_ne (by decide) (belA _),gIf_ne (G:=PG w b L a tabs tv B1 cx nm cols lc pg) (by decide) (HG.o.below (belA _)),⟨fun _=>⟨_,rfl,Box.new _ _ _,by have:=HBZ.o;omega⟩,fun h=>absurd h (by decide),fun h=>absurd h (by decide),fun h=>absurd h (by decide),fun h=>absurd h (by decide),fun h _ _ _ _=>absurd rfl h⟩⟩
  ·injection ho with ho
   subst ho;obtain⟨b5,hz5,hg5_0,hg5_1⟩:=(he ⟨5,.data⟩ (by simp) rfl).1 rfl
   have z5:s 36 = .slice (some ⟨b5,0,none⟩) 1 1:=hz5;clear hz5;clear he hbf hbt;have hcv:=conv1 (c:=99) hg5_0
   clear hg5_0;refine opwp_K (fun K2 hK2=> ?_)
   go_simp
   exact hK2 _ _ ⟨(.string ⟨#[99]⟩),(by first|rfl| (simp [z5];done)),sI_ne (by decide) (Below.refl _ _),gIf_ne (G:=PG w b L a tabs tv B1 cx nm cols lc pg) (by decide) HG.o,⟨fun h=>absurd h (by decide),fun h=>absurd h (by decide),fun h=>absurd h (by decide),fun h=>absurd h (by decide),fun h=>absurd h (by decide),fun _ _ _ _ _=>rfl⟩⟩
  ·injection ho with ho
   subst ho;have z6:s 37 = .string ⟨#[99]⟩:=by have h:=(he ⟨6,.data⟩ (by simp) rfl).2.2.2.2.2 (by decide) (by decide) (by decide) (by decide) (by decide);injection h with h;exact h.symm
   clear he hbf hbt;have hsz: ((⟨#[99]⟩ :ByteArray) ++ ⟨#[99]⟩).size=2:=rfl;refine opwp_K (fun K2 hK2=> ?_)
   go_simp
   exact hK2 _ _ ⟨(.string (cnm 99)),(by first|rfl| (simp [z6,cnm];done)),sI_ne (by decide) (Below.refl _ _),gIf_ne (G:=PG w b L a tabs tv B1 cx nm cols lc pg) (by decide) HG.o,⟨fun h=>absurd h (by decide),fun h=>absurd h (by decide),fun h=>absurd h (by decide),fun h=>absurd h (by decide),fun h=>absurd h (by decide),fun _ _ _ _ _=>rfl⟩⟩
  ·injection ho with ho
   subst ho;clear he hbf hbt;refine opwp_K (fun K2 hK2=> ?_)
   go_simp
   exact hK2 _ _ ⟨(.pointer (some ⟨b,0,none⟩)),(by first|rfl| (simp [List.getD];done)),sI_ne (by decide) (Below.refl _ _),gIf_ne (G:=PG w b L a tabs tv B1 cx nm cols lc pg) (by decide) HG.o,⟨fun h=>absurd h (by decide),fun h=>absurd h (by decide),fun h=>absurd h (by decide),fun h=>absurd h (by decide),fun h=>absurd h (by decide),fun _ _ _ _ _=>rfl⟩⟩
  ·injection ho with ho
   subst ho;clear he hbf hbt;have HBZ:=ai HG.o.pt.ps.tp.lt;refine opwp_K (fun K2 hK2=> ?_)
   go_simp
   exact hK2 _ _ ⟨_,(by first|rfl| (simp [List.getD];done)),sI_ne (by decide) (belA _),gIf_ne (G:=PG w b L a tabs tv B1 cx nm cols lc pg) (by decide) (HG.o.below (belA _)),⟨fun h=>absurd h (by decide),fun _=>⟨_,rfl,Box.new _ _ _,by have:=HBZ.o;omega⟩,fun h=>absurd h (by decide),fun h=>absurd h (by decide),fun h=>absurd h (by decide),fun _ h _ _ _=>absurd rfl h⟩⟩
  ·injection ho with ho
   subst ho;have z8:s 39 = .pointer (some ⟨b,0,none⟩):=by have h:=(he ⟨8,.data⟩ (by simp) rfl).2.2.2.2.2 (by decide) (by decide) (by decide) (by decide) (by decide);injection h with h;exact h.symm
   obtain⟨b9,hz9,hg9_0,hg9_1⟩:=(he ⟨9,.data⟩ (by simp) rfl).2.1 rfl
   have z9:s 40 = .slice (some ⟨b9,0,none⟩) 3 3:=hz9;clear hz9;obtain rfl:bb=false:=hbf rfl;clear he hbf hbt;have HQ:=ai HG.o.pt;rw [if_neg (by decide)]at HQ
   have HIL:=ai (il_box (xs:= [1,1,3]) hg9_0 (by decide) (fun n hn=>by simp only [List.mem_cons,List.not_mem_nil,or_false]at hn;rcases hn with rfl|rfl|rfl<;>(constructor<;>decide)))
   have HBN:=ai hg9_1;clear hg9_0 hg9_1;refine opwp_K (fun K2 hK2=> ?_)
   go_simp
   go_at_call 39
   refine(pick_any x b a L ⟨⟨some ⟨b9,0,none⟩,3⟩,[1,1,3]⟩ HQ.o.ps.tp (by have:=HA.o;omega) HIL.o (by show 0<3;decide) HBN.o).mono ?_
   rintro e y ⟨⟨k,hk,_,rfl⟩,h1,h2⟩;have hm:=List.getElem_mem hk;generalize ([1,1,3] :List Int)[k] =tt at *;have hm:tt=1∨tt=3:=by simp only [List.mem_cons,List.not_mem_nil,or_false]at hm;omega
   go_simp
   have hp:=HQ.o.tape h2 h1;exact hK2 _ _ ⟨_,(by first|rfl| (simp [z8,z9];done)),sI_eq rfl (h2),gIf_eq (G:=PG w b L a tabs tv B1 cx nm cols lc pg) (⟨by rw [if_pos rfl];exact hp⟩),⟨fun h=>absurd h (by decide),fun h=>absurd h (by decide),fun _=>⟨tt,rfl,hm⟩,fun h=>absurd h (by decide),fun h=>absurd h (by decide),fun _ _ h _ _=>absurd rfl h⟩⟩
  ·injection ho with ho
   subst ho;have z7:s 38 = .string (cnm 99):=by have h:=(he ⟨7,.data⟩ (by simp) rfl).2.2.2.2.2 (by decide) (by decide) (by decide) (by decide) (by decide);injection h with h;exact h.symm
   obtain⟨t10,hz10,hg10_0⟩:=(he ⟨10,.data⟩ (by simp) rfl).2.2.1 rfl
   have z10:s 41 = .int .i64 t10:=hz10;clear hz10;obtain rfl:bb=true:=hbt ⟨⟨10,.data⟩,by simp,rfl,rfl⟩
   clear he hbf hbt;refine opwp_K (fun K2 hK2=> ?_)
   go_simp
   exact hK2 _ _ ⟨_,(by first|rfl| (simp [z7,z10];done)),sI_ne (by decide) (Below.refl _ _),gIf_ne (G:=PG w b L a tabs tv B1 cx nm cols lc pg) (by decide) HG.o,⟨fun h=>absurd h (by decide),fun h=>absurd h (by decide),fun h=>absurd h (by decide),fun _=>⟨t10,rfl,hg10_0⟩,fun h=>absurd h (by decide),fun _ _ _ h _=>absurd rfl h⟩⟩
  ·injection ho with ho
   subst ho;obtain⟨t11,hz11,hg11_0⟩:=(he ⟨11,.data⟩ (by simp) rfl).2.2.2.1 rfl
   have z11:s 42 = .agg #[.string (cnm 99),.int .i64 t11,.bool false]:=hz11;clear hz11;clear he hbf hbt;refine opwp_K (fun K2 hK2=> ?_)
   go_simp
   exact hK2 _ _ ⟨_,(by first|rfl| (simp [z11];done)),sI_ne (by decide) (belA _),gIf_ne (G:=PG w b L a tabs tv B1 cx nm cols lc pg) (by decide) (HG.o.below (belA _)),⟨fun h=>absurd h (by decide),fun h=>absurd h (by decide),fun h=>absurd h (by decide),fun h=>absurd h (by decide),fun _=>⟨_,t11,rfl,Box.new _ _ _,hg11_0⟩,fun _ _ _ _ h=>absurd rfl h⟩⟩
end Go.Proofs.YtiijaaohphokcaaGreatDoor
/- The names that querylabfield.Plain gives; the schema that it makes is plain. -/
namespace Go.Proofs.YtiijaaohphokcaaGreatDoor
open Go.RowKit
theorem name1_ok (a:UInt8) (h0:lett (a.toNat:Int) =true∧vch (a.toNat:Int) =true) (hn : [a] ∉ words) :IsName ⟨#[a]⟩:=
 ⟨by show 1≤1;decide,by show 1≤16;decide,fun _=>h0.1,fun j h=>by
  have hj:j=0:=by have h:j<1:=h;omega
  subst hj;exact h0.2,fun h=>hn (mem_words.2 h)⟩
theorem name2_ok (a c:UInt8) (h0:lett (a.toNat:Int) =true∧vch (a.toNat:Int) =true) (h2:vch (c.toNat:Int) =true) (hn : [a,c] ∉ words) :IsName ⟨#[a,c]⟩:=
 ⟨by show 1≤2;decide,by show 2≤16;decide,fun _=>h0.1,fun j h=>by
  have hj:j=0∨j=1:=by have h:j<2:=h;omega
  rcases hj with rfl|rfl
  ·exact h0.2
  ·exact h2,fun h=>hn (mem_words.2 h)⟩
theorem isname_k:IsName ⟨#[107]⟩:=name1_ok 107 (by decide) (by decide)
theorem isname_cb:IsName (cnm 98):=name2_ok 99 98 (by decide) (by decide) (by decide)
theorem isname_cc:IsName (cnm 99):=name2_ok 99 99 (by decide) (by decide) (by decide)
def tnm (c:UInt8) :ByteArray:=(⟨#[112]⟩ :ByteArray) ++ ⟨#[c]⟩
theorem isname_pa:IsName (tnm 97):=name2_ok 112 97 (by decide) (by decide) (by decide)
theorem isname_pb:IsName (tnm 98):=name2_ok 112 98 (by decide) (by decide) (by decide)
def colNames (n kk:Nat) :List ByteArray:=⟨#[107]⟩ :: ((List.range (n - kk)).map fun i=>if n - i=1 then cnm 98 else cnm 99)
theorem colNames_step {n kk:Nat} (h1:1≤kk) (h2:kk≤n) :colNames n (kk - 1) =colNames n kk ++ [if kk=1 then cnm 98 else cnm 99]:=by
 unfold colNames
 rw [show n - (kk - 1) = (n - kk) +1 by omega,List.range_succ,List.map_append,List.cons_append]
 simp only [List.map_cons,List.map_nil];rw [show n - (n - kk) =kk by omega]
theorem fi_names {α:Type} {nm:α→ByteArray} {p:ByteArray→α→Bool} (hp: ∀t x,p t x= ((nm x).toList == t.toList)) {xs:List α} (hd: (xs.map fun x=>(nm x).data.toList).Nodup) : ∀j (h:j<xs.length),fi (p (nm (xs[j]'h))) xs=j:=fun j h=>by
 refine(fi_hit h ?_ (fun i hi hij=> ?_)).1
 ·rw [hp];exact beq_self_eq_true _
 ·rw [hp]
  refine beq_eq_false_iff_ne.2 (fun e=> ?_)
  rw [ByteArray.toList_eq,ByteArray.toList_eq]at e;have h1:i< (xs.map fun x=>(nm x).data.toList).length:=by simpa using hi
  have h2:j< (xs.map fun x=>(nm x).data.toList).length:=by simpa using h
  have h3: (xs.map fun x=>(nm x).data.toList)[i] = (xs.map fun x=>(nm x).data.toList)[j]:=by rw [List.getElem_map,List.getElem_map];exact e
  have h6:=List.Nodup.idxOf_getElem hd i h1;have h7:=List.Nodup.idxOf_getElem hd j h2;rw [h3,h7]at h6;omega
def ColP (n kk:Nat) (cols:List Col) :Prop:=cols.map Col.name=colNames n kk∧∀c∈cols,(c.typ=1∨c.typ=3)∧c.nul=false
theorem ColP.start (n:Nat) :ColP n n [⟨⟨#[107]⟩,1,false⟩]:=⟨by unfold colNames;rw [Nat.sub_self];rfl,fun c hc=>by rw [List.mem_singleton.1 hc];exact⟨.inl rfl,rfl⟩⟩
theorem ColP.step {n kk:Nat} {cols:List Col} (h:ColP n kk cols) (h1:1≤kk) (h2:kk≤n) {t:Int} (ht:t=1∨t=3) :ColP n (kk - 1) (cols ++ [⟨if kk=1 then cnm 98 else cnm 99,t,false⟩]):=by
 refine⟨by rw [List.map_append,h.1,colNames_step h1 h2];rfl,fun c hc=> ?_⟩
 rcases List.mem_append.1 hc with hc|hc
 ·exact h.2 c hc
 ·rw [List.mem_singleton.1 hc];exact⟨ht,rfl⟩
theorem ColP.len {n kk:Nat} {cols:List Col} (h:ColP n kk cols) :cols.length=n - kk+1:=by
 have:=congrArg List.length h.1
 unfold colNames at this
 simpa using this
theorem ColP.wf {n kk:Nat} {cols:List Col} (h:ColP n kk cols) (hn:n≤2) : ∀c∈cols,c.wf∧IsName c.name:=fun c hc=>by
 have hm:c.name∈colNames n kk:=by rw [←h.1];exact List.mem_map_of_mem hc
 have hnm:c.name= ⟨#[107]⟩∨c.name=cnm 98∨c.name=cnm 99:=by
  unfold colNames at hm
  rcases List.mem_cons.1 hm with hm|hm
  ·exact .inl hm
  ·obtain⟨i,_,hi⟩:=List.mem_map.1 hm
   right
   by_cases e:n - i=1
   ·rw [if_pos e]at hi;exact .inl hi.symm
   ·rw [if_neg e]at hi;exact .inr hi.symm
 have hin:IsName c.name:=by
  rcases hnm with e|e|e<;>rw [e]
  ·exact isname_k
  ·exact isname_cb
  ·exact isname_cc
 refine⟨?_,hin⟩
 have ht:=(h.2 c hc).1;have h64:int64 c.typ:=by rcases ht with e|e<;>rw [e]<;>(constructor<;>decide)
 exact⟨Nat.le_trans hin.hi (by unfold maxLen;omega),h64⟩
theorem ColP.pcols {n:Nat} {cols:List Col} (h:ColP n 0 cols) (hn:n≤2) :PCols cols:=by
 have hl:=h.len;refine⟨by omega,by omega,fun c hc=>(h.wf hn c hc).2,fun c hc=>(h.2 c hc).1,fun c hc=>(h.2 c hc).2,fi_names (nm:=Col.name) (fun _ _=>rfl) ?_⟩
 have e: (cols.map fun x=>x.name.data.toList) = (colNames n 0).map fun s=>s.data.toList:=by rw [←h.1,List.map_map];rfl
 rw [e];have hc:n=0∨n=1∨n=2:=by omega
 rcases hc with rfl|rfl|rfl<;>decide
def TabP (i:Nat) (t:Tab) :Prop:=t.name=tnm (if i=0 then 97 else 98)∧∃n,n≤2∧ColP n 0 t.cols
def TabsP (tabs:List Tab) :Prop:=∀i (h:i<tabs.length),TabP i (tabs[i]'h)
theorem TabsP.snoc {tabs:List Tab} {t:Tab} (h:TabsP tabs) (ht:TabP tabs.length t) :TabsP (tabs ++ [t]):=fun i hi=>by
 by_cases e:i<tabs.length
 ·rw [List.getElem_append_left e];exact h i e
 ·have:i=tabs.length:=by rw [List.length_append]at hi;simp only [List.length_cons,List.length_nil]at hi;omega
  subst this;rw [List.getElem_append_right (Nat.le_refl _)]
  simpa using ht
theorem plain_psch {w z:World} {B1:Nat} {s:Sch} (h1:1≤s.tabs.length∧s.tabs.length≤2) (hf: ∀t∈s.tabs,FinT w B1 z t) (hp:TabsP s.tabs) :PSch s∧∀t∈s.tabs,t.cols.length≤3:=by
 refine⟨⟨by omega,by omega,fun t ht=> ?_,fi_names (nm:=Tab.name) (fun _ _=>rfl) ?_⟩,fun t ht=> ?_⟩
 ·obtain⟨i,hi,rfl⟩:=List.getElem_of_mem ht
  obtain⟨e,n,hn,hc⟩:=hp i hi;refine⟨_,_,_,_,(hf _ ht).eq,?_,hc.pcols hn⟩
  rw [e]
  split
  ·exact isname_pa
  ·exact isname_pb
 ·obtain⟨th,tabs⟩:=s
  have hc:tabs.length=1∨tabs.length=2:=by have:1≤tabs.length∧tabs.length≤2:=h1;omega
  rcases hc with hc|hc
  ·obtain⟨t0,rfl⟩:=List.length_eq_one_iff.1 hc
   simp
  ·obtain⟨t0,t1,rfl⟩ : ∃t0 t1,tabs = [t0,t1]:=by
    match tabs,hc with
    | [t0,t1],_=>exact⟨t0,t1,rfl⟩
   have e0:t0.name=tnm 97:=(hp 0 (by simp)).1
   have e1:t1.name=tnm 98:=(hp 1 (by simp)).1
   show([t0.name.data.toList,t1.name.data.toList]).Nodup
   rw [e0,e1]
   decide
 ·obtain⟨i,hi,rfl⟩:=List.getElem_of_mem ht
  obtain⟨_,n,hn,hc⟩:=hp i hi;have:=hc.len;omega
theorem fin_in {w z:World} {B1:Nat} {t:Tab} (h:FinT w B1 z t) :t.In z:=by
 have e:=h.eq;have hp:t.prim= ⟨t.prim.h,[0]⟩:=by have:=congrArg Tab.prim e;exact this
 have h1:t.uniqs = []:=congrArg Tab.uniqs e;have h2:t.fors = []:=congrArg Tab.fors e;have h3:t.checks = []:=congrArg Tab.checks e;have h4:t.uh=nilHd:=congrArg Tab.uh e;have h5:t.fh=nilHd:=congrArg Tab.fh e;have h6:t.kh=nilHd:=congrArg Tab.kh e;refine⟨Nat.le_trans h.nm (by unfold maxLen;omega),h.rc,h.wf,by rw [hp];exact h.pr,?_,?_,?_,?_,?_,?_⟩
 ·rw [h1,h4];exact Row.nil _ _ _
 ·rw [h1];exact fun _ h=>absurd h List.not_mem_nil
 ·rw [h2,h5];exact Row.nil _ _ _
 ·rw [h2];exact fun _ h=>absurd h List.not_mem_nil
 ·rw [h3,h6];exact Row.nil _ _ _
 ·rw [h3];exact fun _ h=>absurd h List.not_mem_nil
end Go.Proofs.YtiijaaohphokcaaGreatDoor
/- querylabfield.Plain: its walk. -/
namespace Go.Proofs.YtiijaaohphokcaaGreatDoor
open Go.RowKit
def PlPost (w:World) (b:Nat) (L:IL) (a:Nat) (e:Ending) (w':World) :Prop:=∃(s:Sch) (a':Nat),e = .returned (.agg #[.slice s.th.ao s.tabs.length s.th.cap])∧(∀z,w'.grownBy z (some b)→s.In z)∧PSch s∧(∀t∈s.tabs,t.cols.length≤3)∧TapeIn w' b L a'∧a'≤a+20∧w.grownBy w' (some b)
theorem own_of_box {z:World} {g base n size:Nat} {cs:Array Value} {e:TypeId} (h:Box z g cs e) (hb:base≤g) (hs:cs.size=n*size) (hn:n≤maxLen) :z.ownsRow base e size (.slice (some ⟨g,0,none⟩) n n) n cs.toList:=
 ⟨by rw [Array.length_toList];exact hs,.inr ⟨g,n,cs,rfl,hb,h,Nat.le_refl _,hn,hs,by rw [←hs,←Array.length_toList,List.take_length]⟩⟩
theorem info_tab6: (Tryz.prog.info? 78).map (fun i=>(i.zero,i.size,i.bytes)) =some (some (.agg #[.string ⟨#[]⟩,.slice none 0 0,.slice none 0 0,.slice none 0 0,.slice none 0 0,.slice none 0 0]),6,136):=by kernel_rfl
theorem tab_one {a:ByteArray} {b c d e f:Option Addr×Nat×Nat} : ∀u∈ [Value.string a,.slice b.1 b.2.1 b.2.2,.slice c.1 c.2.1 c.2.2,.slice d.1 d.2.1 d.2.2,.slice e.1 e.2.1 e.2.2,.slice f.1 f.2.1 f.2.2],u.oneCell'=true:=fun u hu=>by
 simp only [List.mem_cons,List.not_mem_nil,or_false]at hu;rcases hu with rfl|rfl|rfl|rfl|rfl|rfl<;>rfl
theorem PSt.rebase {w z:World} {b a B1 B2:Nat} {L:IL} {tabs:List Tab} {tv:Value} (h:PSt w b L a tabs tv B1 z) (hB:z.heap.size≤B2) :PSt w b L a tabs tv B2 z:=⟨h.gb,h.ll,h.tp,h.br,h.bs,h.ot,fun t ht=>⟨(h.fin t ht).eq,(h.fin t ht).rc,(h.fin t ht).pr,(h.fin t ht).tc,(h.fin t ht).tp,(h.fin t ht).gc,(h.fin t ht).gp,Nat.lt_of_lt_of_le (h.fin t ht).tc.lt hB,Nat.lt_of_lt_of_le (h.fin t ht).tp.lt hB,(h.fin t ht).wf,(h.fin t ht).nm⟩,Nat.le_trans (Nat.le_of_lt h.br.lt) hB⟩
theorem PT.done {w z y:World} {b a B1 cx pg:Nat} {L:IL} {tabs:List Tab} {tv:Value} {nm:ByteArray} {cols:List Col} {chd:Hd} {v2:Value} {n:Nat} (h:PT w b L a tabs tv B1 cx nm cols (.slice chd.ao cols.length chd.cap) pg z) (hc:ColP n 0 cols) (hn:n≤2) (hnm:nm.size≤1000)
  (hg:z.grownBy y tv.ownBlock) (ho:y.ownsRow w.heap.size 78 6 v2 (tabs.length+1) (tabs.flatMap Tab.cells ++ Tab.cells (pt nm chd cols ⟨some ⟨pg,0,none⟩,1⟩))) :
  PSt w b L a (tabs ++ [pt nm chd cols ⟨some ⟨pg,0,none⟩,1⟩]) v2 (y.setCell ⟨w.heap.size+1,0,none⟩ v2).heap.size (y.setCell ⟨w.heap.size+1,0,none⟩ v2)∧Box y (w.heap.size+1) #[tv] 27:=by
 have hl:=h.ps.ll;have hlo:=h.ps.lo;have hgl:=h.gl;have htv: ∀ {g T},TyAt z g T→78≠T→tv.ownBlock≠some g:=fun ht hne e=>(TyAt.own h.ps.ot e).ne ht hne rfl
 have key: ∀g T,TyAt z g T→78≠T→y.heap[g]? = z.heap[g]? :=fun g T ht hne=>hg.block g ht.lt (fun e=>htv ht hne e.symm)
 have htp:TapeIn y b L a:=by
  cases hv:tv.ownBlock with
  | none=>rw [hv]at hg;exact h.ps.tp.mono ⟨hg.os,hg.tape,hg.output,hg.size,fun i hi=>hg.block i hi (by simp)⟩
  | some j=>rw [hv]at hg;exact tz2 h.ps.tp hg hl (h.ps.ot.lt j hv).1
 have hgb:w.grownBy y (some b):=h.ps.gb.andThen hg (fun j e=>.inl (h.ps.ot.lt j e).1)
 have hbs:=(key _ _ (TyAt.box h.ps.bs) (by decide)).trans h.ps.bs
 have hs:=gb_set y (w.heap.size+1) 0 v2;have key2: ∀g T,TyAt z g T→78≠T→g≠w.heap.size+1→(y.setCell ⟨w.heap.size+1,0,none⟩ v2).heap[g]? = z.heap[g]? :=fun g T ht hne h1=>(hs.block g (Nat.lt_of_lt_of_le ht.lt hg.size) (by intro e;injection e with e;exact h1 e)).trans (key g T ht hne)
 obtain⟨chd2,e2,r2,o2⟩:=own_rowE (cells:=Col.cells) (fun _=>rfl) (by decide) h.oc
 have ehd:chd=chd2:=by
  obtain⟨a1,c1⟩:=chd;obtain⟨a2,c2⟩:=chd2;injection e2 with h1 _ h2;have h1:a1=a2:=h1;have h2:c1=c2:=h2;rw [h1,h2]
 subst ehd;have hpos:0<cols.length:=by have:=hc.len;omega
 obtain⟨ob1,ob2⟩:=o2 hpos;have hty:=TyAt.own h.oc ob2;have hsz:z.heap.size≤(y.setCell ⟨w.heap.size+1,0,none⟩ v2).heap.size:=Nat.le_trans hg.size hs.size;have hsb:=TyAt.box h.ps.bs;have hfin:FinT w (y.setCell ⟨w.heap.size+1,0,none⟩ v2).heap.size (y.setCell ⟨w.heap.size+1,0,none⟩ v2) (pt nm chd cols ⟨some ⟨pg,0,none⟩,1⟩):=by
  have hbp:=TyAt.box h.bp;have k1:=key2 _ _ hty (by decide) (hty.ne hsb (by decide))
  have k2:=key2 _ _ hbp (by decide) (hbp.ne hsb (by decide))
  exact⟨rfl,row_eqb r2 hsz k1,⟨row_eqb (il_box (xs:= [0]) h.bp (by decide) (fun n hn=>by rw [List.mem_singleton.1 hn];constructor<;>decide)).1 hsz k2,fun n hn=>by rw [List.mem_singleton.1 hn];constructor<;>decide⟩,hty.eqb k1,hbp.eqb k2,Nat.le_trans hlo ob1,Nat.le_trans hlo hgl,Nat.lt_of_lt_of_le hty.lt hsz,Nat.lt_of_lt_of_le hbp.lt hsz,fun c hc2=>(hc.wf hn c hc2).1,hnm⟩
 refine⟨⟨hgb.andThen hs (fun j e=>by injection e with e;left;omega),hl,tz2 htp hs hl (by omega),(key2 _ _ (TyAt.box h.ps.br) (by decide) (by omega)).trans h.ps.br,?_,?_,fun t ht=> ?_,Nat.le_trans hlo (by have h1:=h.cl;have h2:=h.bx.lt;omega)⟩,hbs⟩
 ·have:=Box.set hbs 0 v2
  simpa only [List.setIfInBounds_toArray,List.set_cons_zero,List.set_cons_succ]using this
 ·have e: (tabs ++ [pt nm chd cols ⟨some ⟨pg,0,none⟩,1⟩]).flatMap Tab.cells=tabs.flatMap Tab.cells ++ Tab.cells (pt nm chd cols ⟨some ⟨pg,0,none⟩,1⟩):=by rw [List.flatMap_append,List.flatMap_cons,List.flatMap_nil,List.append_nil]
  rw [e,List.length_append];exact ho.kept hs (.inr (fun e=>(TyAt.own ho e).ne (show TyAt y (w.heap.size+1) _ from TyAt.box hbs) (by decide) rfl))
 ·rcases List.mem_append.1 ht with ht|ht
  ·have h0:=h.ps.fin t ht
   have h1:=h0.eqb (y:=y.setCell ⟨w.heap.size+1,0,none⟩ v2) hsz (key2 _ _ h0.tc (by decide) (h0.tc.ne hsb (by decide))) (key2 _ _ h0.tp (by decide) (h0.tp.ne hsb (by decide)))
   exact⟨h1.eq,h1.rc,h1.pr,h1.tc,h1.tp,h1.gc,h1.gp,h1.tc.lt,h1.tp.lt,h1.wf,h1.nm⟩
  ·rw [List.mem_singleton.1 ht];exact hfin
end Go.Proofs.YtiijaaohphokcaaGreatDoor
/- querylabfield.Plain: its walk. -/
namespace Go.Proofs.YtiijaaohphokcaaGreatDoor
open Go.RowKit
theorem pl_stay {w wr:World} {b a B1:Nat} {L:IL} {tabs:List Tab} {ao:Option Addr} {cp:Nat} (h:PSt w b L a tabs (.slice ao tabs.length cp) B1 wr) (h1:0<tabs.length) {v:Value} : ∀z,(wr.setCell ⟨w.heap.size,0,none⟩ v).grownBy z (some b)→Sch.In z ⟨⟨ao,cp⟩,tabs⟩:=fun z hz=>by
 have hl:=h.ll.1;have hbr:=TyAt.box h.br;have hs:=gb_set wr w.heap.size 0 v;have key: ∀g T,TyAt wr g T→27≠T→w.heap.size≤g→z.heap[g]? = wr.heap[g]? :=fun g T ht hne hg=>(hz.block g (Nat.lt_of_lt_of_le ht.lt hs.size) (by intro e;injection e with e;omega)).trans (hs.block g ht.lt (by intro e;injection e with e;exact ht.ne hbr (fun e2=>hne e2.symm) e))
 have hsz:wr.heap.size≤z.heap.size:=Nat.le_trans hs.size hz.size;obtain⟨⟨ao2,cp2⟩,e1,r1,o1⟩:=own_rowE (cells:=Tab.cells) (fun _=>rfl) (by decide) h.ot
 injection e1 with k1 _ k2;have k1:ao=ao2:=k1;have k2:cp=cp2:=k2;subst k1;subst k2;obtain⟨ob1,ob2⟩:=o1 h1;refine⟨row_eqb r1 hsz (key _ _ (TyAt.own h.ot ob2) (by decide) ob1),fun t ht=> ?_⟩
 have hf:=h.fin t ht;exact fin_in (hf.eqb hsz (key _ _ hf.tc (by decide) hf.gc) (key _ _ hf.tp (by decide) hf.gp))
abbrev ptX (z:World) (c:UInt8) :World:=(((z.alloc (.cells #[.int .u8 (c.toNat:Int)] 5)).alloc (.cells #[.string ⟨#[107]⟩,.int .i64 1,.bool false] 72)).alloc (.cells #[.int .i64 0] 3)).alloc (.cells #[.string (tnm c),.slice (some ⟨z.heap.size+1,0,none⟩) 1 1,.slice (some ⟨z.heap.size+1+1,0,none⟩) 1 1,.slice none 0 0,.slice none 0 0,.slice none 0 0] 78)
theorem pt_start {w z:World} {b a B1:Nat} {L:IL} {tabs:List Tab} {tv:Value} (h:PSt w b L a tabs tv B1 z) (c:UInt8) :PT w b L a tabs tv z.heap.size (z.heap.size+1+1+1) (tnm c) [⟨⟨#[107]⟩,1,false⟩] (.slice (some ⟨z.heap.size+1,0,none⟩) 1 1) (z.heap.size+1+1) (ptX z c):=by
 have hb1:=h.bs.lt;have hps:=h.rebase (Nat.le_refl z.heap.size);have hnt:tv.ownBlock≠some (z.heap.size+1+1+1):=fun e=>by have:=(h.ot.lt _ e).2;omega
 unfold ptX
 have l1:=belA (w:=z) (.cells #[.int .u8 (c.toNat:Int)] 5)
 have s1:=World.size_alloc z (.cells #[.int .u8 (c.toNat:Int)] 5);generalize z.alloc (.cells #[.int .u8 (c.toNat:Int)] 5) =z1 at *;have b2:=Box.new z1 #[.string ⟨#[107]⟩,.int .i64 1,.bool false] 72;have l2:=belA (w:=z1) (.cells #[.string ⟨#[107]⟩,.int .i64 1,.bool false] 72)
 have s2:=World.size_alloc z1 (.cells #[.string ⟨#[107]⟩,.int .i64 1,.bool false] 72);generalize z1.alloc (.cells #[.string ⟨#[107]⟩,.int .i64 1,.bool false] 72) =z2 at *;have b3:=Box.new z2 #[.int .i64 0] 3;have l3:=belA (w:=z2) (.cells #[.int .i64 0] 3)
 have s3:=World.size_alloc z2 (.cells #[.int .i64 0] 3);generalize z2.alloc (.cells #[.int .i64 0] 3) =z3 at *;have b4:=Box.new z3 #[.string (tnm c),.slice (some ⟨z.heap.size+1,0,none⟩) 1 1,.slice (some ⟨z.heap.size+1+1,0,none⟩) 1 1,.slice none 0 0,.slice none 0 0,.slice none 0 0] 78;have l4:=belA (w:=z3) (.cells #[.string (tnm c),.slice (some ⟨z.heap.size+1,0,none⟩) 1 1,.slice (some ⟨z.heap.size+1+1,0,none⟩) 1 1,.slice none 0 0,.slice none 0 0,.slice none 0 0] 78)
 generalize z3.alloc (.cells #[.string (tnm c),.slice (some ⟨z.heap.size+1,0,none⟩) 1 1,.slice (some ⟨z.heap.size+1+1,0,none⟩) 1 1,.slice none 0 0,.slice none 0 0,.slice none 0 0] 78) =z4 at *;rw [s3,s2,s1]at b4;rw [s2,s1]at b3;rw [s1]at b2;have hb:=bT l1 (bT l2 (bT l3 l4));exact⟨hps.below hb,b4,own_of_box (n:=1) ((b2.below l3).below l4) (by omega) rfl (by decide),b3.below l4,by omega,by omega,by omega,hnt⟩
theorem plain_any (w:World) (b:Nat) (L:IL) (a:Nat) (ht:TapeIn w b L a) (ha:a≤4611686018427380000) :Calls Tryz.prog 8 #[.pointer (some ⟨b,0,none⟩)] w (PlPost w b L a):=by
 obtain⟨X,hX⟩ : ∃X,(w.alloc (.cells #[.slice none 0 0] 27)).alloc (.cells #[.slice none 0 0] 27) =X:=⟨_,rfl⟩;have hbel:Below w.heap.size w X:=by rw [←hX];exact belAA _ _
 have hb0:Box X w.heap.size #[.slice none 0 0] 27:=by rw [←hX];exact(Box.new _ _ _).below (belA _)
 have hb1:Box X (w.heap.size+1) #[.slice none 0 0] 27:=by
  rw [←hX];have h:=Box.new (w.alloc (.cells #[.slice none 0 0] 27)) #[.slice none 0 0] 27
  rwa [World.size_alloc]at h
 have HPS:=ai (show PSt w b L a [] (.slice none 0 0) w.heap.size X from⟨only_below hbel _,ht.low,ht.mono hbel,hb0,hb1,World.ownsRow_nil _ _ _ _,fun _ h=>absurd h List.not_mem_nil,Nat.le_refl _⟩)
 have hpa:=pos_le L a;have hr:=fmod_ok (x:=rawAt L a) (n:=(2:Int) - 1+1) (by omega)
 obtain⟨n0,hn0⟩ : ∃m:Nat,(1:Int) +nAt L a (2 - 1+1) = (m:Int):=⟨(1+nAt L a (2 - 1+1)).toNat,by unfold nAt;omega⟩
 have hnr:1≤n0∧n0≤2:=by unfold nAt at hn0;omega
 have HN0:=ai hn0;clear ht hb0 hb1 hbel hr hn0
 go_enter Tryz.func8,Tryz.ntmps8;go_upto_region 2 with fail
 try rw [hX]
 clear hX;go_wp2_with (go_at_call 38;refine(range_any _ b a L 1 2 HPS.o.tp (by omega) (by omega)).mono ?_;rintro e y ⟨rfl,h1,h2⟩;rw [HN0.o];have HP1:=ai (HPS.o.tape h2 h1);clear h1 h2)
 clear HPS;go_loopw [4] (fun i wr=>∃(k a1:Nat) (tabs:List Tab) (tv:Value) (B1:Nat),i = .int .i64 (k:Nat)∧k+tabs.length=n0∧Hid (PSt w b L a1 tabs tv B1 wr)∧Hid (TabsP tabs)∧Hid (a1≤a+1+3*tabs.length)) (fun i _=>(intOf i).toNat)
 case atStart=>exact⟨n0,_,[],_,_,rfl,rfl,HP1.o,fun i h=>absurd h (Nat.not_lt_zero _),hpa⟩
 clear HP1
 case round=>
  obtain⟨k,a1,tabs,tv,B1,rfl,hk,HPS,HTP,HA⟩:=hrel;have haa:=HA.o;have hpa1:=pos_le L a1;obtain⟨⟨ao,cp⟩,htv,hrow⟩:=own_row (size:=6) (cells:=Tab.cells) (fun _=>rfl) (by decide) HPS.o.ot
  have htv:tv = .slice ao tabs.length cp:=htv;have HROW:=ai hrow;clear hrow;subst htv;have y0:wr.cell? ⟨w.heap.size+1,0,none⟩ =some (.slice ao tabs.length cp):=HPS.o.bs.cell rfl;have hyl:=HPS.o.bs.lt;by_cases hkp:0<k
  ·have hkpi: (0:Int) < (k:Int):=by omega
   have hr3:=fmod_ok (x:=rawAt L a1) (n:=3) (by omega)
   obtain⟨n,hn⟩ : ∃m:Nat,nAt L a1 3= (m:Int):=⟨(nAt L a1 3).toNat,by unfold nAt;omega⟩
   have hn2:n≤2:=by unfold nAt at hn;omega
   have HN:=ai hn;clear hr3 hn;have hl1:tabs.length≤1:=by omega
   obtain⟨m,hm⟩ : ∃m,tabs.length=m:=⟨_,rfl⟩;have HM:=ai hm;have HSZ:=ai hyl;have h64:int64 (3:Int):=by constructor<;>decide
   have HTN:=ai (show k - 1+ (m+1) =n0 from by omega)
   have HAB:=ai (show a1≤4611686018427381000 from by omega)
   rw [hm]at y0;have hm1:m=0∨m=1:=by omega
   rcases hm1 with rfl|rfl
   ·have hcv:=conv1 (Box.new wr #[.int .u8 ((97:UInt8).toNat:Int)] 5)
    have hcv: (convert 70 9 (.slice (some ⟨wr.heap.size,0,none⟩) 1 1)).run Tryz.prog (wr.alloc (.cells #[.int .u8 97] 5)) = .ok (.string ⟨#[97]⟩) (wr.alloc (.cells #[.int .u8 97] 5)):=hcv;have hw1:IntKind.i64.wrap 97=97:=by rw [IntKind.wrap_i64];omega
    have hw2:IntKind.u8.wrap 97=97:=by decide
    have hsz: ((⟨#[112]⟩ :ByteArray) ++ ⟨#[97]⟩).size=2:=rfl;have HPT:=ai (pt_start HPS.o 97);have HNM:=ai (show tnm 97=tnm (if tabs.length=0 then 97 else 98)from by rw [HM.o];rfl)
    go_upto_region 6 with fail
    obtain⟨V,hV⟩ : ∃V,(((wr.alloc (.cells #[.int .u8 97] 5)).alloc (.cells #[.string ⟨#[107]⟩,.int .i64 1,.bool false] 72)).alloc (.cells #[.int .i64 0] 3)).alloc (.cells #[.string ((⟨#[112]⟩ :ByteArray) ++ ⟨#[97]⟩),.slice (some ⟨wr.heap.size+1,0,none⟩) 1 1,.slice (some ⟨wr.heap.size+1+1,0,none⟩) 1 1,.slice none 0 0,.slice none 0 0,.slice none 0 0] 78) =V:=⟨_,rfl⟩;have HPV:=ai (show PT w b L a1 tabs (.slice ao tabs.length cp) wr.heap.size (wr.heap.size+1+1+1) (tnm 97) [⟨⟨#[107]⟩,1,false⟩] (.slice (some ⟨wr.heap.size+1,0,none⟩) 1 1) (wr.heap.size+1+1) V from by rw [←hV];exact HPT.o)
    rw [hV];clear hV HPT hcv hw1 hw2 hsz HPS y0;have hpa2:=pos_le L (posAt L a1);go_wp2_with (go_at_call 10;refine(n_any _ b a1 L 3 HPV.o.ps.tp (by have:=HAB.o;omega) h64).mono ?_;rintro e y1 ⟨rfl,h1,h2⟩;rw [HN.o];have HP1:=ai (HPV.o.tape h2 h1);clear h1 h2)
    have HCP:=ai (ColP.start n);clear HPV;generalize wr.heap.size+1+1+1=cx at *;generalize wr.heap.size+1+1=pg at *;generalize wr.heap.size=B0 at *;go_loopw [6] (fun i wr2=>∃(kk a2:Nat) (cols:List Col) (lc:Value),i = .int .i64 (kk:Nat)∧kk≤n∧Hid (PT w b L a2 tabs (.slice ao tabs.length cp) B0 cx (tnm 97) cols lc pg wr2)∧Hid (ColP n kk cols)∧Hid (a2+kk≤a1+1+n)) (fun i _=>(intOf i).toNat)
    case atStart=>exact⟨n,_,_,_,rfl,Nat.le_refl _,HP1.o,HCP.o,by show posAt L a1+n≤a1+1+n;omega⟩
    clear HP1 HCP
    case round=>
     obtain⟨kk,a2,cols,lc,rfl,hkk,HP,HCP,HA2⟩:=hrel;have hpa3:=pos_le L a2;have haa2:=HA2.o;have hck:kk=0∨kk=1∨kk=2:=by omega
     rcases hck with rfl|rfl|rfl
     ·have hcl0:=HCP.o.len
      have HCN:=ai (show cols.length=n - 0+1∧cols.length≤3 from⟨hcl0,by omega⟩)
      clear hcl0;obtain⟨⟨co,cc⟩,hlc,_⟩:=own_row (size:=3) (cells:=Col.cells) (fun _=>rfl) (by decide) HP.o.oc
      have hlc:lc = .slice co cols.length cc:=hlc;subst hlc;have x0:wr.cell? ⟨cx,0,none⟩ =some (.string (tnm 97)):=HP.o.bx.cell rfl;have x1:wr.cell? ⟨cx,1,none⟩ =some (.slice co cols.length cc):=HP.o.bx.cell rfl;have x2:wr.cell? ⟨cx,2,none⟩ =some (.slice (some ⟨pg,0,none⟩) 1 1):=HP.o.bx.cell rfl;have x3:wr.cell? ⟨cx,3,none⟩ =some (.slice none 0 0):=HP.o.bx.cell rfl;have x4:wr.cell? ⟨cx,4,none⟩ =some (.slice none 0 0):=HP.o.bx.cell rfl;have x5:wr.cell? ⟨cx,5,none⟩ =some (.slice none 0 0):=HP.o.bx.cell rfl;have x6:wr.cell? ⟨w.heap.size+1,0,none⟩ =some (.slice ao tabs.length cp):=HP.o.ps.bs.cell rfl;have hwl:w.heap.size≤wr.heap.size+1:=by have:=HP.o.ps.bs.lt;omega
      have hcol:=HP.o.bx.lt;have hbsl:=HP.o.ps.bs.lt;obtain⟨i0,hi,hz0,hz1,hz2⟩:=info_parts info_tab6;have HPA:=ai (HP.o.below (belA (w:=wr) (.cells #[.string (tnm 97),.slice co cols.length cc,.slice (some ⟨pg,0,none⟩) 1 1,.slice none 0 0,.slice none 0 0,.slice none 0 0] 78)))
      have hl1x:tabs.length≤1:=hl1;clear hm;go_wp2_with (at_builtin;refine wpList_append_own _ rfl _ _ 25 rfl w.heap.size 78 i0 (.agg #[.string ⟨#[]⟩,.slice none 0 0,.slice none 0 0,.slice none 0 0,.slice none 0 0,.slice none 0 0]) 6 136 Tryz.underlying25 hi hz0 hz1 hz2 rfl (by decide) _ tabs.length _ rfl HPA.o.ps.ot ⟨wr.heap.size,0,none⟩ 1 1 [.string (tnm 97),.slice co cols.length cc,.slice (some ⟨pg,0,none⟩) 1 1,.slice none 0 0,.slice none 0 0,.slice none 0 0] rfl rfl ?c1 ?c2 ?c3 ?c4 ?c5 ?_)
      case c1=>exact new_cells (l:= [_,_,_,_,_,_])
      case c2=>exact tab_one (b:=(co,cols.length,cc)) (c:=(some ⟨pg,0,none⟩,1,1)) (d:=(none,0,0)) (e:=(none,0,0)) (f:=(none,0,0))
      case c3=>unfold maxLen;omega
      case c4=>omega
      case c5=>simp;omega
      intro v2 z2 hown hgr _;obtain⟨g4,cap4,rfl⟩:=ownsRow_succ hown;obtain⟨hps2,hbs2⟩:=HPA.o.done (chd:=⟨co,cc⟩) HCP.o hn2 (by show 2≤1000;decide) hgr hown
      have HPS2:=ai hps2;have HTP2:=ai (HTP.o.snoc (t:=pt (tnm 97) ⟨co,cc⟩ cols ⟨some ⟨pg,0,none⟩,1⟩) ⟨HNM.o,n,hn2,HCP.o⟩)
      have q0:z2.cell? ⟨w.heap.size+1,0,none⟩ =some (.slice ao tabs.length cp):=hbs2.cell rfl;have qf:=hbs2.fr 0;clear hown hgr hi hz0 hz1 hz2 hps2 hbs2 x0 x1 x2 x3 x4 x5 x6 HPA HP;go_wp2;go_roundw
      case rel=>exact⟨k - 1,a2,tabs ++ [pt (tnm 97) ⟨co,cc⟩ cols ⟨some ⟨pg,0,none⟩,1⟩],_,_,by go_num,by rw [List.length_append];simp only [List.length_cons,List.length_nil];omega,HPS2.o,HTP2.o,by rw [List.length_append];simp only [List.length_cons,List.length_nil];show a2≤_;omega⟩
      case measure=>simp [intOf];omega
     ·have HCU:=ai (show cols.length≤1000 from by have:=HCP.o.len;omega)
      have HA3:=ai (show a2≤4611686018427387000 from by have:=HAB.o;omega)
      have HCS:=ai (fun t (ht:t=1∨t=3)=>HCP.o.step (by decide) hkk ht)
      go_wp2;refine pl_reg9_1 (w:=w) (b:=b) (a:=a2) (B1:=B0) (cx:=cx) (pg:=pg) (L:=L) (tabs:=tabs) (tv:=.slice ao tabs.length cp) (lc:=lc) (nm:=tnm 97) (cols:=cols) HA3 HCU (ai ⟨by rw [if_neg (by decide)];exact HP.o.below ((Below.refl _ _).drew)⟩) ?hc ?hend
      case hc=>rfl
      case hend=>
       intro b5 b9 t10 t11 b12 t12 g4 cap4 x3 hx3 ht12;have HX:=ai hx3;have HC3:=ai (HCS.o t12 ht12);clear hx3 ht12 HP HCP HCS;go_wp2;go_roundw
       case rel=>exact⟨0,_,_,_,rfl,by omega,HX.o,HC3.o,by show posAt L a2+0≤_;omega⟩
       case measure=>simp [intOf]
     ·have HCU:=ai (show cols.length≤1000 from by have:=HCP.o.len;omega)
      have HA3:=ai (show a2≤4611686018427387000 from by have:=HAB.o;omega)
      have HCS:=ai (fun t (ht:t=1∨t=3)=>HCP.o.step (by decide) hkk ht)
      go_wp2;refine pl_reg9_2 (w:=w) (b:=b) (a:=a2) (B1:=B0) (cx:=cx) (pg:=pg) (L:=L) (tabs:=tabs) (tv:=.slice ao tabs.length cp) (lc:=lc) (nm:=tnm 97) (cols:=cols) HA3 HCU (ai ⟨by rw [if_neg (by decide)];exact HP.o.below ((Below.refl _ _).drew)⟩) ?hc ?hend
      case hc=>rfl
      case hend=>
       intro b5 b9 t10 t11 b12 t12 g4 cap4 x3 hx3 ht12;have HX:=ai hx3;have HC3:=ai (HCS.o t12 ht12);clear hx3 ht12 HP HCP HCS;go_wp2;go_roundw
       case rel=>exact⟨1,_,_,_,rfl,by omega,HX.o,HC3.o,by show posAt L a2+1≤_;omega⟩
       case measure=>simp [intOf]
   ·have hcv:=conv1 (Box.new wr #[.int .u8 ((98:UInt8).toNat:Int)] 5)
    have hcv: (convert 70 9 (.slice (some ⟨wr.heap.size,0,none⟩) 1 1)).run Tryz.prog (wr.alloc (.cells #[.int .u8 98] 5)) = .ok (.string ⟨#[98]⟩) (wr.alloc (.cells #[.int .u8 98] 5)):=hcv;have hw1:IntKind.i64.wrap 98=98:=by rw [IntKind.wrap_i64];omega
    have hw2:IntKind.u8.wrap 98=98:=by decide
    have hsz: ((⟨#[112]⟩ :ByteArray) ++ ⟨#[98]⟩).size=2:=rfl;have HPT:=ai (pt_start HPS.o 98);have HNM:=ai (show tnm 98=tnm (if tabs.length=0 then 97 else 98)from by rw [HM.o];rfl)
    go_upto_region 6 with fail
    obtain⟨V,hV⟩ : ∃V,(((wr.alloc (.cells #[.int .u8 98] 5)).alloc (.cells #[.string ⟨#[107]⟩,.int .i64 1,.bool false] 72)).alloc (.cells #[.int .i64 0] 3)).alloc (.cells #[.string ((⟨#[112]⟩ :ByteArray) ++ ⟨#[98]⟩),.slice (some ⟨wr.heap.size+1,0,none⟩) 1 1,.slice (some ⟨wr.heap.size+1+1,0,none⟩) 1 1,.slice none 0 0,.slice none 0 0,.slice none 0 0] 78) =V:=⟨_,rfl⟩;have HPV:=ai (show PT w b L a1 tabs (.slice ao tabs.length cp) wr.heap.size (wr.heap.size+1+1+1) (tnm 98) [⟨⟨#[107]⟩,1,false⟩] (.slice (some ⟨wr.heap.size+1,0,none⟩) 1 1) (wr.heap.size+1+1) V from by rw [←hV];exact HPT.o)
    rw [hV];clear hV HPT hcv hw1 hw2 hsz HPS y0;have hpa2:=pos_le L (posAt L a1);go_wp2_with (go_at_call 10;refine(n_any _ b a1 L 3 HPV.o.ps.tp (by have:=HAB.o;omega) h64).mono ?_;rintro e y1 ⟨rfl,h1,h2⟩;rw [HN.o];have HP1:=ai (HPV.o.tape h2 h1);clear h1 h2)
    have HCP:=ai (ColP.start n);clear HPV;generalize wr.heap.size+1+1+1=cx at *;generalize wr.heap.size+1+1=pg at *;generalize wr.heap.size=B0 at *;go_loopw [6] (fun i wr2=>∃(kk a2:Nat) (cols:List Col) (lc:Value),i = .int .i64 (kk:Nat)∧kk≤n∧Hid (PT w b L a2 tabs (.slice ao tabs.length cp) B0 cx (tnm 98) cols lc pg wr2)∧Hid (ColP n kk cols)∧Hid (a2+kk≤a1+1+n)) (fun i _=>(intOf i).toNat)
    case atStart=>exact⟨n,_,_,_,rfl,Nat.le_refl _,HP1.o,HCP.o,by show posAt L a1+n≤a1+1+n;omega⟩
    clear HP1 HCP
    case round=>
     obtain⟨kk,a2,cols,lc,rfl,hkk,HP,HCP,HA2⟩:=hrel;have hpa3:=pos_le L a2;have haa2:=HA2.o;have hck:kk=0∨kk=1∨kk=2:=by omega
     rcases hck with rfl|rfl|rfl
     ·have hcl0:=HCP.o.len
      have HCN:=ai (show cols.length=n - 0+1∧cols.length≤3 from⟨hcl0,by omega⟩)
      clear hcl0;obtain⟨⟨co,cc⟩,hlc,_⟩:=own_row (size:=3) (cells:=Col.cells) (fun _=>rfl) (by decide) HP.o.oc
      have hlc:lc = .slice co cols.length cc:=hlc;subst hlc;have x0:wr.cell? ⟨cx,0,none⟩ =some (.string (tnm 98)):=HP.o.bx.cell rfl;have x1:wr.cell? ⟨cx,1,none⟩ =some (.slice co cols.length cc):=HP.o.bx.cell rfl;have x2:wr.cell? ⟨cx,2,none⟩ =some (.slice (some ⟨pg,0,none⟩) 1 1):=HP.o.bx.cell rfl;have x3:wr.cell? ⟨cx,3,none⟩ =some (.slice none 0 0):=HP.o.bx.cell rfl;have x4:wr.cell? ⟨cx,4,none⟩ =some (.slice none 0 0):=HP.o.bx.cell rfl;have x5:wr.cell? ⟨cx,5,none⟩ =some (.slice none 0 0):=HP.o.bx.cell rfl;have x6:wr.cell? ⟨w.heap.size+1,0,none⟩ =some (.slice ao tabs.length cp):=HP.o.ps.bs.cell rfl;have hwl:w.heap.size≤wr.heap.size+1:=by have:=HP.o.ps.bs.lt;omega
      have hcol:=HP.o.bx.lt;have hbsl:=HP.o.ps.bs.lt;obtain⟨i0,hi,hz0,hz1,hz2⟩:=info_parts info_tab6;have HPA:=ai (HP.o.below (belA (w:=wr) (.cells #[.string (tnm 98),.slice co cols.length cc,.slice (some ⟨pg,0,none⟩) 1 1,.slice none 0 0,.slice none 0 0,.slice none 0 0] 78)))
      have hl1x:tabs.length≤1:=hl1;clear hm;go_wp2_with (at_builtin;refine wpList_append_own _ rfl _ _ 25 rfl w.heap.size 78 i0 (.agg #[.string ⟨#[]⟩,.slice none 0 0,.slice none 0 0,.slice none 0 0,.slice none 0 0,.slice none 0 0]) 6 136 Tryz.underlying25 hi hz0 hz1 hz2 rfl (by decide) _ tabs.length _ rfl HPA.o.ps.ot ⟨wr.heap.size,0,none⟩ 1 1 [.string (tnm 98),.slice co cols.length cc,.slice (some ⟨pg,0,none⟩) 1 1,.slice none 0 0,.slice none 0 0,.slice none 0 0] rfl rfl ?c1 ?c2 ?c3 ?c4 ?c5 ?_)
      case c1=>exact new_cells (l:= [_,_,_,_,_,_])
      case c2=>exact tab_one (b:=(co,cols.length,cc)) (c:=(some ⟨pg,0,none⟩,1,1)) (d:=(none,0,0)) (e:=(none,0,0)) (f:=(none,0,0))
      case c3=>unfold maxLen;omega
      case c4=>omega
      case c5=>simp;omega
      intro v2 z2 hown hgr _;obtain⟨g4,cap4,rfl⟩:=ownsRow_succ hown;obtain⟨hps2,hbs2⟩:=HPA.o.done (chd:=⟨co,cc⟩) HCP.o hn2 (by show 2≤1000;decide) hgr hown
      have HPS2:=ai hps2;have HTP2:=ai (HTP.o.snoc (t:=pt (tnm 98) ⟨co,cc⟩ cols ⟨some ⟨pg,0,none⟩,1⟩) ⟨HNM.o,n,hn2,HCP.o⟩)
      have q0:z2.cell? ⟨w.heap.size+1,0,none⟩ =some (.slice ao tabs.length cp):=hbs2.cell rfl;have qf:=hbs2.fr 0;clear hown hgr hi hz0 hz1 hz2 hps2 hbs2 x0 x1 x2 x3 x4 x5 x6 HPA HP;go_wp2;go_roundw
      case rel=>exact⟨k - 1,a2,tabs ++ [pt (tnm 98) ⟨co,cc⟩ cols ⟨some ⟨pg,0,none⟩,1⟩],_,_,by go_num,by rw [List.length_append];simp only [List.length_cons,List.length_nil];omega,HPS2.o,HTP2.o,by rw [List.length_append];simp only [List.length_cons,List.length_nil];show a2≤_;omega⟩
      case measure=>simp [intOf];omega
     ·have HCU:=ai (show cols.length≤1000 from by have:=HCP.o.len;omega)
      have HA3:=ai (show a2≤4611686018427387000 from by have:=HAB.o;omega)
      have HCS:=ai (fun t (ht:t=1∨t=3)=>HCP.o.step (by decide) hkk ht)
      go_wp2;refine pl_reg9_1 (w:=w) (b:=b) (a:=a2) (B1:=B0) (cx:=cx) (pg:=pg) (L:=L) (tabs:=tabs) (tv:=.slice ao tabs.length cp) (lc:=lc) (nm:=tnm 98) (cols:=cols) HA3 HCU (ai ⟨by rw [if_neg (by decide)];exact HP.o.below ((Below.refl _ _).drew)⟩) ?hc ?hend
      case hc=>rfl
      case hend=>
       intro b5 b9 t10 t11 b12 t12 g4 cap4 x3 hx3 ht12;have HX:=ai hx3;have HC3:=ai (HCS.o t12 ht12);clear hx3 ht12 HP HCP HCS;go_wp2;go_roundw
       case rel=>exact⟨0,_,_,_,rfl,by omega,HX.o,HC3.o,by show posAt L a2+0≤_;omega⟩
       case measure=>simp [intOf]
     ·have HCU:=ai (show cols.length≤1000 from by have:=HCP.o.len;omega)
      have HA3:=ai (show a2≤4611686018427387000 from by have:=HAB.o;omega)
      have HCS:=ai (fun t (ht:t=1∨t=3)=>HCP.o.step (by decide) hkk ht)
      go_wp2;refine pl_reg9_2 (w:=w) (b:=b) (a:=a2) (B1:=B0) (cx:=cx) (pg:=pg) (L:=L) (tabs:=tabs) (tv:=.slice ao tabs.length cp) (lc:=lc) (nm:=tnm 98) (cols:=cols) HA3 HCU (ai ⟨by rw [if_neg (by decide)];exact HP.o.below ((Below.refl _ _).drew)⟩) ?hc ?hend
      case hc=>rfl
      case hend=>
       intro b5 b9 t10 t11 b12 t12 g4 cap4 x3 hx3 ht12;have HX:=ai hx3;have HC3:=ai (HCS.o t12 ht12);clear hx3 ht12 HP HCP HCS;go_wp2;go_roundw
       case rel=>exact⟨1,_,_,_,rfl,by omega,HX.o,HC3.o,by show posAt L a2+1≤_;omega⟩
       case measure=>simp [intOf]
  ·obtain rfl:k=0:=by omega
   have hl1:1≤tabs.length∧tabs.length≤2:=by omega
   have HL:=ai hl1;have r0:wr.cell? ⟨w.heap.size,0,none⟩ =some (.slice none 0 0):=HPS.o.br.cell rfl;have f0:=HPS.o.br.fr 0;have hrl:=HPS.o.br.lt;have HAL:=ai (show a1≤a+20 from by omega)
   go_wp2;have hg:=gb_set wr w.heap.size 0 (.slice ao tabs.length cp);have hps:=plain_psch (s:=⟨⟨ao,cp⟩,tabs⟩) HL.o HPS.o.fin HTP.o
   have HF:PlPost w b L a (.returned (.agg #[.slice ao tabs.length cp])) (wr.setCell ⟨w.heap.size,0,none⟩ (.slice ao tabs.length cp)):=
    ⟨⟨⟨ao,cp⟩,tabs⟩,a1,rfl,pl_stay HPS.o (by omega),hps.1,hps.2,tz2 HPS.o.tp hg HPS.o.ll (Nat.le_refl _),HAL.o,gb_then HPS.o.gb hg (Nat.le_refl _)⟩
   refine bodyPost_ret (v:=.agg #[.slice ao tabs.length cp]) ?_ ?_ ?_
   case refine_3=>exact HF
   case refine_2=>rfl
   simp [results,Tryz.results8,go_sem,r0]
end Go.Proofs.YtiijaaohphokcaaGreatDoor

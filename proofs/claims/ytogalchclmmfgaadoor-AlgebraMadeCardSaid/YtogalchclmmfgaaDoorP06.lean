/- A part of the proof of AlgebraMade. -/
import Derived.Test.YtogalchclmmfgaaDoorP05
import Derived.Test.YtogalchclmmfgaaDoorP01
import Derived.Lib.OthersKept
import Derived.Lib.TrimU
import Derived.Deep.LoopGhost
set_option maxRecDepth 100000
set_option maxHeartbeats 16000000
namespace Go.Proofs.YtogalchclmmfgaaDoor
open Go.RowKit
theorem row_of_box {α:Type} {w:World} {g size:Nat} {T:TypeId} {cells:α→List Value} {xs:List α} (hs: ∀x,(cells x).length=size) (hm:xs.length≤maxLen) (hb:Box w g (xs.flatMap cells).toArray T) :Row w size cells ⟨some ⟨g,0,none⟩,xs.length⟩ xs:=by
 refine⟨Nat.le_refl _,hm,fun _=>⟨rfl,hb.lt⟩,fun i hi j v hv=> ?_⟩
 have hj:j<size:=by
  have:=(List.getElem?_eq_some_iff.1 hv).1
  rwa [hs]at this
 show w.cell? ⟨g,0+i*size+j,none⟩ =some v
 rw [Nat.zero_add];refine hb.cell (j:=i*size+j) ?_
 rw [List.getElem?_toArray,flatMap_at hs xs i j hi hj];exact hv
def ints12:List Int:= [0,1,2,-1,5,7,-7,100,1000000000000,-1000000000000,999999999999,1000000]
def nullV:V:=⟨0,0,⟨#[]⟩⟩
abbrev intV (n:Int) :V:=⟨1,n,⟨#[]⟩⟩
abbrev txtV (s:ByteArray) :V:=⟨3,0,s⟩
abbrev scl (s:ByteArray) :List Value:= [.string s]
def txts7:List ByteArray:= [⟨#[]⟩,⟨#[97]⟩,⟨#[98]⟩,⟨#[97,98]⟩,⟨#[48]⟩,⟨#[32]⟩,⟨#[97,98,99,100,101,102,103,104,105,106,107,108,109,110,111,112,113,114,115,116,117,118,119,120]⟩]
theorem vl_of_own {w:World} {base n:Nat} {v:Value} {e:TypeId} {vs:List V} (ho:w.ownsRow base e 3 v n (vs.flatMap V.cells)) (hw: ∀x∈vs,x.wf) (hp:0<vs.length) : ∃l:VL,v = .slice l.h.ao l.l.length l.h.cap∧l.In w∧l.l=vs∧base≤l.h.b:=by
 obtain⟨hd,rfl,hr⟩:=own_row (size:=3) (cells:=V.cells) (fun _=>rfl) (by decide) ho
 refine⟨⟨hd,vs⟩,rfl,⟨hr,hw⟩,rfl,?_⟩
 have hn:n=vs.length:=by
  have:=ho.1;rw [flatMap_len (cells:=V.cells) (size:=3) (fun _=>rfl)]at this
  omega
 subst hn;exact own_from ho hp
theorem values_int (w:World) :
  Calls Tryd.prog 90 #[.int .i64 1] w fun e w'=>(∃l:VL,e = .returned (.slice l.h.ao l.l.length l.h.cap)∧l.In w'∧(l.l.length=13∧∀v∈l.l,v.kind=0∨v.kind=1)∧w.heap.size≤l.h.b)∧Below w.heap.size w w':=by
 obtain⟨i0,hi,hz0,hz1,hz2⟩:=info_parts info_v;have HI:=ai (And.intro hi (And.intro hz0 (And.intro hz1 hz2)));clear hi hz0 hz1 hz2;have HL:=ai (show((w.alloc (.cells #[.int .i64 0,.int .i64 0,.string ⟨#[]⟩] 98)).alloc (.cells #[.int .i64 0,.int .i64 1,.int .i64 2,.int .i64 (-1),.int .i64 5,.int .i64 7,.int .i64 (-7),.int .i64 100,.int .i64 1000000000000,.int .i64 (-1000000000000),.int .i64 999999999999,.int .i64 1000000] 2)).ownsRow w.heap.size 98 3 (.slice (some ⟨w.heap.size,0,none⟩) 1 1) 1 [.int .i64 0,.int .i64 0,.string ⟨#[]⟩]from(World.ownsRow_lit (base:=w.heap.size) (e:=98) (size:=3) w #[.int .i64 0,.int .i64 0,.string ⟨#[]⟩] 1 (Nat.le_refl _) (by decide) rfl).alloc _)
 have HBX:=ai (show Box ((w.alloc (.cells #[.int .i64 0,.int .i64 0,.string ⟨#[]⟩] 98)).alloc (.cells #[.int .i64 0,.int .i64 1,.int .i64 2,.int .i64 (-1),.int .i64 5,.int .i64 7,.int .i64 (-7),.int .i64 100,.int .i64 1000000000000,.int .i64 (-1000000000000),.int .i64 999999999999,.int .i64 1000000] 2)) (w.heap.size+1) (ints12.flatMap icells).toArray 2 from by
  have:=Box.new (w.alloc (.cells #[.int .i64 0,.int .i64 0,.string ⟨#[]⟩] 98)) #[.int .i64 0,.int .i64 1,.int .i64 2,.int .i64 (-1),.int .i64 5,.int .i64 7,.int .i64 (-7),.int .i64 100,.int .i64 1000000000000,.int .i64 (-1000000000000),.int .i64 999999999999,.int .i64 1000000] 2;rw [World.size_alloc]at this;exact this)
 have HSZ:=ai (show(Tryd.prog.info? 2).map (·.size) =some 1 by kernel_rfl)
 have HB0:=ai (belAA (w:=w) (.cells #[.int .i64 0,.int .i64 0,.string ⟨#[]⟩] 98) (.cells #[.int .i64 0,.int .i64 1,.int .i64 2,.int .i64 (-1),.int .i64 5,.int .i64 7,.int .i64 (-7),.int .i64 100,.int .i64 1000000000000,.int .i64 (-1000000000000),.int .i64 999999999999,.int .i64 1000000] 2))
 go_enter Tryd.func90,Tryd.ntmps90;go_wp2;go_loopw [3,5] (fun v i wr=>∃k:Nat,k≤12∧i = .int .i64 k∧Hid (wr.ownsRow w.heap.size 98 3 v (k+1) ((nullV :: (ints12.take k).map intV).flatMap V.cells))∧Hid (Box wr (w.heap.size+1) (ints12.flatMap icells).toArray 2)∧Hid (Below w.heap.size w wr)) (fun _ i _=>12 - (intOf i).toNat)
 case atStart=>exact⟨0,Nat.zero_le _,rfl,HL.o,HBX.o,HB0.o⟩
 clear HL HBX HB0
 case round=>
  obtain⟨k,hk,rfl,HO,HX,HB⟩:=hrel;obtain⟨g,cap,rfl,hge,hgl⟩:=HO.o.form (by omega)
  by_cases hlt:k<12
  ·have hrow:=row_of_box (size:=1) (cells:=icells) (xs:=ints12) (fun _=>rfl) (by decide) HX.o
   have hix: ∀U,(Instr.indexAt 140 (.slice (some ⟨w.heap.size+1,0,none⟩) 12 12) (.int .i64 (k:Int))).run Tryd.prog U = .ok (.pointer (some ⟨w.heap.size+1,k,none⟩)) U:=fun U=>by
    have:=hrow.ix (i:=k) hlt Tryd.underlying140 HSZ.o U
    simp only [Hd.b,Hd.o,Option.getD_some,Nat.zero_add,Nat.mul_one]at this;exact this
   have c0:wr.cell? ⟨w.heap.size+1,k,none⟩ =some (.int .i64 (ints12[k]'hlt)):=by
    have:=hrow.2.2.2 k hlt 0 _ rfl
    simpa [Hd.b,Hd.o]using this
   have hlw:=HX.o.lt;clear hrow;have HSN:=ai (show(nullV :: (ints12.take (k+1)).map intV).flatMap V.cells= (nullV :: (ints12.take k).map intV).flatMap V.cells ++ V.cells (intV (ints12[k]'hlt)) by
    rw [List.take_succ_eq_append_getElem hlt,List.map_append];simp [List.flatMap_cons,List.flatMap_append])
   have HWK:=ai (own_ne HO.o HX.o (by decide))
   obtain⟨q,hq⟩ : ∃q,ints12[k]'hlt=q:=⟨_,rfl⟩;rw [hq]at c0 HSN;clear hq;go_wp2_with (at_builtin;go_loud (refine wpList_append_lies _ rfl _ _ 79 rfl w.heap.size 98 i0 _ 3 32 Tryd.underlying79 HI.o.1 HI.o.2.1 HI.o.2.2.1 HI.o.2.2.2 rfl (by decide) (.slice (some ⟨g,0,none⟩) (k+1) cap) (k+1) _ (by rfl) (HO.o.alloc _) ⟨wr.heap.size,0,none⟩ 1 1 (V.cells (intV q)) (by rfl) (by rfl) new_cells (by intro u hu;simp only [List.mem_cons,List.not_mem_nil,or_false]at hu;rcases hu with rfl|rfl|rfl<;>rfl) (by decide) (by unfold maxLen;omega) (by omega) (by simp;omega) (wr.heap.size+1) (by simp) ?_;intro g' cap' z hown hgr hat hltz))
   have HOZ:=ai hown;have HGZ:=ai hgr;clear hown hgr hat hltz;go_wp2;go_roundw
   case rel=>
    refine⟨k+1,by omega,by go_num,?_,?_,?_⟩
    ·show Hid _
     rw [HSN.o];exact HOZ.o
    ·exact(HX.o.below (belA _)).grown HGZ.o (by have:=HWK.o;simp [Value.ownBlock];omega)
    ·exact grown1 HB.o HB.o.size HGZ.o (fun b hb=>by simp [Value.ownBlock]at hb;omega)
   case measure=>simp [intOf];omega
  ·obtain rfl:k=12:=by omega
   obtain⟨l,hv,hin,hll,hlb⟩:=vl_of_own (vs:=nullV :: ints12.map intV) (by have:=HO.o;rw [List.take_of_length_le (by decide)]at this;exact this) (by
    intro x hx;simp only [ints12,List.map_cons,List.map_nil,List.mem_cons,List.not_mem_nil,or_false]at hx;rcases hx with rfl|rfl|rfl|rfl|rfl|rfl|rfl|rfl|rfl|rfl|rfl|rfl|rfl
    all_goals exact⟨by constructor<;>decide,by constructor<;>decide,by decide⟩) (by decide)
   have HIN:=ai hin;have HLL:=ai (show l.l.length=13∧∀v∈l.l,v.kind=0∨v.kind=1 from⟨by rw [hll];rfl,by rw [hll];decide⟩)
   have HLB:=ai hlb;clear hin hll hlb;have HV:=ai hv;clear hv;go_wp2;go_ret
   exact⟨⟨l,congrArg Ending.returned HV.o,HIN.o,HLL.o,HLB.o⟩,HB.o⟩
theorem values_txt (w:World) :
  Calls Tryd.prog 90 #[.int .i64 3] w fun e w'=>(∃l:VL,e = .returned (.slice l.h.ao l.l.length l.h.cap)∧l.In w'∧(l.l.length=8∧∀v∈l.l,v.kind=0∨v.kind=3)∧w.heap.size≤l.h.b)∧Below w.heap.size w w':=by
 obtain⟨i0,hi,hz0,hz1,hz2⟩:=info_parts info_v;have HI:=ai (And.intro hi (And.intro hz0 (And.intro hz1 hz2)));clear hi hz0 hz1 hz2;have HL:=ai (show((w.alloc (.cells #[.int .i64 0,.int .i64 0,.string ⟨#[]⟩] 98)).alloc (.cells #[.string ⟨#[]⟩,.string ⟨#[97]⟩,.string ⟨#[98]⟩,.string ⟨#[97,98]⟩,.string ⟨#[48]⟩,.string ⟨#[32]⟩,.string ⟨#[97,98,99,100,101,102,103,104,105,106,107,108,109,110,111,112,113,114,115,116,117,118,119,120]⟩] 9)).ownsRow w.heap.size 98 3 (.slice (some ⟨w.heap.size,0,none⟩) 1 1) 1 [.int .i64 0,.int .i64 0,.string ⟨#[]⟩]from(World.ownsRow_lit (base:=w.heap.size) (e:=98) (size:=3) w #[.int .i64 0,.int .i64 0,.string ⟨#[]⟩] 1 (Nat.le_refl _) (by decide) rfl).alloc _)
 have HBX:=ai (show Box ((w.alloc (.cells #[.int .i64 0,.int .i64 0,.string ⟨#[]⟩] 98)).alloc (.cells #[.string ⟨#[]⟩,.string ⟨#[97]⟩,.string ⟨#[98]⟩,.string ⟨#[97,98]⟩,.string ⟨#[48]⟩,.string ⟨#[32]⟩,.string ⟨#[97,98,99,100,101,102,103,104,105,106,107,108,109,110,111,112,113,114,115,116,117,118,119,120]⟩] 9)) (w.heap.size+1) (txts7.flatMap scl).toArray 9 from by
  have:=Box.new (w.alloc (.cells #[.int .i64 0,.int .i64 0,.string ⟨#[]⟩] 98)) #[.string ⟨#[]⟩,.string ⟨#[97]⟩,.string ⟨#[98]⟩,.string ⟨#[97,98]⟩,.string ⟨#[48]⟩,.string ⟨#[32]⟩,.string ⟨#[97,98,99,100,101,102,103,104,105,106,107,108,109,110,111,112,113,114,115,116,117,118,119,120]⟩] 9;rw [World.size_alloc]at this;exact this)
 have HSZ:=ai (show(Tryd.prog.info? 9).map (·.size) =some 1 by kernel_rfl)
 have HB0:=ai (belAA (w:=w) (.cells #[.int .i64 0,.int .i64 0,.string ⟨#[]⟩] 98) (.cells #[.string ⟨#[]⟩,.string ⟨#[97]⟩,.string ⟨#[98]⟩,.string ⟨#[97,98]⟩,.string ⟨#[48]⟩,.string ⟨#[32]⟩,.string ⟨#[97,98,99,100,101,102,103,104,105,106,107,108,109,110,111,112,113,114,115,116,117,118,119,120]⟩] 9))
 go_enter Tryd.func90,Tryd.ntmps90;go_wp2;go_loopw [3,7] (fun v i wr=>∃k:Nat,k≤7∧i = .int .i64 k∧Hid (wr.ownsRow w.heap.size 98 3 v (k+1) ((nullV :: (txts7.take k).map txtV).flatMap V.cells))∧Hid (Box wr (w.heap.size+1) (txts7.flatMap scl).toArray 9)∧Hid (Below w.heap.size w wr)) (fun _ i _=>7 - (intOf i).toNat)
 case atStart=>exact⟨0,Nat.zero_le _,rfl,HL.o,HBX.o,HB0.o⟩
 clear HL HBX HB0
 case round=>
  obtain⟨k,hk,rfl,HO,HX,HB⟩:=hrel;obtain⟨g,cap,rfl,hge,hgl⟩:=HO.o.form (by omega)
  by_cases hlt:k<7
  ·have hrow:=row_of_box (size:=1) (cells:=scl) (xs:=txts7) (fun _=>rfl) (by decide) HX.o
   have hix: ∀U,(Instr.indexAt 94 (.slice (some ⟨w.heap.size+1,0,none⟩) 7 7) (.int .i64 (k:Int))).run Tryd.prog U = .ok (.pointer (some ⟨w.heap.size+1,k,none⟩)) U:=fun U=>by
    have:=hrow.ix (i:=k) hlt Tryd.underlying94 HSZ.o U
    simp only [Hd.b,Hd.o,Option.getD_some,Nat.zero_add,Nat.mul_one]at this;exact this
   have c0:wr.cell? ⟨w.heap.size+1,k,none⟩ =some (.string (txts7[k]'hlt)):=by
    have:=hrow.2.2.2 k hlt 0 _ rfl
    simpa [Hd.b,Hd.o]using this
   have hlw:=HX.o.lt;clear hrow;have HSN:=ai (show(nullV :: (txts7.take (k+1)).map txtV).flatMap V.cells= (nullV :: (txts7.take k).map txtV).flatMap V.cells ++ V.cells (txtV (txts7[k]'hlt)) by
    rw [List.take_succ_eq_append_getElem hlt,List.map_append];simp [List.flatMap_cons,List.flatMap_append])
   have HWK:=ai (own_ne HO.o HX.o (by decide))
   obtain⟨q,hq⟩ : ∃q,txts7[k]'hlt=q:=⟨_,rfl⟩;rw [hq]at c0 HSN;clear hq;go_wp2_with (at_builtin;go_loud (refine wpList_append_lies _ rfl _ _ 79 rfl w.heap.size 98 i0 _ 3 32 Tryd.underlying79 HI.o.1 HI.o.2.1 HI.o.2.2.1 HI.o.2.2.2 rfl (by decide) (.slice (some ⟨g,0,none⟩) (k+1) cap) (k+1) _ (by rfl) (HO.o.alloc _) ⟨wr.heap.size,0,none⟩ 1 1 (V.cells (txtV q)) (by rfl) (by rfl) new_cells (by intro u hu;simp only [List.mem_cons,List.not_mem_nil,or_false]at hu;rcases hu with rfl|rfl|rfl<;>rfl) (by decide) (by unfold maxLen;omega) (by omega) (by simp;omega) (wr.heap.size+1) (by simp) ?_;intro g' cap' z hown hgr hat hltz))
   have HOZ:=ai hown;have HGZ:=ai hgr;clear hown hgr hat hltz;go_wp2;go_roundw
   case rel=>
    refine⟨k+1,by omega,by go_num,?_,?_,?_⟩
    ·show Hid _
     rw [HSN.o];exact HOZ.o
    ·exact(HX.o.below (belA _)).grown HGZ.o (by have:=HWK.o;simp [Value.ownBlock];omega)
    ·exact grown1 HB.o HB.o.size HGZ.o (fun b hb=>by simp [Value.ownBlock]at hb;omega)
   case measure=>simp [intOf];omega
  ·obtain rfl:k=7:=by omega
   obtain⟨l,hv,hin,hll,hlb⟩:=vl_of_own (vs:=nullV :: txts7.map txtV) (by have:=HO.o;rw [List.take_of_length_le (by decide)]at this;exact this) (by
    intro x hx;simp only [txts7,List.map_cons,List.map_nil,List.mem_cons,List.not_mem_nil,or_false]at hx;rcases hx with rfl|rfl|rfl|rfl|rfl|rfl|rfl|rfl
    all_goals exact⟨by constructor<;>decide,by constructor<;>decide,by decide⟩) (by decide)
   have HIN:=ai hin;have HLL:=ai (show l.l.length=8∧∀v∈l.l,v.kind=0∨v.kind=3 from⟨by rw [hll];rfl,by rw [hll];decide⟩)
   have HLB:=ai hlb;clear hin hll hlb;have HV:=ai hv;clear hv;go_wp2;go_ret
   exact⟨⟨l,congrArg Ending.returned HV.o,HIN.o,HLL.o,HLB.o⟩,HB.o⟩
end Go.Proofs.YtogalchclmmfgaaDoor
namespace Go.Proofs.YtogalchclmmfgaaDoor
open Go.RowKit
def ops:List (ByteArray×Int×Int×Int):= [(⟨#[]⟩,0,0,0),(⟨#[110,117,108,108]⟩,0,0,0),(⟨#[105,110,116]⟩,0,0,1),(⟨#[98,111,111,108]⟩,0,0,2),(⟨#[116,101,120,116]⟩,0,0,3),(⟨#[99,111,108,117,109,110]⟩,0,0,0),(⟨#[97,100,100]⟩,2,1,1),(⟨#[115,117,98]⟩,2,1,1),(⟨#[109,117,108]⟩,2,1,1),(⟨#[100,105,118]⟩,2,1,1),(⟨#[109,111,100]⟩,2,1,1),(⟨#[110,101,103]⟩,1,1,1),(⟨#[99,111,110,99,97,116]⟩,2,2,3),(⟨#[108,101,110,103,116,104]⟩,1,2,1),(⟨#[101,113]⟩,2,4,2),(⟨#[110,101]⟩,2,4,2),(⟨#[108,116]⟩,2,4,2),(⟨#[108,101]⟩,2,4,2),(⟨#[103,116]⟩,2,4,2),(⟨#[103,101]⟩,2,4,2),(⟨#[115,97,109,101]⟩,2,4,2),(⟨#[105,115,110,117,108,108]⟩,1,5,2),(⟨#[97,110,100]⟩,2,3,2),(⟨#[111,114]⟩,2,3,2),(⟨#[110,111,116]⟩,1,3,2),(⟨#[105,115,116,114,117,101]⟩,1,3,2),(⟨#[99,97,115,101]⟩,3,6,0),(⟨#[99,111,97,108,101,115,99,101]⟩,2,4,0),(⟨#[105,110]⟩,2,4,2)]
theorem ops_len:ops.length=29:=rfl
def OpsAt (w:World) :Prop:=∀(i:Nat) (h:i<ops.length),w.cell? ⟨2,i*4,none⟩ =some (.string ops[i].1)∧w.cell? ⟨2,i*4+1,none⟩ =some (.int .i64 ops[i].2.1)∧w.cell? ⟨2,i*4+2,none⟩ =some (.int .i64 ops[i].2.2.1)∧w.cell? ⟨2,i*4+3,none⟩ =some (.int .i64 ops[i].2.2.2)
theorem OpsAt.lt {w:World} (h:OpsAt w) :2<w.heap.size:=World.block_lt_of_cell? w ⟨2,0*4,none⟩ (h 0 (by decide)).1
theorem OpsAt.mono {w w':World} (h:OpsAt w) (hb:Below w.heap.size w w') :OpsAt w':=fun i hi=>by
 obtain⟨h1,h2,h3,h4⟩:=h i hi;exact⟨by rw [hb.cell (p:=⟨2,_,none⟩) h.lt];exact h1,by rw [hb.cell (p:=⟨2,_,none⟩) h.lt];exact h2,by rw [hb.cell (p:=⟨2,_,none⟩) h.lt];exact h3,by rw [hb.cell (p:=⟨2,_,none⟩) h.lt];exact h4⟩
theorem ops_word (i:Nat) (hi:i<ops.length) (h0:0<i) : (ops[i].1.toList == []) =false:=by
 have hl:=ops_len;have hc:i=1∨i=2∨i=3∨i=4∨i=5∨i=6∨i=7∨i=8∨i=9∨i=10∨i=11∨i=12∨i=13∨i=14∨i=15∨i=16∨i=17∨i=18∨i=19∨i=20∨i=21∨i=22∨i=23∨i=24∨i=25∨i=26∨i=27∨i=28:=by omega
 rcases hc with rfl|rfl|rfl|rfl|rfl|rfl|rfl|rfl|rfl|rfl|rfl|rfl|rfl|rfl|rfl|rfl|rfl|rfl|rfl|rfl|rfl|rfl|rfl|rfl|rfl|rfl|rfl|rfl<;>simp [ops]
theorem find_op (i:Nat) (hi:i<ops.length) (h0:0<i) (w:World) (hf:OpsAt w) :
  Calls Tryd.prog 118 #[.int .i64 (i:Nat)] w fun e w'=>e = .returned (.tuple #[.agg #[.string ops[i].1,.int .i64 ops[i].2.1,.int .i64 ops[i].2.2.1,.int .i64 ops[i].2.2.2],.bool true])∧Below w.heap.size w w':=by
 have hl:=ops_len;have hlt:=hf.lt;obtain⟨c0,c1,c2,c3⟩:=hf i hi;have hne:=ops_word i hi h0;have hi1: ¬(i:Int) <0:=by omega
 have hi2: ¬(29:Int)≤(i:Int):=by omega
 generalize ops[i] =f at *
 go_enter Tryd.func118,Tryd.ntmps118;go_wp2;exact bodyPost_ret (v:=.tuple #[.agg #[.string f.1,.int .i64 f.2.1,.int .i64 f.2.2.1,.int .i64 f.2.2.2],.bool true]) (by simp [results,Tryd.results118,go_sem]) rfl ⟨rfl,belA _⟩
theorem find_none (n:Int) (hn:n<1∨28<n) (w:World) (hf:OpsAt w) :
  Calls Tryd.prog 118 #[.int .i64 n] w fun e w'=>e = .returned (.tuple #[.agg #[.string ⟨#[]⟩,.int .i64 0,.int .i64 0,.int .i64 0],.bool false])∧Below w.heap.size w w':=by
 have hlt:=hf.lt;by_cases h0:n<0
 ·go_enter Tryd.func118,Tryd.ntmps118
  go_wp2;exact bodyPost_ret (v:=.tuple #[.agg #[.string ⟨#[]⟩,.int .i64 0,.int .i64 0,.int .i64 0],.bool false]) (by simp [results,Tryd.results118,go_sem]) rfl ⟨rfl,belA _⟩
 ·by_cases h29: (29:Int)≤n
  ·go_enter Tryd.func118,Tryd.ntmps118
   go_wp2;exact bodyPost_ret (v:=.tuple #[.agg #[.string ⟨#[]⟩,.int .i64 0,.int .i64 0,.int .i64 0],.bool false]) (by simp [results,Tryd.results118,go_sem]) rfl ⟨rfl,belA _⟩
  ·obtain rfl:n=0:=by omega
   obtain⟨c0,c1,c2,c3⟩:=hf 0 (by decide)
   have c0':w.cell? ⟨2,0,none⟩ =some (.string ⟨#[]⟩):=c0;clear c0 c1 c2 c3
   go_enter Tryd.func118,Tryd.ntmps118;go_wp2;exact bodyPost_ret (v:=.tuple #[.agg #[.string ⟨#[]⟩,.int .i64 0,.int .i64 0,.int .i64 0],.bool false]) (by simp [results,Tryd.results118,go_sem]) rfl ⟨rfl,belA _⟩
end Go.Proofs.YtogalchclmmfgaaDoor
namespace Go.Proofs.YtogalchclmmfgaaDoor
open Go.RowKit
def goodN (b:Nat) :Bool:=decide (32≤b∧b≤126∧b≠39)
def TxtAll (s:ByteArray) :Prop:=∀j (h:j<s.size),goodN (s[j]'h).toNat=true
def TxtOk (s:ByteArray) :Prop:=s.size≤24∧TxtAll s
open Classical in
noncomputable def txt (s:ByteArray) :Bool:=decide (TxtOk s)
open Classical in
theorem txt_yes {s:ByteArray} (h:TxtOk s) :txt s=true:=by unfold txt;exact decide_eq_true h
open Classical in
theorem txt_no {s:ByteArray} (h: ¬TxtOk s) :txt s=false:=by unfold txt;exact decide_eq_false h
theorem goodN_low (n b0 b1 b2 b3:Nat) :goodN (Lib.decodeN n b0 b1 b2 b3).1=goodN b0∧(goodN b0=true→(Lib.decodeN n b0 b1 b2 b3).2=1):=by
 by_cases h:b0<128
 ·simp [Lib.decodeN,h]
 ·have hb:goodN b0=false:=by unfold goodN;exact decide_eq_false (by omega)
  have hr:128≤(Lib.decodeN n b0 b1 b2 b3).1:=by
   unfold Lib.decodeN
   rw [if_neg h]
   repeat' split
   all_goals first|omega| (show 128≤65533;omega) | (simp only;omega)
  refine⟨?_,fun h'=>by rw [hb]at h';cases h'⟩
  rw [hb];unfold goodN;exact decide_eq_false (by omega)
theorem dec_good (s:ByteArray) (pos:Nat) (h:pos<s.size) :goodN (Utf8.decode s pos).1=goodN (s[pos]'h).toNat∧(goodN (s[pos]'h).toNat=true→(Utf8.decode s pos).2=1):=by
 have hg:s.get! pos=s[pos]'h:=by
  show s.data[pos]! = s.data[pos]'h
  exact getElem!_pos s.data pos h
 rw [Lib.decode_at,hg];exact goodN_low _ _ _ _ _
theorem txclo_any (r:Nat) (hr:r≤1114111) (w:World) :
  Calls Tryd.prog 123 #[.int .i32 (r:Int)] w fun e w'=>e = .returned (.bool (!goodN r))∧Below w.heap.size w w':=by
 by_cases h1:r<32
 ·have h1': (r:Int) <32:=by omega
  have HG:=ai (show goodN r=false by unfold goodN;exact decide_eq_false (by omega))
  go_enter Tryd.func123,Tryd.ntmps123;go_wp2;go_ret
  exact⟨by rw [HG.o];rfl,Below.refl _ _⟩
 ·have h1': ¬(r:Int) <32:=by omega
  by_cases h2:126<r
  ·have h2':126< (r:Int):=by omega
   have HG:=ai (show goodN r=false by unfold goodN;exact decide_eq_false (by omega))
   go_enter Tryd.func123,Tryd.ntmps123;go_wp2;go_ret
   exact⟨by rw [HG.o];rfl,Below.refl _ _⟩
  ·have h2': ¬126< (r:Int):=by omega
   by_cases h3:r=39
   ·subst h3
    go_enter Tryd.func123,Tryd.ntmps123;go_wp2;go_ret
    exact⟨rfl,Below.refl _ _⟩
   ·have h3': ((r:Int) == 39) =false:=by simp;omega
    have HG:=ai (show goodN r=true by unfold goodN;exact decide_eq_true (by omega))
    go_enter Tryd.func123,Tryd.ntmps123;go_wp2;go_ret
    exact⟨by rw [HG.o];rfl,Below.refl _ _⟩
theorem tindex_txt (s:ByteArray) (w:World) (hs:s.size≤24) :
  Calls Tryd.prog 126 #[.string s,.func (.func 123) #[] #[],.bool true] w fun e w'=>(∃i:Int,e = .returned (.int .i64 i)∧((0≤i∧¬TxtAll s)∨(i = -1∧TxtAll s)))∧Below w.heap.size w w':=by
 go_enter Tryd.func126,Tryd.ntmps126;go_wp2
 go_loopg [] s.size (fun g wx=>∃pos:Nat,wx.heap[w.heap.size]? = some (.stringIter s pos)∧Below w.heap.size w wx∧Hid (∀j (h:j<s.size),j<pos→goodN (s[j]'h).toNat=true)∧pos≤s.size∧s.size≤pos+g)
 case atStart=>exact⟨0,World.iter_heap w s 0,(Below.refl _ w).alloc (Nat.le_refl _) _,fun j _ h=>absurd h (by omega),by omega,by omega⟩
 case round=>
  obtain⟨pos,hit,hbw,HG,hps,hfu⟩:=hrel;have hsz:w.heap.size<wr.heap.size:=(Array.getElem?_eq_some_iff.1 hit).1;by_cases hp:pos<s.size
  ·obtain⟨g,rfl⟩ : ∃g,gk=g+1:=⟨gk - 1,by omega⟩
   have hnx: ∀ty,(Instr.next (.pointer (some ⟨w.heap.size,0,none⟩)) true ty).run Tryd.prog wr=_:=fun ty=>Lib.run_next_any_at wr w.heap.size s pos ty hit hp
   have hr1:=Lib.rune_le s pos;have HD:=ai (dec_good s pos hp);have HP:=ai hp;obtain⟨R,hR⟩ : ∃R,(Utf8.decode s pos).1=R:=⟨_,rfl⟩;obtain⟨K,hK⟩ : ∃K,(Utf8.decode s pos).2=K:=⟨_,rfl⟩;rw [hR,hK]at hnx;rw [hR]at hr1;rw [hR,hK]at HD;have hit2:=Lib.iterAt_heap wr w.heap.size s pos (pos+K) hit;have hbw2:=Lib.below_iterAt hbw (k:=w.heap.size) (Nat.le_refl _) s (pos+K)
   obtain⟨W,hWd⟩ : ∃W,wr.iterAt w.heap.size s (pos+K) =W:=⟨_,rfl⟩;rw [hWd]at hnx hit2 hbw2;have hWs:w.heap.size<W.heap.size:=(Array.getElem?_eq_some_iff.1 hit2).1;have HC:=ai (txclo_any R hr1 W)
   cases hgd:goodN R with
   | true=>
    rw [hgd]at HC;go_wp2_with (go_at_call 123;refine HC.o.mono ?_;rintro e W' ⟨rfl,hb⟩)
    have HB:=ai hb;have hk1:K=1:=HD.o.2 (HD.o.1▸hgd)
    go_roundg g
    case measure=>omega
    case rel=>
     refine⟨pos+K,(HB.o.block w.heap.size hWs).trans hit2,hbw2.trans (HB.o.mono (by omega)),fun j hj h=> ?_,by omega,by omega⟩
     by_cases e:j=pos
     ·subst e;rw [←HD.o.1];exact hgd
     ·exact HG.o j hj (by omega)
   | false=>
    rw [hgd]at HC;go_wp2_with (go_at_call 123;refine HC.o.mono ?_;rintro e W' ⟨rfl,hb⟩)
    go_ret
    refine⟨⟨pos,rfl,.inl ⟨by omega,fun h=> ?_⟩⟩,hbw2.trans (hb.mono (by omega))⟩
    have:=h pos HP.o;rw [←HD.o.1,hgd]at this
    cases this
  ·have hnx: ∀ty,(Instr.next (.pointer (some ⟨w.heap.size,0,none⟩)) true ty).run Tryd.prog wr=_:=fun ty=>Lib.run_next_end_at wr w.heap.size s pos ty hit hp
   go_wp2;go_ret
   exact⟨⟨-1,rfl,.inr ⟨rfl,fun j hj=>HG.o j hj (by omega)⟩⟩,hbw⟩
theorem ifunc_txt (s:ByteArray) (w:World) (hs:s.size≤24) :
  Calls Tryd.prog 122 #[.string s,.func (.func 123) #[] #[]] w fun e w'=>(∃i:Int,e = .returned (.int .i64 i)∧((0≤i∧¬TxtAll s)∨(i = -1∧TxtAll s)))∧Below w.heap.size w w':=by
 go_enter Tryd.func122,Tryd.ntmps122;go_wp2_with (go_at_call 126;refine(tindex_txt s _ hs).mono ?_;rintro e w1 ⟨⟨i,rfl,hi⟩,hb⟩;have HI:=ai hi;clear hi)
 go_ret
 exact⟨⟨i,rfl,HI.o⟩,hb⟩
theorem text_any (s:ByteArray) (w:World) (hs:s.size≤maxLen) :
  Calls Tryd.prog 110 #[.string s] w fun e w'=>e = .returned (.bool (txt s))∧Below w.heap.size w w':=by
 unfold maxLen at hs
 by_cases h24:s.size≤24
 ·have h24': (s.size:Int)≤24:=by omega
  go_enter Tryd.func110,Tryd.ntmps110;go_wp2_with (go_at_call 122;refine(ifunc_txt s _ h24).mono ?_;rintro e w1 ⟨⟨i,rfl,hi⟩,hb⟩;have HI:=ai hi;clear hi)
  go_ret
  refine⟨?_,hb⟩
  rcases HI.o with⟨h0,hn⟩ | ⟨rfl,hy⟩
  ·rw [txt_no (fun h=>hn h.2)];simp;omega
  ·rw [txt_yes ⟨h24,hy⟩];simp
 ·have h24': ¬(s.size:Int)≤24:=by omega
  have HG:=ai (txt_no (s:=s) (fun h=>h24 h.1))
  go_enter Tryd.func110,Tryd.ntmps110;go_wp2;go_ret
  exact⟨by rw [HG.o];rfl,Below.refl _ _⟩
theorem rvalid_text (s:ByteArray) (w:World) (hs:s.size≤maxLen) :
  Calls Tryd.prog 97 #[.agg #[.int .i64 3,.int .i64 0,.string s]] w fun e w'=>e = .returned (.bool (txt s))∧Below w.heap.size w w':=by
 unfold maxLen at hs
 by_cases h24:s.size≤24
 ·have h24': (s.size:Int)≤24:=by omega
  go_enter Tryd.func97,Tryd.ntmps97;go_wp2;go_loop [3] (fun i=>∃k:Nat,k≤s.size∧i = .int .i64 k∧∀j (h:j<s.size),j<k→goodN (s[j]'h).toNat=true) (fun i=>s.size - (intOf i).toNat)
  case atStart=>exact⟨0,Nat.zero_le _,rfl,fun j _ h=>absurd h (by omega)⟩
  case round=>
   obtain⟨k,hk,rfl,hno⟩:=hrel;have HN:=ai hno;clear hno;by_cases hlt:k<s.size
   ·have hki: (k:Int) < (s.size:Int):=by omega
    by_cases d1: ((s[k]'hlt).toNat:Int) <32
    ·have HG:=ai (txt_no (s:=s) (fun h=>by have:=h.2 k hlt;unfold goodN at this;have:=of_decide_eq_true this;omega))
     go_wp2;go_ret
     exact⟨by rw [HG.o];rfl,belA _⟩
    ·by_cases d2:126< ((s[k]'hlt).toNat:Int)
     ·have HG:=ai (txt_no (s:=s) (fun h=>by have:=h.2 k hlt;unfold goodN at this;have:=of_decide_eq_true this;omega))
      go_wp2;go_ret
      exact⟨by rw [HG.o];rfl,belA _⟩
     ·by_cases d3': ((s[k]'hlt).toNat:Int) =39
      ·have d3: (((s[k]'hlt).toNat:Int) == 39) =true:=by simpa using d3'
       have HG:=ai (txt_no (s:=s) (fun h=>by have:=h.2 k hlt;unfold goodN at this;have:=of_decide_eq_true this;omega))
       clear d3';go_wp2;go_ret
       exact⟨by rw [HG.o];rfl,belA _⟩
      ·have d3: (((s[k]'hlt).toNat:Int) == 39) =false:=by simpa using d3'
       have HV:=ai (show goodN (s[k]'hlt).toNat=true by unfold goodN;exact decide_eq_true ⟨by omega,by omega,by omega⟩)
       clear d3';go_wp2;go_round
       case rel=>
        refine⟨k+1,by omega,by go_num,fun j hj h=> ?_⟩
        by_cases e:j=k
        ·subst e;exact HV.o
        ·exact HN.o j hj (by omega)
       case measure=>simp [intOf];omega
   ·have hki: ¬(k:Int) < (s.size:Int):=by omega
    have HG:=ai (txt_yes (s:=s) ⟨h24,fun j hj=>HN.o j hj (by omega)⟩)
    go_wp2;go_ret
    exact⟨by rw [HG.o];rfl,belA _⟩
 ·have h24': ¬(s.size:Int)≤24:=by omega
  have HG:=ai (txt_no (s:=s) (fun h=>h24 h.1))
  go_enter Tryd.func97,Tryd.ntmps97;go_wp2;go_ret
  exact⟨by rw [HG.o];rfl,belA _⟩
def inR (n:Int) :Bool:=decide (-1000000000000≤n∧n≤1000000000000)
def in01 (n:Int) :Bool:=decide (n=0∨n=1)
theorem vvalid_int (n:Int) (w:World) :
  Calls Tryd.prog 93 #[.agg #[.int .i64 1,.int .i64 n,.string ⟨#[]⟩]] w fun e w'=>e = .returned (.bool (inR n))∧Below w.heap.size w w':=by
 by_cases h1 : -1000000000000≤n
 ·by_cases h2:n≤1000000000000
  ·have HG:=ai (show inR n=true from decide_eq_true ⟨h1,h2⟩)
   go_enter Tryd.func93,Tryd.ntmps93;go_wp2;go_ret
   exact⟨by rw [HG.o];rfl,belA _⟩
  ·have HG:=ai (show inR n=false from decide_eq_false (by omega))
   go_enter Tryd.func93,Tryd.ntmps93;go_wp2;go_ret
   exact⟨by rw [HG.o];rfl,belA _⟩
 ·have HG:=ai (show inR n=false from decide_eq_false (by omega))
  go_enter Tryd.func93,Tryd.ntmps93;go_wp2;go_ret
  exact⟨by rw [HG.o];rfl,belA _⟩
theorem vvalid_bool (n:Int) (w:World) :
  Calls Tryd.prog 93 #[.agg #[.int .i64 2,.int .i64 n,.string ⟨#[]⟩]] w fun e w'=>e = .returned (.bool (in01 n))∧Below w.heap.size w w':=by
 by_cases h1:n=0
 ·have HG:=ai (show in01 n=true from decide_eq_true (.inl h1))
  have h1': (n == 0) =true:=by simpa using h1
  clear h1
  go_enter Tryd.func93,Tryd.ntmps93;go_wp2;go_ret
  exact⟨by rw [HG.o];rfl,belA _⟩
 ·have h1': (n == 0) =false:=by simpa using h1
  by_cases h2:n=1
  ·have HG:=ai (show in01 n=true from decide_eq_true (.inr h2))
   have h2': (n == 1) =true:=by simpa using h2
   clear h2 h1
   go_enter Tryd.func93,Tryd.ntmps93;go_wp2;go_ret
   exact⟨by rw [HG.o];rfl,belA _⟩
  ·have HG:=ai (show in01 n=false from decide_eq_false (by omega))
   have h2': (n == 1) =false:=by simpa using h2
   clear h2 h1
   go_enter Tryd.func93,Tryd.ntmps93;go_wp2;go_ret
   exact⟨by rw [HG.o];rfl,belA _⟩
theorem vvalid_text (s:ByteArray) (w:World) (hs:s.size≤maxLen) :
  Calls Tryd.prog 93 #[.agg #[.int .i64 3,.int .i64 0,.string s]] w fun e w'=>e = .returned (.bool (txt s))∧Below w.heap.size w w':=by
 go_enter Tryd.func93,Tryd.ntmps93;go_wp2_with (go_at_call 110;refine(text_any s _ hs).mono ?_;rintro e w1 ⟨rfl,hb⟩)
 go_ret
 exact⟨rfl,bel1 hb⟩
end Go.Proofs.YtogalchclmmfgaaDoor
namespace Go.Proofs.YtogalchclmmfgaaDoor
open Go.RowKit
noncomputable def plainE (op typ num:Int) (text:ByteArray) (col:Int) :Bool:=
 if op=1 then decide (1≤typ∧typ≤3) && (num == 0) && (text.toList == []) && (col == 0)
 else if op=2 then inR num && (typ == 0) && (text.toList == []) && (col == 0)
 else if op=3 then in01 num && (typ == 0) && (text.toList == []) && (col == 0)
 else if op=4 then txt text && (typ == 0) && (num == 0) && (col == 0)
 else if op=5 then (typ == 0) && (num == 0) && (text.toList == [])
 else (typ == 0) && (num == 0) && (text.toList == []) && (col == 0)
theorem istype_any (n:Int) (w:World) :Calls Tryd.prog 103 #[.int .i64 n] w fun e w'=>e = .returned (.bool (decide (1≤n∧n≤3)))∧Below w.heap.size w w':=by
 by_cases h1:n=1
 ·subst h1
  go_enter Tryd.func103,Tryd.ntmps103;go_wp2;go_ret
  exact⟨rfl,Below.refl _ _⟩
 ·by_cases h2:n=2
  ·subst h2
   go_enter Tryd.func103,Tryd.ntmps103;go_wp2;go_ret
   exact⟨rfl,Below.refl _ _⟩
  ·by_cases h3:n=3
   ·subst h3
    go_enter Tryd.func103,Tryd.ntmps103;go_wp2;go_ret
    exact⟨rfl,Below.refl _ _⟩
   ·have h1': (n == 1) =false:=by simpa using h1
    have h2': (n == 2) =false:=by simpa using h2
    have h3': (n == 3) =false:=by simpa using h3
    have HG:=ai (show decide (1≤n∧n≤3) =false from decide_eq_false (by omega))
    go_enter Tryd.func103,Tryd.ntmps103;go_wp2;go_ret
    exact⟨by rw [HG.o];rfl,Below.refl _ _⟩
theorem box2 {w w1:World} {c d:Array Value} {T U:TypeId} (hb:Below ((w.alloc (.cells c T)).alloc (.cells d U)).heap.size ((w.alloc (.cells c T)).alloc (.cells d U)) w1) :Box w1 (w.heap.size+1) d U:=by
 have:=(Box.new (w.alloc (.cells c T)) d U).below hb
 simpa only [World.size_alloc]using this
theorem bel_set {w w1:World} {c d:Array Value} {T U:TypeId} {j:Nat} {v:Value} (hb:Below ((w.alloc (.cells c T)).alloc (.cells d U)).heap.size ((w.alloc (.cells c T)).alloc (.cells d U)) w1) :Below w.heap.size w (w1.setCell ⟨w.heap.size+1,j,none⟩ v):=
 (bel2 hb).grown (gb_set _ _ _ _) (bel2 hb).size (fun k hk=>by injection hk with hk;omega)
theorem eclean_1 (typ num:Int) (text:ByteArray) (col:Int) (ko:Option Addr) (kl kc:Nat) (w:World) :
  Calls Tryd.prog 102 #[.agg #[.int .i64 1,.int .i64 typ,.int .i64 num,.string text,.int .i64 col,.slice ko kl kc]] w fun e w'=>e = .returned (.bool (decide (1≤typ∧typ≤3) && (num == 0) && (text.toList == []) && (col == 0)))∧Below w.heap.size w w':=by
 go_enter Tryd.func102,Tryd.ntmps102;go_wp2_with (go_at_call 103;refine(istype_any _ _).mono ?_;rintro e w1 ⟨rfl,hb⟩;have HB:=ai hb;have b3:=box2 hb;have y1:=b3.cell (j:=1) rfl;have y2:=b3.cell (j:=2) rfl;have y3:=b3.cell (j:=3) rfl;have y4:=b3.cell (j:=4) rfl;have f1:=b3.fr 1;have f2:=b3.fr 2;have f3:=b3.fr 3;clear hb b3)
 all_goals go_ret
 all_goals first
  | exact⟨by simp [*],bel_set HB.o⟩
  | trace_state
theorem eclean_2 (typ num:Int) (text:ByteArray) (col:Int) (ko:Option Addr) (kl kc:Nat) (w:World) :
  Calls Tryd.prog 102 #[.agg #[.int .i64 2,.int .i64 typ,.int .i64 num,.string text,.int .i64 col,.slice ko kl kc]] w fun e w'=>e = .returned (.bool (inR num && (typ == 0) && (text.toList == []) && (col == 0)))∧Below w.heap.size w w':=by
 go_enter Tryd.func102,Tryd.ntmps102;go_wp2_with (go_at_call 93;refine(vvalid_int _ _).mono ?_;rintro e w1 ⟨rfl,hb⟩;have HB:=ai hb;have b3:=box2 hb;have y1:=b3.cell (j:=1) rfl;have y2:=b3.cell (j:=2) rfl;have y3:=b3.cell (j:=3) rfl;have y4:=b3.cell (j:=4) rfl;have f1:=b3.fr 1;have f2:=b3.fr 2;have f3:=b3.fr 3;clear hb b3)
 all_goals go_ret
 all_goals exact⟨by simp [*],bel_set HB.o⟩
theorem eclean_3 (typ num:Int) (text:ByteArray) (col:Int) (ko:Option Addr) (kl kc:Nat) (w:World) :
  Calls Tryd.prog 102 #[.agg #[.int .i64 3,.int .i64 typ,.int .i64 num,.string text,.int .i64 col,.slice ko kl kc]] w fun e w'=>e = .returned (.bool (in01 num && (typ == 0) && (text.toList == []) && (col == 0)))∧Below w.heap.size w w':=by
 go_enter Tryd.func102,Tryd.ntmps102;go_wp2_with (go_at_call 93;refine(vvalid_bool _ _).mono ?_;rintro e w1 ⟨rfl,hb⟩;have HB:=ai hb;have b3:=box2 hb;have y1:=b3.cell (j:=1) rfl;have y2:=b3.cell (j:=2) rfl;have y3:=b3.cell (j:=3) rfl;have y4:=b3.cell (j:=4) rfl;have f1:=b3.fr 1;have f2:=b3.fr 2;have f3:=b3.fr 3;clear hb b3)
 all_goals go_ret
 all_goals exact⟨by simp [*],bel_set HB.o⟩
theorem eclean_4 (typ num:Int) (text:ByteArray) (col:Int) (ko:Option Addr) (kl kc:Nat) (w:World) (ht:text.size≤maxLen) :
  Calls Tryd.prog 102 #[.agg #[.int .i64 4,.int .i64 typ,.int .i64 num,.string text,.int .i64 col,.slice ko kl kc]] w fun e w'=>e = .returned (.bool (txt text && (typ == 0) && (num == 0) && (col == 0)))∧Below w.heap.size w w':=by
 go_enter Tryd.func102,Tryd.ntmps102;go_wp2_with (go_at_call 93;refine(vvalid_text _ _ ht).mono ?_;rintro e w1 ⟨rfl,hb⟩;have HB:=ai hb;have b3:=box2 hb;have y1:=b3.cell (j:=1) rfl;have y2:=b3.cell (j:=2) rfl;have y3:=b3.cell (j:=3) rfl;have y4:=b3.cell (j:=4) rfl;have f1:=b3.fr 1;have f2:=b3.fr 2;have f3:=b3.fr 3;clear hb b3)
 all_goals go_ret
 all_goals exact⟨by simp [*],bel_set HB.o⟩
theorem eclean_5 (typ num:Int) (text:ByteArray) (col:Int) (ko:Option Addr) (kl kc:Nat) (w:World) :
  Calls Tryd.prog 102 #[.agg #[.int .i64 5,.int .i64 typ,.int .i64 num,.string text,.int .i64 col,.slice ko kl kc]] w fun e w'=>e = .returned (.bool ((typ == 0) && (num == 0) && (text.toList == [])))∧Below w.heap.size w w':=by
 go_enter Tryd.func102,Tryd.ntmps102;go_wp2
 all_goals go_ret
 all_goals first
  | exact⟨by simp [*],belAA _ _⟩
  | exact⟨by simp [*],(belAA _ _).grown (gb_set _ _ _ _) (belAA _ _).size (fun k hk=>by injection hk with hk;omega)⟩
theorem eclean_o (op typ num:Int) (text:ByteArray) (col:Int) (ko:Option Addr) (kl kc:Nat) (w:World) (h1: (op == 1) =false) (h2: (op == 2) =false) (h3: (op == 3) =false) (h4: (op == 4) =false) (h5: (op == 5) =false) :
  Calls Tryd.prog 102 #[.agg #[.int .i64 op,.int .i64 typ,.int .i64 num,.string text,.int .i64 col,.slice ko kl kc]] w fun e w'=>e = .returned (.bool ((typ == 0) && (num == 0) && (text.toList == []) && (col == 0)))∧Below w.heap.size w w':=by
 go_enter Tryd.func102,Tryd.ntmps102;go_wp2
 all_goals go_ret
 all_goals first
  | exact⟨by simp [*],belAA _ _⟩
  | exact⟨by simp [*],(belAA _ _).grown (gb_set _ _ _ _) (belAA _ _).size (fun k hk=>by injection hk with hk;omega)⟩
end Go.Proofs.YtogalchclmmfgaaDoor

/- A part of the proof of AlgebraMade. -/
import Derived.Test.YtogalchclmmfgaaDoorP04
import Derived.Test.YtogalchclmmfgaaDoorP03
import Derived.Test.YtogalchclmmfgaaDoorP01
import Derived.Deep.AppendLies
import Derived.Laws.IdiomStrings
import Derived.Laws.OwnMore
import Derived.Maps.Range
set_option maxRecDepth 100000
set_option maxHeartbeats 16000000
namespace Go.Proofs.YtogalchclmmfgaaDoor
open Go.RowKit
mutual
def Qu.wt:Qu→Nat
 | ⟨_,_,_,_,_,_,exprs,_,aggs,_,_,_,_,kids⟩=>1+exprs.length+aggs.length+Qu.wts kids
def Qu.wts:List Qu→Nat
 | []=>0
 | k :: r=>Qu.wt k+Qu.wts r
end
theorem Qu.wt_eq (q:Qu) :q.wt=1+q.exprs.length+q.aggs.length+Qu.wts q.kids:=by cases q;rw [Qu.wt]
theorem Qu.wts_mem {l:List Qu} {x:Qu} (h:x∈l) :x.wt≤Qu.wts l:=by
 induction l with
 | nil=>cases h
 | cons a l ih=>
  rw [Qu.wts];rcases List.mem_cons.1 h with rfl|h
  ·omega
  ·have:=ih h;omega
theorem Qu.wt_kid {q x:Qu} (h:x∈q.kids) :x.wt≤q.wt:=by have:=Qu.wts_mem h;rw [Qu.wt_eq q];omega
theorem aqsize_any {w0:World} {q:Qu} (h0:q.In w0) : ∀(w:World),q.In w→q.wt≤1048576→
  Calls Tryd.prog 36 #[.agg #[.int .i64 q.op,.string q.table,.int .i64 q.kind,.bool q.all,.int .i64 q.cond.op,.int .i64 q.cond.typ,.int .i64 q.cond.num,.string q.cond.text,.int .i64 q.cond.col,.slice q.cond.kh.ao q.cond.kids.length q.cond.kh.cap,.slice q.eh.ao q.exprs.length q.eh.cap,.slice q.ah.ao q.aggs.length q.ah.cap,.slice q.types.h.ao q.types.l.length q.types.h.cap,.slice q.rh.ao q.rows.length q.rh.cap,.slice q.qh.ao q.kids.length q.qh.cap]] w fun r w'=>r = .returned (.int .i64 (wrap64 (q.size:Int)))∧Below w.heap.size w w':=by
 induction h0 with
 | mk q _ _ _ ih=>
 intro w hin hwt;have IH:=ai ih;clear ih;have hwe:=Qu.wt_eq q;have l1:=hin.row.len;have l5:=hin.flat.rr.len;have HIN:=ai (hin.mono (belA (.cells q.lit 57)));clear hin
 go_enter Tryd.func36,Tryd.ntmps36;go_wp2_with (go_at_call 58;refine(exprs_any _ HIN.o (by omega) (by omega)).mono ?_;rintro r w1 ⟨⟨hd,rfl,hrow⟩,hb1⟩;have HB1:=ai hb1;have HR1:=ai hrow;have HX1:=ai (fun e he=>(qex_in HIN.o e he).mono hb1);have l2:=hrow.len;clear hb1 hrow)
 have hqx:=ai (qex_size q);go_loopw [3,13] (fun v i wr=>∃k:Nat,k≤q.qex.length∧i = .int .i64 k∧v = .int .i64 (wrap64 ((1+Ex.sizes (q.qex.take k) :Nat) :Int))∧Below w1.heap.size w1 wr) (fun _ i _=>q.qex.length - (intOf i).toNat)
 case atStart=>exact⟨0,Nat.zero_le _,rfl,val_eq (by simp [Ex.sizes,wrap64]),Below.refl _ _⟩
 case round=>
  obtain⟨k,hk,rfl,rfl,hbw⟩:=hrel;have HB:=ai hbw;have HBX:=ai (bT HB1.o hbw);have hrow:=HR1.o.mono hbw;clear hbw;generalize hV:wrap64 ((1+Ex.sizes (q.qex.take k) :Nat) :Int) =V;have HV:=ai hV;clear hV;by_cases hlt:k<q.qex.length
  ·have hlti: (k:Int) <q.qex.length:=by omega
   have hix:=hrow.ix hlt Tryd.underlying37 sz41;obtain⟨c0,c1,c2,c3,c4,c5⟩:=ex_at hrow hlt;have HXI:=ai ((HX1.o _ (List.getElem_mem hlt)).mono HB.o);have hbk:=hrow.blk hlt;clear hrow;go_wp2_with (go_at_call 59;refine(esize_any HXI.o _ (HXI.o.mono (belA _))).mono ?_;rintro r w2 ⟨rfl,hb2⟩;have HB2:=ai (bT (belA _) hb2);clear hb2)
   go_roundw
   case rel=>
    refine⟨k+1,by omega,by go_num,val_eq ?_,bT HB.o HB2.o⟩
    rw [←HV.o,wrap_add,Ex.sizes_take hlt]
    congr 1
    omega
   case measure=>simp [intOf];omega
  ·have hlti: ¬(k:Int) <q.qex.length:=by omega
   have HV2:=ai (show wrap64 ((1+q.csz+q.esz+q.asz:Nat) :Int) =V by rw [←HV.o,show k=q.qex.length by omega,List.take_length,hqx.o];congr 2;omega)
   have HXX:=HBX;have x8:=box_cell HBX.o (j:=13) rfl
   clear HV HB HXX;go_wp2;clear x8;go_loopw [3,25] (fun v i wr=>∃k:Nat,k≤q.rows.length∧i = .int .i64 k∧v = .int .i64 (wrap64 ((1+q.csz+q.esz+q.asz+ ((q.rows.take k).map rsize).sum:Nat) :Int))∧Below (w.alloc (.cells q.lit 57)).heap.size (w.alloc (.cells q.lit 57)) wr) (fun _ i _=>q.rows.length - (intOf i).toNat)
   case atStart=>exact⟨0,Nat.zero_le _,rfl,val_eq (by rw [←HV2.o];simp),HBX.o⟩
   case round=>
    clear HBX HV2 hrow;obtain⟨k,hk,rfl,rfl,hbw⟩:=hrel;have HBW:=ai hbw;clear hbw;generalize hV:wrap64 ((1+q.csz+q.esz+q.asz+ ((q.rows.take k).map rsize).sum:Nat) :Int) =V;have HV:=ai hV;clear hV;by_cases hlt:k<q.rows.length
    ·have hlti: (k:Int) <q.rows.length:=by omega
     have hrow:=HIN.o.flat.rr.mono HBW.o;have hix:=hrow.ix hlt Tryd.underlying54 sz69;have c0:=vl_at hrow hlt;have HS:=ai (sum_take rsize hlt);clear hrow;go_wp2;go_roundw
     case rel=>
      refine⟨k+1,by omega,by go_num,val_eq ?_,HBW.o⟩
      rw [←HV.o,wrap_add1,HS.o];simp only [rsize]
      congr 1
      omega
     case measure=>simp [intOf];omega
    ·have hlti: ¬(k:Int) <q.rows.length:=by omega
     have HV2:=ai (show wrap64 ((1+q.csz+q.esz+q.asz+ (q.rows.map rsize).sum:Nat) :Int) =V by rw [←HV.o,show k=q.rows.length by omega,List.take_length])
     have x9:=box_cell HBW.o (j:=14) rfl
     clear HV;go_wp2;clear x9;go_loopw [3,37] (fun v i wr=>∃k:Nat,k≤q.kids.length∧i = .int .i64 k∧v = .int .i64 (wrap64 ((1+q.csz+q.esz+q.asz+ (q.rows.map rsize).sum+Qu.sizes (q.kids.take k) :Nat) :Int))∧Below (w.alloc (.cells q.lit 57)).heap.size (w.alloc (.cells q.lit 57)) wr) (fun _ i _=>q.kids.length - (intOf i).toNat)
     case atStart=>exact⟨0,Nat.zero_le _,rfl,val_eq (by rw [←HV2.o];simp [Qu.sizes]),HBW.o⟩
     case round=>
      clear HBW HV2;obtain⟨k,hk,rfl,rfl,hbw⟩:=hrel;have HBW:=ai hbw;clear hbw;generalize hV:wrap64 ((1+q.csz+q.esz+q.asz+ (q.rows.map rsize).sum+Qu.sizes (q.kids.take k) :Nat) :Int) =V;have HV:=ai hV;clear hV;by_cases hlt:k<q.kids.length
      ·have hlti: (k:Int) <q.kids.length:=by omega
       have hrow:=HIN.o.row.mono HBW.o;have hix:=hrow.ix hlt Tryd.underlying55 sz46;obtain⟨⟨c0,c1,c2,c3⟩,⟨c4,c5,c6,c7,c8,c9⟩,⟨c10,c11,c12,c13,c14⟩⟩:=qu_at hrow hlt;have hbk:=hrow.blk hlt;have HXI:=ai ((HIN.o.kid _ (List.getElem_mem hlt)).mono HBW.o);have HWK:=ai (Nat.le_trans (Qu.wt_kid (List.getElem_mem hlt)) hwt);have HIH:=ai (IH.o _ (List.getElem_mem hlt));have HST:=ai (Qu.sizes_take hlt);clear hrow;generalize q.kids[k] =x at *;go_wp2_with (go_at_call 36;refine(HIH.o _ (HXI.o.mono (belA _)) HWK.o).mono ?_;rintro r w2 ⟨rfl,hb2⟩;have HB2:=ai (bT (belA _) hb2);clear hb2)
       go_roundw
       case rel=>
        refine⟨k+1,by omega,by go_num,val_eq ?_,bT HBW.o HB2.o⟩
        rw [←HV.o,wrap_add,HST.o]
        congr 1
        omega
       case measure=>simp [intOf];omega
      ·have hlti: ¬(k:Int) <q.kids.length:=by omega
       go_wp2;go_ret
       refine⟨ret1 ?_,(belA _).trans (HBW.o.mono (by simp))⟩
       rw [←HV.o,show k=q.kids.length by omega,List.take_length,Qu.size_eq]
end Go.Proofs.YtogalchclmmfgaaDoor
namespace Go.Proofs.YtogalchclmmfgaaDoor
open Go.RowKit
mutual
def Qu.dep:Qu→Nat
 | ⟨_,_,_,_,_,_,_,_,_,_,_,_,_,kids⟩=>Qu.deps kids+1
def Qu.deps:List Qu→Nat
 | []=>0
 | k :: r=>Nat.max (Qu.dep k) (Qu.deps r)
end
theorem Qu.dep_eq (q:Qu) :q.dep=Qu.deps q.kids+1:=by cases q;rw [Qu.dep]
theorem Qu.deps_snoc (l:List Qu) (x:Qu) :Qu.deps (l ++ [x]) =Nat.max (Qu.deps l) x.dep:=by
 induction l with
 | nil=>simp [Qu.deps]
 | cons a l ih=>
  simp only [List.cons_append,Qu.deps,ih,Nat.max_def]
  repeat' split
  all_goals omega
theorem Qu.deps_take {l:List Qu} {k:Nat} (h:k<l.length) :Qu.deps (l.take (k+1)) =Nat.max (Qu.deps (l.take k)) l[k].dep:=by
 rw [List.take_succ_eq_append_getElem h,Qu.deps_snoc]
mutual
theorem Qu.dep_le: ∀q:Qu,q.dep≤q.wt
 | ⟨_,_,_,_,_,_,exprs,_,aggs,_,_,_,_,kids⟩=>by rw [Qu.dep,Qu.wt];have:=Qu.deps_le kids;omega
theorem Qu.deps_le: ∀l:List Qu,Qu.deps l≤Qu.wts l
 | []=>by simp [Qu.deps]
 | k :: r=>by
  rw [Qu.deps,Qu.wts];have h1:=Qu.dep_le k;have h2:=Qu.deps_le r;exact Nat.max_le.2 ⟨by omega,by omega⟩
end
theorem max_val2 (a b:Nat) :max (a:Int) (b:Int) = ((Nat.max a b:Nat) :Int):=by
 show max (a:Int) (b:Int) = ((max a b:Nat) :Int)
 omega
theorem max_val (a b:Nat) : (if a<b then (b:Int) else (a:Int)) = ((Nat.max a b:Nat) :Int):=by
 show _= ((max a b:Nat) :Int)
 rw [Nat.max_def]
 split<;>split<;>omega
theorem adep_any {w0:World} {q:Qu} (h0:q.In w0) : ∀(w:World),q.In w→q.wt≤1048576→
  Calls Tryd.prog 17 #[.agg #[.int .i64 q.op,.string q.table,.int .i64 q.kind,.bool q.all,.int .i64 q.cond.op,.int .i64 q.cond.typ,.int .i64 q.cond.num,.string q.cond.text,.int .i64 q.cond.col,.slice q.cond.kh.ao q.cond.kids.length q.cond.kh.cap,.slice q.eh.ao q.exprs.length q.eh.cap,.slice q.ah.ao q.aggs.length q.ah.cap,.slice q.types.h.ao q.types.l.length q.types.h.cap,.slice q.rh.ao q.rows.length q.rh.cap,.slice q.qh.ao q.kids.length q.qh.cap]] w fun r w'=>r = .returned (.int .i64 (q.dep:Nat))∧Below w.heap.size w w':=by
 induction h0 with
 | mk q _ _ _ ih=>
 intro w hin hwt;have IH:=ai ih;clear ih;have l1:=hin.row.len;have HDL:=ai (Nat.le_trans (Qu.dep_le q) hwt);have HIN:=ai (hin.mono (belA (.cells q.lit 57)));clear hin
 go_enter Tryd.func17,Tryd.ntmps17;go_wp2;go_loopw [3,9] (fun v i wr=>∃k:Nat,k≤q.kids.length∧i = .int .i64 k∧v = .int .i64 ((Qu.deps (q.kids.take k) :Nat) :Int)∧Below (w.alloc (.cells q.lit 57)).heap.size (w.alloc (.cells q.lit 57)) wr) (fun _ i _=>q.kids.length - (intOf i).toNat)
 case atStart=>exact⟨0,Nat.zero_le _,rfl,val_eq (by simp [Qu.deps]),Below.refl _ _⟩
 case round=>
  obtain⟨k,hk,rfl,rfl,hbw⟩:=hrel;have HBW:=ai hbw;clear hbw;by_cases hlt:k<q.kids.length
  ·have hlti: (k:Int) <q.kids.length:=by omega
   have hrow:=HIN.o.row.mono HBW.o;have hix:=hrow.ix hlt Tryd.underlying55 sz46;obtain⟨⟨c0,c1,c2,c3⟩,⟨c4,c5,c6,c7,c8,c9⟩,⟨c10,c11,c12,c13,c14⟩⟩:=qu_at hrow hlt;have hbk:=hrow.blk hlt;have HXI:=ai ((HIN.o.kid _ (List.getElem_mem hlt)).mono HBW.o);have HWK:=ai (Nat.le_trans (Qu.wt_kid (List.getElem_mem hlt)) hwt);have HIH:=ai (IH.o _ (List.getElem_mem hlt));have HST:=ai (Qu.deps_take hlt);generalize Qu.deps (q.kids.take k) =V at *;clear hrow;generalize q.kids[k] =x at *;go_wp2_with (go_at_call 17;refine(HIH.o _ (HXI.o.mono (belA _)) HWK.o).mono ?_;rintro r w2 ⟨rfl,hb2⟩;have HB2:=ai (bT (belA _) hb2);clear hb2)
   go_roundw
   case rel=>exact⟨k+1,by omega,by go_num,val_eq (by rw [HST.o];first|exact max_val _ _|exact max_val2 _ _),bT HBW.o HB2.o⟩
   case measure=>simp [intOf];omega
  ·have hlti: ¬(k:Int) <q.kids.length:=by omega
   have HE:=ai (show q.dep=Qu.deps (q.kids.take k) +1 by rw [show k=q.kids.length by omega,List.take_length,Qu.dep_eq])
   have hsm: (Qu.deps (q.kids.take k)) +1≤1048576:=by rw [←HE.o];exact HDL.o
   go_wp2;go_ret
   refine⟨ret1 ?_,(belA _).trans (HBW.o.mono (by simp))⟩
   rw [HE.o];omega
theorem rdep_any {w0:World} {q:Qu} (h0:q.In w0) : ∀(w:World),q.In w→q.wt≤1048576→
  Calls Tryd.prog 39 #[.agg #[.int .i64 q.op,.string q.table,.int .i64 q.kind,.bool q.all,.int .i64 q.cond.op,.int .i64 q.cond.typ,.int .i64 q.cond.num,.string q.cond.text,.int .i64 q.cond.col,.slice q.cond.kh.ao q.cond.kids.length q.cond.kh.cap,.slice q.eh.ao q.exprs.length q.eh.cap,.slice q.ah.ao q.aggs.length q.ah.cap,.slice q.types.h.ao q.types.l.length q.types.h.cap,.slice q.rh.ao q.rows.length q.rh.cap,.slice q.qh.ao q.kids.length q.qh.cap]] w fun r w'=>r = .returned (.int .i64 (q.dep:Nat))∧Below w.heap.size w w':=by
 induction h0 with
 | mk q _ _ _ ih=>
 intro w hin hwt;have IH:=ai ih;clear ih;have l1:=hin.row.len;have HDL:=ai (Nat.le_trans (Qu.dep_le q) hwt);have HIN:=ai (hin.mono (belA (.cells q.lit 57)));clear hin
 go_enter Tryd.func39,Tryd.ntmps39;go_wp2;go_loopw [3,4] (fun v i wr=>∃k:Nat,k≤q.kids.length∧i = .int .i64 k∧v = .int .i64 ((Qu.deps (q.kids.take k) :Nat) :Int)∧Below (w.alloc (.cells q.lit 57)).heap.size (w.alloc (.cells q.lit 57)) wr) (fun _ i _=>q.kids.length - (intOf i).toNat)
 case atStart=>exact⟨0,Nat.zero_le _,rfl,val_eq (by simp [Qu.deps]),Below.refl _ _⟩
 case round=>
  obtain⟨k,hk,rfl,rfl,hbw⟩:=hrel;have HBW:=ai hbw;clear hbw;have x14:=box_cell HBW.o (j:=14) rfl
  by_cases hlt:k<q.kids.length
  ·have hlti: (k:Int) <q.kids.length:=by omega
   have hrow:=HIN.o.row.mono HBW.o;have hix:=hrow.ix hlt Tryd.underlying55 sz46;obtain⟨⟨c0,c1,c2,c3⟩,⟨c4,c5,c6,c7,c8,c9⟩,⟨c10,c11,c12,c13,c14⟩⟩:=qu_at hrow hlt;have hbk:=hrow.blk hlt;have HXI:=ai ((HIN.o.kid _ (List.getElem_mem hlt)).mono HBW.o);have HWK:=ai (Nat.le_trans (Qu.wt_kid (List.getElem_mem hlt)) hwt);have HIH:=ai (IH.o _ (List.getElem_mem hlt));have HST:=ai (Qu.deps_take hlt);generalize Qu.deps (q.kids.take k) =V at *;clear hrow;generalize q.kids[k] =x at *;go_wp2_with (go_at_call 39;refine(HIH.o _ HXI.o HWK.o).mono ?_;rintro r w2 ⟨rfl,hb2⟩;have HB2:=ai hb2;clear hb2)
   go_roundw
   case rel=>exact⟨k+1,by omega,by go_num,val_eq (by rw [HST.o];first|exact max_val _ _|exact max_val2 _ _),bT HBW.o HB2.o⟩
   case measure=>simp [intOf];omega
  ·have hlti: ¬(k:Int) <q.kids.length:=by omega
   have HE:=ai (show q.dep=Qu.deps (q.kids.take k) +1 by rw [show k=q.kids.length by omega,List.take_length,Qu.dep_eq])
   have hsm: (Qu.deps (q.kids.take k)) +1≤1048576:=by rw [←HE.o];exact HDL.o
   go_wp2;go_ret
   refine⟨ret1 ?_,(belA _).trans (HBW.o.mono (by simp))⟩
   rw [HE.o];omega
end Go.Proofs.YtogalchclmmfgaaDoor
namespace Go.Proofs.YtogalchclmmfgaaDoor
open Go.RowKit
abbrev scanQ:Qu:=⟨1,⟨#[116,48]⟩,0,false,noEx,nilHd,[],nilHd,[],⟨nilHd,[]⟩,nilHd,[],nilHd,[]⟩
abbrev more (x:Qu) (g:Nat) :Qu:=⟨9,⟨#[]⟩,0,false,noEx,nilHd,[],nilHd,[],⟨nilHd,[]⟩,nilHd,[],⟨some ⟨g,0,none⟩,1⟩,[x]⟩
inductive Chain:Nat→Qu→Prop where
 | zero:Chain 0 scanQ
 | succ {j:Nat} {x:Qu} {g:Nat} : Chain j x→Chain (j+1) (more x g)
def t0cols (s:Sch) (cs:List Int) :Prop:=∃(k:Nat) (hk:k<s.tabs.length),fok (named ⟨#[116,48]⟩) s.tabs=true∧fi (named ⟨#[116,48]⟩) s.tabs=k∧cs=s.tabs[k].cols.map Col.typ∧s.tabs[k].cols.length≤100
theorem info_il: (Tryd.prog.info? 22).map (fun i=>(i.zero,i.size,i.bytes)) =some (some (.slice none 0 0),1,24):=by kernel_rfl
theorem szil: (Tryd.prog.info? 22).map (·.size) =some 1:=by kernel_rfl
end Go.Proofs.YtogalchclmmfgaaDoor
namespace Go.Proofs.YtogalchclmmfgaaDoor
open Go.RowKit
def Box (w:World) (g:Nat) (cs:Array Value) (T:TypeId) :Prop:=w.heap[g]? = some (.cells cs T (0,0))
theorem Box.new (w:World) (cs:Array Value) (T:TypeId) :Box (w.alloc (.cells cs T)) w.heap.size cs T:=heap_alloc_new w _
theorem Box.lt {w:World} {g:Nat} {cs:Array Value} {T:TypeId} (h:Box w g cs T) :g<w.heap.size:=(Array.getElem?_eq_some_iff.1 h).1
theorem Box.cell {w:World} {g:Nat} {cs:Array Value} {T:TypeId} (h:Box w g cs T) {j:Nat} {v:Value} (hv:cs[j]? = some v) :w.cell? ⟨g,j,none⟩ =some v:=by
 rw [cell_of_row w g j cs T (0,0) h];exact hv
theorem Box.fr {w:World} {g:Nat} {cs:Array Value} {T:TypeId} (h:Box w g cs T) (j:Nat) :w.frozen? ⟨g,j,none⟩ =false:=by
 unfold Box at h
 simp [World.frozen?,h]
theorem Box.c15 {w:World} {g:Nat} {T:TypeId} {v0 v1 v2 v3 v4 v5 v6 v7 v8 v9 v10 v11 v12 v13 v14:Value} (h:Box w g #[v0,v1,v2,v3,v4,v5,v6,v7,v8,v9,v10,v11,v12,v13,v14] T) :w.cell? ⟨g,0,none⟩ =some v0∧w.cell? ⟨g,1,none⟩ =some v1∧w.cell? ⟨g,2,none⟩ =some v2∧w.cell? ⟨g,3,none⟩ =some v3∧w.cell? ⟨g,4,none⟩ =some v4∧w.cell? ⟨g,5,none⟩ =some v5∧w.cell? ⟨g,6,none⟩ =some v6∧w.cell? ⟨g,7,none⟩ =some v7∧w.cell? ⟨g,8,none⟩ =some v8∧w.cell? ⟨g,9,none⟩ =some v9∧w.cell? ⟨g,10,none⟩ =some v10∧w.cell? ⟨g,11,none⟩ =some v11∧w.cell? ⟨g,12,none⟩ =some v12∧w.cell? ⟨g,13,none⟩ =some v13∧w.cell? ⟨g,14,none⟩ =some v14:=
 ⟨h.cell (j:=0) rfl,h.cell (j:=1) rfl,h.cell (j:=2) rfl,h.cell (j:=3) rfl,h.cell (j:=4) rfl,h.cell (j:=5) rfl,h.cell (j:=6) rfl,h.cell (j:=7) rfl,h.cell (j:=8) rfl,h.cell (j:=9) rfl,h.cell (j:=10) rfl,h.cell (j:=11) rfl,h.cell (j:=12) rfl,h.cell (j:=13) rfl,h.cell (j:=14) rfl⟩
theorem Box.f15 {w:World} {g:Nat} {cs:Array Value} {T:TypeId} (h:Box w g cs T) :w.frozen? ⟨g,0,none⟩ =false∧w.frozen? ⟨g,1,none⟩ =false∧w.frozen? ⟨g,2,none⟩ =false∧w.frozen? ⟨g,3,none⟩ =false∧w.frozen? ⟨g,4,none⟩ =false∧w.frozen? ⟨g,5,none⟩ =false∧w.frozen? ⟨g,6,none⟩ =false∧w.frozen? ⟨g,7,none⟩ =false∧w.frozen? ⟨g,8,none⟩ =false∧w.frozen? ⟨g,9,none⟩ =false∧w.frozen? ⟨g,10,none⟩ =false∧w.frozen? ⟨g,11,none⟩ =false∧w.frozen? ⟨g,12,none⟩ =false∧w.frozen? ⟨g,13,none⟩ =false∧w.frozen? ⟨g,14,none⟩ =false:=
 ⟨h.fr 0,h.fr 1,h.fr 2,h.fr 3,h.fr 4,h.fr 5,h.fr 6,h.fr 7,h.fr 8,h.fr 9,h.fr 10,h.fr 11,h.fr 12,h.fr 13,h.fr 14⟩
theorem Box.below {w w':World} {g:Nat} {cs:Array Value} {T:TypeId} (h:Box w g cs T) (hb:Below w.heap.size w w') :Box w' g cs T:=(hb.block g h.lt).trans h
theorem Box.grown {w w':World} {g:Nat} {cs:Array Value} {T:TypeId} {row:Option Nat} (h:Box w g cs T) (hb:w.grownBy w' row) (hne:some g≠row) :Box w' g cs T:=(hb.block g h.lt hne).trans h
theorem gb_set (w:World) (g j:Nat) (u:Value) :w.grownBy (w.setCell ⟨g,j,none⟩ u) (some g):=⟨rfl,rfl,rfl,by simp [World.setCell],fun i _ hi=>Below.heap_setCell _ _ _ _ (fun e=>hi (by rw [e]))⟩
theorem gb_then {a b c:World} {r:Option Nat} {g:Nat} (h:a.grownBy b r) (k:b.grownBy c (some g)) (hg:a.heap.size≤g) :a.grownBy c r:=h.andThen k (fun j e=>.inl (by cases e;exact hg))
theorem only_below {a w:World} (h:Below a.heap.size a w) (row:Option Nat) :a.grownBy w row:=⟨h.os,h.tape,h.output,h.size,fun i hi _=>h.block i hi⟩
theorem name_zero (w:World) (s:ByteArray) (hs:s.size≤100) :
  Calls Tryd.prog 18 #[.string s,.int .i64 0] w fun e w'=>e = .returned (.string (s ++ ⟨#[48]⟩))∧Below w.heap.size w w':=by
 have hcv: (convert 83 9 (.slice (some ⟨w.heap.size,0,none⟩) 1 1)).run Tryd.prog (w.alloc (.cells #[.int .u8 48] 5)) = .ok (.string ⟨#[48]⟩) (w.alloc (.cells #[.int .u8 48] 5)):=
  run_convert_bytes_back _ 83 9 5 ⟨w.heap.size,0,none⟩ 1 [48] rfl rfl rfl (fun j hj=>by
   have h0:j=0:=by simp at hj;omega
   subst h0;exact new_cells 0 _ rfl)
 go_enter Tryd.func18,Tryd.ntmps18;go_wp2;have hsz: (s ++ (⟨#[48]⟩ :ByteArray)).size≤1000:=by rw [ByteArray.size_append];show s.size+1≤1000;omega
 go_ret
 exact⟨rfl,belA _⟩
theorem bool_zero (w:World) :
  Calls Tryd.prog 108 #[.int .i64 0] w fun e w'=>e = .returned (.agg #[.int .i64 2,.int .i64 0,.string ⟨#[]⟩])∧Below w.heap.size w w':=by
 go_enter Tryd.func108,Tryd.ntmps108;go_wp2;exact bodyPost_ret (v:=.agg #[.int .i64 2,.int .i64 0,.string ⟨#[]⟩]) (by simp [results,Tryd.results108,go_sem]) rfl ⟨rfl,belA _⟩
theorem bool_one (w:World) :
  Calls Tryd.prog 108 #[.int .i64 1] w fun e w'=>e = .returned (.agg #[.int .i64 2,.int .i64 1,.string ⟨#[]⟩])∧Below w.heap.size w w':=by
 go_enter Tryd.func108,Tryd.ntmps108;go_wp2;exact bodyPost_ret (v:=.agg #[.int .i64 2,.int .i64 1,.string ⟨#[]⟩]) (by simp [results,Tryd.results108,go_sem]) rfl ⟨rfl,belA _⟩
theorem bool_any (n:Int) (hn:n=0∨n=1) (w:World) :
  Calls Tryd.prog 108 #[.int .i64 n] w fun e w'=>e = .returned (.agg #[.int .i64 2,.int .i64 n,.string ⟨#[]⟩])∧Below w.heap.size w w':=by
 rcases hn with rfl|rfl
 ·exact bool_zero w
 ·exact bool_one w
theorem info_v: (Tryd.prog.info? 98).map (fun i=>(i.zero,i.size,i.bytes)) =some (some (.agg #[.int .i64 0,.int .i64 0,.string ⟨#[]⟩]),3,32):=by kernel_rfl
def E0:IL:=⟨nilHd,[]⟩
end Go.Proofs.YtogalchclmmfgaaDoor
namespace Go.Proofs.YtogalchclmmfgaaDoor
open Go.RowKit
theorem own_from {w:World} {base n m size:Nat} {h:Hd} {e:TypeId} {xs:List Value} (ho:w.ownsRow base e size (.slice h.ao m h.cap) n xs) (hp:0<m) :base≤h.b:=by
 rcases ho.2 with⟨h1,-⟩ | ⟨g,cap,_,h1,hb,-⟩
 ·injection h1 with _ h2;omega
 ·injection h1 with h2
  unfold Hd.b
  rw [h2];exact hb
theorem rtypes_new (x:Tab) (w:World) (hin:x.In w) (hsm:x.cols.length≤100) :
  Calls Tryd.prog 20 #[.agg #[.string x.name,.slice x.ch.ao x.cols.length x.ch.cap,.slice x.prim.h.ao x.prim.l.length x.prim.h.cap,.slice x.uh.ao x.uniqs.length x.uh.cap,.slice x.fh.ao x.fors.length x.fh.cap,.slice x.kh.ao x.checks.length x.kh.cap]] w
   fun e w'=>(∃r:IL,e = .returned (.slice r.h.ao r.l.length r.h.cap)∧r.l=x.cols.map Col.typ∧r.In w'∧(0<r.l.length→w.heap.size≤r.h.b))∧Below w.heap.size w w':=by
 have hn:=hin.rc.len;obtain⟨i0,hi,hz0,hz1,hz2⟩:=info_parts info3;have HI:=ai (And.intro hi (And.intro hz0 (And.intro hz1 hz2)));clear hi hz0 hz1 hz2
 go_enter Tryd.func20,Tryd.ntmps20;go_wp2;go_loopw [3,4] (fun v i wr=>∃k:Nat,k≤x.cols.length∧i = .int .i64 k∧wr.ownsRow (w.heap.size+1) 3 1 v k ((x.cols.take k).flatMap ctyp)∧Below (w.heap.size+1) (w.alloc (.cells #[.string x.name,.slice x.ch.ao x.cols.length x.ch.cap,.slice x.prim.h.ao x.prim.l.length x.prim.h.cap,.slice x.uh.ao x.uniqs.length x.uh.cap,.slice x.fh.ao x.fors.length x.fh.cap,.slice x.kh.ao x.checks.length x.kh.cap] 39)) wr) (fun _ i _=>x.cols.length - (intOf i).toNat)
 case atStart=>exact⟨0,Nat.zero_le _,rfl,World.ownsRow_nil _ _ _ _,Below.refl _ _⟩
 case round=>
  obtain⟨k,hk,rfl,hown,hbw0⟩:=hrel;have hbw:Below w.heap.size w wr:=(belA _).trans (hbw0.mono (by omega))
  have HB0:=ai hbw0;have hbox:wr.cell? ⟨w.heap.size,1,none⟩ =some (.slice x.ch.ao x.cols.length x.ch.cap):=by rw [hbw0.cell (by simp)];simp [go_sem]
  have hszl:w.heap.size+1≤wr.heap.size:=by have:=hbw0.size;simpa using this
  clear hbw0;have HB:=ai hbw;have HO:=ai hown;have hin':=hin.mono hbw;clear hbw hown;by_cases hlt:k<x.cols.length
  ·have hix:=hin'.rc.ix hlt Tryd.underlying34 sz30
   obtain⟨c0,c1,c2⟩:=col_at hin'.rc hlt;have hbb:=hin'.rc.blk hlt;go_wp2_with (at_builtin;refine wpList_append_own _ rfl _ _ 22 rfl (w.heap.size+1) 3 i0 (.int .i64 0) 1 8 Tryd.underlying22 HI.o.1 HI.o.2.1 HI.o.2.2.1 HI.o.2.2.2 rfl (by decide) _ _ _ rfl (HO.o.alloc _) ⟨wr.heap.size,0,none⟩ 1 1 [.int .i64 x.cols[k].typ] rfl rfl ?c1 ?c2 ?c3 ?c4 ?c5 ?_)
   case c1=>exact new_cells (l:= [_])
   case c2=>exact one_int
   case c3=>unfold maxLen;omega
   case c4=>omega
   case c5=>simp;omega
   intro v' w1 hown' hgrow _;have HO':=ai (own_snoc hlt hown');have HG:=ai hgrow;clear hown' hgrow;go_wp2;go_roundw
   case rel=>
    refine⟨k+1,by omega,by go_num,HO'.o,?_⟩
    exact grown1 HB0.o hszl HG.o (fun b hb=>(HO.o.lt b hb).1)
   case measure=>simp [intOf];omega
  ·go_wp2
   go_ret
   have hk':k=x.cols.length:=by omega
   refine⟨?_,HB.o⟩
   have ho:=HO.o;rw [hk',List.take_length,ctyp_icells]at ho;obtain⟨r,hv,hr,hin2⟩:=il_mk ho (typs_wf hin);exact⟨r,congrArg Ending.returned hv,hr,hin2,fun hp=>by have:=own_from (hv▸HO.o) hp;omega⟩
end Go.Proofs.YtogalchclmmfgaaDoor
namespace Go.Proofs.YtogalchclmmfgaaDoor
open Go.RowKit
theorem set6 (w:World) (g:Nat) (a b c d e f:Value) :w.grownBy ((((((w.setCell ⟨g,0,none⟩ a).setCell ⟨g,1,none⟩ b).setCell ⟨g,2,none⟩ c).setCell ⟨g,3,none⟩ d).setCell ⟨g,4,none⟩ e).setCell ⟨g,5,none⟩ f) (some g):=
 (((((gb_set _ _ _ _).trans (gb_set _ _ _ _)).trans (gb_set _ _ _ _)).trans (gb_set _ _ _ _)).trans (gb_set _ _ _ _)).trans (gb_set _ _ _ _)
end Go.Proofs.YtogalchclmmfgaaDoor
namespace Go.Proofs.YtogalchclmmfgaaDoor
open Go.RowKit
theorem info_col: (Tryd.prog.info? 41).map (fun i=>(i.zero,i.size,i.bytes)) =some (some (.agg #[.string ⟨#[]⟩,.int .i64 0,.bool false]),3,32):=by kernel_rfl
theorem info_exp: (Tryd.prog.info? 45).map (fun i=>(i.zero,i.size,i.bytes)) =some (some (.agg #[.int .i64 0,.int .i64 0,.int .i64 0,.string ⟨#[]⟩,.int .i64 0,.slice none 0 0]),6,72):=by kernel_rfl
theorem info_tab: (Tryd.prog.info? 39).map (fun i=>(i.zero,i.size,i.bytes)) =some (some (.agg #[.string ⟨#[]⟩,.slice none 0 0,.slice none 0 0,.slice none 0 0,.slice none 0 0,.slice none 0 0]),6,136):=by kernel_rfl
theorem Box.set {w:World} {g:Nat} {cs:Array Value} {T:TypeId} (h:Box w g cs T) (j:Nat) (v:Value) :Box (w.setCell ⟨g,j,none⟩ v) g (cs.setIfInBounds j v) T:=heap_setCell_same w g j cs T v h
theorem own_ne {w:World} {base n m size cap g k:Nat} {e T:TypeId} {xs:List Value} {cs:Array Value} (ho:w.ownsRow base e size (.slice (some ⟨g,0,none⟩) m cap) n xs) (hb:Box w k cs T) (hne:e≠T) :g≠k:=by
 rintro rfl;rcases ho.2 with⟨h1,-⟩ | ⟨g',cap',cur,h1,_,hg,-⟩
 ·cases h1
 ·cases h1
  unfold Box at hb
  rw [hg]at hb;injection hb with hb;injection hb with _ h2;exact hne h2
theorem own_ge {w:World} {base n m size cap g:Nat} {e:TypeId} {xs:List Value} (ho:w.ownsRow base e size (.slice (some ⟨g,0,none⟩) m cap) n xs) :base≤g:=by
 rcases ho.2 with⟨h1,-⟩ | ⟨g',cap',cur,h1,hb,_⟩
 ·cases h1
 ·cases h1;exact hb
structure Lit0 (W V:World) (b a c:Nat) :Prop where
 gb:W.grownBy V (some b)
 le:W.heap.size≤c
 tp:TapeIn V b E0 a
 bp:Box V (c+1) #[.int .i64 0] 3
 bx:Box V (c+1+1) #[.string ⟨#[116,48]⟩,.slice (some ⟨c,0,none⟩) 1 1,.slice (some ⟨c+1,0,none⟩) 1 1,.slice none 0 0,.slice none 0 0,.slice none 0 0] 39
 own:V.ownsRow c 41 3 (.slice (some ⟨c,0,none⟩) 1 1) 1 [.string ⟨#[105,100]⟩,.int .i64 1,.bool false]
structure Lit1 (W z:World) (b a c:Nat) (v:Value) :Prop where
 gb:W.grownBy z (some b)
 le:W.heap.size≤c
 tp:TapeIn z b E0 a
 bp:Box z (c+1) #[.int .i64 0] 3
 bx:Box z (c+1+1) #[.string ⟨#[116,48]⟩,v,.slice (some ⟨c+1,0,none⟩) 1 1,.slice none 0 0,.slice none 0 0,.slice none 0 0] 39
 own:z.ownsRow c 41 3 v 2 [.string ⟨#[105,100]⟩,.int .i64 1,.bool false,.string ⟨#[99,48]⟩,.int .i64 1,.bool true]
def T0 (c g cap u g2 cap2:Nat) :Tab:=⟨⟨#[116,48]⟩,⟨some ⟨g,0,none⟩,cap⟩,[⟨⟨#[105,100]⟩,1,false⟩,⟨⟨#[99,48]⟩,1,true⟩],⟨⟨some ⟨c+1,0,none⟩,1⟩,[0]⟩,⟨some ⟨g2,0,none⟩,cap2⟩,[⟨⟨some ⟨u,0,none⟩,1⟩,[1]⟩],nilHd,[],nilHd,[]⟩
structure Lit2 (W z:World) (b a c g cap u g2 cap2:Nat) :Prop where
 gb:W.grownBy z (some b)
 le:W.heap.size≤c
 tp:TapeIn z b E0 a
 bp:Box z (c+1) #[.int .i64 0] 3
 bu:Box z u #[.int .i64 1] 3
 bx:Box z (c+1+1) #[.string ⟨#[116,48]⟩,.slice (some ⟨g,0,none⟩) 2 cap,.slice (some ⟨c+1,0,none⟩) 1 1,.slice (some ⟨g2,0,none⟩) 1 cap2,.slice none 0 0,.slice none 0 0] 39
 own:z.ownsRow c 41 3 (.slice (some ⟨g,0,none⟩) 2 cap) 2 [.string ⟨#[105,100]⟩,.int .i64 1,.bool false,.string ⟨#[99,48]⟩,.int .i64 1,.bool true]
 own2:z.ownsRow c 22 1 (.slice (some ⟨g2,0,none⟩) 1 cap2) 1 [.slice (some ⟨u,0,none⟩) 1 1]
 uc:c≤u
theorem own_row2 {α:Type} {w:World} {base:Nat} {e:TypeId} {size n g cap:Nat} {cells:α→List Value} {xs:List α} (hs: ∀x,(cells x).length=size) (hpos:0<size)
  (h:w.ownsRow base e size (.slice (some ⟨g,0,none⟩) n cap) n (xs.flatMap cells)) :Row w size cells ⟨some ⟨g,0,none⟩,cap⟩ xs:=by
 obtain⟨hd,hv,hr⟩:=own_row hs hpos h;obtain⟨ao,cp⟩:=hd;injection hv with h1 _ h3;subst h1;subst h3;exact hr
theorem box_il {w:World} {g:Nat} {n:Int} {T:TypeId} (hb:Box w g #[.int .i64 n] T) (hn:int64 n) :IL.In w ⟨⟨some ⟨g,0,none⟩,1⟩,[n]⟩:=by
 refine⟨⟨by show(1:Nat)≤1;omega,by show(1:Nat)≤maxLen;unfold maxLen;omega,fun _=>⟨rfl,hb.lt⟩,fun i hi j v hv=> ?_⟩,fun m hm=> ?_⟩
 ·have h0:i=0:=by simp at hi;omega
  subst h0;have hj:j=0:=by
   have:=(List.getElem?_eq_some_iff.1 hv).1;simp at this;omega
  subst hj;exact hb.cell (j:=0) (by simpa using hv)
 ·rw [List.mem_singleton.1 hm];exact hn
def N0:Ex:=⟨1,2,0,⟨#[]⟩,0,nilHd,[]⟩
def T1 (c g cap u g2 cap2 k cap3:Nat) :Tab:= { T0 c g cap u g2 cap2 with kh:=⟨some ⟨k,0,none⟩,cap3⟩,checks:= [N0] }
theorem Box.ne {z:World} {g g':Nat} {cs cs':Array Value} {T T':TypeId} (h:Box z g cs T) (h':Box z g' cs' T') (hne:T≠T') :g≠g':=by
 rintro rfl
 unfold Box at h h'
 rw [h]at h';injection h' with h';injection h' with _ h2;exact hne h2
theorem own_some {z z':World} {c b m n size cap g:Nat} {e:TypeId} {xs:List Value} (ho:z.ownsRow c e size (.slice (some ⟨g,0,none⟩) m cap) n xs) (hg:z.grownBy z' (some b)) (hbc:b<c) :z'.ownsRow c e size (.slice (some ⟨g,0,none⟩) m cap) n xs:=
 ho.kept hg (.inr (by have:=own_ge ho;simp [Value.ownBlock];omega))
theorem Lit2.next {W z t:World} {b a a' c g cap u g2 cap2:Nat} (h:Lit2 W z b a c g cap u g2 cap2) (hg:z.grownBy t (some b)) (ht:TapeIn t b E0 a') (hbc:b<c) :Lit2 W t b a' c g cap u g2 cap2:=
 ⟨h.gb.trans hg,h.le,ht,h.bp.grown hg (by simp;omega),h.bu.grown hg (by have:=h.uc;simp;omega),h.bx.grown hg (by simp;omega),own_some h.own hg hbc,own_some h.own2 hg hbc,h.uc⟩
structure Lit3 (W z:World) (b a c g cap u g2 cap2 k cap3:Nat) :Prop where
 gb:W.grownBy z (some b)
 le:W.heap.size≤c
 tp:TapeIn z b E0 a
 bp:Box z (c+1) #[.int .i64 0] 3
 bu:Box z u #[.int .i64 1] 3
 bx:Box z (c+1+1) #[.string ⟨#[116,48]⟩,.slice (some ⟨g,0,none⟩) 2 cap,.slice (some ⟨c+1,0,none⟩) 1 1,.slice (some ⟨g2,0,none⟩) 1 cap2,.slice none 0 0,.slice (some ⟨k,0,none⟩) 1 cap3] 39
 own:z.ownsRow c 41 3 (.slice (some ⟨g,0,none⟩) 2 cap) 2 [.string ⟨#[105,100]⟩,.int .i64 1,.bool false,.string ⟨#[99,48]⟩,.int .i64 1,.bool true]
 own2:z.ownsRow c 22 1 (.slice (some ⟨g2,0,none⟩) 1 cap2) 1 [.slice (some ⟨u,0,none⟩) 1 1]
 uc:c≤u
 own3:z.ownsRow c 45 6 (.slice (some ⟨k,0,none⟩) 1 cap3) 1 [.int .i64 1,.int .i64 2,.int .i64 0,.string ⟨#[]⟩,.int .i64 0,.slice none 0 0]
structure TF (z:World) (c g cap u g2 cap2 k cap3 G capG:Nat) :Prop where
 bp:Box z (c+1) #[.int .i64 0] 3
 bu:Box z u #[.int .i64 1] 3
 own:z.ownsRow c 41 3 (.slice (some ⟨g,0,none⟩) 2 cap) 2 [.string ⟨#[105,100]⟩,.int .i64 1,.bool false,.string ⟨#[99,48]⟩,.int .i64 1,.bool true]
 own2:z.ownsRow c 22 1 (.slice (some ⟨g2,0,none⟩) 1 cap2) 1 [.slice (some ⟨u,0,none⟩) 1 1]
 uc:c≤u
 own3:z.ownsRow c 45 6 (.slice (some ⟨k,0,none⟩) 1 cap3) 1 [.int .i64 1,.int .i64 2,.int .i64 0,.string ⟨#[]⟩,.int .i64 0,.slice none 0 0]
 own4:z.ownsRow c 39 6 (.slice (some ⟨G,0,none⟩) 1 capG) 1 [.string ⟨#[116,48]⟩,.slice (some ⟨g,0,none⟩) 2 cap,.slice (some ⟨c+1,0,none⟩) 1 1,.slice (some ⟨g2,0,none⟩) 1 cap2,.slice none 0 0,.slice (some ⟨k,0,none⟩) 1 cap3]
def S1 (c g cap u g2 cap2 k cap3 G capG:Nat) :Sch:=⟨⟨some ⟨G,0,none⟩,capG⟩,[T1 c g cap u g2 cap2 k cap3]⟩
end Go.Proofs.YtogalchclmmfgaaDoor

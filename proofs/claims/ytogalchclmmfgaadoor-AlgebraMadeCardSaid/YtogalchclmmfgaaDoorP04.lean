/- A part of the proof of AlgebraMade. -/
import Derived.Test.YtogalchclmmfgaaDoorP01
import Derived.Test.YtogalchclmmfgaaDoorP02
import Derived.Deep.DeepCutAuto
import Derived.Deep.CutBlock
import Derived.OwnWalk
set_option maxRecDepth 100000
set_option maxHeartbeats 16000000
namespace Go.Proofs.YtogalchclmmfgaaDoor
open Go.RowKit
def forms:List (ByteArray×Int×ByteArray):= [(⟨#[]⟩,0,⟨#[]⟩),(⟨#[115,99,97,110]⟩,0,⟨#[116,97,98,108,101]⟩),(⟨#[118,97,108,117,101,115]⟩,0,⟨#[116,121,112,101,115,32,114,111,119,115]⟩),(⟨#[115,101,108,101,99,116]⟩,1,⟨#[99,111,110,100]⟩),(⟨#[112,114,111,106,101,99,116]⟩,1,⟨#[101,120,112,114,115]⟩),(⟨#[106,111,105,110]⟩,2,⟨#[107,105,110,100,32,99,111,110,100]⟩),(⟨#[117,110,105,111,110]⟩,2,⟨#[97,108,108]⟩),(⟨#[101,120,99,101,112,116]⟩,2,⟨#[97,108,108]⟩),(⟨#[105,110,116,101,114,115,101,99,116]⟩,2,⟨#[97,108,108]⟩),(⟨#[100,105,115,116,105,110,99,116]⟩,1,⟨#[]⟩),(⟨#[103,114,111,117,112]⟩,1,⟨#[101,120,112,114,115,32,97,103,103,115]⟩)]
theorem forms_len:forms.length=11:=rfl
def FormsAt (w:World) :Prop:=∀(i:Nat) (h:i<forms.length),w.cell? ⟨0,i*3,none⟩ =some (.string forms[i].1)∧w.cell? ⟨0,i*3+1,none⟩ =some (.int .i64 forms[i].2.1)∧w.cell? ⟨0,i*3+2,none⟩ =some (.string forms[i].2.2)
theorem FormsAt.lt {w:World} (h:FormsAt w) :0<w.heap.size:=World.block_lt_of_cell? w ⟨0,0*3,none⟩ (h 0 (by decide)).1
theorem FormsAt.mono {w w':World} (h:FormsAt w) (hb:Below w.heap.size w w') :FormsAt w':=fun i hi=>by
 obtain⟨h1,h2,h3⟩:=h i hi;exact⟨by rw [hb.cell (p:=⟨0,_,none⟩) h.lt];exact h1,by rw [hb.cell (p:=⟨0,_,none⟩) h.lt];exact h2,by rw [hb.cell (p:=⟨0,_,none⟩) h.lt];exact h3⟩
theorem formOf_hit (i:Nat) (hi:i<forms.length) (h0:0<i) (w:World) (hf:FormsAt w) :
  Calls Tryd.prog 60 #[.int .i64 (i:Nat)] w fun e w'=>e = .returned (.tuple #[.agg #[.string forms[i].1,.int .i64 forms[i].2.1,.string forms[i].2.2],.bool true])∧Below w.heap.size w w':=by
 have hl:=forms_len;have hlt:=hf.lt;obtain⟨c0,c1,c2⟩:=hf i hi;have hne: (forms[i].1.toList == []) =false:=by
  have h1: ∀j (h:j<forms.length),0<j→(forms[j].1.toList == []) =false:=by
   intro j h hj;have hc:j=1∨j=2∨j=3∨j=4∨j=5∨j=6∨j=7∨j=8∨j=9∨j=10:=by omega
   rcases hc with rfl|rfl|rfl|rfl|rfl|rfl|rfl|rfl|rfl|rfl<;>simp [forms]
  exact h1 i hi h0
 have hi1: ¬(i:Int) <0:=by omega
 have hi2: ¬(11:Int)≤(i:Int):=by omega
 generalize forms[i] =f at *
 go_enter Tryd.func60,Tryd.ntmps60;go_wp2;exact bodyPost_ret (v:=.tuple #[.agg #[.string f.1,.int .i64 f.2.1,.string f.2.2],.bool true]) (by simp [results,Tryd.results60,go_sem]) rfl ⟨rfl,belA _⟩
end Go.Proofs.YtogalchclmmfgaaDoor
namespace Go.Proofs.YtogalchclmmfgaaDoor
open Go.RowKit
def asize (a:Agg) :Nat:=if a.fn=1 then 0 else a.arg.size
def rsize (r:VL) :Nat:=r.l.length
mutual
def Qu.size:Qu→Nat
 | ⟨op,_,_,_,cond,_,exprs,_,aggs,_,_,rows,_,kids⟩=>
  1+ (if op=3∨op=5 then cond.size else 0) + (if op=4∨op=10 then Ex.sizes exprs else 0) + (if op=10 then (aggs.map asize).sum else 0) + (rows.map rsize).sum+Qu.sizes kids
def Qu.sizes:List Qu→Nat
 | []=>0
 | k :: r=>Qu.size k+Qu.sizes r
end
def Qu.csz (q:Qu) :Nat:=if q.op=3∨q.op=5 then q.cond.size else 0
def Qu.esz (q:Qu) :Nat:=if q.op=4∨q.op=10 then Ex.sizes q.exprs else 0
def Qu.asz (q:Qu) :Nat:=if q.op=10 then (q.aggs.map asize).sum else 0
theorem Qu.size_eq (q:Qu) :q.size=1+q.csz+q.esz+q.asz+ (q.rows.map rsize).sum+Qu.sizes q.kids:=by cases q;rw [Qu.size];rfl
theorem Qu.sizes_snoc (l:List Qu) (x:Qu) :Qu.sizes (l ++ [x]) =Qu.sizes l+x.size:=by
 induction l with
 | nil=>simp [Qu.sizes]
 | cons a l ih=>simp only [List.cons_append,Qu.sizes,ih];omega
theorem Qu.sizes_take {l:List Qu} {k:Nat} (h:k<l.length) :Qu.sizes (l.take (k+1)) =Qu.sizes (l.take k) +l[k].size:=by
 rw [List.take_succ_eq_append_getElem h,Qu.sizes_snoc]
theorem sum_take {α:Type} (f:α→Nat) {l:List α} {k:Nat} (h:k<l.length) : ((l.take (k+1)).map f).sum= ((l.take k).map f).sum+f l[k]:=by
 rw [List.take_succ_eq_append_getElem h,List.map_append,List.sum_append];simp
theorem wrap_add1 (a b:Int) :wrap64 (wrap64 a+b) =wrap64 (a+b):=by unfold wrap64;omega
theorem wrap_small {n:Nat} (h:n≤9223372036854775807) :wrap64 (n:Int) =n:=by unfold wrap64;omega
theorem val_eq {a b:Int} (h:a=b) :Value.int .i64 a = .int .i64 b:=by rw [h]
theorem rqsize_any {w0:World} {q:Qu} (h0:q.In w0) : ∀(w:World),q.In w→
  Calls Tryd.prog 38 #[.agg #[.int .i64 q.op,.string q.table,.int .i64 q.kind,.bool q.all,.int .i64 q.cond.op,.int .i64 q.cond.typ,.int .i64 q.cond.num,.string q.cond.text,.int .i64 q.cond.col,.slice q.cond.kh.ao q.cond.kids.length q.cond.kh.cap,.slice q.eh.ao q.exprs.length q.eh.cap,.slice q.ah.ao q.aggs.length q.ah.cap,.slice q.types.h.ao q.types.l.length q.types.h.cap,.slice q.rh.ao q.rows.length q.rh.cap,.slice q.qh.ao q.kids.length q.qh.cap]] w fun r w'=>r = .returned (.int .i64 (wrap64 (q.size:Int)))∧Below w.heap.size w w':=by
 induction h0 with
 | mk q _ _ _ ih=>
 intro w hin;have IH:=ai ih;clear ih;have l1:=hin.row.len;have l2:=hin.flat.re.len;have l3:=hin.flat.ra.len;have l5:=hin.flat.rr.len;have HIN:=ai (hin.mono (belA (.cells q.lit 57)));clear hin
 go_enter Tryd.func38,Tryd.ntmps38;go_upto_region 2 with(fail)
 go_cut [15] (fun v wx=>∃b:Bool,v = .bool b∧Hid (b=decide (q.op=3∨q.op=5))∧wx=w.alloc (.cells q.lit 57))
 case first=>
  by_cases h3: (q.op == 3) =true
  ·have E:=ai (show true=decide (q.op=3∨q.op=5) by simp at h3;simp [h3])
   go_wp2;go_meet
   case rel=>exact⟨_,rfl,E,rfl⟩
  ·have h3': (q.op == 3) =false:=by simpa using h3
   have E:=ai (show(q.op == 5) =decide (q.op=3∨q.op=5) by simp at h3;simp [h3];rfl)
   clear h3
   cases h5: (q.op == 5)
   ·have E':Hid (false=decide (q.op=3∨q.op=5)):=by rw [←h5];exact E
    clear E;go_wp2;go_meet
    case rel=>exact⟨_,rfl,E',rfl⟩
   ·have E':Hid (true=decide (q.op=3∨q.op=5)):=by rw [←h5];exact E
    clear E;go_wp2;go_meet
    case rel=>exact⟨_,rfl,E',rfl⟩
 case rest=>
 obtain⟨b,rfl,HE,rfl⟩:=hcut
 go_upto_if 15 with(fail)
 go_cut [3] (fun v wx=>v = .int .i64 (wrap64 ((1+q.csz:Nat) :Int))∧Below (w.alloc (.cells q.lit 57)).heap.size (w.alloc (.cells q.lit 57)) wx)
 case first=>
  cases b
  ·have hz:=ai (show q.csz=0 by unfold Qu.csz;rw [if_neg (of_decide_eq_false HE.o.symm)])
   go_wp2;go_meet
   case rel=>exact⟨val_eq (by rw [hz.o];simp [wrap64]),Below.refl _ _⟩
  ·have hz:=ai (show q.csz=q.cond.size by unfold Qu.csz;rw [if_pos (of_decide_eq_true HE.o.symm)])
   go_wp2_with (go_at_call 69;refine(rsize_any HIN.o.flat.cd _ HIN.o.flat.cd).mono ?_;rintro r w1 ⟨rfl,hb1⟩;have HB1:=ai hb1;clear hb1)
   go_meet
   case rel=>
    refine⟨val_eq ?_,HB1.o⟩
    rw [hz.o,Int.add_comm,wrap_add1]
    congr 1
    omega
 case rest=>
 obtain⟨rfl,hb0⟩:=hcut;have HB0:=ai hb0;clear hb0 HE b;generalize hV0:wrap64 ((1+q.csz:Nat) :Int) =V0;have HV0:=ai hV0;clear hV0;obtain⟨wa,rfl⟩ : ∃W:World,W=wc:=⟨_,rfl⟩
 go_upto_block 0 with(fail)
 go_cut [3] (fun v wx=>v = .int .i64 (wrap64 ((1+q.csz+q.esz:Nat) :Int))∧Below (w.alloc (.cells q.lit 57)).heap.size (w.alloc (.cells q.lit 57)) wx)
 case first=>
  by_cases h4: (q.op == 4) =true
  ·have HE:=ai (show q.esz=Ex.sizes q.exprs by simp at h4;unfold Qu.esz;rw [if_pos (.inl h4)])
   go_wp2_with fail
   go_loopw [3,4] (fun v i wr=>∃k:Nat,k≤q.exprs.length∧i = .int .i64 k∧v = .int .i64 (wrap64 ((1+q.csz+Ex.sizes (q.exprs.take k) :Nat) :Int))∧Below (w.heap.size+1) (w.alloc (.cells q.lit 57)) wr) (fun _ i _=>q.exprs.length - (intOf i).toNat)
   case atStart=>exact⟨0,Nat.zero_le _,rfl,val_eq (by rw [←HV0.o];simp [Ex.sizes]),HB0.o.mono (by simp)⟩
   case round=>
    obtain⟨k,hk,rfl,rfl,hbw0⟩:=hrel;have HBW:=ai (show Below (w.alloc (.cells q.lit 57)).heap.size (w.alloc (.cells q.lit 57)) wr from hbw0.mono (by simp))
    clear hbw0;have x0:=box_cell HBW.o (j:=0) rfl
    have x10:=box_cell HBW.o (j:=10) rfl
    generalize hV:wrap64 ((1+q.csz+Ex.sizes (q.exprs.take k) :Nat) :Int) =V;have HV:=ai hV;clear hV;by_cases hlt:k<q.exprs.length
    ·have hrow:=HIN.o.flat.re.mono HBW.o
     have hix:=hrow.ix hlt Tryd.underlying37 sz41;obtain⟨c0,c1,c2,c3,c4,c5⟩:=ex_at hrow hlt;have HXI:=ai ((HIN.o.flat.es _ (List.getElem_mem hlt)).mono HBW.o);clear hrow;go_wp2_with (go_at_call 69;refine(rsize_any HXI.o _ HXI.o).mono ?_;rintro r w1 ⟨rfl,hb1⟩;have HB1:=ai hb1;clear hb1)
     go_roundw
     case rel=>
      refine⟨k+1,by omega,by go_num,val_eq ?_,(bT HBW.o HB1.o).mono (by simp)⟩
      rw [←HV.o,wrap_add,Ex.sizes_take hlt]
      congr 1
      omega
     case measure=>simp [intOf];omega
    ·go_wp2
     go_meet
     case rel=>
      have hk':k=q.exprs.length:=by omega
      refine⟨val_eq ?_,HBW.o⟩
      rw [←HV.o,HE.o,hk',List.take_length]
  ·have h4': (q.op == 4) =false:=by simpa using h4
   by_cases h10: (q.op == 10) =true
   ·have HE:=ai (show q.esz=Ex.sizes q.exprs by simp at h10;unfold Qu.esz;rw [if_pos (.inr h10)])
    clear h4;go_wp2_with fail
    go_loopw [3,4] (fun v i wr=>∃k:Nat,k≤q.exprs.length∧i = .int .i64 k∧v = .int .i64 (wrap64 ((1+q.csz+Ex.sizes (q.exprs.take k) :Nat) :Int))∧Below (w.heap.size+1) (w.alloc (.cells q.lit 57)) wr) (fun _ i _=>q.exprs.length - (intOf i).toNat)
    case atStart=>exact⟨0,Nat.zero_le _,rfl,val_eq (by rw [←HV0.o];simp [Ex.sizes]),HB0.o.mono (by simp)⟩
    case round=>
     obtain⟨k,hk,rfl,rfl,hbw0⟩:=hrel;have HBW:=ai (show Below (w.alloc (.cells q.lit 57)).heap.size (w.alloc (.cells q.lit 57)) wr from hbw0.mono (by simp))
     clear hbw0;have x0:=box_cell HBW.o (j:=0) rfl
     have x10:=box_cell HBW.o (j:=10) rfl
     generalize hV:wrap64 ((1+q.csz+Ex.sizes (q.exprs.take k) :Nat) :Int) =V;have HV:=ai hV;clear hV;by_cases hlt:k<q.exprs.length
     ·have hrow:=HIN.o.flat.re.mono HBW.o
      have hix:=hrow.ix hlt Tryd.underlying37 sz41;obtain⟨c0,c1,c2,c3,c4,c5⟩:=ex_at hrow hlt;have HXI:=ai ((HIN.o.flat.es _ (List.getElem_mem hlt)).mono HBW.o);clear hrow;go_wp2_with (go_at_call 69;refine(rsize_any HXI.o _ HXI.o).mono ?_;rintro r w1 ⟨rfl,hb1⟩;have HB1:=ai hb1;clear hb1)
      go_roundw
      case rel=>
       refine⟨k+1,by omega,by go_num,val_eq ?_,(bT HBW.o HB1.o).mono (by simp)⟩
       rw [←HV.o,wrap_add,Ex.sizes_take hlt]
       congr 1
       omega
      case measure=>simp [intOf];omega
     ·go_wp2
      go_meet
      case rel=>
       have hk':k=q.exprs.length:=by omega
       refine⟨val_eq ?_,HBW.o⟩
       rw [←HV.o,HE.o,hk',List.take_length]
   ·have h10': (q.op == 10) =false:=by simpa using h10
    have HE:=ai (show q.esz=0 by simp at h4 h10;unfold Qu.esz;rw [if_neg (by rintro (h|h);exact h4 h;exact h10 h)])
    clear h4 h10;have x0:=box_cell HB0.o (j:=0) rfl
    have x10:=box_cell HB0.o (j:=10) rfl
    go_wp2_with fail
    go_loopw [3,4] (fun v i wr=>v = .int .i64 V0∧i = .int .i64 0∧wr=wa) (fun _ _ _=>0)
    case atStart=>exact⟨rfl,rfl,rfl⟩
    case round=>
     obtain⟨rfl,rfl,rfl⟩:=hrel;by_cases hlt:0<q.exprs.length
     all_goals
      go_wp2;go_meet
      case rel=>exact⟨val_eq (by rw [←HV0.o,HE.o];rfl),HB0.o⟩
 case rest=>
 obtain⟨rfl,hb0⟩:=hcut;have HB1:=ai hb0;clear hb0 HB0 HV0 V0;generalize hV0:wrap64 ((1+q.csz+q.esz:Nat) :Int) =V0;have HV0:=ai hV0;clear hV0;obtain⟨wb,rfl⟩ : ∃W:World,W=wc:=⟨_,rfl⟩
 go_upto_block 2 with(fail)
 go_cut [3] (fun v wx=>v = .int .i64 (wrap64 ((1+q.csz+q.esz+q.asz:Nat) :Int))∧Below (w.alloc (.cells q.lit 57)).heap.size (w.alloc (.cells q.lit 57)) wx)
 case first=>
  by_cases h10: (q.op == 10) =true
  ·have HE:=ai (show q.asz= (q.aggs.map asize).sum by simp at h10;unfold Qu.asz;rw [if_pos h10])
   go_wp2_with fail
   go_loopw [3,5] (fun v i wr=>∃k:Nat,k≤q.aggs.length∧i = .int .i64 k∧v = .int .i64 (wrap64 ((1+q.csz+q.esz+ ((q.aggs.take k).map asize).sum:Nat) :Int))∧Below (w.heap.size+1) (w.alloc (.cells q.lit 57)) wr) (fun _ i _=>q.aggs.length - (intOf i).toNat)
   case atStart=>exact⟨0,Nat.zero_le _,rfl,val_eq (by rw [←HV0.o];simp),HB1.o.mono (by simp)⟩
   case round=>
    obtain⟨k,hk,rfl,rfl,hbw0⟩:=hrel;have HBW:=ai (show Below (w.alloc (.cells q.lit 57)).heap.size (w.alloc (.cells q.lit 57)) wr from hbw0.mono (by simp))
    clear hbw0;have x0:=box_cell HBW.o (j:=0) rfl
    have x11:=box_cell HBW.o (j:=11) rfl
    generalize hV:wrap64 ((1+q.csz+q.esz+ ((q.aggs.take k).map asize).sum:Nat) :Int) =V;have HV:=ai hV;clear hV;by_cases hlt:k<q.aggs.length
    ·have hrow:=HIN.o.flat.ra.mono HBW.o
     have hix:=hrow.ix hlt Tryd.underlying53 sz74;obtain⟨c0,c1,c2,c3,c4,c5,c6⟩:=agg_at hrow hlt;have HXI:=ai (Agg.In.mono (HIN.o.flat.ags _ (List.getElem_mem hlt)) HBW.o);clear hrow;have HS:=ai (sum_take asize hlt);obtain⟨xa,hxa⟩ : ∃x,x=q.aggs[k]:=⟨_,rfl⟩;rw [←hxa]at c0 c1 c2 c3 c4 c5 c6 HXI HS;clear hxa;by_cases hf:xa.fn=1
     ·have HA:=ai (show asize xa=0 by unfold asize;rw [if_pos hf])
      have hf': (xa.fn != 1) =false:=by simp [hf]
      clear hf;go_wp2;go_roundw
      case rel=>
       refine⟨k+1,by omega,by go_num,val_eq ?_,HBW.o.mono (by simp)⟩
       rw [←HV.o,HS.o,HA.o]
       rfl
      case measure=>simp [intOf];omega
     ·have HA:=ai (show asize xa=xa.arg.size by unfold asize;rw [if_neg hf])
      have hf': (xa.fn != 1) =true:=by simpa using hf
      clear hf;go_wp2_with (go_at_call 69;refine(rsize_any HXI.o.2 _ HXI.o.2).mono ?_;rintro r w1 ⟨rfl,hb1⟩;have HB3:=ai hb1;clear hb1)
      go_roundw
      case rel=>
       refine⟨k+1,by omega,by go_num,val_eq ?_,(bT HBW.o HB3.o).mono (by simp)⟩
       rw [←HV.o,wrap_add,HS.o,HA.o]
       congr 1
       omega
      case measure=>simp [intOf];omega
    ·go_wp2
     go_meet
     case rel=>
      have hk':k=q.aggs.length:=by omega
      refine⟨val_eq ?_,HBW.o⟩
      rw [←HV.o,HE.o,hk',List.take_length]
  ·have h10': (q.op == 10) =false:=by simpa using h10
   have HE:=ai (show q.asz=0 by simp at h10;unfold Qu.asz;rw [if_neg h10])
   clear h10;have x0:=box_cell HB1.o (j:=0) rfl
   have x11:=box_cell HB1.o (j:=11) rfl
   go_wp2_with fail
   go_loopw [3,5] (fun v i wr=>v = .int .i64 V0∧i = .int .i64 0∧wr=wb) (fun _ _ _=>0)
   case atStart=>exact⟨rfl,rfl,rfl⟩
   case round=>
    obtain⟨rfl,rfl,rfl⟩:=hrel;by_cases hlt:0<q.aggs.length
    all_goals
     go_wp2;go_meet
     case rel=>exact⟨val_eq (by rw [←HV0.o,HE.o];rfl),HB1.o⟩
 case rest=>
 obtain⟨rfl,hb0⟩:=hcut;have HB2:=ai hb0;clear hb0 HB1 HV0 V0;generalize hV0:wrap64 ((1+q.csz+q.esz+q.asz:Nat) :Int) =V0;have HV0:=ai hV0;clear hV0;obtain⟨wd,rfl⟩ : ∃W:World,W=wc:=⟨_,rfl⟩;go_wp2;go_loopw [3,6] (fun v i wr=>∃k:Nat,k≤q.rows.length∧i = .int .i64 k∧v = .int .i64 (wrap64 ((1+q.csz+q.esz+q.asz+ ((q.rows.take k).map rsize).sum:Nat) :Int))∧Below (w.heap.size+1) (w.alloc (.cells q.lit 57)) wr) (fun _ i _=>q.rows.length - (intOf i).toNat)
 case atStart=>exact⟨0,Nat.zero_le _,rfl,val_eq (by rw [←HV0.o];simp),HB2.o.mono (by simp)⟩
 case round=>
  obtain⟨k,hk,rfl,rfl,hbw0⟩:=hrel;have HBW:=ai (show Below (w.alloc (.cells q.lit 57)).heap.size (w.alloc (.cells q.lit 57)) wr from hbw0.mono (by simp))
  clear hbw0;have x13:=box_cell HBW.o (j:=13) rfl
  generalize hV:wrap64 ((1+q.csz+q.esz+q.asz+ ((q.rows.take k).map rsize).sum:Nat) :Int) =V;have HV:=ai hV;clear hV;by_cases hlt:k<q.rows.length
  ·have hrow:=HIN.o.flat.rr.mono HBW.o
   have hix:=hrow.ix hlt Tryd.underlying54 sz69;simp only [Nat.mul_one]at hix;have c0:=vl_at hrow hlt;have hl:=(HIN.o.flat.rs _ (List.getElem_mem hlt)).1.len;clear hrow;have HS:=ai (sum_take rsize hlt);go_wp2;go_roundw
   case rel=>
    refine⟨k+1,by omega,by go_num,val_eq ?_,HBW.o.mono (by simp)⟩
    rw [←HV.o,wrap_add1,HS.o]
    congr 1
    show _= ((_+ (_+q.rows[k].l.length) :Nat) :Int)
    omega
   case measure=>simp [intOf];omega
  ·obtain⟨wo,rfl⟩ : ∃W:World,W=wr:=⟨_,rfl⟩
   have HB3:=HBW;clear HBW;go_wp2;have HVR:=ai (show wrap64 ((1+q.csz+q.esz+q.asz+ (q.rows.map rsize).sum:Nat) :Int) =V by rw [←HV.o,show k=q.rows.length by omega,List.take_length])
   clear HV x13;go_loopw [3,7] (fun v i wr=>∃k:Nat,k≤q.kids.length∧i = .int .i64 k∧v = .int .i64 (wrap64 ((1+q.csz+q.esz+q.asz+ (q.rows.map rsize).sum+Qu.sizes (q.kids.take k) :Nat) :Int))∧Below (w.heap.size+1) (w.alloc (.cells q.lit 57)) wr) (fun _ i _=>q.kids.length - (intOf i).toNat)
   case atStart=>exact⟨0,Nat.zero_le _,rfl,val_eq (by rw [←HVR.o];simp [Qu.sizes]),HB3.o.mono (by simp)⟩
   case round=>
    obtain⟨k,hk,rfl,rfl,hbw0⟩:=hrel;have HBW:=ai (show Below (w.alloc (.cells q.lit 57)).heap.size (w.alloc (.cells q.lit 57)) wr from hbw0.mono (by simp))
    clear hbw0;have x14:=box_cell HBW.o (j:=14) rfl
    generalize hV:wrap64 ((1+q.csz+q.esz+q.asz+ (q.rows.map rsize).sum+Qu.sizes (q.kids.take k) :Nat) :Int) =V;have HV:=ai hV;clear hV;by_cases hlt:k<q.kids.length
    ·have hrow:=HIN.o.row.mono HBW.o
     have hix:=hrow.ix hlt Tryd.underlying55 sz46;obtain⟨⟨c0,c1,c2,c3⟩,⟨c4,c5,c6,c7,c8,c9⟩,c10,c11,c12,c13,c14⟩:=qu_at hrow hlt;have HXI:=ai ((HIN.o.kid _ (List.getElem_mem hlt)).mono HBW.o);have HXA:=ai (IH.o _ (List.getElem_mem hlt));clear hrow;go_wp2_with (go_at_call 38;refine(HXA.o _ HXI.o).mono ?_;rintro r w1 ⟨rfl,hb1⟩;have HB3:=ai hb1;clear hb1)
     go_roundw
     case rel=>
      refine⟨k+1,by omega,by go_num,val_eq ?_,(bT HBW.o HB3.o).mono (by simp)⟩
      rw [←HV.o,wrap_add,Qu.sizes_take hlt]
      congr 1
      omega
     case measure=>simp [intOf];omega
    ·go_wp2
     go_ret
     have hk':k=q.kids.length:=by omega
     refine⟨ret1 ?_,bel1 HBW.o⟩
     rw [←HV.o,hk',List.take_length,Qu.size_eq]
end Go.Proofs.YtogalchclmmfgaaDoor
namespace Go
theorem run_append_zero {P:Program} {w:World} (base:Nat) (t ty e:TypeId) (i:TypeInfo) (size:Nat) (ht:P.underlying t=some (.slice e)) (hi:P.info? e=some i)
  (v:Value) (n:Nat) (xs:List Value) (hown:w.ownsRow base e size v n xs) (ao:Option Addr) (c:Nat) : (Builtin.append_ #[t,t] ty #[v,.slice ao 0 c]).run P w = .ok v w:=by
 rcases hown.2 with⟨rfl,rfl⟩ | ⟨g,cap,cur,rfl,_,_,hnc,_⟩
 ·cases ao<;>simp [Builtin.append_,run_underlying ht,sizeOf,typeInfo,hi,Builtin.lenOf,Builtin.firstCells,loadCells,loadCellsFrom]
 ·cases ao<;>simp [Builtin.append_,run_underlying ht,sizeOf,typeInfo,hi,Builtin.lenOf,Builtin.firstCells,loadCells,loadCellsFrom,hnc,storeCells]
theorem wpList_append_zero {P:Program} {w:World} {ops:Array Oper} {rest:List Oper} {o:Oper} {a:Act} {Q:Exit→Act→World→Prop} (hgd:o.guard=none) (s x:Operand) (t:TypeId)
  (ho:o.op = .call { callee:=.builtin .append,args:=#[s,x],argTypes:=#[t,t] })
  (base:Nat) (e:TypeId) (i:TypeInfo) (size:Nat) (ht:P.underlying t=some (.slice e)) (hi:P.info? e=some i)
  (v:Value) (n:Nat) (xs:List Value) (hs:a.eval s=v) (hown:w.ownsRow base e size v n xs) (ao:Option Addr) (c:Nat) (hx:a.eval x = .slice ao 0 c)
  (h:wpList P ops Q rest (a.put o.dst v) w) :wpList P ops Q (o :: rest) a w:=by
 refine wpList_plain hgd fun K hK=> ?_
 have hrun:=run_append_zero (P:=P) (w:=w) base t o.type e i size ht hi v n xs hown ao c
 unfold Oper.wp
 simp [execOp,ho,resolve,invoke,builtin,hs,hx,hrun,Result.andThen];exact hK _ _ h
end Go
namespace Go.Proofs.YtogalchclmmfgaaDoor
open Go.RowKit
theorem info_ex: (Tryd.prog.info? 45).map (fun i=>(i.zero,i.size,i.bytes)) =some (some (.agg #[.int .i64 0,.int .i64 0,.int .i64 0,.string ByteArray.empty,.int .i64 0,.slice none 0 0]),6,72):=by kernel_rfl
theorem row_news {α:Type} {w:World} {size:Nat} {cells:α→List Value} {h:Hd} {xs:List α} (hs: ∀x,(cells x).length=size) (hpos:0<size) (hr:Row w size cells h xs) (hx:0<xs.length) :
  h.ao=some ⟨h.b,h.o,none⟩∧∀j u,(xs.flatMap cells)[j]? = some u→w.cell? ((⟨h.b,h.o,none⟩ :Addr).add j) =some u:=by
 refine⟨(hr.2.2.1 hx).1,fun j u hj=> ?_⟩
 have hlt:=(List.getElem?_eq_some_iff.1 hj).1;rw [flatMap_len hs]at hlt;have hi:j / size<xs.length:=(Nat.div_lt_iff_lt_mul hpos).2 hlt;have hm:j % size<size:=Nat.mod_lt _ hpos;have e:j / size*size+j % size=j:=by rw [Nat.mul_comm];exact Nat.div_add_mod _ _
 have h1:=flatMap_at hs xs (j / size) (j % size) hi hm;rw [e,hj]at h1;have h2:=hr.2.2.2 _ hi _ u h1.symm;rw [Nat.add_assoc,e]at h2;rw [Addr.add_lit];exact h2
def Qu.qcs (q:Qu) :List Ex:=if q.op=3∨q.op=5 then [q.cond] else []
def Qu.qes (q:Qu) :List Ex:=if q.op=4∨q.op=10 then q.exprs else []
def Qu.qas (q:Qu) :List Ex:=if q.op=10 then (q.aggs.filter fun a=>a.fn != 1).map Agg.arg else []
theorem sizes_args: ∀l:List Agg,Ex.sizes ((l.filter fun a=>a.fn != 1).map Agg.arg) = (l.map asize).sum
 | []=>by simp [Ex.sizes]
 | a :: l=>by
  have ih:=sizes_args l;by_cases h:a.fn=1
  ·simp [h,asize,ih]
  ·simp [h,asize,Ex.sizes,ih]
theorem qcs_size (q:Qu) :Ex.sizes q.qcs=q.csz:=by unfold Qu.qcs Qu.csz;split<;>simp [Ex.sizes]
theorem qes_size (q:Qu) :Ex.sizes q.qes=q.esz:=by unfold Qu.qes Qu.esz;split<;>simp [Ex.sizes]
theorem qas_size (q:Qu) :Ex.sizes q.qas=q.asz:=by unfold Qu.qas Qu.asz;split<;>simp [Ex.sizes,sizes_args]
theorem sizes_append (a b:List Ex) :Ex.sizes (a ++ b) =Ex.sizes a+Ex.sizes b:=by
 induction a with
 | nil=>simp [Ex.sizes]
 | cons x a ih=>simp only [List.cons_append,Ex.sizes,ih];omega
theorem qex_in {w:World} {q:Qu} (h:q.In w) : ∀e∈q.qcs ++ q.qes ++ q.qas,e.In w:=by
 intro e he;rcases List.mem_append.1 he with he|he
 ·rcases List.mem_append.1 he with he|he
  ·unfold Qu.qcs at he;split at he
   ·rw [List.mem_singleton.1 he];exact h.flat.cd
   ·cases he
  ·unfold Qu.qes at he;split at he
   ·exact h.flat.es e he
   ·cases he
 ·unfold Qu.qas at he;split at he
  ·obtain⟨a,ha,rfl⟩:=List.mem_map.1 he
   exact(h.flat.ags a (List.mem_filter.1 ha).1).2
  ·cases he
theorem fil_take {l:List Agg} {k:Nat} (h:k<l.length) : ((l.take (k+1)).filter fun a=>a.fn != 1).map Agg.arg= ((l.take k).filter fun a=>a.fn != 1).map Agg.arg ++ (if l[k].fn=1 then [] else [l[k].arg]):=by
 rw [List.take_succ_eq_append_getElem h,List.filter_append,List.map_append]
 congr 1
 by_cases e:l[k].fn=1<;>simp [e]
theorem ex_one {x:Ex} : ∀u∈Ex.cells x,u.oneCell'=true:=by
 intro u hu;simp [Ex.cells]at hu;rcases hu with rfl|rfl|rfl|rfl|rfl|rfl<;>rfl
theorem ex_ones {l:List Ex} : ∀u∈l.flatMap Ex.cells,u.oneCell'=true:=by
 intro u hu;obtain⟨x,_,hx⟩:=List.mem_flatMap.1 hu;exact ex_one u hx
theorem exc_len (x:Ex) : (Ex.cells x).length=6:=rfl
end Go.Proofs.YtogalchclmmfgaaDoor
namespace Go.Proofs.YtogalchclmmfgaaDoor
open Go.RowKit
theorem esize_any {w0:World} {e:Ex} (h0:e.In w0) : ∀w:World,e.In w→
  Calls Tryd.prog 59 #[.agg #[.int .i64 e.op,.int .i64 e.typ,.int .i64 e.num,.string e.text,.int .i64 e.col,.slice e.kh.ao e.kids.length e.kh.cap]] w fun r w'=>r = .returned (.int .i64 (wrap64 (e.size:Int)))∧Below w.heap.size w w':=by
 induction h0 with
 | mk e _ _ _ ih=>
 intro w hin;have IH:=ai ih;clear ih;have hn:=hin.row.len
 go_enter Tryd.func59,Tryd.ntmps59;go_wp2;go_loopw [3,9] (fun v i wr=>∃k:Nat,k≤e.kids.length∧i = .int .i64 k∧v = .int .i64 (wrap64 ((1+Ex.sizes (e.kids.take k) :Nat) :Int))∧Below w.heap.size w wr) (fun _ i _=>e.kids.length - (intOf i).toNat)
 case atStart=>exact⟨0,Nat.zero_le _,rfl,by simp [Ex.sizes,wrap64],belA _⟩
 case round=>
  obtain⟨k,hk,rfl,rfl,hbw⟩:=hrel;have HB:=ai hbw;have hin':=hin.mono hbw;clear hbw;generalize hV:wrap64 ((1+Ex.sizes (e.kids.take k) :Nat) :Int) =V;have HV:=ai hV;clear hV;by_cases hlt:k<e.kids.length
  ·have hlti: (k:Int) <e.kids.length:=by omega
   have hix:=hin'.row.ix hlt Tryd.underlying37 sz41;obtain⟨c0,c1,c2,c3,c4,c5⟩:=ex_at hin'.row hlt;have hkin:=ai (hin'.kid _ (List.getElem_mem hlt));go_wp2_with (go_at_call 59;refine(IH.o _ (List.getElem_mem hlt) _ (hkin.o.mono (belA _))).mono ?_;rintro r w1 ⟨rfl,hb1⟩;have HB1:=ai hb1;clear hb1)
   go_roundw
   case rel=>
    refine⟨k+1,by omega,by go_num,?_,bT HB.o (bT (belA _) HB1.o)⟩
    rw [←HV.o,wrap_add,Ex.sizes_take hlt];exact val_eq (by congr 1;omega)
   case measure=>simp [intOf];omega
  ·have hlti: ¬(k:Int) <e.kids.length:=by omega
   go_wp2;go_ret
   have hk':k=e.kids.length:=by omega
   refine⟨ret1 ?_,HB.o⟩
   rw [←HV.o,hk',List.take_length,Ex.size_eq]
def Qu.qex (q:Qu) :List Ex:=q.qcs ++ q.qes ++ q.qas
theorem qex_size (q:Qu) :Ex.sizes q.qex=q.csz+q.esz+q.asz:=by unfold Qu.qex;rw [sizes_append,sizes_append,qcs_size,qes_size,qas_size]
def AL (q:Qu) (k:Nat) :List Ex:=q.qcs ++ q.qes ++ ((q.aggs.take k).filter fun a=>a.fn != 1).map Agg.arg
theorem AL_skip {q:Qu} {k:Nat} (h:k<q.aggs.length) (hf:q.aggs[k].fn=1) :AL q (k+1) =AL q k:=by
 unfold AL;rw [fil_take h,if_pos hf,List.append_nil]
theorem AL_take {q:Qu} {k:Nat} (h:k<q.aggs.length) (hf: ¬q.aggs[k].fn=1) :AL q (k+1) =AL q k ++ [q.aggs[k].arg]:=by
 unfold AL;rw [fil_take h,if_neg hf,List.append_assoc (q.qcs ++ q.qes)]
theorem AL_len (q:Qu) (k:Nat) : (AL q k).length≤1+q.exprs.length+q.aggs.length:=by
 unfold AL
 rw [List.length_append,List.length_append,List.length_map];have h1:q.qcs.length≤1:=by unfold Qu.qcs;split<;>simp
 have h2:q.qes.length≤q.exprs.length:=by unfold Qu.qes;split<;>simp
 have h3:=List.length_filter_le (fun a:Agg=>a.fn != 1) (q.aggs.take k)
 rw [List.length_take]at h3;omega
theorem exprs_any {q:Qu} (w:World) (hin:q.In w) (he:q.exprs.length≤1048576) (ha:q.aggs.length≤1048576) :
  Calls Tryd.prog 58 #[.agg #[.int .i64 q.op,.string q.table,.int .i64 q.kind,.bool q.all,.int .i64 q.cond.op,.int .i64 q.cond.typ,.int .i64 q.cond.num,.string q.cond.text,.int .i64 q.cond.col,.slice q.cond.kh.ao q.cond.kids.length q.cond.kh.cap,.slice q.eh.ao q.exprs.length q.eh.cap,.slice q.ah.ao q.aggs.length q.ah.cap,.slice q.types.h.ao q.types.l.length q.types.h.cap,.slice q.rh.ao q.rows.length q.rh.cap,.slice q.qh.ao q.kids.length q.qh.cap]] w fun r w'=>(∃hd:Hd,r = .returned (.slice hd.ao q.qex.length hd.cap)∧Row w' 6 Ex.cells hd q.qex)∧Below w.heap.size w w':=by
 obtain⟨i0,hi,hz0,hz1,hz2⟩:=info_parts info_ex;have HI:=ai (And.intro hi (And.intro hz0 (And.intro hz1 hz2)));clear hi hz0 hz1 hz2;have HIN:=ai (hin.mono (belA (.cells q.lit 57)));clear hin
 go_enter Tryd.func58,Tryd.ntmps58
 go_upto_block 0 with(fail)
 go_cut [3] (fun v wx=>wx.ownsRow (w.heap.size+1) 45 6 v (q.qcs ++ q.qes).length ((q.qcs ++ q.qes).flatMap Ex.cells)∧Below (w.alloc (.cells q.lit 57)).heap.size (w.alloc (.cells q.lit 57)) wx)
 case first=>
  have hnil:=World.ownsRow_nil (w.alloc (.cells q.lit 57)) (w.heap.size+1) 45 6;by_cases h3: (q.op == 3) =true
  ·have HE:=ai (show q.qcs ++ q.qes = [q.cond] by simp at h3;simp [Qu.qcs,Qu.qes,h3])
   go_wp2_with (at_builtin;refine wpList_append_own _ rfl _ _ 37 rfl (w.heap.size+1) 45 i0 (.agg #[.int .i64 0,.int .i64 0,.int .i64 0,.string ByteArray.empty,.int .i64 0,.slice none 0 0]) 6 72 Tryd.underlying37 HI.o.1 HI.o.2.1 HI.o.2.2.1 HI.o.2.2.2 rfl (by decide) _ _ _ rfl (World.ownsRow_nil _ _ _ _) ⟨w.heap.size+1,0,none⟩ 1 1 [.int .i64 q.cond.op,.int .i64 q.cond.typ,.int .i64 q.cond.num,.string q.cond.text,.int .i64 q.cond.col,.slice q.cond.kh.ao q.cond.kids.length q.cond.kh.cap] rfl rfl (new_cells1 (l:= [.int .i64 q.cond.op,.int .i64 q.cond.typ,.int .i64 q.cond.num,.string q.cond.text,.int .i64 q.cond.col,.slice q.cond.kh.ao q.cond.kids.length q.cond.kh.cap])) (ex_one (x:=q.cond)) (by unfold maxLen;omega) (by omega) (by simp<;>omega) ?_;intro v1 w1 hown1 hgrow1 _)
   go_meet
   case rel=>
    refine⟨by rw [HE.o];simpa using hown1,?_⟩
    exact grown1 (Below.refl _ _) (Nat.le_refl _) hgrow1 (fun b hb=>by cases hb)
  have h3': (q.op == 3) =false:=by simpa using h3
  by_cases h5: (q.op == 5) =true
  ·have HE:=ai (show q.qcs ++ q.qes = [q.cond] by simp at h5;simp [Qu.qcs,Qu.qes,h5])
   clear h3;go_wp2_with (at_builtin;refine wpList_append_own _ rfl _ _ 37 rfl (w.heap.size+1) 45 i0 (.agg #[.int .i64 0,.int .i64 0,.int .i64 0,.string ByteArray.empty,.int .i64 0,.slice none 0 0]) 6 72 Tryd.underlying37 HI.o.1 HI.o.2.1 HI.o.2.2.1 HI.o.2.2.2 rfl (by decide) _ _ _ rfl (World.ownsRow_nil _ _ _ _) ⟨w.heap.size+1,0,none⟩ 1 1 [.int .i64 q.cond.op,.int .i64 q.cond.typ,.int .i64 q.cond.num,.string q.cond.text,.int .i64 q.cond.col,.slice q.cond.kh.ao q.cond.kids.length q.cond.kh.cap] rfl rfl (new_cells1 (l:= [.int .i64 q.cond.op,.int .i64 q.cond.typ,.int .i64 q.cond.num,.string q.cond.text,.int .i64 q.cond.col,.slice q.cond.kh.ao q.cond.kids.length q.cond.kh.cap])) (ex_one (x:=q.cond)) (by unfold maxLen;omega) (by omega) (by simp<;>omega) ?_;intro v1 w1 hown1 hgrow1 _)
   go_meet
   case rel=>
    refine⟨by rw [HE.o];simpa using hown1,?_⟩
    exact grown1 (Below.refl _ _) (Nat.le_refl _) hgrow1 (fun b hb=>by cases hb)
  have h5': (q.op == 5) =false:=by simpa using h5
  have hc:q.qcs = []:=by simp at h3 h5;simp [Qu.qcs,h3,h5]
  by_cases hx:q.op=4∨q.op=10
  ·have HE:=ai (show q.qcs ++ q.qes=q.exprs by rw [hc];simp [Qu.qes,hx])
   clear h3 h5 hc;by_cases h0:q.exprs.length=0
   ·have h0':=ai (List.eq_nil_of_length_eq_zero h0)
    have H0:=ai h0;clear h0;by_cases h4: (q.op == 4) =true
    ·clear hx
     go_wp2_with (at_builtin;refine wpList_append_zero rfl _ _ 37 rfl (w.heap.size+1) 45 i0 6 Tryd.underlying37 HI.o.1 _ _ _ rfl (World.ownsRow_nil _ _ _ _) q.eh.ao q.eh.cap (congrArg (fun n=>Value.slice q.eh.ao n q.eh.cap) H0.o) ?_)
     go_meet
     case rel=>
      have e1: (q.qcs ++ q.qes).length=0:=by rw [HE.o];exact H0.o
      have e2: (q.qcs ++ q.qes).flatMap Ex.cells = []:=by rw [HE.o,h0'.o];rfl
      rw [e1,e2];exact⟨hnil,Below.refl _ _⟩
    ·have h4': (q.op == 4) =false:=by simpa using h4
     have h10: (q.op == 10) =true:=by simp at h4;simp [h4]at hx;simp [hx]
     clear hx h4;go_wp2_with (at_builtin;refine wpList_append_zero rfl _ _ 37 rfl (w.heap.size+1) 45 i0 6 Tryd.underlying37 HI.o.1 _ _ _ rfl (World.ownsRow_nil _ _ _ _) q.eh.ao q.eh.cap (congrArg (fun n=>Value.slice q.eh.ao n q.eh.cap) H0.o) ?_)
     go_meet
     case rel=>
      have e1: (q.qcs ++ q.qes).length=0:=by rw [HE.o];exact H0.o
      have e2: (q.qcs ++ q.qes).flatMap Ex.cells = []:=by rw [HE.o,h0'.o];rfl
      rw [e1,e2];exact⟨hnil,Below.refl _ _⟩
   ·obtain⟨hao,hnews⟩:=row_news exc_len (by decide) HIN.o.flat.re (by omega)
    have HAO:=ai hao;clear hao;by_cases h4: (q.op == 4) =true
    ·clear hx h0
     go_wp2_with (at_builtin;refine wpList_append_own _ rfl _ _ 37 rfl (w.heap.size+1) 45 i0 (.agg #[.int .i64 0,.int .i64 0,.int .i64 0,.string ByteArray.empty,.int .i64 0,.slice none 0 0]) 6 72 Tryd.underlying37 HI.o.1 HI.o.2.1 HI.o.2.2.1 HI.o.2.2.2 rfl (by decide) _ _ _ rfl (World.ownsRow_nil _ _ _ _) ⟨q.eh.b,q.eh.o,none⟩ q.exprs.length q.eh.cap (q.exprs.flatMap Ex.cells) (congrArg (fun a=>Value.slice a q.exprs.length q.eh.cap) HAO.o) (flatMap_len exc_len _) hnews ex_ones (by unfold maxLen;omega) (by omega) (by simp<;>omega) ?_;intro v1 w1 hown1 hgrow1 _)
     go_meet
     case rel=>
      refine⟨by rw [HE.o];simpa using hown1,?_⟩
      exact(Below.refl _ _).grown hgrow1 (Nat.le_refl _) (fun b hb=>by cases hb)
    ·have h4': (q.op == 4) =false:=by simpa using h4
     have h10: (q.op == 10) =true:=by simp at h4;simp [h4]at hx;simp [hx]
     clear hx h4 h0;go_wp2_with (at_builtin;refine wpList_append_own _ rfl _ _ 37 rfl (w.heap.size+1) 45 i0 (.agg #[.int .i64 0,.int .i64 0,.int .i64 0,.string ByteArray.empty,.int .i64 0,.slice none 0 0]) 6 72 Tryd.underlying37 HI.o.1 HI.o.2.1 HI.o.2.2.1 HI.o.2.2.2 rfl (by decide) _ _ _ rfl (World.ownsRow_nil _ _ _ _) ⟨q.eh.b,q.eh.o,none⟩ q.exprs.length q.eh.cap (q.exprs.flatMap Ex.cells) (congrArg (fun a=>Value.slice a q.exprs.length q.eh.cap) HAO.o) (flatMap_len exc_len _) hnews ex_ones (by unfold maxLen;omega) (by omega) (by simp<;>omega) ?_;intro v1 w1 hown1 hgrow1 _)
     go_meet
     case rel=>
      refine⟨by rw [HE.o];simpa using hown1,?_⟩
      exact(Below.refl _ _).grown hgrow1 (Nat.le_refl _) (fun b hb=>by cases hb)
  ·have HE:=ai (show q.qcs ++ q.qes = [] by rw [hc];simp [Qu.qes,hx])
   have h4': (q.op == 4) =false:=by simp at hx;simp [hx]
   have h10': (q.op == 10) =false:=by simp at hx;simp [hx]
   clear h3 h5 hc hx;go_wp2;go_meet
   case rel=>exact⟨by rw [HE.o];simpa using hnil,Below.refl _ _⟩
 case rest=>
 obtain⟨hown,hbw⟩:=hcut;have HO:=ai hown;have HB:=ai hbw;have hx0:=box_cell hbw (j:=0) rfl
 have hx6:=box_cell hbw (j:=11) rfl
 clear hown hbw;by_cases h10: (q.op == 10) =true
 ·have HE:=ai (show q.qas= (q.aggs.filter fun a=>a.fn != 1).map Agg.arg by simp at h10;simp [Qu.qas,h10])
  go_wp2;clear hx0 hx6;go_loopw [3,29] (fun v i wr=>∃k:Nat,k≤q.aggs.length∧i = .int .i64 k∧wr.ownsRow (w.heap.size+1) 45 6 v (AL q k).length ((AL q k).flatMap Ex.cells)∧Below (w.alloc (.cells q.lit 57)).heap.size (w.alloc (.cells q.lit 57)) wr) (fun _ i _=>q.aggs.length - (intOf i).toNat)
  case atStart=>exact⟨0,Nat.zero_le _,rfl,by simpa [AL]using HO.o,HB.o⟩
  case round=>
   clear HO HB;obtain⟨k,hk,rfl,hown,hbw⟩:=hrel;have HO:=ai hown;have HB:=ai hbw;clear hown hbw;by_cases hlt:k<q.aggs.length
   ·have hlti: (k:Int) <q.aggs.length:=by omega
    have hrow:=HIN.o.flat.ra.mono HB.o;have hix:=hrow.ix hlt Tryd.underlying53 sz74;have hbk:=hrow.blk hlt;obtain⟨c0,c1,c2,c3,c4,c5,c6⟩:=agg_at hrow hlt;have hbs:w.heap.size+1≤wr.heap.size:=by have:=HB.o.size;simpa using this
    have hal:=AL_len q k;clear hrow;by_cases hf:q.aggs[k].fn=1
    ·have HF:=ai (AL_skip hlt hf)
     have hf': (q.aggs[k].fn != 1) =false:=by simp [hf]
     clear hf;go_wp2;go_roundw
     case rel=>exact⟨k+1,by omega,by go_num,by rw [HF.o];exact HO.o.alloc _,bT HB.o (belA _)⟩
     case measure=>simp [intOf];omega
    ·have HF:=ai (AL_take hlt hf)
     have hf': (q.aggs[k].fn != 1) =true:=by simp [hf]
     clear hf;go_wp2_with (at_builtin;refine wpList_append_own _ rfl _ _ 37 rfl (w.heap.size+1) 45 i0 (.agg #[.int .i64 0,.int .i64 0,.int .i64 0,.string ByteArray.empty,.int .i64 0,.slice none 0 0]) 6 72 Tryd.underlying37 HI.o.1 HI.o.2.1 HI.o.2.2.1 HI.o.2.2.2 rfl (by decide) _ _ _ rfl ((HO.o.alloc _).alloc _) ⟨wr.heap.size+1,0,none⟩ 1 1 [.int .i64 q.aggs[k].arg.op,.int .i64 q.aggs[k].arg.typ,.int .i64 q.aggs[k].arg.num,.string q.aggs[k].arg.text,.int .i64 q.aggs[k].arg.col,.slice q.aggs[k].arg.kh.ao q.aggs[k].arg.kids.length q.aggs[k].arg.kh.cap] rfl rfl (new_cells1 (l:= [.int .i64 q.aggs[k].arg.op,.int .i64 q.aggs[k].arg.typ,.int .i64 q.aggs[k].arg.num,.string q.aggs[k].arg.text,.int .i64 q.aggs[k].arg.col,.slice q.aggs[k].arg.kh.ao q.aggs[k].arg.kids.length q.aggs[k].arg.kh.cap])) (ex_one (x:=q.aggs[k].arg)) (by unfold maxLen;omega) (by omega) (by simp<;>omega) ?_;intro v1 w1 hown1 hgrow1 _)
     go_roundw
     case rel=>
      refine⟨k+1,by omega,by go_num,?_,?_⟩
      ·rw [HF.o,List.length_append,List.flatMap_append]
       simpa using hown1
      ·exact(HB.o.trans ((belAA _ _).mono HB.o.size)).grown hgrow1 (by simp;omega) (fun b hb=>(by simpa using (HO.o.lt b hb).1))
     case measure=>simp [intOf];omega
   ·have hlti: ¬(k:Int) <q.aggs.length:=by omega
    have HE2:=ai (show AL q k=q.qex by unfold Qu.qex;rw [HE.o];unfold AL;rw [show k=q.aggs.length by omega,List.take_length])
    go_wp2;go_ret
    have ho:=HO.o;rw [HE2.o]at ho;obtain⟨hd,hv,hr⟩:=own_row exc_len (by decide) ho
    exact⟨⟨hd,congrArg Ending.returned hv,hr⟩,(belA _).trans (HB.o.mono (by simp))⟩
 ·have h10': (q.op == 10) =false:=by simpa using h10
  have HE:=ai (show q.qas = [] by simp at h10;simp [Qu.qas,h10])
  clear h10;go_wp2;go_ret
  have ho:=HO.o;rw [show q.qcs ++ q.qes=q.qex by unfold Qu.qex;rw [HE.o,List.append_nil]]at ho
  obtain⟨hd,hv,hr⟩:=own_row exc_len (by decide) ho
  exact⟨⟨hd,congrArg Ending.returned hv,hr⟩,(belA _).trans (HB.o.mono (by simp))⟩
end Go.Proofs.YtogalchclmmfgaaDoor

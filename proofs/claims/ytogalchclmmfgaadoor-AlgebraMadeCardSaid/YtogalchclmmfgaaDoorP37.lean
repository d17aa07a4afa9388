/- A part of the proof of AlgebraMade. -/
import Derived.Test.YtogalchclmmfgaaDoorP27
import Derived.Test.YtogalchclmmfgaaDoorP28
import Derived.Test.YtogalchclmmfgaaDoorP29
import Derived.Test.YtogalchclmmfgaaDoorP30
import Derived.Test.YtogalchclmmfgaaDoorP31
import Derived.Test.YtogalchclmmfgaaDoorP32
import Derived.Test.YtogalchclmmfgaaDoorP33
import Derived.Test.YtogalchclmmfgaaDoorP34
import Derived.Test.YtogalchclmmfgaaDoorP35
import Derived.Test.YtogalchclmmfgaaDoorP36
set_option maxRecDepth 100000
set_option maxHeartbeats 16000000
namespace Go.Proofs.YtogalchclmmfgaaDoor
open Go.RowKit
theorem typ_all (s:Sch) (hsc:SchS s) {w0:World} {q:Qu} (h0:q.In w0) :TypAt 37 s q:=by
 induction h0 with
 | mk q _ _ _ ih=>
  have hc:q.op=1∨q.op=2∨q.op=3∨q.op=4∨q.op=5∨q.op=6∨q.op=7∨q.op=8∨q.op=9∨q.op=10∨(q.op<1∨10<q.op):=by omega
  intro w hs hq hf ho hsh hsz hwt;rcases hc with h|h|h|h|h|h|h|h|h|h|h
  ·rw [h];exact typ_1 s hsc q h ih w hs hq hf ho hsh hsz hwt
  ·rw [h];exact typ_2 s hsc q h ih w hs hq hf ho hsh hsz hwt
  ·rw [h];exact typ_3 s hsc q h ih w hs hq hf ho hsh hsz hwt
  ·rw [h];exact typ_4 s hsc q h ih w hs hq hf ho hsh hsz hwt
  ·rw [h];exact typ_5 s hsc q h ih w hs hq hf ho hsh hsz hwt
  ·rw [h];exact typ_6 s hsc q h ih w hs hq hf ho hsh hsz hwt
  ·rw [h];exact typ_7 s hsc q h ih w hs hq hf ho hsh hsz hwt
  ·rw [h];exact typ_8 s hsc q h ih w hs hq hf ho hsh hsz hwt
  ·rw [h];exact typ_9 s hsc q h ih w hs hq hf ho hsh hsz hwt
  ·rw [h];exact typ_10 s hsc q h ih w hs hq hf ho hsh hsz hwt
  ·exact typ_0 s hsc q h ih w hs hq hf ho hsh hsz hwt
theorem typed_all (s:Sch) (hsc:SchS s) {w0:World} {q:Qu} (h0:q.In w0) :TypAt 40 s q:=by
 induction h0 with
 | mk q _ _ _ ih=>
  have hc:q.op=1∨q.op=2∨q.op=3∨q.op=4∨q.op=5∨q.op=6∨q.op=7∨q.op=8∨q.op=9∨q.op=10∨(q.op<1∨10<q.op):=by omega
  intro w hs hq hf ho hsh hsz hwt;rcases hc with h|h|h|h|h|h|h|h|h|h|h
  ·rw [h];exact typed_1 s hsc q h ih w hs hq hf ho hsh hsz hwt
  ·rw [h];exact typed_2 s hsc q h ih w hs hq hf ho hsh hsz hwt
  ·rw [h];exact typed_3 s hsc q h ih w hs hq hf ho hsh hsz hwt
  ·rw [h];exact typed_4 s hsc q h ih w hs hq hf ho hsh hsz hwt
  ·rw [h];exact typed_5 s hsc q h ih w hs hq hf ho hsh hsz hwt
  ·rw [h];exact typed_6 s hsc q h ih w hs hq hf ho hsh hsz hwt
  ·rw [h];exact typed_7 s hsc q h ih w hs hq hf ho hsh hsz hwt
  ·rw [h];exact typed_8 s hsc q h ih w hs hq hf ho hsh hsz hwt
  ·rw [h];exact typed_9 s hsc q h ih w hs hq hf ho hsh hsz hwt
  ·rw [h];exact typed_10 s hsc q h ih w hs hq hf ho hsh hsz hwt
  ·exact typed_0 s hsc q h ih w hs hq hf ho hsh hsz hwt
theorem ctype_all (s:Sch) (hsc:SchS s) (q:Qu) (w:World) (hs:s.In w) (hq:q.In w) (hf:FormsAt w) (ho:OpsAt w) (hsh:w.ShapedOpen Tryd.prog) (hsz:q.size≤1000000) (hwt:q.wt≤1048576) :
  Calls Tryd.prog 14 #[.agg #[.slice s.th.ao s.tabs.length s.th.cap],.agg #[.int .i64 q.op,.string q.table,.int .i64 q.kind,.bool q.all,.int .i64 q.cond.op,.int .i64 q.cond.typ,.int .i64 q.cond.num,.string q.cond.text,.int .i64 q.cond.col,.slice q.cond.kh.ao q.cond.kids.length q.cond.kh.cap,.slice q.eh.ao q.exprs.length q.eh.cap,.slice q.ah.ao q.aggs.length q.ah.cap,.slice q.types.h.ao q.types.l.length q.types.h.cap,.slice q.rh.ao q.rows.length q.rh.cap,.slice q.qh.ao q.kids.length q.qh.cap]] w fun e w'=>TyOut (fun _=>True) (q.typeQ s) w' e∧Below w.heap.size w w':=by
 have HB0:=ai (belAA (w:=w) (.cells #[.slice s.th.ao s.tabs.length s.th.cap] 28) (.cells q.lit 57))
 have HSB:=ai ((Box.new w #[.slice s.th.ao s.tabs.length s.th.cap] 28).below (belA (.cells q.lit 57)));have HQB:=ai (Box.new (w.alloc (.cells #[.slice s.th.ao s.tabs.length s.th.cap] 28)) #[.int .i64 q.op,.string q.table,.int .i64 q.kind,.bool q.all,.int .i64 q.cond.op,.int .i64 q.cond.typ,.int .i64 q.cond.num,.string q.cond.text,.int .i64 q.cond.col,.slice q.cond.kh.ao q.cond.kids.length q.cond.kh.cap,.slice q.eh.ao q.exprs.length q.eh.cap,.slice q.ah.ao q.aggs.length q.ah.cap,.slice q.types.h.ao q.types.l.length q.types.h.cap,.slice q.rh.ao q.rows.length q.rh.cap,.slice q.qh.ao q.kids.length q.qh.cap] 57);simp only [World.size_alloc]at HQB;have HS:=ai (hs.mono HB0.o);have HQ:=ai (hq.mono HB0.o);have HF:=ai (hf.mono HB0.o);have HO:=ai (ho.mono HB0.o);have HSH:=ai (hsh.keptBut (HB0.o.frame (fun _=>False)) (by simp))
 have HSZ:=ai hsz;have HWT:=ai hwt;have HSC:=ai hsc;have HZ:=ai (show wrap64 (q.size:Int) = (q.size:Int)from wrap_small (by omega))
 have hdw:=Nat.le_trans (Qu.dep_le q) hwt;clear hs hq hf ho hsh hwt hsc
 go_enter Tryd.func14,Tryd.ntmps14;go_upto_region 1 with(fail)
 generalize (w.alloc (.cells #[.slice s.th.ao s.tabs.length s.th.cap] 28)).alloc (.cells q.lit 57) =W at *;have y0:=HQB.o.cell (j:=0) rfl
 have y1:=HQB.o.cell (j:=1) rfl
 have y2:=HQB.o.cell (j:=2) rfl
 have y3:=HQB.o.cell (j:=3) rfl
 have y4:=HQB.o.cell (j:=4) rfl
 have y5:=HQB.o.cell (j:=5) rfl
 have y6:=HQB.o.cell (j:=6) rfl
 have y7:=HQB.o.cell (j:=7) rfl
 have y8:=HQB.o.cell (j:=8) rfl
 have y9:=HQB.o.cell (j:=9) rfl
 have y10:=HQB.o.cell (j:=10) rfl
 have y11:=HQB.o.cell (j:=11) rfl
 have y12:=HQB.o.cell (j:=12) rfl
 have y13:=HQB.o.cell (j:=13) rfl
 have y14:=HQB.o.cell (j:=14) rfl
 by_cases h200:200<q.size
 ·have HJ:=ai (show q.typeQ s= (8,[]) by unfold Qu.typeQ;rw [if_pos h200])
  have h2: (200:Int) < (q.size:Int):=by omega
  clear h200;go_wp2_with (go_at_call 36;refine(aqsize_any HQ.o _ HQ.o HWT.o).mono ?_;rintro e w1 ⟨rfl,hb1⟩;rw [HZ.o];have HB1:=ai hb1;clear y0 y1 y2 y3 y4 y5 y6 y7 y8 y9 y10 y11 y12 y13 y14;have z0:=(HQB.o.below hb1).cell (j:=0) rfl;have z1:=(HQB.o.below hb1).cell (j:=1) rfl;have z2:=(HQB.o.below hb1).cell (j:=2) rfl;have z3:=(HQB.o.below hb1).cell (j:=3) rfl;have z4:=(HQB.o.below hb1).cell (j:=4) rfl;have z5:=(HQB.o.below hb1).cell (j:=5) rfl;have z6:=(HQB.o.below hb1).cell (j:=6) rfl;have z7:=(HQB.o.below hb1).cell (j:=7) rfl;have z8:=(HQB.o.below hb1).cell (j:=8) rfl;have z9:=(HQB.o.below hb1).cell (j:=9) rfl;have z10:=(HQB.o.below hb1).cell (j:=10) rfl;have z11:=(HQB.o.below hb1).cell (j:=11) rfl;have z12:=(HQB.o.below hb1).cell (j:=12) rfl;have z13:=(HQB.o.below hb1).cell (j:=13) rfl;have z14:=(HQB.o.below hb1).cell (j:=14) rfl;clear hb1)
  go_ret2
  exact⟨TyOut.no rfl HJ.o,HB0.o.trans (HB1.o.mono HB0.o.size)⟩
 ·have h2: ¬(200:Int) < (q.size:Int):=by omega
  by_cases h24:24<q.dep
  ·have HJ:=ai (show q.typeQ s= (13,[]) by unfold Qu.typeQ;rw [if_neg h200,if_pos h24])
   have h3: (24:Int) < (q.dep:Int):=by omega
   clear h200 h24;go_wp2_with (first
    | (go_at_call 36;refine(aqsize_any HQ.o _ HQ.o HWT.o).mono ?_;rintro e w1 ⟨rfl,hb1⟩;rw [HZ.o];have HB1:=ai hb1;clear y0 y1 y2 y3 y4 y5 y6 y7 y8 y9 y10 y11 y12 y13 y14;have z0:=(HQB.o.below hb1).cell (j:=0) rfl;have z1:=(HQB.o.below hb1).cell (j:=1) rfl;have z2:=(HQB.o.below hb1).cell (j:=2) rfl;have z3:=(HQB.o.below hb1).cell (j:=3) rfl;have z4:=(HQB.o.below hb1).cell (j:=4) rfl;have z5:=(HQB.o.below hb1).cell (j:=5) rfl;have z6:=(HQB.o.below hb1).cell (j:=6) rfl;have z7:=(HQB.o.below hb1).cell (j:=7) rfl;have z8:=(HQB.o.below hb1).cell (j:=8) rfl;have z9:=(HQB.o.below hb1).cell (j:=9) rfl;have z10:=(HQB.o.below hb1).cell (j:=10) rfl;have z11:=(HQB.o.below hb1).cell (j:=11) rfl;have z12:=(HQB.o.below hb1).cell (j:=12) rfl;have z13:=(HQB.o.below hb1).cell (j:=13) rfl;have z14:=(HQB.o.below hb1).cell (j:=14) rfl;clear hb1)
    | (go_at_call 17;refine(adep_any HQ.o _ (HQ.o.mono HB1.o) HWT.o).mono ?_;rintro e w2 ⟨rfl,hb2⟩;have HB2:=ai (bT HB1.o hb2);clear z0 z1 z2 z3 z4 z5 z6 z7 z8 z9 z10 z11 z12 z13 z14 hb2;have v0:=(HQB.o.below HB2.o).cell (j:=0) rfl;have v1:=(HQB.o.below HB2.o).cell (j:=1) rfl;have v2:=(HQB.o.below HB2.o).cell (j:=2) rfl;have v3:=(HQB.o.below HB2.o).cell (j:=3) rfl;have v4:=(HQB.o.below HB2.o).cell (j:=4) rfl;have v5:=(HQB.o.below HB2.o).cell (j:=5) rfl;have v6:=(HQB.o.below HB2.o).cell (j:=6) rfl;have v7:=(HQB.o.below HB2.o).cell (j:=7) rfl;have v8:=(HQB.o.below HB2.o).cell (j:=8) rfl;have v9:=(HQB.o.below HB2.o).cell (j:=9) rfl;have v10:=(HQB.o.below HB2.o).cell (j:=10) rfl;have v11:=(HQB.o.below HB2.o).cell (j:=11) rfl;have v12:=(HQB.o.below HB2.o).cell (j:=12) rfl;have v13:=(HQB.o.below HB2.o).cell (j:=13) rfl;have v14:=(HQB.o.below HB2.o).cell (j:=14) rfl;have x0:=(HSB.o.below HB2.o).cell (j:=0) rfl))
   go_ret2
   exact⟨TyOut.no rfl HJ.o,HB0.o.trans (HB2.o.mono HB0.o.size)⟩
  ·have HJ:=ai (show q.typeQ s=q.tq s by unfold Qu.typeQ;rw [if_neg h200,if_neg h24])
   have h3: ¬(24:Int) < (q.dep:Int):=by omega
   clear h200 h24;go_wp2_with (first
    | (go_at_call 36;refine(aqsize_any HQ.o _ HQ.o HWT.o).mono ?_;rintro e w1 ⟨rfl,hb1⟩;rw [HZ.o];have HB1:=ai hb1;clear y0 y1 y2 y3 y4 y5 y6 y7 y8 y9 y10 y11 y12 y13 y14;have z0:=(HQB.o.below hb1).cell (j:=0) rfl;have z1:=(HQB.o.below hb1).cell (j:=1) rfl;have z2:=(HQB.o.below hb1).cell (j:=2) rfl;have z3:=(HQB.o.below hb1).cell (j:=3) rfl;have z4:=(HQB.o.below hb1).cell (j:=4) rfl;have z5:=(HQB.o.below hb1).cell (j:=5) rfl;have z6:=(HQB.o.below hb1).cell (j:=6) rfl;have z7:=(HQB.o.below hb1).cell (j:=7) rfl;have z8:=(HQB.o.below hb1).cell (j:=8) rfl;have z9:=(HQB.o.below hb1).cell (j:=9) rfl;have z10:=(HQB.o.below hb1).cell (j:=10) rfl;have z11:=(HQB.o.below hb1).cell (j:=11) rfl;have z12:=(HQB.o.below hb1).cell (j:=12) rfl;have z13:=(HQB.o.below hb1).cell (j:=13) rfl;have z14:=(HQB.o.below hb1).cell (j:=14) rfl;clear hb1)
    | (go_at_call 17;refine(adep_any HQ.o _ (HQ.o.mono HB1.o) HWT.o).mono ?_;rintro e w2 ⟨rfl,hb2⟩;have HB2:=ai (bT HB1.o hb2);clear z0 z1 z2 z3 z4 z5 z6 z7 z8 z9 z10 z11 z12 z13 z14 hb2;have v0:=(HQB.o.below HB2.o).cell (j:=0) rfl;have v1:=(HQB.o.below HB2.o).cell (j:=1) rfl;have v2:=(HQB.o.below HB2.o).cell (j:=2) rfl;have v3:=(HQB.o.below HB2.o).cell (j:=3) rfl;have v4:=(HQB.o.below HB2.o).cell (j:=4) rfl;have v5:=(HQB.o.below HB2.o).cell (j:=5) rfl;have v6:=(HQB.o.below HB2.o).cell (j:=6) rfl;have v7:=(HQB.o.below HB2.o).cell (j:=7) rfl;have v8:=(HQB.o.below HB2.o).cell (j:=8) rfl;have v9:=(HQB.o.below HB2.o).cell (j:=9) rfl;have v10:=(HQB.o.below HB2.o).cell (j:=10) rfl;have v11:=(HQB.o.below HB2.o).cell (j:=11) rfl;have v12:=(HQB.o.below HB2.o).cell (j:=12) rfl;have v13:=(HQB.o.below HB2.o).cell (j:=13) rfl;have v14:=(HQB.o.below HB2.o).cell (j:=14) rfl;have x0:=(HSB.o.below HB2.o).cell (j:=0) rfl)
    | (go_at_call 37;refine(typ_all s HSC.o HQ.o _ (HS.o.mono HB2.o) (HQ.o.mono HB2.o) (HF.o.mono HB2.o) (HO.o.mono HB2.o) (HSH.o.keptBut (HB2.o.frame (fun _=>False)) (by simp)) HSZ.o HWT.o).mono ?_;rintro e w3 ⟨⟨o,rfl,ho,hoi,-⟩,hb3⟩;have HOL:=ai ho;have HOI:=ai hoi;have HB3:=ai (bT HB2.o hb3);clear ho hoi hb3))
   go_ret2
   refine⟨?_,HB0.o.trans (HB3.o.mono HB0.o.size)⟩
   rw [HJ.o];exact⟨o,rfl,HOL.o,HOI.o,fun _=>trivial⟩
theorem rtype_all (s:Sch) (hsc:SchS s) (q:Qu) (w:World) (hs:s.In w) (hq:q.In w) (hf:FormsAt w) (ho:OpsAt w) (hsh:w.ShapedOpen Tryd.prog) (hsz:q.size≤1000000) (hwt:q.wt≤1048576) :
  Calls Tryd.prog 15 #[.agg #[.slice s.th.ao s.tabs.length s.th.cap],.agg #[.int .i64 q.op,.string q.table,.int .i64 q.kind,.bool q.all,.int .i64 q.cond.op,.int .i64 q.cond.typ,.int .i64 q.cond.num,.string q.cond.text,.int .i64 q.cond.col,.slice q.cond.kh.ao q.cond.kids.length q.cond.kh.cap,.slice q.eh.ao q.exprs.length q.eh.cap,.slice q.ah.ao q.aggs.length q.ah.cap,.slice q.types.h.ao q.types.l.length q.types.h.cap,.slice q.rh.ao q.rows.length q.rh.cap,.slice q.qh.ao q.kids.length q.qh.cap]] w fun e w'=>TyOut (fun _=>True) (q.typeQ s) w' e∧Below w.heap.size w w':=by
 have HB0:=ai (belAA (w:=w) (.cells #[.slice s.th.ao s.tabs.length s.th.cap] 28) (.cells q.lit 57))
 have HSB:=ai ((Box.new w #[.slice s.th.ao s.tabs.length s.th.cap] 28).below (belA (.cells q.lit 57)));have HQB:=ai (Box.new (w.alloc (.cells #[.slice s.th.ao s.tabs.length s.th.cap] 28)) #[.int .i64 q.op,.string q.table,.int .i64 q.kind,.bool q.all,.int .i64 q.cond.op,.int .i64 q.cond.typ,.int .i64 q.cond.num,.string q.cond.text,.int .i64 q.cond.col,.slice q.cond.kh.ao q.cond.kids.length q.cond.kh.cap,.slice q.eh.ao q.exprs.length q.eh.cap,.slice q.ah.ao q.aggs.length q.ah.cap,.slice q.types.h.ao q.types.l.length q.types.h.cap,.slice q.rh.ao q.rows.length q.rh.cap,.slice q.qh.ao q.kids.length q.qh.cap] 57);simp only [World.size_alloc]at HQB;have HS:=ai (hs.mono HB0.o);have HQ:=ai (hq.mono HB0.o);have HF:=ai (hf.mono HB0.o);have HO:=ai (ho.mono HB0.o);have HSH:=ai (hsh.keptBut (HB0.o.frame (fun _=>False)) (by simp))
 have HSZ:=ai hsz;have HWT:=ai hwt;have HSC:=ai hsc;have HZ:=ai (show wrap64 (q.size:Int) = (q.size:Int)from wrap_small (by omega))
 have hdw:=Nat.le_trans (Qu.dep_le q) hwt;clear hs hq hf ho hsh hwt hsc
 go_enter Tryd.func15,Tryd.ntmps15;go_upto_region 1 with(fail)
 generalize (w.alloc (.cells #[.slice s.th.ao s.tabs.length s.th.cap] 28)).alloc (.cells q.lit 57) =W at *;have y0:=HQB.o.cell (j:=0) rfl
 have y1:=HQB.o.cell (j:=1) rfl
 have y2:=HQB.o.cell (j:=2) rfl
 have y3:=HQB.o.cell (j:=3) rfl
 have y4:=HQB.o.cell (j:=4) rfl
 have y5:=HQB.o.cell (j:=5) rfl
 have y6:=HQB.o.cell (j:=6) rfl
 have y7:=HQB.o.cell (j:=7) rfl
 have y8:=HQB.o.cell (j:=8) rfl
 have y9:=HQB.o.cell (j:=9) rfl
 have y10:=HQB.o.cell (j:=10) rfl
 have y11:=HQB.o.cell (j:=11) rfl
 have y12:=HQB.o.cell (j:=12) rfl
 have y13:=HQB.o.cell (j:=13) rfl
 have y14:=HQB.o.cell (j:=14) rfl
 by_cases h200:200<q.size
 ·have HJ:=ai (show q.typeQ s= (8,[]) by unfold Qu.typeQ;rw [if_pos h200])
  have h2: (200:Int) < (q.size:Int):=by omega
  clear h200;go_wp2_with (go_at_call 38;refine(rqsize_any HQ.o _ HQ.o).mono ?_;rintro e w1 ⟨rfl,hb1⟩;rw [HZ.o];have HB1:=ai hb1;clear y0 y1 y2 y3 y4 y5 y6 y7 y8 y9 y10 y11 y12 y13 y14;have z0:=(HQB.o.below hb1).cell (j:=0) rfl;have z1:=(HQB.o.below hb1).cell (j:=1) rfl;have z2:=(HQB.o.below hb1).cell (j:=2) rfl;have z3:=(HQB.o.below hb1).cell (j:=3) rfl;have z4:=(HQB.o.below hb1).cell (j:=4) rfl;have z5:=(HQB.o.below hb1).cell (j:=5) rfl;have z6:=(HQB.o.below hb1).cell (j:=6) rfl;have z7:=(HQB.o.below hb1).cell (j:=7) rfl;have z8:=(HQB.o.below hb1).cell (j:=8) rfl;have z9:=(HQB.o.below hb1).cell (j:=9) rfl;have z10:=(HQB.o.below hb1).cell (j:=10) rfl;have z11:=(HQB.o.below hb1).cell (j:=11) rfl;have z12:=(HQB.o.below hb1).cell (j:=12) rfl;have z13:=(HQB.o.below hb1).cell (j:=13) rfl;have z14:=(HQB.o.below hb1).cell (j:=14) rfl;clear hb1)
  go_ret2
  exact⟨TyOut.no rfl HJ.o,HB0.o.trans (HB1.o.mono HB0.o.size)⟩
 ·have h2: ¬(200:Int) < (q.size:Int):=by omega
  by_cases h24:24<q.dep
  ·have HJ:=ai (show q.typeQ s= (13,[]) by unfold Qu.typeQ;rw [if_neg h200,if_pos h24])
   have h3: (24:Int) < (q.dep:Int):=by omega
   clear h200 h24;go_wp2_with (first
    | (go_at_call 38;refine(rqsize_any HQ.o _ HQ.o).mono ?_;rintro e w1 ⟨rfl,hb1⟩;rw [HZ.o];have HB1:=ai hb1;clear y0 y1 y2 y3 y4 y5 y6 y7 y8 y9 y10 y11 y12 y13 y14;have z0:=(HQB.o.below hb1).cell (j:=0) rfl;have z1:=(HQB.o.below hb1).cell (j:=1) rfl;have z2:=(HQB.o.below hb1).cell (j:=2) rfl;have z3:=(HQB.o.below hb1).cell (j:=3) rfl;have z4:=(HQB.o.below hb1).cell (j:=4) rfl;have z5:=(HQB.o.below hb1).cell (j:=5) rfl;have z6:=(HQB.o.below hb1).cell (j:=6) rfl;have z7:=(HQB.o.below hb1).cell (j:=7) rfl;have z8:=(HQB.o.below hb1).cell (j:=8) rfl;have z9:=(HQB.o.below hb1).cell (j:=9) rfl;have z10:=(HQB.o.below hb1).cell (j:=10) rfl;have z11:=(HQB.o.below hb1).cell (j:=11) rfl;have z12:=(HQB.o.below hb1).cell (j:=12) rfl;have z13:=(HQB.o.below hb1).cell (j:=13) rfl;have z14:=(HQB.o.below hb1).cell (j:=14) rfl;clear hb1)
    | (go_at_call 39;refine(rdep_any HQ.o _ (HQ.o.mono HB1.o) HWT.o).mono ?_;rintro e w2 ⟨rfl,hb2⟩;have HB2:=ai (bT HB1.o hb2);clear z0 z1 z2 z3 z4 z5 z6 z7 z8 z9 z10 z11 z12 z13 z14 hb2;have v0:=(HQB.o.below HB2.o).cell (j:=0) rfl;have v1:=(HQB.o.below HB2.o).cell (j:=1) rfl;have v2:=(HQB.o.below HB2.o).cell (j:=2) rfl;have v3:=(HQB.o.below HB2.o).cell (j:=3) rfl;have v4:=(HQB.o.below HB2.o).cell (j:=4) rfl;have v5:=(HQB.o.below HB2.o).cell (j:=5) rfl;have v6:=(HQB.o.below HB2.o).cell (j:=6) rfl;have v7:=(HQB.o.below HB2.o).cell (j:=7) rfl;have v8:=(HQB.o.below HB2.o).cell (j:=8) rfl;have v9:=(HQB.o.below HB2.o).cell (j:=9) rfl;have v10:=(HQB.o.below HB2.o).cell (j:=10) rfl;have v11:=(HQB.o.below HB2.o).cell (j:=11) rfl;have v12:=(HQB.o.below HB2.o).cell (j:=12) rfl;have v13:=(HQB.o.below HB2.o).cell (j:=13) rfl;have v14:=(HQB.o.below HB2.o).cell (j:=14) rfl;have x0:=(HSB.o.below HB2.o).cell (j:=0) rfl))
   go_ret2
   exact⟨TyOut.no rfl HJ.o,HB0.o.trans (HB2.o.mono HB0.o.size)⟩
  ·have HJ:=ai (show q.typeQ s=q.tq s by unfold Qu.typeQ;rw [if_neg h200,if_neg h24])
   have h3: ¬(24:Int) < (q.dep:Int):=by omega
   clear h200 h24;go_wp2_with (first
    | (go_at_call 38;refine(rqsize_any HQ.o _ HQ.o).mono ?_;rintro e w1 ⟨rfl,hb1⟩;rw [HZ.o];have HB1:=ai hb1;clear y0 y1 y2 y3 y4 y5 y6 y7 y8 y9 y10 y11 y12 y13 y14;have z0:=(HQB.o.below hb1).cell (j:=0) rfl;have z1:=(HQB.o.below hb1).cell (j:=1) rfl;have z2:=(HQB.o.below hb1).cell (j:=2) rfl;have z3:=(HQB.o.below hb1).cell (j:=3) rfl;have z4:=(HQB.o.below hb1).cell (j:=4) rfl;have z5:=(HQB.o.below hb1).cell (j:=5) rfl;have z6:=(HQB.o.below hb1).cell (j:=6) rfl;have z7:=(HQB.o.below hb1).cell (j:=7) rfl;have z8:=(HQB.o.below hb1).cell (j:=8) rfl;have z9:=(HQB.o.below hb1).cell (j:=9) rfl;have z10:=(HQB.o.below hb1).cell (j:=10) rfl;have z11:=(HQB.o.below hb1).cell (j:=11) rfl;have z12:=(HQB.o.below hb1).cell (j:=12) rfl;have z13:=(HQB.o.below hb1).cell (j:=13) rfl;have z14:=(HQB.o.below hb1).cell (j:=14) rfl;clear hb1)
    | (go_at_call 39;refine(rdep_any HQ.o _ (HQ.o.mono HB1.o) HWT.o).mono ?_;rintro e w2 ⟨rfl,hb2⟩;have HB2:=ai (bT HB1.o hb2);clear z0 z1 z2 z3 z4 z5 z6 z7 z8 z9 z10 z11 z12 z13 z14 hb2;have v0:=(HQB.o.below HB2.o).cell (j:=0) rfl;have v1:=(HQB.o.below HB2.o).cell (j:=1) rfl;have v2:=(HQB.o.below HB2.o).cell (j:=2) rfl;have v3:=(HQB.o.below HB2.o).cell (j:=3) rfl;have v4:=(HQB.o.below HB2.o).cell (j:=4) rfl;have v5:=(HQB.o.below HB2.o).cell (j:=5) rfl;have v6:=(HQB.o.below HB2.o).cell (j:=6) rfl;have v7:=(HQB.o.below HB2.o).cell (j:=7) rfl;have v8:=(HQB.o.below HB2.o).cell (j:=8) rfl;have v9:=(HQB.o.below HB2.o).cell (j:=9) rfl;have v10:=(HQB.o.below HB2.o).cell (j:=10) rfl;have v11:=(HQB.o.below HB2.o).cell (j:=11) rfl;have v12:=(HQB.o.below HB2.o).cell (j:=12) rfl;have v13:=(HQB.o.below HB2.o).cell (j:=13) rfl;have v14:=(HQB.o.below HB2.o).cell (j:=14) rfl;have x0:=(HSB.o.below HB2.o).cell (j:=0) rfl)
    | (go_at_call 40;refine(typed_all s HSC.o HQ.o _ (HS.o.mono HB2.o) (HQ.o.mono HB2.o) (HF.o.mono HB2.o) (HO.o.mono HB2.o) (HSH.o.keptBut (HB2.o.frame (fun _=>False)) (by simp)) HSZ.o HWT.o).mono ?_;rintro e w3 ⟨⟨o,rfl,ho,hoi,-⟩,hb3⟩;have HOL:=ai ho;have HOI:=ai hoi;have HB3:=ai (bT HB2.o hb3);clear ho hoi hb3))
   go_ret2
   refine⟨?_,HB0.o.trans (HB3.o.mono HB0.o.size)⟩
   rw [HJ.o];exact⟨o,rfl,HOL.o,HOI.o,fun _=>trivial⟩
end Go.Proofs.YtogalchclmmfgaaDoor

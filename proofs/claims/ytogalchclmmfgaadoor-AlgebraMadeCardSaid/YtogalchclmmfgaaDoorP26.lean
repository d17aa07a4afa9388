/- A part of the proof of AlgebraMade. -/
import Derived.Test.YtogalchclmmfgaaDoorP20
import Derived.Test.YtogalchclmmfgaaDoorP22
import Derived.Test.YtogalchclmmfgaaDoorP19
import Derived.Test.YtogalchclmmfgaaDoorP23
import Derived.Test.YtogalchclmmfgaaDoorP24
import Derived.Test.YtogalchclmmfgaaDoorP25
import Derived.Test.YtogalchclmmfgaaDoorP05
import Derived.Test.YtogalchclmmfgaaDoorP02
set_option maxRecDepth 100000
set_option maxHeartbeats 16000000
namespace Go.Proofs.YtogalchclmmfgaaDoor
open Go.RowKit
theorem getD0 {ks:List IL} (h:0<ks.length) : (ks.map IL.l).getD 0 [] =ks[0].l:=by
 rw [List.getD_eq_getElem?_getD,List.getElem?_eq_getElem (by simpa using h)]
 simp
theorem getD1 {ks:List IL} (h:1<ks.length) : (ks.map IL.l).getD 1 [] =ks[1].l:=by
 rw [List.getD_eq_getElem?_getD,List.getElem?_eq_getElem (by simpa using h)]
 simp
theorem clone_il (x:IL) (w:World) (hx:x.In w) (hp:0<x.l.length) (hm:x.l.length≤1000) :
  Calls Tryd.prog 63 #[.slice x.h.ao x.l.length x.h.cap] w fun e w'=>(∃o:IL,e = .returned (.slice o.h.ao o.l.length o.h.cap)∧o.l=x.l∧o.In w'∧OwnIL w.heap.size w' o)∧Below w.heap.size w w':=by
 have ha:x.h.ao=some ⟨x.h.b,x.h.o,none⟩:=(hx.1.2.2.1 hp).1;rw [ha];refine(Tryd.slices_Clone_int x.h.b x.h.o x.l.length x.h.cap x.l w (Nat.le_refl _) (by omega) (fun j hj=> ?_)).mono ?_
 ·rw [List.getD_eq_getElem?_getD,List.getElem?_eq_getElem hj]
  exact int_at hx.1 hj
 ·rintro e w' ⟨v,rfl,hv,-,hb⟩
  rw [List.take_length,show x.l.map (Value.int .i64) =x.l.flatMap icells by induction x.l<;>simp [List.flatMap_cons, *]]at hv
  obtain⟨o,rfl,ho,hoi,how⟩:=il_own hv hx.2;exact⟨⟨o,rfl,ho,hoi,how⟩,hb⟩
theorem formAt_1 (w:World) (hf:FormsAt w) :Calls Tryd.prog 60 #[.int .i64 1] w fun e w'=>e = .returned (.tuple #[.agg #[.string ⟨#[115,99,97,110]⟩,.int .i64 0,.string ⟨#[116,97,98,108,101]⟩],.bool true])∧Below w.heap.size w w':=formOf_hit 1 (by decide) (by decide) w hf
theorem plainB_1 {q:Qu} (hop:q.op=1) :plainB q=cleanB q ⟨#[116,97,98,108,101]⟩:=by
 unfold plainB
 rw [hop]
 first|rfl|simp
theorem cleanAt_1 (q:Qu) (hop:q.op=1) (w:World) (hin:q.In w) (hsh:w.ShapedOpen Tryd.prog) :Calls Tryd.prog 61 #[.agg #[.int .i64 1,.string q.table,.int .i64 q.kind,.bool q.all,.int .i64 q.cond.op,.int .i64 q.cond.typ,.int .i64 q.cond.num,.string q.cond.text,.int .i64 q.cond.col,.slice q.cond.kh.ao q.cond.kids.length q.cond.kh.cap,.slice q.eh.ao q.exprs.length q.eh.cap,.slice q.ah.ao q.aggs.length q.ah.cap,.slice q.types.h.ao q.types.l.length q.types.h.cap,.slice q.rh.ao q.rows.length q.rh.cap,.slice q.qh.ao q.kids.length q.qh.cap],.agg #[.string ⟨#[115,99,97,110]⟩,.int .i64 0,.string ⟨#[116,97,98,108,101]⟩]] w fun e w'=>e = .returned (.bool (plainB q))∧Below w.heap.size w w':=by
 have h:=clean_any q ⟨#[115,99,97,110]⟩ ⟨#[116,97,98,108,101]⟩ 0 w hin (by decide) hsh
 rw [hop,←plainB_1 hop]at h;exact h
theorem plainAt_1 (q:Qu) (hop:q.op=1) (w:World) (hin:q.cond.In w) :Calls Tryd.prog 70 #[.agg #[.int .i64 1,.string q.table,.int .i64 q.kind,.bool q.all,.int .i64 q.cond.op,.int .i64 q.cond.typ,.int .i64 q.cond.num,.string q.cond.text,.int .i64 q.cond.col,.slice q.cond.kh.ao q.cond.kids.length q.cond.kh.cap,.slice q.eh.ao q.exprs.length q.eh.cap,.slice q.ah.ao q.aggs.length q.ah.cap,.slice q.types.h.ao q.types.l.length q.types.h.cap,.slice q.rh.ao q.rows.length q.rh.cap,.slice q.qh.ao q.kids.length q.qh.cap]] w fun e w'=>e = .returned (.bool (plainB q))∧Below w.heap.size w w':=by
 have h:=qplain_1 q w hin;rw [←clean_1 q,←plainB_1 hop]at h;exact h
theorem kidsAt_1 (w:World) :Calls Tryd.prog 71 #[.int .i64 1] w fun e w'=>e = .returned (.int .i64 0)∧Below w.heap.size w w':=rkidsq_any 1 w
theorem formAt_2 (w:World) (hf:FormsAt w) :Calls Tryd.prog 60 #[.int .i64 2] w fun e w'=>e = .returned (.tuple #[.agg #[.string ⟨#[118,97,108,117,101,115]⟩,.int .i64 0,.string ⟨#[116,121,112,101,115,32,114,111,119,115]⟩],.bool true])∧Below w.heap.size w w':=formOf_hit 2 (by decide) (by decide) w hf
theorem plainB_2 {q:Qu} (hop:q.op=2) :plainB q=cleanB q ⟨#[116,121,112,101,115,32,114,111,119,115]⟩:=by
 unfold plainB
 rw [hop]
 first|rfl|simp
theorem cleanAt_2 (q:Qu) (hop:q.op=2) (w:World) (hin:q.In w) (hsh:w.ShapedOpen Tryd.prog) :Calls Tryd.prog 61 #[.agg #[.int .i64 2,.string q.table,.int .i64 q.kind,.bool q.all,.int .i64 q.cond.op,.int .i64 q.cond.typ,.int .i64 q.cond.num,.string q.cond.text,.int .i64 q.cond.col,.slice q.cond.kh.ao q.cond.kids.length q.cond.kh.cap,.slice q.eh.ao q.exprs.length q.eh.cap,.slice q.ah.ao q.aggs.length q.ah.cap,.slice q.types.h.ao q.types.l.length q.types.h.cap,.slice q.rh.ao q.rows.length q.rh.cap,.slice q.qh.ao q.kids.length q.qh.cap],.agg #[.string ⟨#[118,97,108,117,101,115]⟩,.int .i64 0,.string ⟨#[116,121,112,101,115,32,114,111,119,115]⟩]] w fun e w'=>e = .returned (.bool (plainB q))∧Below w.heap.size w w':=by
 have h:=clean_any q ⟨#[118,97,108,117,101,115]⟩ ⟨#[116,121,112,101,115,32,114,111,119,115]⟩ 0 w hin (by decide) hsh
 rw [hop,←plainB_2 hop]at h;exact h
theorem plainAt_2 (q:Qu) (hop:q.op=2) (w:World) (hin:q.cond.In w) :Calls Tryd.prog 70 #[.agg #[.int .i64 2,.string q.table,.int .i64 q.kind,.bool q.all,.int .i64 q.cond.op,.int .i64 q.cond.typ,.int .i64 q.cond.num,.string q.cond.text,.int .i64 q.cond.col,.slice q.cond.kh.ao q.cond.kids.length q.cond.kh.cap,.slice q.eh.ao q.exprs.length q.eh.cap,.slice q.ah.ao q.aggs.length q.ah.cap,.slice q.types.h.ao q.types.l.length q.types.h.cap,.slice q.rh.ao q.rows.length q.rh.cap,.slice q.qh.ao q.kids.length q.qh.cap]] w fun e w'=>e = .returned (.bool (plainB q))∧Below w.heap.size w w':=by
 have h:=qplain_2 q w hin;rw [←clean_2 q,←plainB_2 hop]at h;exact h
theorem kidsAt_2 (w:World) :Calls Tryd.prog 71 #[.int .i64 2] w fun e w'=>e = .returned (.int .i64 0)∧Below w.heap.size w w':=rkidsq_any 2 w
theorem formAt_3 (w:World) (hf:FormsAt w) :Calls Tryd.prog 60 #[.int .i64 3] w fun e w'=>e = .returned (.tuple #[.agg #[.string ⟨#[115,101,108,101,99,116]⟩,.int .i64 1,.string ⟨#[99,111,110,100]⟩],.bool true])∧Below w.heap.size w w':=formOf_hit 3 (by decide) (by decide) w hf
theorem plainB_3 {q:Qu} (hop:q.op=3) :plainB q=cleanB q ⟨#[99,111,110,100]⟩:=by
 unfold plainB
 rw [hop]
 first|rfl|simp
theorem cleanAt_3 (q:Qu) (hop:q.op=3) (w:World) (hin:q.In w) (hsh:w.ShapedOpen Tryd.prog) :Calls Tryd.prog 61 #[.agg #[.int .i64 3,.string q.table,.int .i64 q.kind,.bool q.all,.int .i64 q.cond.op,.int .i64 q.cond.typ,.int .i64 q.cond.num,.string q.cond.text,.int .i64 q.cond.col,.slice q.cond.kh.ao q.cond.kids.length q.cond.kh.cap,.slice q.eh.ao q.exprs.length q.eh.cap,.slice q.ah.ao q.aggs.length q.ah.cap,.slice q.types.h.ao q.types.l.length q.types.h.cap,.slice q.rh.ao q.rows.length q.rh.cap,.slice q.qh.ao q.kids.length q.qh.cap],.agg #[.string ⟨#[115,101,108,101,99,116]⟩,.int .i64 1,.string ⟨#[99,111,110,100]⟩]] w fun e w'=>e = .returned (.bool (plainB q))∧Below w.heap.size w w':=by
 have h:=clean_any q ⟨#[115,101,108,101,99,116]⟩ ⟨#[99,111,110,100]⟩ 1 w hin (by decide) hsh
 rw [hop,←plainB_3 hop]at h;exact h
theorem plainAt_3 (q:Qu) (hop:q.op=3) (w:World) (hin:q.cond.In w) :Calls Tryd.prog 70 #[.agg #[.int .i64 3,.string q.table,.int .i64 q.kind,.bool q.all,.int .i64 q.cond.op,.int .i64 q.cond.typ,.int .i64 q.cond.num,.string q.cond.text,.int .i64 q.cond.col,.slice q.cond.kh.ao q.cond.kids.length q.cond.kh.cap,.slice q.eh.ao q.exprs.length q.eh.cap,.slice q.ah.ao q.aggs.length q.ah.cap,.slice q.types.h.ao q.types.l.length q.types.h.cap,.slice q.rh.ao q.rows.length q.rh.cap,.slice q.qh.ao q.kids.length q.qh.cap]] w fun e w'=>e = .returned (.bool (plainB q))∧Below w.heap.size w w':=by
 have h:=qplain_3 q w hin;rw [←clean_3 q,←plainB_3 hop]at h;exact h
theorem kidsAt_3 (w:World) :Calls Tryd.prog 71 #[.int .i64 3] w fun e w'=>e = .returned (.int .i64 1)∧Below w.heap.size w w':=rkidsq_any 3 w
theorem formAt_4 (w:World) (hf:FormsAt w) :Calls Tryd.prog 60 #[.int .i64 4] w fun e w'=>e = .returned (.tuple #[.agg #[.string ⟨#[112,114,111,106,101,99,116]⟩,.int .i64 1,.string ⟨#[101,120,112,114,115]⟩],.bool true])∧Below w.heap.size w w':=formOf_hit 4 (by decide) (by decide) w hf
theorem plainB_4 {q:Qu} (hop:q.op=4) :plainB q=cleanB q ⟨#[101,120,112,114,115]⟩:=by
 unfold plainB
 rw [hop]
 first|rfl|simp
theorem cleanAt_4 (q:Qu) (hop:q.op=4) (w:World) (hin:q.In w) (hsh:w.ShapedOpen Tryd.prog) :Calls Tryd.prog 61 #[.agg #[.int .i64 4,.string q.table,.int .i64 q.kind,.bool q.all,.int .i64 q.cond.op,.int .i64 q.cond.typ,.int .i64 q.cond.num,.string q.cond.text,.int .i64 q.cond.col,.slice q.cond.kh.ao q.cond.kids.length q.cond.kh.cap,.slice q.eh.ao q.exprs.length q.eh.cap,.slice q.ah.ao q.aggs.length q.ah.cap,.slice q.types.h.ao q.types.l.length q.types.h.cap,.slice q.rh.ao q.rows.length q.rh.cap,.slice q.qh.ao q.kids.length q.qh.cap],.agg #[.string ⟨#[112,114,111,106,101,99,116]⟩,.int .i64 1,.string ⟨#[101,120,112,114,115]⟩]] w fun e w'=>e = .returned (.bool (plainB q))∧Below w.heap.size w w':=by
 have h:=clean_any q ⟨#[112,114,111,106,101,99,116]⟩ ⟨#[101,120,112,114,115]⟩ 1 w hin (by decide) hsh
 rw [hop,←plainB_4 hop]at h;exact h
theorem plainAt_4 (q:Qu) (hop:q.op=4) (w:World) (hin:q.cond.In w) :Calls Tryd.prog 70 #[.agg #[.int .i64 4,.string q.table,.int .i64 q.kind,.bool q.all,.int .i64 q.cond.op,.int .i64 q.cond.typ,.int .i64 q.cond.num,.string q.cond.text,.int .i64 q.cond.col,.slice q.cond.kh.ao q.cond.kids.length q.cond.kh.cap,.slice q.eh.ao q.exprs.length q.eh.cap,.slice q.ah.ao q.aggs.length q.ah.cap,.slice q.types.h.ao q.types.l.length q.types.h.cap,.slice q.rh.ao q.rows.length q.rh.cap,.slice q.qh.ao q.kids.length q.qh.cap]] w fun e w'=>e = .returned (.bool (plainB q))∧Below w.heap.size w w':=by
 have h:=qplain_4 q w hin;rw [←clean_4 q,←plainB_4 hop]at h;exact h
theorem kidsAt_4 (w:World) :Calls Tryd.prog 71 #[.int .i64 4] w fun e w'=>e = .returned (.int .i64 1)∧Below w.heap.size w w':=rkidsq_any 4 w
theorem formAt_5 (w:World) (hf:FormsAt w) :Calls Tryd.prog 60 #[.int .i64 5] w fun e w'=>e = .returned (.tuple #[.agg #[.string ⟨#[106,111,105,110]⟩,.int .i64 2,.string ⟨#[107,105,110,100,32,99,111,110,100]⟩],.bool true])∧Below w.heap.size w w':=formOf_hit 5 (by decide) (by decide) w hf
theorem plainB_5 {q:Qu} (hop:q.op=5) :plainB q=cleanB q ⟨#[107,105,110,100,32,99,111,110,100]⟩:=by
 unfold plainB
 rw [hop]
 first|rfl|simp
theorem cleanAt_5 (q:Qu) (hop:q.op=5) (w:World) (hin:q.In w) (hsh:w.ShapedOpen Tryd.prog) :Calls Tryd.prog 61 #[.agg #[.int .i64 5,.string q.table,.int .i64 q.kind,.bool q.all,.int .i64 q.cond.op,.int .i64 q.cond.typ,.int .i64 q.cond.num,.string q.cond.text,.int .i64 q.cond.col,.slice q.cond.kh.ao q.cond.kids.length q.cond.kh.cap,.slice q.eh.ao q.exprs.length q.eh.cap,.slice q.ah.ao q.aggs.length q.ah.cap,.slice q.types.h.ao q.types.l.length q.types.h.cap,.slice q.rh.ao q.rows.length q.rh.cap,.slice q.qh.ao q.kids.length q.qh.cap],.agg #[.string ⟨#[106,111,105,110]⟩,.int .i64 2,.string ⟨#[107,105,110,100,32,99,111,110,100]⟩]] w fun e w'=>e = .returned (.bool (plainB q))∧Below w.heap.size w w':=by
 have h:=clean_any q ⟨#[106,111,105,110]⟩ ⟨#[107,105,110,100,32,99,111,110,100]⟩ 2 w hin (by decide) hsh
 rw [hop,←plainB_5 hop]at h;exact h
theorem plainAt_5 (q:Qu) (hop:q.op=5) (w:World) (hin:q.cond.In w) :Calls Tryd.prog 70 #[.agg #[.int .i64 5,.string q.table,.int .i64 q.kind,.bool q.all,.int .i64 q.cond.op,.int .i64 q.cond.typ,.int .i64 q.cond.num,.string q.cond.text,.int .i64 q.cond.col,.slice q.cond.kh.ao q.cond.kids.length q.cond.kh.cap,.slice q.eh.ao q.exprs.length q.eh.cap,.slice q.ah.ao q.aggs.length q.ah.cap,.slice q.types.h.ao q.types.l.length q.types.h.cap,.slice q.rh.ao q.rows.length q.rh.cap,.slice q.qh.ao q.kids.length q.qh.cap]] w fun e w'=>e = .returned (.bool (plainB q))∧Below w.heap.size w w':=by
 have h:=qplain_5 q w hin;rw [←clean_5 q,←plainB_5 hop]at h;exact h
theorem kidsAt_5 (w:World) :Calls Tryd.prog 71 #[.int .i64 5] w fun e w'=>e = .returned (.int .i64 2)∧Below w.heap.size w w':=rkidsq_any 5 w
theorem formAt_6 (w:World) (hf:FormsAt w) :Calls Tryd.prog 60 #[.int .i64 6] w fun e w'=>e = .returned (.tuple #[.agg #[.string ⟨#[117,110,105,111,110]⟩,.int .i64 2,.string ⟨#[97,108,108]⟩],.bool true])∧Below w.heap.size w w':=formOf_hit 6 (by decide) (by decide) w hf
theorem plainB_6 {q:Qu} (hop:q.op=6) :plainB q=cleanB q ⟨#[97,108,108]⟩:=by
 unfold plainB
 rw [hop]
 first|rfl|simp
theorem cleanAt_6 (q:Qu) (hop:q.op=6) (w:World) (hin:q.In w) (hsh:w.ShapedOpen Tryd.prog) :Calls Tryd.prog 61 #[.agg #[.int .i64 6,.string q.table,.int .i64 q.kind,.bool q.all,.int .i64 q.cond.op,.int .i64 q.cond.typ,.int .i64 q.cond.num,.string q.cond.text,.int .i64 q.cond.col,.slice q.cond.kh.ao q.cond.kids.length q.cond.kh.cap,.slice q.eh.ao q.exprs.length q.eh.cap,.slice q.ah.ao q.aggs.length q.ah.cap,.slice q.types.h.ao q.types.l.length q.types.h.cap,.slice q.rh.ao q.rows.length q.rh.cap,.slice q.qh.ao q.kids.length q.qh.cap],.agg #[.string ⟨#[117,110,105,111,110]⟩,.int .i64 2,.string ⟨#[97,108,108]⟩]] w fun e w'=>e = .returned (.bool (plainB q))∧Below w.heap.size w w':=by
 have h:=clean_any q ⟨#[117,110,105,111,110]⟩ ⟨#[97,108,108]⟩ 2 w hin (by decide) hsh
 rw [hop,←plainB_6 hop]at h;exact h
theorem plainAt_6 (q:Qu) (hop:q.op=6) (w:World) (hin:q.cond.In w) :Calls Tryd.prog 70 #[.agg #[.int .i64 6,.string q.table,.int .i64 q.kind,.bool q.all,.int .i64 q.cond.op,.int .i64 q.cond.typ,.int .i64 q.cond.num,.string q.cond.text,.int .i64 q.cond.col,.slice q.cond.kh.ao q.cond.kids.length q.cond.kh.cap,.slice q.eh.ao q.exprs.length q.eh.cap,.slice q.ah.ao q.aggs.length q.ah.cap,.slice q.types.h.ao q.types.l.length q.types.h.cap,.slice q.rh.ao q.rows.length q.rh.cap,.slice q.qh.ao q.kids.length q.qh.cap]] w fun e w'=>e = .returned (.bool (plainB q))∧Below w.heap.size w w':=by
 have h:=qplain_6 q w hin;rw [←clean_6 q,←plainB_6 hop]at h;exact h
theorem kidsAt_6 (w:World) :Calls Tryd.prog 71 #[.int .i64 6] w fun e w'=>e = .returned (.int .i64 2)∧Below w.heap.size w w':=rkidsq_any 6 w
theorem formAt_7 (w:World) (hf:FormsAt w) :Calls Tryd.prog 60 #[.int .i64 7] w fun e w'=>e = .returned (.tuple #[.agg #[.string ⟨#[101,120,99,101,112,116]⟩,.int .i64 2,.string ⟨#[97,108,108]⟩],.bool true])∧Below w.heap.size w w':=formOf_hit 7 (by decide) (by decide) w hf
theorem plainB_7 {q:Qu} (hop:q.op=7) :plainB q=cleanB q ⟨#[97,108,108]⟩:=by
 unfold plainB
 rw [hop]
 first|rfl|simp
theorem cleanAt_7 (q:Qu) (hop:q.op=7) (w:World) (hin:q.In w) (hsh:w.ShapedOpen Tryd.prog) :Calls Tryd.prog 61 #[.agg #[.int .i64 7,.string q.table,.int .i64 q.kind,.bool q.all,.int .i64 q.cond.op,.int .i64 q.cond.typ,.int .i64 q.cond.num,.string q.cond.text,.int .i64 q.cond.col,.slice q.cond.kh.ao q.cond.kids.length q.cond.kh.cap,.slice q.eh.ao q.exprs.length q.eh.cap,.slice q.ah.ao q.aggs.length q.ah.cap,.slice q.types.h.ao q.types.l.length q.types.h.cap,.slice q.rh.ao q.rows.length q.rh.cap,.slice q.qh.ao q.kids.length q.qh.cap],.agg #[.string ⟨#[101,120,99,101,112,116]⟩,.int .i64 2,.string ⟨#[97,108,108]⟩]] w fun e w'=>e = .returned (.bool (plainB q))∧Below w.heap.size w w':=by
 have h:=clean_any q ⟨#[101,120,99,101,112,116]⟩ ⟨#[97,108,108]⟩ 2 w hin (by decide) hsh
 rw [hop,←plainB_7 hop]at h;exact h
theorem plainAt_7 (q:Qu) (hop:q.op=7) (w:World) (hin:q.cond.In w) :Calls Tryd.prog 70 #[.agg #[.int .i64 7,.string q.table,.int .i64 q.kind,.bool q.all,.int .i64 q.cond.op,.int .i64 q.cond.typ,.int .i64 q.cond.num,.string q.cond.text,.int .i64 q.cond.col,.slice q.cond.kh.ao q.cond.kids.length q.cond.kh.cap,.slice q.eh.ao q.exprs.length q.eh.cap,.slice q.ah.ao q.aggs.length q.ah.cap,.slice q.types.h.ao q.types.l.length q.types.h.cap,.slice q.rh.ao q.rows.length q.rh.cap,.slice q.qh.ao q.kids.length q.qh.cap]] w fun e w'=>e = .returned (.bool (plainB q))∧Below w.heap.size w w':=by
 have h:=qplain_7 q w hin;rw [←clean_7 q,←plainB_7 hop]at h;exact h
theorem kidsAt_7 (w:World) :Calls Tryd.prog 71 #[.int .i64 7] w fun e w'=>e = .returned (.int .i64 2)∧Below w.heap.size w w':=rkidsq_any 7 w
theorem formAt_8 (w:World) (hf:FormsAt w) :Calls Tryd.prog 60 #[.int .i64 8] w fun e w'=>e = .returned (.tuple #[.agg #[.string ⟨#[105,110,116,101,114,115,101,99,116]⟩,.int .i64 2,.string ⟨#[97,108,108]⟩],.bool true])∧Below w.heap.size w w':=formOf_hit 8 (by decide) (by decide) w hf
theorem plainB_8 {q:Qu} (hop:q.op=8) :plainB q=cleanB q ⟨#[97,108,108]⟩:=by
 unfold plainB
 rw [hop]
 first|rfl|simp
theorem cleanAt_8 (q:Qu) (hop:q.op=8) (w:World) (hin:q.In w) (hsh:w.ShapedOpen Tryd.prog) :Calls Tryd.prog 61 #[.agg #[.int .i64 8,.string q.table,.int .i64 q.kind,.bool q.all,.int .i64 q.cond.op,.int .i64 q.cond.typ,.int .i64 q.cond.num,.string q.cond.text,.int .i64 q.cond.col,.slice q.cond.kh.ao q.cond.kids.length q.cond.kh.cap,.slice q.eh.ao q.exprs.length q.eh.cap,.slice q.ah.ao q.aggs.length q.ah.cap,.slice q.types.h.ao q.types.l.length q.types.h.cap,.slice q.rh.ao q.rows.length q.rh.cap,.slice q.qh.ao q.kids.length q.qh.cap],.agg #[.string ⟨#[105,110,116,101,114,115,101,99,116]⟩,.int .i64 2,.string ⟨#[97,108,108]⟩]] w fun e w'=>e = .returned (.bool (plainB q))∧Below w.heap.size w w':=by
 have h:=clean_any q ⟨#[105,110,116,101,114,115,101,99,116]⟩ ⟨#[97,108,108]⟩ 2 w hin (by decide) hsh
 rw [hop,←plainB_8 hop]at h;exact h
theorem plainAt_8 (q:Qu) (hop:q.op=8) (w:World) (hin:q.cond.In w) :Calls Tryd.prog 70 #[.agg #[.int .i64 8,.string q.table,.int .i64 q.kind,.bool q.all,.int .i64 q.cond.op,.int .i64 q.cond.typ,.int .i64 q.cond.num,.string q.cond.text,.int .i64 q.cond.col,.slice q.cond.kh.ao q.cond.kids.length q.cond.kh.cap,.slice q.eh.ao q.exprs.length q.eh.cap,.slice q.ah.ao q.aggs.length q.ah.cap,.slice q.types.h.ao q.types.l.length q.types.h.cap,.slice q.rh.ao q.rows.length q.rh.cap,.slice q.qh.ao q.kids.length q.qh.cap]] w fun e w'=>e = .returned (.bool (plainB q))∧Below w.heap.size w w':=by
 have h:=qplain_8 q w hin;rw [←clean_8 q,←plainB_8 hop]at h;exact h
theorem kidsAt_8 (w:World) :Calls Tryd.prog 71 #[.int .i64 8] w fun e w'=>e = .returned (.int .i64 2)∧Below w.heap.size w w':=rkidsq_any 8 w
theorem formAt_9 (w:World) (hf:FormsAt w) :Calls Tryd.prog 60 #[.int .i64 9] w fun e w'=>e = .returned (.tuple #[.agg #[.string ⟨#[100,105,115,116,105,110,99,116]⟩,.int .i64 1,.string ⟨#[]⟩],.bool true])∧Below w.heap.size w w':=formOf_hit 9 (by decide) (by decide) w hf
theorem plainB_9 {q:Qu} (hop:q.op=9) :plainB q=cleanB q ⟨#[]⟩:=by
 unfold plainB
 rw [hop]
 first|rfl|simp
theorem cleanAt_9 (q:Qu) (hop:q.op=9) (w:World) (hin:q.In w) (hsh:w.ShapedOpen Tryd.prog) :Calls Tryd.prog 61 #[.agg #[.int .i64 9,.string q.table,.int .i64 q.kind,.bool q.all,.int .i64 q.cond.op,.int .i64 q.cond.typ,.int .i64 q.cond.num,.string q.cond.text,.int .i64 q.cond.col,.slice q.cond.kh.ao q.cond.kids.length q.cond.kh.cap,.slice q.eh.ao q.exprs.length q.eh.cap,.slice q.ah.ao q.aggs.length q.ah.cap,.slice q.types.h.ao q.types.l.length q.types.h.cap,.slice q.rh.ao q.rows.length q.rh.cap,.slice q.qh.ao q.kids.length q.qh.cap],.agg #[.string ⟨#[100,105,115,116,105,110,99,116]⟩,.int .i64 1,.string ⟨#[]⟩]] w fun e w'=>e = .returned (.bool (plainB q))∧Below w.heap.size w w':=by
 have h:=clean_any q ⟨#[100,105,115,116,105,110,99,116]⟩ ⟨#[]⟩ 1 w hin (by decide) hsh
 rw [hop,←plainB_9 hop]at h;exact h
theorem plainAt_9 (q:Qu) (hop:q.op=9) (w:World) (hin:q.cond.In w) :Calls Tryd.prog 70 #[.agg #[.int .i64 9,.string q.table,.int .i64 q.kind,.bool q.all,.int .i64 q.cond.op,.int .i64 q.cond.typ,.int .i64 q.cond.num,.string q.cond.text,.int .i64 q.cond.col,.slice q.cond.kh.ao q.cond.kids.length q.cond.kh.cap,.slice q.eh.ao q.exprs.length q.eh.cap,.slice q.ah.ao q.aggs.length q.ah.cap,.slice q.types.h.ao q.types.l.length q.types.h.cap,.slice q.rh.ao q.rows.length q.rh.cap,.slice q.qh.ao q.kids.length q.qh.cap]] w fun e w'=>e = .returned (.bool (plainB q))∧Below w.heap.size w w':=by
 have h:=qplain_9 q w hin;rw [←clean_9 q,←plainB_9 hop]at h;exact h
theorem kidsAt_9 (w:World) :Calls Tryd.prog 71 #[.int .i64 9] w fun e w'=>e = .returned (.int .i64 1)∧Below w.heap.size w w':=rkidsq_any 9 w
theorem formAt_10 (w:World) (hf:FormsAt w) :Calls Tryd.prog 60 #[.int .i64 10] w fun e w'=>e = .returned (.tuple #[.agg #[.string ⟨#[103,114,111,117,112]⟩,.int .i64 1,.string ⟨#[101,120,112,114,115,32,97,103,103,115]⟩],.bool true])∧Below w.heap.size w w':=formOf_hit 10 (by decide) (by decide) w hf
theorem plainB_10 {q:Qu} (hop:q.op=10) :plainB q=cleanB q ⟨#[101,120,112,114,115,32,97,103,103,115]⟩:=by
 unfold plainB
 rw [hop]
 first|rfl|simp
theorem cleanAt_10 (q:Qu) (hop:q.op=10) (w:World) (hin:q.In w) (hsh:w.ShapedOpen Tryd.prog) :Calls Tryd.prog 61 #[.agg #[.int .i64 10,.string q.table,.int .i64 q.kind,.bool q.all,.int .i64 q.cond.op,.int .i64 q.cond.typ,.int .i64 q.cond.num,.string q.cond.text,.int .i64 q.cond.col,.slice q.cond.kh.ao q.cond.kids.length q.cond.kh.cap,.slice q.eh.ao q.exprs.length q.eh.cap,.slice q.ah.ao q.aggs.length q.ah.cap,.slice q.types.h.ao q.types.l.length q.types.h.cap,.slice q.rh.ao q.rows.length q.rh.cap,.slice q.qh.ao q.kids.length q.qh.cap],.agg #[.string ⟨#[103,114,111,117,112]⟩,.int .i64 1,.string ⟨#[101,120,112,114,115,32,97,103,103,115]⟩]] w fun e w'=>e = .returned (.bool (plainB q))∧Below w.heap.size w w':=by
 have h:=clean_any q ⟨#[103,114,111,117,112]⟩ ⟨#[101,120,112,114,115,32,97,103,103,115]⟩ 1 w hin (by decide) hsh
 rw [hop,←plainB_10 hop]at h;exact h
theorem plainAt_10 (q:Qu) (hop:q.op=10) (w:World) (hin:q.cond.In w) :Calls Tryd.prog 70 #[.agg #[.int .i64 10,.string q.table,.int .i64 q.kind,.bool q.all,.int .i64 q.cond.op,.int .i64 q.cond.typ,.int .i64 q.cond.num,.string q.cond.text,.int .i64 q.cond.col,.slice q.cond.kh.ao q.cond.kids.length q.cond.kh.cap,.slice q.eh.ao q.exprs.length q.eh.cap,.slice q.ah.ao q.aggs.length q.ah.cap,.slice q.types.h.ao q.types.l.length q.types.h.cap,.slice q.rh.ao q.rows.length q.rh.cap,.slice q.qh.ao q.kids.length q.qh.cap]] w fun e w'=>e = .returned (.bool (plainB q))∧Below w.heap.size w w':=by
 have h:=qplain_10 q w hin;rw [←clean_10 q,←plainB_10 hop]at h;exact h
theorem kidsAt_10 (w:World) :Calls Tryd.prog 71 #[.int .i64 10] w fun e w'=>e = .returned (.int .i64 1)∧Below w.heap.size w w':=rkidsq_any 10 w
theorem opK_1 {s:Sch} {q:Qu} {T:List (List Int)} (hop:q.op=1) :opK s q T=if fok (named q.table) s.tabs=true then (0,((s.tabs.map fun t=>t.cols.map Col.typ).getD (fi (named q.table) s.tabs).toNat [])) else (11,[]):=by
 unfold opK
 rw [hop]
 first|rfl|simp
theorem opK_2 {s:Sch} {q:Qu} {T:List (List Int)} (hop:q.op=2) :opK s q T= (valsE q,if valsE q=0 then q.types.l else []):=by
 unfold opK
 rw [hop]
 first|rfl|simp
theorem opK_3 {s:Sch} {q:Qu} {T:List (List Int)} (hop:q.op=3) :opK s q T= (condE (T.getD 0 []) q.cond,if condE (T.getD 0 []) q.cond=0 then T.getD 0 [] else []):=by
 unfold opK
 rw [hop]
 first|rfl|simp
theorem opK_4 {s:Sch} {q:Qu} {T:List (List Int)} (hop:q.op=4) :opK s q T=if q.exprs.length=0∨24<q.exprs.length then (9,[]) else if colsE (T.getD 0 []) q.exprs≠0 then (colsE (T.getD 0 []) q.exprs,[]) else (0,colsT (T.getD 0 []) q.exprs):=by
 unfold opK
 rw [hop]
 first|rfl|simp
theorem opK_5 {s:Sch} {q:Qu} {T:List (List Int)} (hop:q.op=5) :opK s q T=joinTy (T.getD 0 []) (T.getD 1 []) q:=by
 unfold opK
 rw [hop]
 first|rfl|simp
theorem opK_6 {s:Sch} {q:Qu} {T:List (List Int)} (hop:q.op=6) :opK s q T=if eqb (T.getD 0 []) (T.getD 1 []) =true then (0,T.getD 0 []) else (4,[]):=by
 unfold opK
 rw [hop]
 first|rfl|simp
theorem opK_7 {s:Sch} {q:Qu} {T:List (List Int)} (hop:q.op=7) :opK s q T=if eqb (T.getD 0 []) (T.getD 1 []) =true then (0,T.getD 0 []) else (4,[]):=by
 unfold opK
 rw [hop]
 first|rfl|simp
theorem opK_8 {s:Sch} {q:Qu} {T:List (List Int)} (hop:q.op=8) :opK s q T=if eqb (T.getD 0 []) (T.getD 1 []) =true then (0,T.getD 0 []) else (4,[]):=by
 unfold opK
 rw [hop]
 first|rfl|simp
theorem opK_9 {s:Sch} {q:Qu} {T:List (List Int)} (hop:q.op=9) :opK s q T= (0,T.getD 0 []):=by
 unfold opK
 rw [hop]
 first|rfl|simp
theorem opK_10 {s:Sch} {q:Qu} {T:List (List Int)} (hop:q.op=10) :opK s q T=groupTy (T.getD 0 []) q:=by
 unfold opK
 rw [hop]
 first|rfl|simp
theorem valsAt (q:Qu) (hop:q.op=2) (w:World) (hin:q.flat w) :
  Calls Tryd.prog 62 #[.agg #[.int .i64 2,.string q.table,.int .i64 q.kind,.bool q.all,.int .i64 q.cond.op,.int .i64 q.cond.typ,.int .i64 q.cond.num,.string q.cond.text,.int .i64 q.cond.col,.slice q.cond.kh.ao q.cond.kids.length q.cond.kh.cap,.slice q.eh.ao q.exprs.length q.eh.cap,.slice q.ah.ao q.aggs.length q.ah.cap,.slice q.types.h.ao q.types.l.length q.types.h.cap,.slice q.rh.ao q.rows.length q.rh.cap,.slice q.qh.ao q.kids.length q.qh.cap]] w fun e w'=>e = .returned (.int .i64 (valsE q))∧Below w.heap.size w w':=by
 have h:=values_ok q w hin;rw [hop]at h;exact h
theorem rvalsAt (q:Qu) (hop:q.op=2) (w:World) (hin:q.flat w) :
  Calls Tryd.prog 72 #[.agg #[.int .i64 2,.string q.table,.int .i64 q.kind,.bool q.all,.int .i64 q.cond.op,.int .i64 q.cond.typ,.int .i64 q.cond.num,.string q.cond.text,.int .i64 q.cond.col,.slice q.cond.kh.ao q.cond.kids.length q.cond.kh.cap,.slice q.eh.ao q.exprs.length q.eh.cap,.slice q.ah.ao q.aggs.length q.ah.cap,.slice q.types.h.ao q.types.l.length q.types.h.cap,.slice q.rh.ao q.rows.length q.rh.cap,.slice q.qh.ao q.kids.length q.qh.cap]] w fun e w'=>((valsE q≠0∧e = .returned (.tuple #[.slice none 0 0,.int .i64 (valsE q)]))∨(valsE q=0∧e = .returned (.tuple #[.slice q.types.h.ao q.types.l.length q.types.h.cap,.int .i64 0])))∧Below w.heap.size w w':=by
 have h:=rvalues_any q w hin;rw [hop]at h;exact h
theorem cjoinAt (a b:IL) (q:Qu) (hop:q.op=5) (w:World) (ha:a.In w) (hb:b.In w) (hc:q.cond.In w) (hf:OpsAt w) (hsz:q.cond.size≤1000000) (hal:a.l.length≤1000) (hbl:b.l.length≤1000) :
  Calls Tryd.prog 66 #[.slice a.h.ao a.l.length a.h.cap,.slice b.h.ao b.l.length b.h.cap,.agg #[.int .i64 5,.string q.table,.int .i64 q.kind,.bool q.all,.int .i64 q.cond.op,.int .i64 q.cond.typ,.int .i64 q.cond.num,.string q.cond.text,.int .i64 q.cond.col,.slice q.cond.kh.ao q.cond.kids.length q.cond.kh.cap,.slice q.eh.ao q.exprs.length q.eh.cap,.slice q.ah.ao q.aggs.length q.ah.cap,.slice q.types.h.ao q.types.l.length q.types.h.cap,.slice q.rh.ao q.rows.length q.rh.cap,.slice q.qh.ao q.kids.length q.qh.cap]] w fun e w'=>TyOut (fun o=>o=a∨w.heap.size≤o.h.b) (joinTy a.l b.l q) w' e∧Below w.heap.size w w':=by
 have h:=cjoin_any a b q w ha hb hc hf hsz hal hbl;rw [hop]at h;exact h
theorem rjoinAt (a b:IL) (q:Qu) (hop:q.op=5) (w:World) (ha:a.In w) (hb:b.In w) (hc:q.cond.In w) (hsz:q.cond.size≤1000000) (hal:a.l.length≤1000) (hbl:b.l.length≤1000) :
  Calls Tryd.prog 75 #[.slice a.h.ao a.l.length a.h.cap,.slice b.h.ao b.l.length b.h.cap,.agg #[.int .i64 5,.string q.table,.int .i64 q.kind,.bool q.all,.int .i64 q.cond.op,.int .i64 q.cond.typ,.int .i64 q.cond.num,.string q.cond.text,.int .i64 q.cond.col,.slice q.cond.kh.ao q.cond.kids.length q.cond.kh.cap,.slice q.eh.ao q.exprs.length q.eh.cap,.slice q.ah.ao q.aggs.length q.ah.cap,.slice q.types.h.ao q.types.l.length q.types.h.cap,.slice q.rh.ao q.rows.length q.rh.cap,.slice q.qh.ao q.kids.length q.qh.cap]] w fun e w'=>TyOut (fun o=>o=a∨w.heap.size≤o.h.b) (joinTy a.l b.l q) w' e∧Below w.heap.size w w':=by
 have h:=rjoin_any a b q w ha hb hc hsz hal hbl;rw [hop]at h;exact h
theorem cgroupAt (q:Qu) (hop:q.op=10) (ts:IL) (w:World) (hts:ts.In w) (hin:q.flat w) (hf:OpsAt w) (hse: ∀e∈q.exprs,e.size≤1000000) (hsa: ∀a∈q.aggs,a.fn≠1→a.arg.size≤1000000) (hlen:q.exprs.length+q.aggs.length≤2000000) :
  Calls Tryd.prog 67 #[.slice ts.h.ao ts.l.length ts.h.cap,.agg #[.int .i64 10,.string q.table,.int .i64 q.kind,.bool q.all,.int .i64 q.cond.op,.int .i64 q.cond.typ,.int .i64 q.cond.num,.string q.cond.text,.int .i64 q.cond.col,.slice q.cond.kh.ao q.cond.kids.length q.cond.kh.cap,.slice q.eh.ao q.exprs.length q.eh.cap,.slice q.ah.ao q.aggs.length q.ah.cap,.slice q.types.h.ao q.types.l.length q.types.h.cap,.slice q.rh.ao q.rows.length q.rh.cap,.slice q.qh.ao q.kids.length q.qh.cap]] w fun e w'=>TyOut (fun o=>w.heap.size≤o.h.b) (groupTy ts.l q) w' e∧Below w.heap.size w w':=by
 have h:=cgroup_any q ts w hts hin hf hse hsa hlen;rw [hop]at h;exact h
theorem rgroupAt (q:Qu) (hop:q.op=10) (ts:IL) (w:World) (hts:ts.In w) (hin:q.flat w) (hse: ∀e∈q.exprs,e.size≤1000000) (hsa: ∀a∈q.aggs,a.fn≠1→a.arg.size≤1000000) (hlen:q.exprs.length+q.aggs.length≤2000000) :
  Calls Tryd.prog 76 #[.slice ts.h.ao ts.l.length ts.h.cap,.agg #[.int .i64 10,.string q.table,.int .i64 q.kind,.bool q.all,.int .i64 q.cond.op,.int .i64 q.cond.typ,.int .i64 q.cond.num,.string q.cond.text,.int .i64 q.cond.col,.slice q.cond.kh.ao q.cond.kids.length q.cond.kh.cap,.slice q.eh.ao q.exprs.length q.eh.cap,.slice q.ah.ao q.aggs.length q.ah.cap,.slice q.types.h.ao q.types.l.length q.types.h.cap,.slice q.rh.ao q.rows.length q.rh.cap,.slice q.qh.ao q.kids.length q.qh.cap]] w fun e w'=>TyOut (fun o=>w.heap.size≤o.h.b) (groupTy ts.l q) w' e∧Below w.heap.size w w':=by
 have h:=rgroup_any q ts w hts hin hse hsa hlen;rw [hop]at h;exact h
theorem wt_len (q:Qu) (h:q.wt≤1048576) :q.exprs.length+q.aggs.length≤2000000:=by
 have:=Qu.wt_eq q;omega
mutual
theorem tq_len {s:Sch} (hs:SchS s) : ∀q:Qu,(q.tq s).2.length≤100
 | ⟨op,table,kind,all,cond,eh,exprs,ah,aggs,types,rh,rows,qh,kids⟩=>by
  have hk: ∀(n:Nat),(((kids.map fun x=>x.tq s).map Prod.snd).getD n []).length≤100:=fun n=>by
   rw [List.getD_eq_getElem?_getD];by_cases h:n< ((kids.map fun x=>x.tq s).map Prod.snd).length
   ·rw [List.getElem?_eq_getElem h]
    simp only [List.getElem_map,Option.getD_some];exact tqs_len hs kids _ (List.getElem_mem _)
   ·rw [List.getElem?_eq_none (by omega)]
    exact Nat.zero_le _
  rw [Qu.tq_eq]
  unfold topQ
  split
  ·exact Nat.zero_le _
  split
  ·exact Nat.zero_le _
  split
  ·exact Nat.zero_le _
  unfold opK
  split
  ·split
   ·dsimp only
    rw [List.getD_eq_getElem?_getD];generalize (fi _ s.tabs).toNat=n;by_cases h:n< (s.tabs.map fun t=>t.cols.map Col.typ).length
    ·rw [List.getElem?_eq_getElem h]
     simp only [List.getElem_map,Option.getD_some,List.length_map];exact hs _ (List.getElem_mem _)
    ·rw [List.getElem?_eq_none (by omega)]
     exact Nat.zero_le _
   ·exact Nat.zero_le _
  split
  ·dsimp only
   split
   ·rename_i h
    by_cases h24:types.l.length=0∨24<types.l.length
    ·rw [valsE_len h24]at h
     exact absurd h (by decide)
    ·omega
   ·exact Nat.zero_le _
  split
  ·dsimp only
   split
   ·exact hk 0
   ·exact Nat.zero_le _
  split
  ·split
   ·exact Nat.zero_le _
   split
   ·exact Nat.zero_le _
   ·rename_i h _
    have h': ¬(exprs.length=0∨24<exprs.length):=h
    show(colsT _ exprs).length≤100
    simp only [colsT,List.length_map];omega
  split
  ·unfold joinTy
   split
   ·exact Nat.zero_le _
   split
   ·exact Nat.zero_le _
   split
   ·exact Nat.zero_le _
   split
   ·exact hk 0
   ·rename_i _ h _ _
    simp only [List.length_append];have h1:=Nat.le_of_not_lt h;exact Nat.le_trans h1 (by decide)
  split
  ·unfold groupTy
   split
   ·exact Nat.zero_le _
   split
   ·exact Nat.zero_le _
   split
   ·exact Nat.zero_le _
   ·rename_i h _ _
    have h': ¬(exprs.length+aggs.length<1∨24<exprs.length+aggs.length):=h
    show(colsT _ exprs ++ aggsT _ aggs).length≤100
    simp only [colsT,aggsT,List.length_append,List.length_map];omega
  split
  ·exact hk 0
  split
  ·exact hk 0
  ·exact Nat.zero_le _
theorem tqs_len {s:Sch} (hs:SchS s) : ∀l:List Qu,∀x∈l,(x.tq s).2.length≤100
 | []=>fun x hx=>by cases hx
 | a :: l=>fun x hx=>by
  rcases List.mem_cons.1 hx with h|hx
  ·rw [h];exact tq_len hs a
  ·exact tqs_len hs l x hx
end
theorem KT.small {s:Sch} {q:Qu} {k:Nat} {ks:List IL} (h:KT s q k ks) (hs:SchS s) : ∀x∈ks,x.l.length≤1000:=fun x hx=>by
 have h1:x.l∈ks.map IL.l:=List.mem_map_of_mem hx;rw [h.ty]at h1;obtain⟨y,_,hy⟩:=List.mem_map.1 h1;have:=tq_len hs y;rw [hy]at this;omega
end Go.Proofs.YtogalchclmmfgaaDoor
namespace Go.Proofs.YtogalchclmmfgaaDoor
open Go.RowKit
theorem plainB_else {q:Qu} (h:q.op<1∨10<q.op) :plainB q=false:=by
 unfold plainB
 rw [if_neg (by omega),if_neg (by omega),if_neg (by omega),if_neg (by omega),if_neg (by omega),if_neg (by omega),if_neg (by omega),if_neg (by omega)]
theorem formAt_else (k:Int) (h:k<1∨10<k) (w:World) (hf:FormsAt w) :
  Calls Tryd.prog 60 #[.int .i64 k] w fun e w'=>e = .returned (.tuple #[.agg #[.string ⟨#[]⟩,.int .i64 0,.string ⟨#[]⟩],.bool false])∧Below w.heap.size w w':=by
 by_cases h0:k<0
 ·clear h
  go_enter Tryd.func60,Tryd.ntmps60;go_wp2;exact bodyPost_ret (v:=.tuple #[.agg #[.string ⟨#[]⟩,.int .i64 0,.string ⟨#[]⟩],.bool false]) (by simp [results,Tryd.results60,go_sem]) rfl ⟨rfl,belA _⟩
 ·by_cases h10:11≤k
  ·clear h
   go_enter Tryd.func60,Tryd.ntmps60;go_wp2;exact bodyPost_ret (v:=.tuple #[.agg #[.string ⟨#[]⟩,.int .i64 0,.string ⟨#[]⟩],.bool false]) (by simp [results,Tryd.results60,go_sem]) rfl ⟨rfl,belA _⟩
  ·have hk:k=0:=by omega
   subst hk;have hlt:=hf.lt;have c0:w.cell? ⟨0,0,none⟩ =some (.string ⟨#[]⟩):=(hf 0 (by decide)).1
   clear h h0 h10 hf
   go_enter Tryd.func60,Tryd.ntmps60;go_wp2;exact bodyPost_ret (v:=.tuple #[.agg #[.string ⟨#[]⟩,.int .i64 0,.string ⟨#[]⟩],.bool false]) (by simp [results,Tryd.results60,go_sem]) rfl ⟨rfl,belA _⟩
theorem plainAt_else (q:Qu) (h:q.op<1∨10<q.op) (w:World) (_hin:q.cond.In w) :
  Calls Tryd.prog 70 #[.agg #[.int .i64 q.op,.string q.table,.int .i64 q.kind,.bool q.all,.int .i64 q.cond.op,.int .i64 q.cond.typ,.int .i64 q.cond.num,.string q.cond.text,.int .i64 q.cond.col,.slice q.cond.kh.ao q.cond.kids.length q.cond.kh.cap,.slice q.eh.ao q.exprs.length q.eh.cap,.slice q.ah.ao q.aggs.length q.ah.cap,.slice q.types.h.ao q.types.l.length q.types.h.cap,.slice q.rh.ao q.rows.length q.rh.cap,.slice q.qh.ao q.kids.length q.qh.cap]] w fun e w'=>e = .returned (.bool false)∧Below w.heap.size w w':=by
 by_cases h1:q.op<1
 ·clear h
  go_enter Tryd.func70,Tryd.ntmps70;go_wp2;go_ret
  exact⟨rfl,belA _⟩
 ·have h2:10<q.op:=by omega
  clear h
  go_enter Tryd.func70,Tryd.ntmps70;go_wp2;go_ret
  exact⟨rfl,belA _⟩
end Go.Proofs.YtogalchclmmfgaaDoor

/- A part of the proof of AlgebraMade. -/
import Derived.Test.YtogalchclmmfgaaDoorP20
import Derived.Test.YtogalchclmmfgaaDoorP21
import Derived.Test.YtogalchclmmfgaaDoorP03
set_option maxRecDepth 100000
set_option maxHeartbeats 16000000
namespace Go.Proofs.YtogalchclmmfgaaDoor
open Go.RowKit
theorem rzero_any (e:Ex) (w:World) (hin:e.In w) :
  Calls Tryd.prog 96 #[.agg #[.int .i64 e.op,.int .i64 e.typ,.int .i64 e.num,.string e.text,.int .i64 e.col,.slice e.kh.ao e.kids.length e.kh.cap]] w fun r w'=>r = .returned (.bool (eqb e.er noEx.er))∧Below w.heap.size w w':=by
 have HB0:=ai (belA (w:=w) (.cells #[.int .i64 e.op,.int .i64 e.typ,.int .i64 e.num,.string e.text,.int .i64 e.col,.slice e.kh.ao e.kids.length e.kh.cap] 45))
 have HIN:=ai hin;clear hin
 go_enter Tryd.func96,Tryd.ntmps96;go_wp2_with (go_at_call 112;refine(resame_any HIN.o noEx _ (HIN.o.mono HB0.o) (noEx_in _)).mono ?_;rintro r w2 ⟨rfl,hb2⟩;have HB2:=ai (HB0.o.trans (hb2.mono HB0.o.size));clear hb2)
 go_ret
 exact⟨rfl,HB2.o⟩
theorem rkidsq_any (op:Int) (w:World) :Calls Tryd.prog 71 #[.int .i64 op] w fun r w'=>r = .returned (.int .i64 (if op=1∨op=2 then 0 else if 5≤op∧op≤8 then 2 else 1))∧Below w.heap.size w w':=by
 by_cases h1:op=1
 ·subst h1
  go_enter Tryd.func71,Tryd.ntmps71;go_wp2;go_ret
  exact⟨rfl,Below.refl _ _⟩
 have b1: (op == 1) =false:=beq_eq_false_iff_ne.2 h1;by_cases h2:op=2
 ·subst h2
  go_enter Tryd.func71,Tryd.ntmps71;go_wp2;go_ret
  exact⟨rfl,Below.refl _ _⟩
 have b2: (op == 2) =false:=beq_eq_false_iff_ne.2 h2;by_cases h5:op=5
 ·subst h5
  go_enter Tryd.func71,Tryd.ntmps71;go_wp2;go_ret
  exact⟨rfl,Below.refl _ _⟩
 have b5: (op == 5) =false:=beq_eq_false_iff_ne.2 h5;by_cases h6:op=6
 ·subst h6
  go_enter Tryd.func71,Tryd.ntmps71;go_wp2;go_ret
  exact⟨rfl,Below.refl _ _⟩
 have b6: (op == 6) =false:=beq_eq_false_iff_ne.2 h6;by_cases h7:op=7
 ·subst h7
  go_enter Tryd.func71,Tryd.ntmps71;go_wp2;go_ret
  exact⟨rfl,Below.refl _ _⟩
 have b7: (op == 7) =false:=beq_eq_false_iff_ne.2 h7;by_cases h8:op=8
 ·subst h8
  go_enter Tryd.func71,Tryd.ntmps71;go_wp2;go_ret
  exact⟨rfl,Below.refl _ _⟩
 have b8: (op == 8) =false:=beq_eq_false_iff_ne.2 h8
 go_enter Tryd.func71,Tryd.ntmps71;go_wp2;go_ret
 exact⟨rfl,Below.refl _ _⟩
theorem qplain_1 (q:Qu) (w:World) (hin:q.cond.In w) :
  Calls Tryd.prog 70 #[.agg #[.int .i64 1,.string q.table,.int .i64 q.kind,.bool q.all,.int .i64 q.cond.op,.int .i64 q.cond.typ,.int .i64 q.cond.num,.string q.cond.text,.int .i64 q.cond.col,.slice q.cond.kh.ao q.cond.kids.length q.cond.kh.cap,.slice q.eh.ao q.exprs.length q.eh.cap,.slice q.ah.ao q.aggs.length q.ah.cap,.slice q.types.h.ao q.types.l.length q.types.h.cap,.slice q.rh.ao q.rows.length q.rh.cap,.slice q.qh.ao q.kids.length q.qh.cap]] w fun e w'=>e = .returned (.bool ((q.kind == 0) && (!q.all) && (eqb q.cond.er noEx.er) && decide (q.exprs.length=0) && decide (q.aggs.length=0) && decide (q.types.l.length=0) && decide (q.rows.length=0)))∧Below w.heap.size w w':=by
 have HIN:=ai (show∀o,q.cond.In (w.alloc o)from fun o=>hin.mono (belA o))
 obtain⟨z,hz⟩ : ∃z,eqb q.cond.er noEx.er=z:=⟨_,rfl⟩;have HZ:=ai hz;rw [hz];clear hin hz;generalize q.exprs.length=n1;generalize q.aggs.length=n2;generalize q.types.l.length=n3;generalize q.rows.length=n4
 cases z
 ·skip
  go_enter Tryd.func70,Tryd.ntmps70;go_wp2_with (go_at_call 96;refine(rzero_any q.cond _ (HIN.o _)).mono ?_;rintro e w1 ⟨rfl,hb⟩;rw [HZ.o];have HB:=ai hb;clear hb;have hx5:=(box_cell HB.o (j:=5) rfl);have hx0:=box_cell HB.o (j:=0) rfl;have hx10:=box_cell HB.o (j:=10) rfl;have hx11:=box_cell HB.o (j:=11) rfl;have hx12:=box_cell HB.o (j:=12) rfl;have hx13:=box_cell HB.o (j:=13) rfl)
  all_goals go_ret
  all_goals first
   | (exfalso;clear HZ HIN;simp_all;done)
   | exact⟨retb (by simp [*];try omega),belA _⟩
   | exact⟨retb (by simp [*];try omega),bel1 HB.o⟩
   | trace_state
 ·skip
  go_enter Tryd.func70,Tryd.ntmps70;go_wp2_with (go_at_call 96;refine(rzero_any q.cond _ (HIN.o _)).mono ?_;rintro e w1 ⟨rfl,hb⟩;rw [HZ.o];have HB:=ai hb;clear hb;have hx5:=(box_cell HB.o (j:=5) rfl);have hx0:=box_cell HB.o (j:=0) rfl;have hx10:=box_cell HB.o (j:=10) rfl;have hx11:=box_cell HB.o (j:=11) rfl;have hx12:=box_cell HB.o (j:=12) rfl;have hx13:=box_cell HB.o (j:=13) rfl)
  all_goals go_ret
  all_goals first
   | (exfalso;clear HZ HIN;simp_all;done)
   | exact⟨retb (by simp [*];try omega),belA _⟩
   | exact⟨retb (by simp [*];try omega),bel1 HB.o⟩
   | trace_state
theorem qplain_2 (q:Qu) (w:World) (hin:q.cond.In w) :
  Calls Tryd.prog 70 #[.agg #[.int .i64 2,.string q.table,.int .i64 q.kind,.bool q.all,.int .i64 q.cond.op,.int .i64 q.cond.typ,.int .i64 q.cond.num,.string q.cond.text,.int .i64 q.cond.col,.slice q.cond.kh.ao q.cond.kids.length q.cond.kh.cap,.slice q.eh.ao q.exprs.length q.eh.cap,.slice q.ah.ao q.aggs.length q.ah.cap,.slice q.types.h.ao q.types.l.length q.types.h.cap,.slice q.rh.ao q.rows.length q.rh.cap,.slice q.qh.ao q.kids.length q.qh.cap]] w fun e w'=>e = .returned (.bool ((q.table.toList == []) && (q.kind == 0) && (!q.all) && (eqb q.cond.er noEx.er) && decide (q.exprs.length=0) && decide (q.aggs.length=0)))∧Below w.heap.size w w':=by
 have HIN:=ai (show∀o,q.cond.In (w.alloc o)from fun o=>hin.mono (belA o))
 obtain⟨z,hz⟩ : ∃z,eqb q.cond.er noEx.er=z:=⟨_,rfl⟩;have HZ:=ai hz;rw [hz];clear hin hz;generalize q.exprs.length=n1;generalize q.aggs.length=n2;generalize q.types.l.length=n3;generalize q.rows.length=n4
 cases z
 ·skip
  go_enter Tryd.func70,Tryd.ntmps70;go_wp2_with (go_at_call 96;refine(rzero_any q.cond _ (HIN.o _)).mono ?_;rintro e w1 ⟨rfl,hb⟩;rw [HZ.o];have HB:=ai hb;clear hb;have hx5:=(box_cell HB.o (j:=5) rfl);have hx0:=box_cell HB.o (j:=0) rfl;have hx10:=box_cell HB.o (j:=10) rfl;have hx11:=box_cell HB.o (j:=11) rfl;have hx12:=box_cell HB.o (j:=12) rfl;have hx13:=box_cell HB.o (j:=13) rfl)
  all_goals go_ret
  all_goals first
   | (exfalso;clear HZ HIN;simp_all;done)
   | exact⟨retb (by simp [*];try omega),belA _⟩
   | exact⟨retb (by simp [*];try omega),bel1 HB.o⟩
   | trace_state
 ·skip
  go_enter Tryd.func70,Tryd.ntmps70;go_wp2_with (go_at_call 96;refine(rzero_any q.cond _ (HIN.o _)).mono ?_;rintro e w1 ⟨rfl,hb⟩;rw [HZ.o];have HB:=ai hb;clear hb;have hx5:=(box_cell HB.o (j:=5) rfl);have hx0:=box_cell HB.o (j:=0) rfl;have hx10:=box_cell HB.o (j:=10) rfl;have hx11:=box_cell HB.o (j:=11) rfl;have hx12:=box_cell HB.o (j:=12) rfl;have hx13:=box_cell HB.o (j:=13) rfl)
  all_goals go_ret
  all_goals first
   | (exfalso;clear HZ HIN;simp_all;done)
   | exact⟨retb (by simp [*];try omega),belA _⟩
   | exact⟨retb (by simp [*];try omega),bel1 HB.o⟩
   | trace_state
theorem qplain_3 (q:Qu) (w:World) (hin:q.cond.In w) :
  Calls Tryd.prog 70 #[.agg #[.int .i64 3,.string q.table,.int .i64 q.kind,.bool q.all,.int .i64 q.cond.op,.int .i64 q.cond.typ,.int .i64 q.cond.num,.string q.cond.text,.int .i64 q.cond.col,.slice q.cond.kh.ao q.cond.kids.length q.cond.kh.cap,.slice q.eh.ao q.exprs.length q.eh.cap,.slice q.ah.ao q.aggs.length q.ah.cap,.slice q.types.h.ao q.types.l.length q.types.h.cap,.slice q.rh.ao q.rows.length q.rh.cap,.slice q.qh.ao q.kids.length q.qh.cap]] w fun e w'=>e = .returned (.bool ((q.table.toList == []) && (q.kind == 0) && (!q.all) && decide (q.exprs.length=0) && decide (q.aggs.length=0) && decide (q.types.l.length=0) && decide (q.rows.length=0)))∧Below w.heap.size w w':=by
 have HIN:=ai (show∀o,q.cond.In (w.alloc o)from fun o=>hin.mono (belA o))
 obtain⟨z,hz⟩ : ∃z,eqb q.cond.er noEx.er=z:=⟨_,rfl⟩;have HZ:=ai hz
 skip
 clear hin hz;generalize q.exprs.length=n1;generalize q.aggs.length=n2;generalize q.types.l.length=n3;generalize q.rows.length=n4
 cases z
 ·skip
  go_enter Tryd.func70,Tryd.ntmps70;go_wp2_with (go_at_call 96;refine(rzero_any q.cond _ (HIN.o _)).mono ?_;rintro e w1 ⟨rfl,hb⟩;rw [HZ.o];have HB:=ai hb;clear hb;have hx5:=(box_cell HB.o (j:=5) rfl);have hx0:=box_cell HB.o (j:=0) rfl;have hx10:=box_cell HB.o (j:=10) rfl;have hx11:=box_cell HB.o (j:=11) rfl;have hx12:=box_cell HB.o (j:=12) rfl;have hx13:=box_cell HB.o (j:=13) rfl)
  all_goals go_ret
  all_goals first
   | (exfalso;clear HZ HIN;simp_all;done)
   | exact⟨retb (by simp [*];try omega),belA _⟩
   | exact⟨retb (by simp [*];try omega),bel1 HB.o⟩
   | trace_state
 ·skip
  go_enter Tryd.func70,Tryd.ntmps70;go_wp2_with (go_at_call 96;refine(rzero_any q.cond _ (HIN.o _)).mono ?_;rintro e w1 ⟨rfl,hb⟩;rw [HZ.o];have HB:=ai hb;clear hb;have hx5:=(box_cell HB.o (j:=5) rfl);have hx0:=box_cell HB.o (j:=0) rfl;have hx10:=box_cell HB.o (j:=10) rfl;have hx11:=box_cell HB.o (j:=11) rfl;have hx12:=box_cell HB.o (j:=12) rfl;have hx13:=box_cell HB.o (j:=13) rfl)
  all_goals go_ret
  all_goals first
   | (exfalso;clear HZ HIN;simp_all;done)
   | exact⟨retb (by simp [*];try omega),belA _⟩
   | exact⟨retb (by simp [*];try omega),bel1 HB.o⟩
   | trace_state
theorem qplain_4 (q:Qu) (w:World) (hin:q.cond.In w) :
  Calls Tryd.prog 70 #[.agg #[.int .i64 4,.string q.table,.int .i64 q.kind,.bool q.all,.int .i64 q.cond.op,.int .i64 q.cond.typ,.int .i64 q.cond.num,.string q.cond.text,.int .i64 q.cond.col,.slice q.cond.kh.ao q.cond.kids.length q.cond.kh.cap,.slice q.eh.ao q.exprs.length q.eh.cap,.slice q.ah.ao q.aggs.length q.ah.cap,.slice q.types.h.ao q.types.l.length q.types.h.cap,.slice q.rh.ao q.rows.length q.rh.cap,.slice q.qh.ao q.kids.length q.qh.cap]] w fun e w'=>e = .returned (.bool ((q.table.toList == []) && (q.kind == 0) && (!q.all) && (eqb q.cond.er noEx.er) && decide (q.aggs.length=0) && decide (q.types.l.length=0) && decide (q.rows.length=0)))∧Below w.heap.size w w':=by
 have HIN:=ai (show∀o,q.cond.In (w.alloc o)from fun o=>hin.mono (belA o))
 obtain⟨z,hz⟩ : ∃z,eqb q.cond.er noEx.er=z:=⟨_,rfl⟩;have HZ:=ai hz;rw [hz];clear hin hz;generalize q.exprs.length=n1;generalize q.aggs.length=n2;generalize q.types.l.length=n3;generalize q.rows.length=n4
 cases z
 ·skip
  go_enter Tryd.func70,Tryd.ntmps70;go_wp2_with (go_at_call 96;refine(rzero_any q.cond _ (HIN.o _)).mono ?_;rintro e w1 ⟨rfl,hb⟩;rw [HZ.o];have HB:=ai hb;clear hb;have hx5:=(box_cell HB.o (j:=5) rfl);have hx0:=box_cell HB.o (j:=0) rfl;have hx10:=box_cell HB.o (j:=10) rfl;have hx11:=box_cell HB.o (j:=11) rfl;have hx12:=box_cell HB.o (j:=12) rfl;have hx13:=box_cell HB.o (j:=13) rfl)
  all_goals go_ret
  all_goals first
   | (exfalso;clear HZ HIN;simp_all;done)
   | exact⟨retb (by simp [*];try omega),belA _⟩
   | exact⟨retb (by simp [*];try omega),bel1 HB.o⟩
   | trace_state
 ·skip
  go_enter Tryd.func70,Tryd.ntmps70;go_wp2_with (go_at_call 96;refine(rzero_any q.cond _ (HIN.o _)).mono ?_;rintro e w1 ⟨rfl,hb⟩;rw [HZ.o];have HB:=ai hb;clear hb;have hx5:=(box_cell HB.o (j:=5) rfl);have hx0:=box_cell HB.o (j:=0) rfl;have hx10:=box_cell HB.o (j:=10) rfl;have hx11:=box_cell HB.o (j:=11) rfl;have hx12:=box_cell HB.o (j:=12) rfl;have hx13:=box_cell HB.o (j:=13) rfl)
  all_goals go_ret
  all_goals first
   | (exfalso;clear HZ HIN;simp_all;done)
   | exact⟨retb (by simp [*];try omega),belA _⟩
   | exact⟨retb (by simp [*];try omega),bel1 HB.o⟩
   | trace_state
theorem qplain_5 (q:Qu) (w:World) (hin:q.cond.In w) :
  Calls Tryd.prog 70 #[.agg #[.int .i64 5,.string q.table,.int .i64 q.kind,.bool q.all,.int .i64 q.cond.op,.int .i64 q.cond.typ,.int .i64 q.cond.num,.string q.cond.text,.int .i64 q.cond.col,.slice q.cond.kh.ao q.cond.kids.length q.cond.kh.cap,.slice q.eh.ao q.exprs.length q.eh.cap,.slice q.ah.ao q.aggs.length q.ah.cap,.slice q.types.h.ao q.types.l.length q.types.h.cap,.slice q.rh.ao q.rows.length q.rh.cap,.slice q.qh.ao q.kids.length q.qh.cap]] w fun e w'=>e = .returned (.bool ((q.table.toList == []) && (!q.all) && decide (q.exprs.length=0) && decide (q.aggs.length=0) && decide (q.types.l.length=0) && decide (q.rows.length=0)))∧Below w.heap.size w w':=by
 have HIN:=ai (show∀o,q.cond.In (w.alloc o)from fun o=>hin.mono (belA o))
 obtain⟨z,hz⟩ : ∃z,eqb q.cond.er noEx.er=z:=⟨_,rfl⟩;have HZ:=ai hz
 skip
 clear hin hz;generalize q.exprs.length=n1;generalize q.aggs.length=n2;generalize q.types.l.length=n3;generalize q.rows.length=n4
 cases z
 ·skip
  go_enter Tryd.func70,Tryd.ntmps70;go_wp2_with (go_at_call 96;refine(rzero_any q.cond _ (HIN.o _)).mono ?_;rintro e w1 ⟨rfl,hb⟩;rw [HZ.o];have HB:=ai hb;clear hb;have hx5:=(box_cell HB.o (j:=5) rfl);have hx0:=box_cell HB.o (j:=0) rfl;have hx10:=box_cell HB.o (j:=10) rfl;have hx11:=box_cell HB.o (j:=11) rfl;have hx12:=box_cell HB.o (j:=12) rfl;have hx13:=box_cell HB.o (j:=13) rfl)
  all_goals go_ret
  all_goals first
   | (exfalso;clear HZ HIN;simp_all;done)
   | exact⟨retb (by simp [*];try omega),belA _⟩
   | exact⟨retb (by simp [*];try omega),bel1 HB.o⟩
   | trace_state
 ·skip
  go_enter Tryd.func70,Tryd.ntmps70;go_wp2_with (go_at_call 96;refine(rzero_any q.cond _ (HIN.o _)).mono ?_;rintro e w1 ⟨rfl,hb⟩;rw [HZ.o];have HB:=ai hb;clear hb;have hx5:=(box_cell HB.o (j:=5) rfl);have hx0:=box_cell HB.o (j:=0) rfl;have hx10:=box_cell HB.o (j:=10) rfl;have hx11:=box_cell HB.o (j:=11) rfl;have hx12:=box_cell HB.o (j:=12) rfl;have hx13:=box_cell HB.o (j:=13) rfl)
  all_goals go_ret
  all_goals first
   | (exfalso;clear HZ HIN;simp_all;done)
   | exact⟨retb (by simp [*];try omega),belA _⟩
   | exact⟨retb (by simp [*];try omega),bel1 HB.o⟩
   | trace_state
theorem qplain_6 (q:Qu) (w:World) (hin:q.cond.In w) :
  Calls Tryd.prog 70 #[.agg #[.int .i64 6,.string q.table,.int .i64 q.kind,.bool q.all,.int .i64 q.cond.op,.int .i64 q.cond.typ,.int .i64 q.cond.num,.string q.cond.text,.int .i64 q.cond.col,.slice q.cond.kh.ao q.cond.kids.length q.cond.kh.cap,.slice q.eh.ao q.exprs.length q.eh.cap,.slice q.ah.ao q.aggs.length q.ah.cap,.slice q.types.h.ao q.types.l.length q.types.h.cap,.slice q.rh.ao q.rows.length q.rh.cap,.slice q.qh.ao q.kids.length q.qh.cap]] w fun e w'=>e = .returned (.bool ((q.table.toList == []) && (q.kind == 0) && (eqb q.cond.er noEx.er) && decide (q.exprs.length=0) && decide (q.aggs.length=0) && decide (q.types.l.length=0) && decide (q.rows.length=0)))∧Below w.heap.size w w':=by
 have HIN:=ai (show∀o,q.cond.In (w.alloc o)from fun o=>hin.mono (belA o))
 obtain⟨z,hz⟩ : ∃z,eqb q.cond.er noEx.er=z:=⟨_,rfl⟩;have HZ:=ai hz;rw [hz];clear hin hz;generalize q.exprs.length=n1;generalize q.aggs.length=n2;generalize q.types.l.length=n3;generalize q.rows.length=n4
 cases z
 ·skip
  go_enter Tryd.func70,Tryd.ntmps70;go_wp2_with (go_at_call 96;refine(rzero_any q.cond _ (HIN.o _)).mono ?_;rintro e w1 ⟨rfl,hb⟩;rw [HZ.o];have HB:=ai hb;clear hb;have hx5:=(box_cell HB.o (j:=5) rfl);have hx0:=box_cell HB.o (j:=0) rfl;have hx10:=box_cell HB.o (j:=10) rfl;have hx11:=box_cell HB.o (j:=11) rfl;have hx12:=box_cell HB.o (j:=12) rfl;have hx13:=box_cell HB.o (j:=13) rfl)
  all_goals go_ret
  all_goals first
   | (exfalso;clear HZ HIN;simp_all;done)
   | exact⟨retb (by simp [*];try omega),belA _⟩
   | exact⟨retb (by simp [*];try omega),bel1 HB.o⟩
   | trace_state
 ·skip
  go_enter Tryd.func70,Tryd.ntmps70;go_wp2_with (go_at_call 96;refine(rzero_any q.cond _ (HIN.o _)).mono ?_;rintro e w1 ⟨rfl,hb⟩;rw [HZ.o];have HB:=ai hb;clear hb;have hx5:=(box_cell HB.o (j:=5) rfl);have hx0:=box_cell HB.o (j:=0) rfl;have hx10:=box_cell HB.o (j:=10) rfl;have hx11:=box_cell HB.o (j:=11) rfl;have hx12:=box_cell HB.o (j:=12) rfl;have hx13:=box_cell HB.o (j:=13) rfl)
  all_goals go_ret
  all_goals first
   | (exfalso;clear HZ HIN;simp_all;done)
   | exact⟨retb (by simp [*];try omega),belA _⟩
   | exact⟨retb (by simp [*];try omega),bel1 HB.o⟩
   | trace_state
theorem qplain_7 (q:Qu) (w:World) (hin:q.cond.In w) :
  Calls Tryd.prog 70 #[.agg #[.int .i64 7,.string q.table,.int .i64 q.kind,.bool q.all,.int .i64 q.cond.op,.int .i64 q.cond.typ,.int .i64 q.cond.num,.string q.cond.text,.int .i64 q.cond.col,.slice q.cond.kh.ao q.cond.kids.length q.cond.kh.cap,.slice q.eh.ao q.exprs.length q.eh.cap,.slice q.ah.ao q.aggs.length q.ah.cap,.slice q.types.h.ao q.types.l.length q.types.h.cap,.slice q.rh.ao q.rows.length q.rh.cap,.slice q.qh.ao q.kids.length q.qh.cap]] w fun e w'=>e = .returned (.bool ((q.table.toList == []) && (q.kind == 0) && (eqb q.cond.er noEx.er) && decide (q.exprs.length=0) && decide (q.aggs.length=0) && decide (q.types.l.length=0) && decide (q.rows.length=0)))∧Below w.heap.size w w':=by
 have HIN:=ai (show∀o,q.cond.In (w.alloc o)from fun o=>hin.mono (belA o))
 obtain⟨z,hz⟩ : ∃z,eqb q.cond.er noEx.er=z:=⟨_,rfl⟩;have HZ:=ai hz;rw [hz];clear hin hz;generalize q.exprs.length=n1;generalize q.aggs.length=n2;generalize q.types.l.length=n3;generalize q.rows.length=n4
 cases z
 ·skip
  go_enter Tryd.func70,Tryd.ntmps70;go_wp2_with (go_at_call 96;refine(rzero_any q.cond _ (HIN.o _)).mono ?_;rintro e w1 ⟨rfl,hb⟩;rw [HZ.o];have HB:=ai hb;clear hb;have hx5:=(box_cell HB.o (j:=5) rfl);have hx0:=box_cell HB.o (j:=0) rfl;have hx10:=box_cell HB.o (j:=10) rfl;have hx11:=box_cell HB.o (j:=11) rfl;have hx12:=box_cell HB.o (j:=12) rfl;have hx13:=box_cell HB.o (j:=13) rfl)
  all_goals go_ret
  all_goals first
   | (exfalso;clear HZ HIN;simp_all;done)
   | exact⟨retb (by simp [*];try omega),belA _⟩
   | exact⟨retb (by simp [*];try omega),bel1 HB.o⟩
   | trace_state
 ·skip
  go_enter Tryd.func70,Tryd.ntmps70;go_wp2_with (go_at_call 96;refine(rzero_any q.cond _ (HIN.o _)).mono ?_;rintro e w1 ⟨rfl,hb⟩;rw [HZ.o];have HB:=ai hb;clear hb;have hx5:=(box_cell HB.o (j:=5) rfl);have hx0:=box_cell HB.o (j:=0) rfl;have hx10:=box_cell HB.o (j:=10) rfl;have hx11:=box_cell HB.o (j:=11) rfl;have hx12:=box_cell HB.o (j:=12) rfl;have hx13:=box_cell HB.o (j:=13) rfl)
  all_goals go_ret
  all_goals first
   | (exfalso;clear HZ HIN;simp_all;done)
   | exact⟨retb (by simp [*];try omega),belA _⟩
   | exact⟨retb (by simp [*];try omega),bel1 HB.o⟩
   | trace_state
theorem qplain_8 (q:Qu) (w:World) (hin:q.cond.In w) :
  Calls Tryd.prog 70 #[.agg #[.int .i64 8,.string q.table,.int .i64 q.kind,.bool q.all,.int .i64 q.cond.op,.int .i64 q.cond.typ,.int .i64 q.cond.num,.string q.cond.text,.int .i64 q.cond.col,.slice q.cond.kh.ao q.cond.kids.length q.cond.kh.cap,.slice q.eh.ao q.exprs.length q.eh.cap,.slice q.ah.ao q.aggs.length q.ah.cap,.slice q.types.h.ao q.types.l.length q.types.h.cap,.slice q.rh.ao q.rows.length q.rh.cap,.slice q.qh.ao q.kids.length q.qh.cap]] w fun e w'=>e = .returned (.bool ((q.table.toList == []) && (q.kind == 0) && (eqb q.cond.er noEx.er) && decide (q.exprs.length=0) && decide (q.aggs.length=0) && decide (q.types.l.length=0) && decide (q.rows.length=0)))∧Below w.heap.size w w':=by
 have HIN:=ai (show∀o,q.cond.In (w.alloc o)from fun o=>hin.mono (belA o))
 obtain⟨z,hz⟩ : ∃z,eqb q.cond.er noEx.er=z:=⟨_,rfl⟩;have HZ:=ai hz;rw [hz];clear hin hz;generalize q.exprs.length=n1;generalize q.aggs.length=n2;generalize q.types.l.length=n3;generalize q.rows.length=n4
 cases z
 ·skip
  go_enter Tryd.func70,Tryd.ntmps70;go_wp2_with (go_at_call 96;refine(rzero_any q.cond _ (HIN.o _)).mono ?_;rintro e w1 ⟨rfl,hb⟩;rw [HZ.o];have HB:=ai hb;clear hb;have hx5:=(box_cell HB.o (j:=5) rfl);have hx0:=box_cell HB.o (j:=0) rfl;have hx10:=box_cell HB.o (j:=10) rfl;have hx11:=box_cell HB.o (j:=11) rfl;have hx12:=box_cell HB.o (j:=12) rfl;have hx13:=box_cell HB.o (j:=13) rfl)
  all_goals go_ret
  all_goals first
   | (exfalso;clear HZ HIN;simp_all;done)
   | exact⟨retb (by simp [*];try omega),belA _⟩
   | exact⟨retb (by simp [*];try omega),bel1 HB.o⟩
   | trace_state
 ·skip
  go_enter Tryd.func70,Tryd.ntmps70;go_wp2_with (go_at_call 96;refine(rzero_any q.cond _ (HIN.o _)).mono ?_;rintro e w1 ⟨rfl,hb⟩;rw [HZ.o];have HB:=ai hb;clear hb;have hx5:=(box_cell HB.o (j:=5) rfl);have hx0:=box_cell HB.o (j:=0) rfl;have hx10:=box_cell HB.o (j:=10) rfl;have hx11:=box_cell HB.o (j:=11) rfl;have hx12:=box_cell HB.o (j:=12) rfl;have hx13:=box_cell HB.o (j:=13) rfl)
  all_goals go_ret
  all_goals first
   | (exfalso;clear HZ HIN;simp_all;done)
   | exact⟨retb (by simp [*];try omega),belA _⟩
   | exact⟨retb (by simp [*];try omega),bel1 HB.o⟩
   | trace_state
theorem qplain_9 (q:Qu) (w:World) (hin:q.cond.In w) :
  Calls Tryd.prog 70 #[.agg #[.int .i64 9,.string q.table,.int .i64 q.kind,.bool q.all,.int .i64 q.cond.op,.int .i64 q.cond.typ,.int .i64 q.cond.num,.string q.cond.text,.int .i64 q.cond.col,.slice q.cond.kh.ao q.cond.kids.length q.cond.kh.cap,.slice q.eh.ao q.exprs.length q.eh.cap,.slice q.ah.ao q.aggs.length q.ah.cap,.slice q.types.h.ao q.types.l.length q.types.h.cap,.slice q.rh.ao q.rows.length q.rh.cap,.slice q.qh.ao q.kids.length q.qh.cap]] w fun e w'=>e = .returned (.bool ((q.table.toList == []) && (q.kind == 0) && (!q.all) && (eqb q.cond.er noEx.er) && decide (q.exprs.length=0) && decide (q.aggs.length=0) && decide (q.types.l.length=0) && decide (q.rows.length=0)))∧Below w.heap.size w w':=by
 have HIN:=ai (show∀o,q.cond.In (w.alloc o)from fun o=>hin.mono (belA o))
 obtain⟨z,hz⟩ : ∃z,eqb q.cond.er noEx.er=z:=⟨_,rfl⟩;have HZ:=ai hz;rw [hz];clear hin hz;generalize q.exprs.length=n1;generalize q.aggs.length=n2;generalize q.types.l.length=n3;generalize q.rows.length=n4
 cases z
 ·skip
  go_enter Tryd.func70,Tryd.ntmps70;go_wp2_with (go_at_call 96;refine(rzero_any q.cond _ (HIN.o _)).mono ?_;rintro e w1 ⟨rfl,hb⟩;rw [HZ.o];have HB:=ai hb;clear hb;have hx5:=(box_cell HB.o (j:=5) rfl);have hx0:=box_cell HB.o (j:=0) rfl;have hx10:=box_cell HB.o (j:=10) rfl;have hx11:=box_cell HB.o (j:=11) rfl;have hx12:=box_cell HB.o (j:=12) rfl;have hx13:=box_cell HB.o (j:=13) rfl)
  all_goals go_ret
  all_goals first
   | (exfalso;clear HZ HIN;simp_all;done)
   | exact⟨retb (by simp [*];try omega),belA _⟩
   | exact⟨retb (by simp [*];try omega),bel1 HB.o⟩
   | trace_state
 ·skip
  go_enter Tryd.func70,Tryd.ntmps70;go_wp2_with (go_at_call 96;refine(rzero_any q.cond _ (HIN.o _)).mono ?_;rintro e w1 ⟨rfl,hb⟩;rw [HZ.o];have HB:=ai hb;clear hb;have hx5:=(box_cell HB.o (j:=5) rfl);have hx0:=box_cell HB.o (j:=0) rfl;have hx10:=box_cell HB.o (j:=10) rfl;have hx11:=box_cell HB.o (j:=11) rfl;have hx12:=box_cell HB.o (j:=12) rfl;have hx13:=box_cell HB.o (j:=13) rfl)
  all_goals go_ret
  all_goals first
   | (exfalso;clear HZ HIN;simp_all;done)
   | exact⟨retb (by simp [*];try omega),belA _⟩
   | exact⟨retb (by simp [*];try omega),bel1 HB.o⟩
   | trace_state
theorem qplain_10 (q:Qu) (w:World) (hin:q.cond.In w) :
  Calls Tryd.prog 70 #[.agg #[.int .i64 10,.string q.table,.int .i64 q.kind,.bool q.all,.int .i64 q.cond.op,.int .i64 q.cond.typ,.int .i64 q.cond.num,.string q.cond.text,.int .i64 q.cond.col,.slice q.cond.kh.ao q.cond.kids.length q.cond.kh.cap,.slice q.eh.ao q.exprs.length q.eh.cap,.slice q.ah.ao q.aggs.length q.ah.cap,.slice q.types.h.ao q.types.l.length q.types.h.cap,.slice q.rh.ao q.rows.length q.rh.cap,.slice q.qh.ao q.kids.length q.qh.cap]] w fun e w'=>e = .returned (.bool ((q.table.toList == []) && (q.kind == 0) && (!q.all) && (eqb q.cond.er noEx.er) && decide (q.types.l.length=0) && decide (q.rows.length=0)))∧Below w.heap.size w w':=by
 have HIN:=ai (show∀o,q.cond.In (w.alloc o)from fun o=>hin.mono (belA o))
 obtain⟨z,hz⟩ : ∃z,eqb q.cond.er noEx.er=z:=⟨_,rfl⟩;have HZ:=ai hz;rw [hz];clear hin hz;generalize q.exprs.length=n1;generalize q.aggs.length=n2;generalize q.types.l.length=n3;generalize q.rows.length=n4
 cases z
 ·skip
  go_enter Tryd.func70,Tryd.ntmps70;go_wp2_with (go_at_call 96;refine(rzero_any q.cond _ (HIN.o _)).mono ?_;rintro e w1 ⟨rfl,hb⟩;rw [HZ.o];have HB:=ai hb;clear hb;have hx5:=(box_cell HB.o (j:=5) rfl);have hx0:=box_cell HB.o (j:=0) rfl;have hx10:=box_cell HB.o (j:=10) rfl;have hx11:=box_cell HB.o (j:=11) rfl;have hx12:=box_cell HB.o (j:=12) rfl;have hx13:=box_cell HB.o (j:=13) rfl)
  all_goals go_ret
  all_goals first
   | (exfalso;clear HZ HIN;simp_all;done)
   | exact⟨retb (by simp [*];try omega),belA _⟩
   | exact⟨retb (by simp [*];try omega),bel1 HB.o⟩
   | trace_state
 ·skip
  go_enter Tryd.func70,Tryd.ntmps70;go_wp2_with (go_at_call 96;refine(rzero_any q.cond _ (HIN.o _)).mono ?_;rintro e w1 ⟨rfl,hb⟩;rw [HZ.o];have HB:=ai hb;clear hb;have hx5:=(box_cell HB.o (j:=5) rfl);have hx0:=box_cell HB.o (j:=0) rfl;have hx10:=box_cell HB.o (j:=10) rfl;have hx11:=box_cell HB.o (j:=11) rfl;have hx12:=box_cell HB.o (j:=12) rfl;have hx13:=box_cell HB.o (j:=13) rfl)
  all_goals go_ret
  all_goals first
   | (exfalso;clear HZ HIN;simp_all;done)
   | exact⟨retb (by simp [*];try omega),belA _⟩
   | exact⟨retb (by simp [*];try omega),bel1 HB.o⟩
   | trace_state
end Go.Proofs.YtogalchclmmfgaaDoor

/- A part of the proof of AlgebraMade. -/
import Derived.Test.YtogalchclmmfgaaDoorP20
import Derived.Test.YtogalchclmmfgaaDoorP23
import Derived.Test.YtogalchclmmfgaaDoorP06
set_option maxRecDepth 100000
set_option maxHeartbeats 16000000
namespace Go.Proofs.YtogalchclmmfgaaDoor
open Go.RowKit
theorem joinTy_1 {a b:List Int} {q:Qu} (h:q.kind<1∨6<q.kind) :joinTy a b q= (1,[]):=by unfold joinTy;rw [if_pos h]
theorem joinTy_9 {a b:List Int} {q:Qu} (h: ¬(q.kind<1∨6<q.kind)) (h2:24<a.length+b.length) :joinTy a b q= (9,[]):=by unfold joinTy;rw [if_neg h,if_pos h2]
theorem joinTy_c {a b:List Int} {q:Qu} (h: ¬(q.kind<1∨6<q.kind)) (h2: ¬24<a.length+b.length) {v:Int} (hv:condE (a ++ b) q.cond=v) (h3:v≠0) :joinTy a b q= (v,[]):=by unfold joinTy;rw [if_neg h,if_neg h2,hv,if_pos h3]
theorem joinTy_a {a b:List Int} {q:Qu} (h: ¬(q.kind<1∨6<q.kind)) (h2: ¬24<a.length+b.length) (hv:condE (a ++ b) q.cond=0) (h3:q.kind=5∨q.kind=6) :joinTy a b q= (0,a):=by unfold joinTy;rw [if_neg h,if_neg h2,hv,if_neg (by simp),if_pos h3]
theorem joinTy_b {a b:List Int} {q:Qu} (h: ¬(q.kind<1∨6<q.kind)) (h2: ¬24<a.length+b.length) (hv:condE (a ++ b) q.cond=0) (h3: ¬(q.kind=5∨q.kind=6)) :joinTy a b q= (0,a ++ b):=by unfold joinTy;rw [if_neg h,if_neg h2,hv,if_neg (by simp),if_neg h3]
theorem two_flat (a b:IL) : [a,b].flatMap IL.l=a.l ++ b.l:=by simp
theorem box_two {w:World} {g:Nat} {a b:IL} {T:TypeId} (hb:Box w g #[.slice a.h.ao a.l.length a.h.cap,.slice b.h.ao b.l.length b.h.cap] T) :Row w 1 IL.cells ⟨some ⟨g,0,none⟩,2⟩ [a,b]:=
  row_of_box (xs:= [a,b]) (cells:=IL.cells) (size:=1) (fun _=>rfl) (by show 2≤maxLen;unfold maxLen;omega) hb
inductive JK (k:Int) :Prop where
  | lo (h:k<1)
  | hi (h1: ¬k<1) (h:6<k)
  | five (h:k=5)
  | six (h:k=6)
  | more (h1: ¬k<1) (h2: ¬6<k) (h3: (k == 5) =false) (h4: (k == 6) =false)
theorem JK.any (k:Int) :JK k:=by
  by_cases h1:k<1
  · exact .lo h1
  by_cases h2:6<k
  · exact .hi h1 h2
  by_cases h3:k=5
  · exact .five h3
  by_cases h4:k=6
  · exact .six h4
  exact .more h1 h2 (beq_eq_false_iff_ne.2 h3) (beq_eq_false_iff_ne.2 h4)
theorem cjoin_any (a b:IL) (q:Qu) (w:World) (ha:a.In w) (hb:b.In w) (hc:q.cond.In w) (hf:OpsAt w) (hsz:q.cond.size≤1000000) (hal:a.l.length≤1000) (hbl:b.l.length≤1000) :
    Calls Tryd.prog 66 #[.slice a.h.ao a.l.length a.h.cap,.slice b.h.ao b.l.length b.h.cap,.agg #[.int .i64 q.op,.string q.table,.int .i64 q.kind,.bool q.all,.int .i64 q.cond.op,.int .i64 q.cond.typ,.int .i64 q.cond.num,.string q.cond.text,.int .i64 q.cond.col,.slice q.cond.kh.ao q.cond.kids.length q.cond.kh.cap,.slice q.eh.ao q.exprs.length q.eh.cap,.slice q.ah.ao q.aggs.length q.ah.cap,.slice q.types.h.ao q.types.l.length q.types.h.cap,.slice q.rh.ao q.rows.length q.rh.cap,.slice q.qh.ao q.kids.length q.qh.cap]] w fun e w'=>TyOut (fun o=>o=a∨w.heap.size≤o.h.b) (joinTy a.l b.l q) w' e∧Below w.heap.size w w':=by
  have HBX:=ai (Box.new w #[.int .i64 q.op,.string q.table,.int .i64 q.kind,.bool q.all,.int .i64 q.cond.op,.int .i64 q.cond.typ,.int .i64 q.cond.num,.string q.cond.text,.int .i64 q.cond.col,.slice q.cond.kh.ao q.cond.kids.length q.cond.kh.cap,.slice q.eh.ao q.exprs.length q.eh.cap,.slice q.ah.ao q.aggs.length q.ah.cap,.slice q.types.h.ao q.types.l.length q.types.h.cap,.slice q.rh.ao q.rows.length q.rh.cap,.slice q.qh.ao q.kids.length q.qh.cap] 57);have HB0:=ai (belA (w:=w) (.cells #[.int .i64 q.op,.string q.table,.int .i64 q.kind,.bool q.all,.int .i64 q.cond.op,.int .i64 q.cond.typ,.int .i64 q.cond.num,.string q.cond.text,.int .i64 q.cond.col,.slice q.cond.kh.ao q.cond.kids.length q.cond.kh.cap,.slice q.eh.ao q.exprs.length q.eh.cap,.slice q.ah.ao q.aggs.length q.ah.cap,.slice q.types.h.ao q.types.l.length q.types.h.cap,.slice q.rh.ao q.rows.length q.rh.cap,.slice q.qh.ao q.kids.length q.qh.cap] 57))
  have HA:=ai (ha.mono HB0.o);have HB:=ai (hb.mono HB0.o);have HC:=ai (hc.mono HB0.o);have HF:=ai (hf.mono HB0.o);have HSZ:=ai hsz;clear ha hb hc hf hsz;have hkk:=JK.any q.kind
  go_enter Tryd.func66,Tryd.ntmps66;go_upto_region 1 with(fail)
  generalize hW: (w.alloc (.cells #[.int .i64 q.op,.string q.table,.int .i64 q.kind,.bool q.all,.int .i64 q.cond.op,.int .i64 q.cond.typ,.int .i64 q.cond.num,.string q.cond.text,.int .i64 q.cond.col,.slice q.cond.kh.ao q.cond.kids.length q.cond.kh.cap,.slice q.eh.ao q.exprs.length q.eh.cap,.slice q.ah.ao q.aggs.length q.ah.cap,.slice q.types.h.ao q.types.l.length q.types.h.cap,.slice q.rh.ao q.rows.length q.rh.cap,.slice q.qh.ao q.kids.length q.qh.cap] 57)) =W at *;have HWs:=ai (show W.heap.size=w.heap.size+1 by rw [←hW];exact World.size_alloc _ _)
  clear hW;have HL:=ai (belA (w:=W) (.cells #[.slice a.h.ao a.l.length a.h.cap,.slice b.h.ao b.l.length b.h.cap] 22))
  have HROW:=ai (box_two (a:=a) (b:=b) (Box.new W #[.slice a.h.ao a.l.length a.h.cap,.slice b.h.ao b.l.length b.h.cap] 22))
  have HIN:=ai (show∀x∈ [a,b],x.In (W.alloc (.cells #[.slice a.h.ao a.l.length a.h.cap,.slice b.h.ao b.l.length b.h.cap] 22))from fun x hx=>by
    rcases List.mem_cons.1 hx with rfl|hx
    · exact HA.o.mono HL.o
    · rw [List.mem_singleton.1 hx];exact HB.o.mono HL.o)
  have HSM:=ai (show∀x∈ [a,b],x.l.length≤1000 from fun x hx=>by
    rcases List.mem_cons.1 hx with rfl|hx
    · exact hal
    · rw [List.mem_singleton.1 hx];exact hbl)
  rcases hkk with h| ⟨h1,h⟩ |h|h| ⟨h1,h2,h3,h4⟩
  · have HJ:=ai (joinTy_1 (a:=a.l) (b:=b.l) (q:=q) (.inl h))
    go_wp2_with (first| (go_at_call 94;refine(concat_any ⟨some ⟨W.heap.size,0,none⟩,2⟩ [a,b] _ HROW.o HIN.o HSM.o (by simp)).mono ?_;rintro e w1 ⟨⟨o,rfl,ho,hoi,how⟩,hb1⟩;have HFR:=ai (fun(hp:0<o.l.length)=>how.ge hp);clear how;have HO:=ai (show o.l=a.l ++ b.l by rw [ho,two_flat]);have HOI:=ai hoi;have HB1:=ai (bT HL.o hb1);have hol:o.l.length≤2000:=(by have hq:o.l.length=a.l.length+b.l.length:=(by rw [HO.o,List.length_append]);omega);have hol2:=hoi.1.len;have y2:=(HBX.o.below HB1.o).cell (j:=2) rfl;clear ho hoi hb1))
    go_ret2
    exact⟨TyOut.no rfl HJ.o,HB0.o.trans (HB1.o.mono HB0.o.size)⟩
  · have HJ:=ai (joinTy_1 (a:=a.l) (b:=b.l) (q:=q) (.inr h))
    go_wp2_with (first| (go_at_call 94;refine(concat_any ⟨some ⟨W.heap.size,0,none⟩,2⟩ [a,b] _ HROW.o HIN.o HSM.o (by simp)).mono ?_;rintro e w1 ⟨⟨o,rfl,ho,hoi,how⟩,hb1⟩;have HFR:=ai (fun(hp:0<o.l.length)=>how.ge hp);clear how;have HO:=ai (show o.l=a.l ++ b.l by rw [ho,two_flat]);have HOI:=ai hoi;have HB1:=ai (bT HL.o hb1);have hol:o.l.length≤2000:=(by have hq:o.l.length=a.l.length+b.l.length:=(by rw [HO.o,List.length_append]);omega);have hol2:=hoi.1.len;have y2:=(HBX.o.below HB1.o).cell (j:=2) rfl;clear ho hoi hb1))
    go_ret2
    exact⟨TyOut.no rfl HJ.o,HB0.o.trans (HB1.o.mono HB0.o.size)⟩
  · have HK:=ai (show¬(q.kind<1∨6<q.kind) by omega)
    have HK2:=ai (show q.kind=5∨q.kind=6 by omega)
    have HB1x:=HBX;rw [h]at HBX;clear HB1x;by_cases h9:24<a.l.length+b.l.length
    · have HJ:=ai (joinTy_9 (a:=a.l) (b:=b.l) (q:=q) HK.o h9)
      go_wp2_with (first| (go_at_call 94;refine(concat_any ⟨some ⟨W.heap.size,0,none⟩,2⟩ [a,b] _ HROW.o HIN.o HSM.o (by simp)).mono ?_;rintro e w1 ⟨⟨o,rfl,ho,hoi,how⟩,hb1⟩;have HFR:=ai (fun(hp:0<o.l.length)=>how.ge hp);clear how;have HO:=ai (show o.l=a.l ++ b.l by rw [ho,two_flat]);have HOI:=ai hoi;have HB1:=ai (bT HL.o hb1);have hol: (24:Int) < (o.l.length:Int):=(by have hq:o.l.length=a.l.length+b.l.length:=(by rw [HO.o,List.length_append]);omega);have hol2:=hoi.1.len;have y2:=(HBX.o.below HB1.o).cell (j:=2) rfl;clear ho hoi hb1))
      all_goals first
        | (exfalso;omega)
        | (go_ret2
           exact⟨TyOut.no rfl HJ.o,HB0.o.trans (HB1.o.mono HB0.o.size)⟩)
    · obtain⟨x,hx⟩ : ∃x,condE (a.l ++ b.l) q.cond=x:=⟨_,rfl⟩
      by_cases hx0:x=0
      · subst hx0
        have HJ:=ai (joinTy_a (a:=a.l) (b:=b.l) (q:=q) HK.o h9 hx HK2.o)
        have HX:=ai hx;have h9': ¬(24:Int) < ((a.l.length+b.l.length:Nat) :Int):=by omega
        clear hx h9;go_wp2_with (first
          | (go_at_call 94;refine(concat_any ⟨some ⟨W.heap.size,0,none⟩,2⟩ [a,b] _ HROW.o HIN.o HSM.o (by simp)).mono ?_;rintro e w1 ⟨⟨o,rfl,ho,hoi,how⟩,hb1⟩;have HFR:=ai (fun(hp:0<o.l.length)=>how.ge hp);clear how;have HO:=ai (show o.l=a.l ++ b.l by rw [ho,two_flat]);have HOI:=ai hoi;have HB1:=ai (bT HL.o hb1);have hol: ¬(24:Int) < (o.l.length:Int):=(by have hq:o.l.length=a.l.length+b.l.length:=(by rw [HO.o,List.length_append]);omega);have hol2:=hoi.1.len;have y2:=(HBX.o.below HB1.o).cell (j:=2) rfl;have y4:=(HBX.o.below HB1.o).cell (j:=4) rfl;have y5:=(HBX.o.below HB1.o).cell (j:=5) rfl;have y6:=(HBX.o.below HB1.o).cell (j:=6) rfl;have y7:=(HBX.o.below HB1.o).cell (j:=7) rfl;have y8:=(HBX.o.below HB1.o).cell (j:=8) rfl;have y9:=(HBX.o.below HB1.o).cell (j:=9) rfl;have HCE:=ai (show condE o.l q.cond=0 by rw [HO.o];exact HX.o);clear ho hoi hb1)
          | (go_at_call 64;refine(ccond_any q.cond o _ HOI.o (HC.o.mono HB1.o) (HF.o.mono HB1.o) HSZ.o).mono ?_;rintro e w2 ⟨rfl,hb2⟩;rw [HCE.o];have HC2:=ai hb2;have HB2:=ai (bT HB1.o hb2);clear y2 y4 y5 y6 y7 y8 y9;have z2:=(HBX.o.below HB2.o).cell (j:=2) rfl;clear hb2))
        go_ret2
        exact⟨TyOut.yes (o:=a) rfl (HA.o.mono HB2.o) (fun hp=>.inl rfl) (by rw [HJ.o]),HB0.o.trans (HB2.o.mono HB0.o.size)⟩
      · have HJ:=ai (joinTy_c (a:=a.l) (b:=b.l) (q:=q) HK.o h9 hx hx0)
        have hx1: (x != 0) =true:=bne_iff_ne.2 hx0;have HX:=ai hx;have h9': ¬(24:Int) < ((a.l.length+b.l.length:Nat) :Int):=by omega
        clear hx h9 hx0;go_wp2_with (first
          | (go_at_call 94;refine(concat_any ⟨some ⟨W.heap.size,0,none⟩,2⟩ [a,b] _ HROW.o HIN.o HSM.o (by simp)).mono ?_;rintro e w1 ⟨⟨o,rfl,ho,hoi,how⟩,hb1⟩;have HFR:=ai (fun(hp:0<o.l.length)=>how.ge hp);clear how;have HO:=ai (show o.l=a.l ++ b.l by rw [ho,two_flat]);have HOI:=ai hoi;have HB1:=ai (bT HL.o hb1);have hol: ¬(24:Int) < (o.l.length:Int):=(by have hq:o.l.length=a.l.length+b.l.length:=(by rw [HO.o,List.length_append]);omega);have hol2:=hoi.1.len;have y2:=(HBX.o.below HB1.o).cell (j:=2) rfl;have y4:=(HBX.o.below HB1.o).cell (j:=4) rfl;have y5:=(HBX.o.below HB1.o).cell (j:=5) rfl;have y6:=(HBX.o.below HB1.o).cell (j:=6) rfl;have y7:=(HBX.o.below HB1.o).cell (j:=7) rfl;have y8:=(HBX.o.below HB1.o).cell (j:=8) rfl;have y9:=(HBX.o.below HB1.o).cell (j:=9) rfl;have HCE:=ai (show condE o.l q.cond=x by rw [HO.o];exact HX.o);clear ho hoi hb1)
          | (go_at_call 64;refine(ccond_any q.cond o _ HOI.o (HC.o.mono HB1.o) (HF.o.mono HB1.o) HSZ.o).mono ?_;rintro e w2 ⟨rfl,hb2⟩;rw [HCE.o];have HB2:=ai (bT HB1.o hb2);clear y2 y4 y5 y6 y7 y8 y9;have z2:=(HBX.o.below HB2.o).cell (j:=2) rfl;clear hb2))
        go_ret2
        exact⟨TyOut.no rfl HJ.o,HB0.o.trans (HB2.o.mono HB0.o.size)⟩
  · have HK:=ai (show¬(q.kind<1∨6<q.kind) by omega)
    have HK2:=ai (show q.kind=5∨q.kind=6 by omega)
    have HB1x:=HBX;rw [h]at HBX;clear HB1x;by_cases h9:24<a.l.length+b.l.length
    · have HJ:=ai (joinTy_9 (a:=a.l) (b:=b.l) (q:=q) HK.o h9)
      go_wp2_with (first| (go_at_call 94;refine(concat_any ⟨some ⟨W.heap.size,0,none⟩,2⟩ [a,b] _ HROW.o HIN.o HSM.o (by simp)).mono ?_;rintro e w1 ⟨⟨o,rfl,ho,hoi,how⟩,hb1⟩;have HFR:=ai (fun(hp:0<o.l.length)=>how.ge hp);clear how;have HO:=ai (show o.l=a.l ++ b.l by rw [ho,two_flat]);have HOI:=ai hoi;have HB1:=ai (bT HL.o hb1);have hol: (24:Int) < (o.l.length:Int):=(by have hq:o.l.length=a.l.length+b.l.length:=(by rw [HO.o,List.length_append]);omega);have hol2:=hoi.1.len;have y2:=(HBX.o.below HB1.o).cell (j:=2) rfl;clear ho hoi hb1))
      all_goals first
        | (exfalso;omega)
        | (go_ret2
           exact⟨TyOut.no rfl HJ.o,HB0.o.trans (HB1.o.mono HB0.o.size)⟩)
    · obtain⟨x,hx⟩ : ∃x,condE (a.l ++ b.l) q.cond=x:=⟨_,rfl⟩
      by_cases hx0:x=0
      · subst hx0
        have HJ:=ai (joinTy_a (a:=a.l) (b:=b.l) (q:=q) HK.o h9 hx HK2.o)
        have HX:=ai hx;have h9': ¬(24:Int) < ((a.l.length+b.l.length:Nat) :Int):=by omega
        clear hx h9;go_wp2_with (first
          | (go_at_call 94;refine(concat_any ⟨some ⟨W.heap.size,0,none⟩,2⟩ [a,b] _ HROW.o HIN.o HSM.o (by simp)).mono ?_;rintro e w1 ⟨⟨o,rfl,ho,hoi,how⟩,hb1⟩;have HFR:=ai (fun(hp:0<o.l.length)=>how.ge hp);clear how;have HO:=ai (show o.l=a.l ++ b.l by rw [ho,two_flat]);have HOI:=ai hoi;have HB1:=ai (bT HL.o hb1);have hol: ¬(24:Int) < (o.l.length:Int):=(by have hq:o.l.length=a.l.length+b.l.length:=(by rw [HO.o,List.length_append]);omega);have hol2:=hoi.1.len;have y2:=(HBX.o.below HB1.o).cell (j:=2) rfl;have y4:=(HBX.o.below HB1.o).cell (j:=4) rfl;have y5:=(HBX.o.below HB1.o).cell (j:=5) rfl;have y6:=(HBX.o.below HB1.o).cell (j:=6) rfl;have y7:=(HBX.o.below HB1.o).cell (j:=7) rfl;have y8:=(HBX.o.below HB1.o).cell (j:=8) rfl;have y9:=(HBX.o.below HB1.o).cell (j:=9) rfl;have HCE:=ai (show condE o.l q.cond=0 by rw [HO.o];exact HX.o);clear ho hoi hb1)
          | (go_at_call 64;refine(ccond_any q.cond o _ HOI.o (HC.o.mono HB1.o) (HF.o.mono HB1.o) HSZ.o).mono ?_;rintro e w2 ⟨rfl,hb2⟩;rw [HCE.o];have HC2:=ai hb2;have HB2:=ai (bT HB1.o hb2);clear y2 y4 y5 y6 y7 y8 y9;have z2:=(HBX.o.below HB2.o).cell (j:=2) rfl;clear hb2))
        go_ret2
        exact⟨TyOut.yes (o:=a) rfl (HA.o.mono HB2.o) (fun hp=>.inl rfl) (by rw [HJ.o]),HB0.o.trans (HB2.o.mono HB0.o.size)⟩
      · have HJ:=ai (joinTy_c (a:=a.l) (b:=b.l) (q:=q) HK.o h9 hx hx0)
        have hx1: (x != 0) =true:=bne_iff_ne.2 hx0;have HX:=ai hx;have h9': ¬(24:Int) < ((a.l.length+b.l.length:Nat) :Int):=by omega
        clear hx h9 hx0;go_wp2_with (first
          | (go_at_call 94;refine(concat_any ⟨some ⟨W.heap.size,0,none⟩,2⟩ [a,b] _ HROW.o HIN.o HSM.o (by simp)).mono ?_;rintro e w1 ⟨⟨o,rfl,ho,hoi,how⟩,hb1⟩;have HFR:=ai (fun(hp:0<o.l.length)=>how.ge hp);clear how;have HO:=ai (show o.l=a.l ++ b.l by rw [ho,two_flat]);have HOI:=ai hoi;have HB1:=ai (bT HL.o hb1);have hol: ¬(24:Int) < (o.l.length:Int):=(by have hq:o.l.length=a.l.length+b.l.length:=(by rw [HO.o,List.length_append]);omega);have hol2:=hoi.1.len;have y2:=(HBX.o.below HB1.o).cell (j:=2) rfl;have y4:=(HBX.o.below HB1.o).cell (j:=4) rfl;have y5:=(HBX.o.below HB1.o).cell (j:=5) rfl;have y6:=(HBX.o.below HB1.o).cell (j:=6) rfl;have y7:=(HBX.o.below HB1.o).cell (j:=7) rfl;have y8:=(HBX.o.below HB1.o).cell (j:=8) rfl;have y9:=(HBX.o.below HB1.o).cell (j:=9) rfl;have HCE:=ai (show condE o.l q.cond=x by rw [HO.o];exact HX.o);clear ho hoi hb1)
          | (go_at_call 64;refine(ccond_any q.cond o _ HOI.o (HC.o.mono HB1.o) (HF.o.mono HB1.o) HSZ.o).mono ?_;rintro e w2 ⟨rfl,hb2⟩;rw [HCE.o];have HB2:=ai (bT HB1.o hb2);clear y2 y4 y5 y6 y7 y8 y9;have z2:=(HBX.o.below HB2.o).cell (j:=2) rfl;clear hb2))
        go_ret2
        exact⟨TyOut.no rfl HJ.o,HB0.o.trans (HB2.o.mono HB0.o.size)⟩
  · have HK:=ai (show¬(q.kind<1∨6<q.kind) by omega)
    have HK2:=ai (show¬(q.kind=5∨q.kind=6) by have:=beq_eq_false_iff_ne.1 h3;have:=beq_eq_false_iff_ne.1 h4;omega)
    by_cases h9:24<a.l.length+b.l.length
    · have HJ:=ai (joinTy_9 (a:=a.l) (b:=b.l) (q:=q) HK.o h9)
      go_wp2_with (first| (go_at_call 94;refine(concat_any ⟨some ⟨W.heap.size,0,none⟩,2⟩ [a,b] _ HROW.o HIN.o HSM.o (by simp)).mono ?_;rintro e w1 ⟨⟨o,rfl,ho,hoi,how⟩,hb1⟩;have HFR:=ai (fun(hp:0<o.l.length)=>how.ge hp);clear how;have HO:=ai (show o.l=a.l ++ b.l by rw [ho,two_flat]);have HOI:=ai hoi;have HB1:=ai (bT HL.o hb1);have hol: (24:Int) < (o.l.length:Int):=(by have hq:o.l.length=a.l.length+b.l.length:=(by rw [HO.o,List.length_append]);omega);have hol2:=hoi.1.len;have y2:=(HBX.o.below HB1.o).cell (j:=2) rfl;clear ho hoi hb1))
      all_goals first
        | (exfalso;omega)
        | (go_ret2
           exact⟨TyOut.no rfl HJ.o,HB0.o.trans (HB1.o.mono HB0.o.size)⟩)
    · obtain⟨x,hx⟩ : ∃x,condE (a.l ++ b.l) q.cond=x:=⟨_,rfl⟩
      by_cases hx0:x=0
      · subst hx0
        have HJ:=ai (joinTy_b (a:=a.l) (b:=b.l) (q:=q) HK.o h9 hx HK2.o)
        have HX:=ai hx;have h9': ¬(24:Int) < ((a.l.length+b.l.length:Nat) :Int):=by omega
        clear hx h9;go_wp2_with (first
          | (go_at_call 94;refine(concat_any ⟨some ⟨W.heap.size,0,none⟩,2⟩ [a,b] _ HROW.o HIN.o HSM.o (by simp)).mono ?_;rintro e w1 ⟨⟨o,rfl,ho,hoi,how⟩,hb1⟩;have HFR:=ai (fun(hp:0<o.l.length)=>how.ge hp);clear how;have HO:=ai (show o.l=a.l ++ b.l by rw [ho,two_flat]);have HOI:=ai hoi;have HB1:=ai (bT HL.o hb1);have hol: ¬(24:Int) < (o.l.length:Int):=(by have hq:o.l.length=a.l.length+b.l.length:=(by rw [HO.o,List.length_append]);omega);have hol2:=hoi.1.len;have y2:=(HBX.o.below HB1.o).cell (j:=2) rfl;have y4:=(HBX.o.below HB1.o).cell (j:=4) rfl;have y5:=(HBX.o.below HB1.o).cell (j:=5) rfl;have y6:=(HBX.o.below HB1.o).cell (j:=6) rfl;have y7:=(HBX.o.below HB1.o).cell (j:=7) rfl;have y8:=(HBX.o.below HB1.o).cell (j:=8) rfl;have y9:=(HBX.o.below HB1.o).cell (j:=9) rfl;have HCE:=ai (show condE o.l q.cond=0 by rw [HO.o];exact HX.o);clear ho hoi hb1)
          | (go_at_call 64;refine(ccond_any q.cond o _ HOI.o (HC.o.mono HB1.o) (HF.o.mono HB1.o) HSZ.o).mono ?_;rintro e w2 ⟨rfl,hb2⟩;rw [HCE.o];have HC2:=ai hb2;have HB2:=ai (bT HB1.o hb2);clear y2 y4 y5 y6 y7 y8 y9;have z2:=(HBX.o.below HB2.o).cell (j:=2) rfl;clear hb2))
        go_ret2
        exact⟨TyOut.yes (o:=o) rfl (HOI.o.mono HC2.o) (fun hp=>.inr (by have:=HFR.o hp;have:=HWs.o;simp only [World.size_alloc]at *;omega)) (by rw [HJ.o,HO.o]),HB0.o.trans (HB2.o.mono HB0.o.size)⟩
      · have HJ:=ai (joinTy_c (a:=a.l) (b:=b.l) (q:=q) HK.o h9 hx hx0)
        have hx1: (x != 0) =true:=bne_iff_ne.2 hx0;have HX:=ai hx;have h9': ¬(24:Int) < ((a.l.length+b.l.length:Nat) :Int):=by omega
        clear hx h9 hx0;go_wp2_with (first
          | (go_at_call 94;refine(concat_any ⟨some ⟨W.heap.size,0,none⟩,2⟩ [a,b] _ HROW.o HIN.o HSM.o (by simp)).mono ?_;rintro e w1 ⟨⟨o,rfl,ho,hoi,how⟩,hb1⟩;have HFR:=ai (fun(hp:0<o.l.length)=>how.ge hp);clear how;have HO:=ai (show o.l=a.l ++ b.l by rw [ho,two_flat]);have HOI:=ai hoi;have HB1:=ai (bT HL.o hb1);have hol: ¬(24:Int) < (o.l.length:Int):=(by have hq:o.l.length=a.l.length+b.l.length:=(by rw [HO.o,List.length_append]);omega);have hol2:=hoi.1.len;have y2:=(HBX.o.below HB1.o).cell (j:=2) rfl;have y4:=(HBX.o.below HB1.o).cell (j:=4) rfl;have y5:=(HBX.o.below HB1.o).cell (j:=5) rfl;have y6:=(HBX.o.below HB1.o).cell (j:=6) rfl;have y7:=(HBX.o.below HB1.o).cell (j:=7) rfl;have y8:=(HBX.o.below HB1.o).cell (j:=8) rfl;have y9:=(HBX.o.below HB1.o).cell (j:=9) rfl;have HCE:=ai (show condE o.l q.cond=x by rw [HO.o];exact HX.o);clear ho hoi hb1)
          | (go_at_call 64;refine(ccond_any q.cond o _ HOI.o (HC.o.mono HB1.o) (HF.o.mono HB1.o) HSZ.o).mono ?_;rintro e w2 ⟨rfl,hb2⟩;rw [HCE.o];have HB2:=ai (bT HB1.o hb2);clear y2 y4 y5 y6 y7 y8 y9;have z2:=(HBX.o.below HB2.o).cell (j:=2) rfl;clear hb2))
        go_ret2
        exact⟨TyOut.no rfl HJ.o,HB0.o.trans (HB2.o.mono HB0.o.size)⟩
theorem rjoin_any (a b:IL) (q:Qu) (w:World) (ha:a.In w) (hb:b.In w) (hc:q.cond.In w) (hsz:q.cond.size≤1000000) (hal:a.l.length≤1000) (hbl:b.l.length≤1000) :
    Calls Tryd.prog 75 #[.slice a.h.ao a.l.length a.h.cap,.slice b.h.ao b.l.length b.h.cap,.agg #[.int .i64 q.op,.string q.table,.int .i64 q.kind,.bool q.all,.int .i64 q.cond.op,.int .i64 q.cond.typ,.int .i64 q.cond.num,.string q.cond.text,.int .i64 q.cond.col,.slice q.cond.kh.ao q.cond.kids.length q.cond.kh.cap,.slice q.eh.ao q.exprs.length q.eh.cap,.slice q.ah.ao q.aggs.length q.ah.cap,.slice q.types.h.ao q.types.l.length q.types.h.cap,.slice q.rh.ao q.rows.length q.rh.cap,.slice q.qh.ao q.kids.length q.qh.cap]] w fun e w'=>TyOut (fun o=>o=a∨w.heap.size≤o.h.b) (joinTy a.l b.l q) w' e∧Below w.heap.size w w':=by
  have HBX:=ai (Box.new w #[.int .i64 q.op,.string q.table,.int .i64 q.kind,.bool q.all,.int .i64 q.cond.op,.int .i64 q.cond.typ,.int .i64 q.cond.num,.string q.cond.text,.int .i64 q.cond.col,.slice q.cond.kh.ao q.cond.kids.length q.cond.kh.cap,.slice q.eh.ao q.exprs.length q.eh.cap,.slice q.ah.ao q.aggs.length q.ah.cap,.slice q.types.h.ao q.types.l.length q.types.h.cap,.slice q.rh.ao q.rows.length q.rh.cap,.slice q.qh.ao q.kids.length q.qh.cap] 57);have HB0:=ai (belA (w:=w) (.cells #[.int .i64 q.op,.string q.table,.int .i64 q.kind,.bool q.all,.int .i64 q.cond.op,.int .i64 q.cond.typ,.int .i64 q.cond.num,.string q.cond.text,.int .i64 q.cond.col,.slice q.cond.kh.ao q.cond.kids.length q.cond.kh.cap,.slice q.eh.ao q.exprs.length q.eh.cap,.slice q.ah.ao q.aggs.length q.ah.cap,.slice q.types.h.ao q.types.l.length q.types.h.cap,.slice q.rh.ao q.rows.length q.rh.cap,.slice q.qh.ao q.kids.length q.qh.cap] 57))
  have HA:=ai (ha.mono HB0.o);have HB:=ai (hb.mono HB0.o);have HC:=ai (hc.mono HB0.o);have HSZ:=ai hsz;clear ha hb hc hsz;have hkk:=JK.any q.kind
  go_enter Tryd.func75,Tryd.ntmps75;go_upto_region 1 with(fail)
  generalize hW: (w.alloc (.cells #[.int .i64 q.op,.string q.table,.int .i64 q.kind,.bool q.all,.int .i64 q.cond.op,.int .i64 q.cond.typ,.int .i64 q.cond.num,.string q.cond.text,.int .i64 q.cond.col,.slice q.cond.kh.ao q.cond.kids.length q.cond.kh.cap,.slice q.eh.ao q.exprs.length q.eh.cap,.slice q.ah.ao q.aggs.length q.ah.cap,.slice q.types.h.ao q.types.l.length q.types.h.cap,.slice q.rh.ao q.rows.length q.rh.cap,.slice q.qh.ao q.kids.length q.qh.cap] 57)) =W at *;have HWs:=ai (show W.heap.size=w.heap.size+1 by rw [←hW];exact World.size_alloc _ _)
  clear hW;have y2:=HBX.o.cell (j:=2) rfl
  have hadd:IntKind.i64.wrap ((a.l.length:Int) + (b.l.length:Int)) = ((a.l.length+b.l.length:Nat) :Int):=by rw [IntKind.wrap_i64];omega
  rcases hkk with h| ⟨h1,h⟩ |h|h| ⟨h1,h2,h3,h4⟩
  · have HJ:=ai (joinTy_1 (a:=a.l) (b:=b.l) (q:=q) (.inl h))
    go_wp2
    go_ret2
    exact⟨TyOut.no rfl HJ.o,HB0.o⟩
  · have HJ:=ai (joinTy_1 (a:=a.l) (b:=b.l) (q:=q) (.inr h))
    go_wp2
    go_ret2
    exact⟨TyOut.no rfl HJ.o,HB0.o⟩
  · have HK:=ai (show¬(q.kind<1∨6<q.kind) by omega)
    have HK2:=ai (show q.kind=5∨q.kind=6 by omega)
    rw [h]at HBX y2;by_cases h9:24<a.l.length+b.l.length
    · have HJ:=ai (joinTy_9 (a:=a.l) (b:=b.l) (q:=q) HK.o h9)
      have h9': (24:Int) < ((a.l.length+b.l.length:Nat) :Int):=by omega
      go_wp2
      go_ret2
      exact⟨TyOut.no rfl HJ.o,HB0.o⟩
    · obtain⟨x,hx⟩ : ∃x,condE (a.l ++ b.l) q.cond=x:=⟨_,rfl⟩
      have h9': ¬(24:Int) < ((a.l.length+b.l.length:Nat) :Int):=by omega
      by_cases hx0:x=0
      · subst hx0
        have HJ:=ai (joinTy_a (a:=a.l) (b:=b.l) (q:=q) HK.o h9 hx HK2.o)
        have HX:=ai hx;clear hx h9;go_wp2_with (first
          | (at_builtin;refine app_il rfl _ _ rfl W.heap.size (.slice none 0 0) 0 [] rfl (World.ownsRow_nil _ _ _ _) a HA.o rfl (by omega) (Nat.le_refl _) ?_;intro v1 w1 hown hgrow;have HO1:=ai hown;have HB1:=ai (grown0 (Below.refl _ _) (Nat.le_refl _) hgrow (fun g e=>by cases e));clear hown hgrow)
          | (at_builtin;refine app_il rfl _ _ rfl W.heap.size v1 _ _ rfl HO1.o b (HB.o.mono HB1.o) rfl (by omega) HB1.o.size ?_;intro v2 w2 hown hgrow;have HB2:=ai (grown0 HB1.o HB1.o.size hgrow (fun g e=>(HO1.o.lt g e).1));obtain⟨o,rfl,ho,hoi,how⟩:=il_own (xs:=a.l ++ b.l) (by rw [List.flatMap_append];simpa using hown) (by intro n hn;rcases List.mem_append.1 hn with hn|hn;exact HA.o.2 n hn;exact HB.o.2 n hn);have HFR:=ai (fun(hp:0<o.l.length)=>how.ge hp);clear how;have HO:=ai ho;have HOI:=ai hoi;have HCE:=ai (show condE o.l q.cond=0 by rw [HO.o];exact HX.o);clear hown hgrow ho hoi y2;have z2:=(HBX.o.below HB2.o).cell (j:=2) rfl;have y4:=(HBX.o.below HB2.o).cell (j:=4) rfl;have y5:=(HBX.o.below HB2.o).cell (j:=5) rfl;have y6:=(HBX.o.below HB2.o).cell (j:=6) rfl;have y7:=(HBX.o.below HB2.o).cell (j:=7) rfl;have y8:=(HBX.o.below HB2.o).cell (j:=8) rfl;have y9:=(HBX.o.below HB2.o).cell (j:=9) rfl;skip)
          | (go_at_call 73;refine(rcond_any q.cond o _ HOI.o (HC.o.mono HB2.o) HSZ.o).mono ?_;rintro e w3 ⟨rfl,hb3⟩;rw [HCE.o];have HC3:=ai hb3;have HB3:=ai (bT HB2.o hb3);clear z2 y4 y5 y6 y7 y8 y9;have x2:=(HBX.o.below HB3.o).cell (j:=2) rfl;clear hb3))
        go_ret2
        exact⟨TyOut.yes (o:=a) rfl (HA.o.mono HB3.o) (fun hp=>.inl rfl) (by rw [HJ.o]),HB0.o.trans (HB3.o.mono HB0.o.size)⟩
      · have HJ:=ai (joinTy_c (a:=a.l) (b:=b.l) (q:=q) HK.o h9 hx hx0)
        have hx1: (x != 0) =true:=bne_iff_ne.2 hx0;have HX:=ai hx;clear hx h9 hx0;go_wp2_with (first
          | (at_builtin;refine app_il rfl _ _ rfl W.heap.size (.slice none 0 0) 0 [] rfl (World.ownsRow_nil _ _ _ _) a HA.o rfl (by omega) (Nat.le_refl _) ?_;intro v1 w1 hown hgrow;have HO1:=ai hown;have HB1:=ai (grown0 (Below.refl _ _) (Nat.le_refl _) hgrow (fun g e=>by cases e));clear hown hgrow)
          | (at_builtin;refine app_il rfl _ _ rfl W.heap.size v1 _ _ rfl HO1.o b (HB.o.mono HB1.o) rfl (by omega) HB1.o.size ?_;intro v2 w2 hown hgrow;have HB2:=ai (grown0 HB1.o HB1.o.size hgrow (fun g e=>(HO1.o.lt g e).1));obtain⟨o,rfl,ho,hoi,how⟩:=il_own (xs:=a.l ++ b.l) (by rw [List.flatMap_append];simpa using hown) (by intro n hn;rcases List.mem_append.1 hn with hn|hn;exact HA.o.2 n hn;exact HB.o.2 n hn);have HFR:=ai (fun(hp:0<o.l.length)=>how.ge hp);clear how;have HO:=ai ho;have HOI:=ai hoi;have HCE:=ai (show condE o.l q.cond=x by rw [HO.o];exact HX.o);clear hown hgrow ho hoi y2;have z2:=(HBX.o.below HB2.o).cell (j:=2) rfl;have y4:=(HBX.o.below HB2.o).cell (j:=4) rfl;have y5:=(HBX.o.below HB2.o).cell (j:=5) rfl;have y6:=(HBX.o.below HB2.o).cell (j:=6) rfl;have y7:=(HBX.o.below HB2.o).cell (j:=7) rfl;have y8:=(HBX.o.below HB2.o).cell (j:=8) rfl;have y9:=(HBX.o.below HB2.o).cell (j:=9) rfl;skip)
          | (go_at_call 73;refine(rcond_any q.cond o _ HOI.o (HC.o.mono HB2.o) HSZ.o).mono ?_;rintro e w3 ⟨rfl,hb3⟩;rw [HCE.o];have HC3:=ai hb3;have HB3:=ai (bT HB2.o hb3);clear z2 y4 y5 y6 y7 y8 y9;have x2:=(HBX.o.below HB3.o).cell (j:=2) rfl;clear hb3))
        go_ret2
        exact⟨TyOut.no rfl HJ.o,HB0.o.trans (HB3.o.mono HB0.o.size)⟩
  · have HK:=ai (show¬(q.kind<1∨6<q.kind) by omega)
    have HK2:=ai (show q.kind=5∨q.kind=6 by omega)
    rw [h]at HBX y2;by_cases h9:24<a.l.length+b.l.length
    · have HJ:=ai (joinTy_9 (a:=a.l) (b:=b.l) (q:=q) HK.o h9)
      have h9': (24:Int) < ((a.l.length+b.l.length:Nat) :Int):=by omega
      go_wp2
      go_ret2
      exact⟨TyOut.no rfl HJ.o,HB0.o⟩
    · obtain⟨x,hx⟩ : ∃x,condE (a.l ++ b.l) q.cond=x:=⟨_,rfl⟩
      have h9': ¬(24:Int) < ((a.l.length+b.l.length:Nat) :Int):=by omega
      by_cases hx0:x=0
      · subst hx0
        have HJ:=ai (joinTy_a (a:=a.l) (b:=b.l) (q:=q) HK.o h9 hx HK2.o)
        have HX:=ai hx;clear hx h9;go_wp2_with (first
          | (at_builtin;refine app_il rfl _ _ rfl W.heap.size (.slice none 0 0) 0 [] rfl (World.ownsRow_nil _ _ _ _) a HA.o rfl (by omega) (Nat.le_refl _) ?_;intro v1 w1 hown hgrow;have HO1:=ai hown;have HB1:=ai (grown0 (Below.refl _ _) (Nat.le_refl _) hgrow (fun g e=>by cases e));clear hown hgrow)
          | (at_builtin;refine app_il rfl _ _ rfl W.heap.size v1 _ _ rfl HO1.o b (HB.o.mono HB1.o) rfl (by omega) HB1.o.size ?_;intro v2 w2 hown hgrow;have HB2:=ai (grown0 HB1.o HB1.o.size hgrow (fun g e=>(HO1.o.lt g e).1));obtain⟨o,rfl,ho,hoi,how⟩:=il_own (xs:=a.l ++ b.l) (by rw [List.flatMap_append];simpa using hown) (by intro n hn;rcases List.mem_append.1 hn with hn|hn;exact HA.o.2 n hn;exact HB.o.2 n hn);have HFR:=ai (fun(hp:0<o.l.length)=>how.ge hp);clear how;have HO:=ai ho;have HOI:=ai hoi;have HCE:=ai (show condE o.l q.cond=0 by rw [HO.o];exact HX.o);clear hown hgrow ho hoi y2;have z2:=(HBX.o.below HB2.o).cell (j:=2) rfl;have y4:=(HBX.o.below HB2.o).cell (j:=4) rfl;have y5:=(HBX.o.below HB2.o).cell (j:=5) rfl;have y6:=(HBX.o.below HB2.o).cell (j:=6) rfl;have y7:=(HBX.o.below HB2.o).cell (j:=7) rfl;have y8:=(HBX.o.below HB2.o).cell (j:=8) rfl;have y9:=(HBX.o.below HB2.o).cell (j:=9) rfl;skip)
          | (go_at_call 73;refine(rcond_any q.cond o _ HOI.o (HC.o.mono HB2.o) HSZ.o).mono ?_;rintro e w3 ⟨rfl,hb3⟩;rw [HCE.o];have HC3:=ai hb3;have HB3:=ai (bT HB2.o hb3);clear z2 y4 y5 y6 y7 y8 y9;have x2:=(HBX.o.below HB3.o).cell (j:=2) rfl;clear hb3))
        go_ret2
        exact⟨TyOut.yes (o:=a) rfl (HA.o.mono HB3.o) (fun hp=>.inl rfl) (by rw [HJ.o]),HB0.o.trans (HB3.o.mono HB0.o.size)⟩
      · have HJ:=ai (joinTy_c (a:=a.l) (b:=b.l) (q:=q) HK.o h9 hx hx0)
        have hx1: (x != 0) =true:=bne_iff_ne.2 hx0;have HX:=ai hx;clear hx h9 hx0;go_wp2_with (first
          | (at_builtin;refine app_il rfl _ _ rfl W.heap.size (.slice none 0 0) 0 [] rfl (World.ownsRow_nil _ _ _ _) a HA.o rfl (by omega) (Nat.le_refl _) ?_;intro v1 w1 hown hgrow;have HO1:=ai hown;have HB1:=ai (grown0 (Below.refl _ _) (Nat.le_refl _) hgrow (fun g e=>by cases e));clear hown hgrow)
          | (at_builtin;refine app_il rfl _ _ rfl W.heap.size v1 _ _ rfl HO1.o b (HB.o.mono HB1.o) rfl (by omega) HB1.o.size ?_;intro v2 w2 hown hgrow;have HB2:=ai (grown0 HB1.o HB1.o.size hgrow (fun g e=>(HO1.o.lt g e).1));obtain⟨o,rfl,ho,hoi,how⟩:=il_own (xs:=a.l ++ b.l) (by rw [List.flatMap_append];simpa using hown) (by intro n hn;rcases List.mem_append.1 hn with hn|hn;exact HA.o.2 n hn;exact HB.o.2 n hn);have HFR:=ai (fun(hp:0<o.l.length)=>how.ge hp);clear how;have HO:=ai ho;have HOI:=ai hoi;have HCE:=ai (show condE o.l q.cond=x by rw [HO.o];exact HX.o);clear hown hgrow ho hoi y2;have z2:=(HBX.o.below HB2.o).cell (j:=2) rfl;have y4:=(HBX.o.below HB2.o).cell (j:=4) rfl;have y5:=(HBX.o.below HB2.o).cell (j:=5) rfl;have y6:=(HBX.o.below HB2.o).cell (j:=6) rfl;have y7:=(HBX.o.below HB2.o).cell (j:=7) rfl;have y8:=(HBX.o.below HB2.o).cell (j:=8) rfl;have y9:=(HBX.o.below HB2.o).cell (j:=9) rfl;skip)
          | (go_at_call 73;refine(rcond_any q.cond o _ HOI.o (HC.o.mono HB2.o) HSZ.o).mono ?_;rintro e w3 ⟨rfl,hb3⟩;rw [HCE.o];have HC3:=ai hb3;have HB3:=ai (bT HB2.o hb3);clear z2 y4 y5 y6 y7 y8 y9;have x2:=(HBX.o.below HB3.o).cell (j:=2) rfl;clear hb3))
        go_ret2
        exact⟨TyOut.no rfl HJ.o,HB0.o.trans (HB3.o.mono HB0.o.size)⟩
  · have HK:=ai (show¬(q.kind<1∨6<q.kind) by omega)
    have HK2:=ai (show¬(q.kind=5∨q.kind=6) by have:=beq_eq_false_iff_ne.1 h3;have:=beq_eq_false_iff_ne.1 h4;omega)
    by_cases h9:24<a.l.length+b.l.length
    · have HJ:=ai (joinTy_9 (a:=a.l) (b:=b.l) (q:=q) HK.o h9)
      have h9': (24:Int) < ((a.l.length+b.l.length:Nat) :Int):=by omega
      go_wp2
      go_ret2
      exact⟨TyOut.no rfl HJ.o,HB0.o⟩
    · obtain⟨x,hx⟩ : ∃x,condE (a.l ++ b.l) q.cond=x:=⟨_,rfl⟩
      have h9': ¬(24:Int) < ((a.l.length+b.l.length:Nat) :Int):=by omega
      by_cases hx0:x=0
      · subst hx0
        have HJ:=ai (joinTy_b (a:=a.l) (b:=b.l) (q:=q) HK.o h9 hx HK2.o)
        have HX:=ai hx;clear hx h9;go_wp2_with (first
          | (at_builtin;refine app_il rfl _ _ rfl W.heap.size (.slice none 0 0) 0 [] rfl (World.ownsRow_nil _ _ _ _) a HA.o rfl (by omega) (Nat.le_refl _) ?_;intro v1 w1 hown hgrow;have HO1:=ai hown;have HB1:=ai (grown0 (Below.refl _ _) (Nat.le_refl _) hgrow (fun g e=>by cases e));clear hown hgrow)
          | (at_builtin;refine app_il rfl _ _ rfl W.heap.size v1 _ _ rfl HO1.o b (HB.o.mono HB1.o) rfl (by omega) HB1.o.size ?_;intro v2 w2 hown hgrow;have HB2:=ai (grown0 HB1.o HB1.o.size hgrow (fun g e=>(HO1.o.lt g e).1));obtain⟨o,rfl,ho,hoi,how⟩:=il_own (xs:=a.l ++ b.l) (by rw [List.flatMap_append];simpa using hown) (by intro n hn;rcases List.mem_append.1 hn with hn|hn;exact HA.o.2 n hn;exact HB.o.2 n hn);have HFR:=ai (fun(hp:0<o.l.length)=>how.ge hp);clear how;have HO:=ai ho;have HOI:=ai hoi;have HCE:=ai (show condE o.l q.cond=0 by rw [HO.o];exact HX.o);clear hown hgrow ho hoi y2;have z2:=(HBX.o.below HB2.o).cell (j:=2) rfl;have y4:=(HBX.o.below HB2.o).cell (j:=4) rfl;have y5:=(HBX.o.below HB2.o).cell (j:=5) rfl;have y6:=(HBX.o.below HB2.o).cell (j:=6) rfl;have y7:=(HBX.o.below HB2.o).cell (j:=7) rfl;have y8:=(HBX.o.below HB2.o).cell (j:=8) rfl;have y9:=(HBX.o.below HB2.o).cell (j:=9) rfl;skip)
          | (go_at_call 73;refine(rcond_any q.cond o _ HOI.o (HC.o.mono HB2.o) HSZ.o).mono ?_;rintro e w3 ⟨rfl,hb3⟩;rw [HCE.o];have HC3:=ai hb3;have HB3:=ai (bT HB2.o hb3);clear z2 y4 y5 y6 y7 y8 y9;have x2:=(HBX.o.below HB3.o).cell (j:=2) rfl;clear hb3))
        go_ret2
        exact⟨TyOut.yes (o:=o) rfl (HOI.o.mono HC3.o) (fun hp=>.inr (by have:=HFR.o hp;have:=HWs.o;omega)) (by rw [HJ.o,HO.o]),HB0.o.trans (HB3.o.mono HB0.o.size)⟩
      · have HJ:=ai (joinTy_c (a:=a.l) (b:=b.l) (q:=q) HK.o h9 hx hx0)
        have hx1: (x != 0) =true:=bne_iff_ne.2 hx0;have HX:=ai hx;clear hx h9 hx0;go_wp2_with (first
          | (at_builtin;refine app_il rfl _ _ rfl W.heap.size (.slice none 0 0) 0 [] rfl (World.ownsRow_nil _ _ _ _) a HA.o rfl (by omega) (Nat.le_refl _) ?_;intro v1 w1 hown hgrow;have HO1:=ai hown;have HB1:=ai (grown0 (Below.refl _ _) (Nat.le_refl _) hgrow (fun g e=>by cases e));clear hown hgrow)
          | (at_builtin;refine app_il rfl _ _ rfl W.heap.size v1 _ _ rfl HO1.o b (HB.o.mono HB1.o) rfl (by omega) HB1.o.size ?_;intro v2 w2 hown hgrow;have HB2:=ai (grown0 HB1.o HB1.o.size hgrow (fun g e=>(HO1.o.lt g e).1));obtain⟨o,rfl,ho,hoi,how⟩:=il_own (xs:=a.l ++ b.l) (by rw [List.flatMap_append];simpa using hown) (by intro n hn;rcases List.mem_append.1 hn with hn|hn;exact HA.o.2 n hn;exact HB.o.2 n hn);have HFR:=ai (fun(hp:0<o.l.length)=>how.ge hp);clear how;have HO:=ai ho;have HOI:=ai hoi;have HCE:=ai (show condE o.l q.cond=x by rw [HO.o];exact HX.o);clear hown hgrow ho hoi y2;have z2:=(HBX.o.below HB2.o).cell (j:=2) rfl;have y4:=(HBX.o.below HB2.o).cell (j:=4) rfl;have y5:=(HBX.o.below HB2.o).cell (j:=5) rfl;have y6:=(HBX.o.below HB2.o).cell (j:=6) rfl;have y7:=(HBX.o.below HB2.o).cell (j:=7) rfl;have y8:=(HBX.o.below HB2.o).cell (j:=8) rfl;have y9:=(HBX.o.below HB2.o).cell (j:=9) rfl;skip)
          | (go_at_call 73;refine(rcond_any q.cond o _ HOI.o (HC.o.mono HB2.o) HSZ.o).mono ?_;rintro e w3 ⟨rfl,hb3⟩;rw [HCE.o];have HC3:=ai hb3;have HB3:=ai (bT HB2.o hb3);clear z2 y4 y5 y6 y7 y8 y9;have x2:=(HBX.o.below HB3.o).cell (j:=2) rfl;clear hb3))
        go_ret2
        exact⟨TyOut.no rfl HJ.o,HB0.o.trans (HB3.o.mono HB0.o.size)⟩
end Go.Proofs.YtogalchclmmfgaaDoor

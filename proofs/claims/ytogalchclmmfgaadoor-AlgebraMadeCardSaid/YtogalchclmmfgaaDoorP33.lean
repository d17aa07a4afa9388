/- A part of the proof of AlgebraMade. -/
import Derived.Test.YtogalchclmmfgaaDoorP26
set_option maxRecDepth 100000
set_option maxHeartbeats 16000000
namespace Go.Proofs.YtogalchclmmfgaaDoor
open Go.RowKit
theorem typed_1 (s:Sch) (hsc:SchS s) (q:Qu) (hop:q.op=1) (hIH: ∀x∈q.kids,TypAt 40 s x) (w:World) (hs:s.In w) (hq:q.In w) (hf:FormsAt w) (hopa:OpsAt w) (hsh:w.ShapedOpen Tryd.prog) (hsz:q.size≤1000000) (hwt:q.wt≤1048576) :
  Calls Tryd.prog 40 #[.agg #[.slice s.th.ao s.tabs.length s.th.cap],.agg #[.int .i64 1,.string q.table,.int .i64 q.kind,.bool q.all,.int .i64 q.cond.op,.int .i64 q.cond.typ,.int .i64 q.cond.num,.string q.cond.text,.int .i64 q.cond.col,.slice q.cond.kh.ao q.cond.kids.length q.cond.kh.cap,.slice q.eh.ao q.exprs.length q.eh.cap,.slice q.ah.ao q.aggs.length q.ah.cap,.slice q.types.h.ao q.types.l.length q.types.h.cap,.slice q.rh.ao q.rows.length q.rh.cap,.slice q.qh.ao q.kids.length q.qh.cap]] w fun e w'=>TyOut (FarQ q w) (q.tq s) w' e∧Below w.heap.size w w':=by
 obtain⟨i0,hi,hz0,hz1,hz2⟩:=info_parts info_il;have HI:=ai (And.intro hi (And.intro hz0 (And.intro hz1 hz2)));clear hi hz0 hz1 hz2;have IH:=ai hIH;have HB0:=ai (belAA (w:=w) (.cells #[.slice s.th.ao s.tabs.length s.th.cap] 28) (.cells #[.int .i64 1,.string q.table,.int .i64 q.kind,.bool q.all,.int .i64 q.cond.op,.int .i64 q.cond.typ,.int .i64 q.cond.num,.string q.cond.text,.int .i64 q.cond.col,.slice q.cond.kh.ao q.cond.kids.length q.cond.kh.cap,.slice q.eh.ao q.exprs.length q.eh.cap,.slice q.ah.ao q.aggs.length q.ah.cap,.slice q.types.h.ao q.types.l.length q.types.h.cap,.slice q.rh.ao q.rows.length q.rh.cap,.slice q.qh.ao q.kids.length q.qh.cap] 57))
 have HSB:=ai ((Box.new w #[.slice s.th.ao s.tabs.length s.th.cap] 28).below (belA (.cells #[.int .i64 1,.string q.table,.int .i64 q.kind,.bool q.all,.int .i64 q.cond.op,.int .i64 q.cond.typ,.int .i64 q.cond.num,.string q.cond.text,.int .i64 q.cond.col,.slice q.cond.kh.ao q.cond.kids.length q.cond.kh.cap,.slice q.eh.ao q.exprs.length q.eh.cap,.slice q.ah.ao q.aggs.length q.ah.cap,.slice q.types.h.ao q.types.l.length q.types.h.cap,.slice q.rh.ao q.rows.length q.rh.cap,.slice q.qh.ao q.kids.length q.qh.cap] 57)));have HQB:=ai (Box.new (w.alloc (.cells #[.slice s.th.ao s.tabs.length s.th.cap] 28)) #[.int .i64 1,.string q.table,.int .i64 q.kind,.bool q.all,.int .i64 q.cond.op,.int .i64 q.cond.typ,.int .i64 q.cond.num,.string q.cond.text,.int .i64 q.cond.col,.slice q.cond.kh.ao q.cond.kids.length q.cond.kh.cap,.slice q.eh.ao q.exprs.length q.eh.cap,.slice q.ah.ao q.aggs.length q.ah.cap,.slice q.types.h.ao q.types.l.length q.types.h.cap,.slice q.rh.ao q.rows.length q.rh.cap,.slice q.qh.ao q.kids.length q.qh.cap] 57);simp only [World.size_alloc]at HQB;have HS:=ai (hs.mono HB0.o);have HQ:=ai (hq.mono HB0.o);have HF:=ai (hf.mono HB0.o);have HO:=ai (hopa.mono HB0.o);have HSH:=ai (hsh.keptBut (HB0.o.frame (fun _=>False)) (by simp))
 have HSZ:=ai hsz;have HWT:=ai hwt;have HOP:=ai hop;have HSC:=ai hsc;have hnk:=hq.row.len;have hkl:q.kids.length≤1000000:=Nat.le_trans q.len_le hsz;clear hIH hs hq hf hopa hsh hsz hwt hop hsc
 go_enter Tryd.func40,Tryd.ntmps40;go_upto_region 1 with(fail)
 generalize hWW: (w.alloc (.cells #[.slice s.th.ao s.tabs.length s.th.cap] 28)).alloc (.cells #[.int .i64 1,.string q.table,.int .i64 q.kind,.bool q.all,.int .i64 q.cond.op,.int .i64 q.cond.typ,.int .i64 q.cond.num,.string q.cond.text,.int .i64 q.cond.col,.slice q.cond.kh.ao q.cond.kids.length q.cond.kh.cap,.slice q.eh.ao q.exprs.length q.eh.cap,.slice q.ah.ao q.aggs.length q.ah.cap,.slice q.types.h.ao q.types.l.length q.types.h.cap,.slice q.rh.ao q.rows.length q.rh.cap,.slice q.qh.ao q.kids.length q.qh.cap] 57) =W at *;have HWs:=ai (show w.heap.size≤W.heap.size by rw [←hWW];simp only [World.size_alloc];omega)
 clear hWW;go_wp2;go_loopw [6,7] (fun v i wr=>∃ks:List IL,i = .int .i64 ks.length∧Hid (KT s q ks.length ks)∧Hid (KO q w W wr v ks)) (fun _ i _=>q.kids.length - (intOf i).toNat)
 case atStart=>exact⟨[],rfl,KT.zero s q,KO.zero q w W⟩
 case round=>
  obtain⟨ks,rfl,HK,HKO⟩:=hrel;have hkle:=HK.o.le;have hwl:=HKO.o.bel.size;by_cases hlt:ks.length<q.kids.length
  ·have hlti: (ks.length:Int) <q.kids.length:=by omega
   have HROW:=ai (HQ.o.row.mono HKO.o.bel);have hix:=HROW.o.ix hlt Tryd.underlying55 sz46;obtain⟨⟨k0,k1,k2,k3⟩,⟨k4,k5,k6,k7,k8,k9⟩,k10,k11,k12,k13,k14⟩:=qu_at HROW.o hlt;have hbk:=HROW.o.blk hlt;have HXI:=ai ((HQ.o.kid _ (List.getElem_mem hlt)).mono HKO.o.bel);have HTY:=ai (IH.o _ (List.getElem_mem hlt));have HXS:=ai (Nat.le_trans (Qu.kid_le (List.getElem_mem hlt)) HSZ.o);have HXW:=ai (Nat.le_trans (Qu.wt_kid (List.getElem_mem hlt)) HWT.o);have HMEM:=ai (List.getElem_mem hlt);obtain⟨x,hx⟩ : ∃x,q.kids[ks.length] =x:=⟨_,rfl⟩;have HX:=ai hx;rw [hx]at k0 k1 k2 k3 k4 k5 k6 k7 k8 k9 k10 k11 k12 k13 k14 HXI HTY HXS HXW HMEM;clear hx;have y14:=(HQB.o.below HKO.o.bel).cell (j:=14) rfl
   have hsb:=(HSB.o.below HKO.o.bel).cell (j:=0) rfl
   have HBX:=ai (show Below wr.heap.size wr wr.drew from(Below.refl _ _).drew)
   have HBY:=ai (bT HKO.o.bel HBX.o);obtain⟨v1,htq⟩ : ∃v,(x.tq s).1=v:=⟨_,rfl⟩;have HTQ:=ai htq;clear htq;by_cases hv:v1=0
   ·subst hv
    go_upto_region 5 with(fail)
    go_region_law (first| (go_simp;go_at_call 40;refine(HTY.o _ (HS.o.mono HBY.o) (HXI.o.mono HBX.o) (HF.o.mono HBY.o) (HO.o.mono HBY.o) (HSH.o.keptBut (HBY.o.frame (fun _=>False)) (by simp)) HXS.o HXW.o).mono ?_;rintro e w2 ⟨⟨o,rfl,ho,hoi,hof⟩,hb2⟩;rw [HTQ.o];have HOL:=ai ho;have HOI:=ai hoi;have HOF:=ai hof;have HB2:=ai hb2;have hs2:W.heap.size≤w2.heap.size:=Nat.le_trans HBY.o.size hb2.size;clear ho hoi hof hb2))
    all_goals
     go_wp2_with (first| (at_builtin;refine wpList_append_lies _ rfl _ _ 35 rfl W.heap.size 22 i0 (.slice none 0 0) 1 24 Tryd.underlying35 HI.o.1 HI.o.2.1 HI.o.2.2.1 HI.o.2.2.2 rfl (by decide) _ _ _ rfl ((own_il HKO.o.own (bT HBX.o HB2.o)).alloc _) ⟨w2.heap.size,0,none⟩ 1 1 [.slice o.h.ao o.l.length o.h.cap] rfl rfl (new_cells (l:= [_])) (by intro u hu;rw [List.mem_singleton.1 hu];rfl) (by decide) (by unfold maxLen;omega) (by omega) (by simp only [World.size_alloc];omega) _ rfl ?_;intro g cap w3 hown hgr hat _;have HK3:=ai (HKO.o.snoc HWs.o HMEM.o HQ.o HBX.o HB2.o HOI.o HOF.o hown hgr hat);clear hown hgr hat))
     go_roundw
    all_goals first
     | (case rel=>
       have hl: (ks ++ [o]).length=ks.length+1:=by simp
       refine⟨ks ++ [o],by rw [hl];go_num,?_,?_⟩
       ·rw [hl]
        exact HK.o.snoc hlt (by rw [HX.o,HTQ.o]) (by rw [HX.o];exact HOL.o)
       ·exact HK3.o)
     | (case measure=>simp [intOf];omega)
   ·have HJ:=ai (tq_kid hlt HK.o.no (v:=v1) (by rw [HX.o,HTQ.o]) hv)
    have hv2: (v1 != 0) =true:=bne_iff_ne.2 hv;clear hv;go_upto_region 5 with(fail)
    go_region_law (first| (go_simp;go_at_call 40;refine(HTY.o _ (HS.o.mono HBY.o) (HXI.o.mono HBX.o) (HF.o.mono HBY.o) (HO.o.mono HBY.o) (HSH.o.keptBut (HBY.o.frame (fun _=>False)) (by simp)) HXS.o HXW.o).mono ?_;rintro e w2 ⟨⟨o,rfl,ho,hoi,hof⟩,hb2⟩;rw [HTQ.o];have HOL:=ai ho;have HOI:=ai hoi;have HOF:=ai hof;have HB2:=ai hb2;have hs2:W.heap.size≤w2.heap.size:=Nat.le_trans HBY.o.size hb2.size;clear ho hoi hof hb2))
    all_goals
     go_wp2
     go_ret2
     exact⟨TyOut.no rfl HJ.o,HB0.o.trans ((bT HBY.o HB2.o).mono HB0.o.size)⟩
  ·have hlti: ¬(ks.length:Int) <q.kids.length:=by omega
   obtain⟨hal0,halT,hall⟩:=HK.o.all hlt;have HAL0:=ai hal0;have HALT:=ai halT;have HALL:=ai hall;clear hal0 halT hall;obtain⟨hd,rfl,hrow⟩:=HKO.o.row;have hkm:=hrow.len;have HRK:=ai hrow;have HBW:=ai HKO.o.bel;clear hrow;have y0:=(HQB.o.below HBW.o).cell (j:=0) rfl
   have y1:=(HQB.o.below HBW.o).cell (j:=1) rfl
   have y2:=(HQB.o.below HBW.o).cell (j:=2) rfl
   have y3:=(HQB.o.below HBW.o).cell (j:=3) rfl
   have y4:=(HQB.o.below HBW.o).cell (j:=4) rfl
   have y5:=(HQB.o.below HBW.o).cell (j:=5) rfl
   have y6:=(HQB.o.below HBW.o).cell (j:=6) rfl
   have y7:=(HQB.o.below HBW.o).cell (j:=7) rfl
   have y8:=(HQB.o.below HBW.o).cell (j:=8) rfl
   have y9:=(HQB.o.below HBW.o).cell (j:=9) rfl
   have y10:=(HQB.o.below HBW.o).cell (j:=10) rfl
   have y11:=(HQB.o.below HBW.o).cell (j:=11) rfl
   have y12:=(HQB.o.below HBW.o).cell (j:=12) rfl
   have y13:=(HQB.o.below HBW.o).cell (j:=13) rfl
   have y14:=(HQB.o.below HBW.o).cell (j:=14) rfl
   obtain⟨pb,hpb⟩ : ∃b,plainB q=b:=⟨_,rfl⟩;have HPB:=ai hpb;clear hpb
   cases pb
   ·go_wp2_with (first
     | (go_at_call 70;refine(plainAt_1 q HOP.o _ (HQ.o.mono HBW.o).flat.cd).mono ?_;rintro e w1 ⟨rfl,hb1⟩;rw [HPB.o];have HC1:=ai hb1;have HB1:=ai (bT HBW.o hb1);clear y0 y1 y2 y3 y4 y5 y6 y7 y8 y9 y10 y11 y12 y13 y14 hb1;have z0:=(HQB.o.below HB1.o).cell (j:=0) rfl)
     | (go_at_call 71;refine(kidsAt_1 _).mono ?_;rintro e w2 ⟨rfl,hb2⟩;have HC2:=ai (bT HC1.o hb2);have HB2:=ai (bT HB1.o hb2);clear z0 hb2;have v0:=(HQB.o.below HB2.o).cell (j:=0) rfl;skip))
    go_ret2
    exact⟨TyOut.no rfl (tq_no HAL0.o HPB.o),HB0.o.trans (HB1.o.mono HB0.o.size)⟩
   by_cases hkn:ks.length=0
   case neg=>
    have hkn2: ((ks.length:Int) != 0) =true:=bne_iff_ne.2 (by omega)
    have HJ:=ai (tq_ar HAL0.o HPB.o (by rw [←HALL.o,HOP.o];exact hkn))
    clear hkn;go_wp2_with (first
     | (go_at_call 70;refine(plainAt_1 q HOP.o _ (HQ.o.mono HBW.o).flat.cd).mono ?_;rintro e w1 ⟨rfl,hb1⟩;rw [HPB.o];have HC1:=ai hb1;have HB1:=ai (bT HBW.o hb1);clear y0 y1 y2 y3 y4 y5 y6 y7 y8 y9 y10 y11 y12 y13 y14 hb1;have z0:=(HQB.o.below HB1.o).cell (j:=0) rfl)
     | (go_at_call 71;refine(kidsAt_1 _).mono ?_;rintro e w2 ⟨rfl,hb2⟩;have HC2:=ai (bT HC1.o hb2);have HB2:=ai (bT HB1.o hb2);clear z0 hb2;have v0:=(HQB.o.below HB2.o).cell (j:=0) rfl;skip))
    go_ret2
    exact⟨TyOut.no rfl HJ.o,HB0.o.trans (HB2.o.mono HB0.o.size)⟩
   case pos=>
   have HOPK:=ai ((tq_ok HAL0.o HPB.o (by rw [←HALL.o,HOP.o];exact hkn) HALT.o).trans (opK_1 HOP.o))
   have hkn2: ((ks.length:Int) != 0) =false:=by rw [hkn];rfl
   have HKN:=ai hkn;clear hkn;obtain⟨fb,hfb⟩ : ∃b,fok (named q.table) s.tabs=b:=⟨_,rfl⟩;have HFO:=ai hfb
   cases fb
   ·have HJ:=ai (show q.tq s= (11,[]) by rw [HOPK.o,hfb,if_neg (by simp)])
    clear hfb;go_wp2_with (first
     | (go_at_call 70;refine(plainAt_1 q HOP.o _ (HQ.o.mono HBW.o).flat.cd).mono ?_;rintro e w1 ⟨rfl,hb1⟩;rw [HPB.o];have HC1:=ai hb1;have HB1:=ai (bT HBW.o hb1);clear y0 y1 y2 y3 y4 y5 y6 y7 y8 y9 y10 y11 y12 y13 y14 hb1;have z0:=(HQB.o.below HB1.o).cell (j:=0) rfl)
     | (go_at_call 71;refine(kidsAt_1 _).mono ?_;rintro e w2 ⟨rfl,hb2⟩;have HC2:=ai (bT HC1.o hb2);have HB2:=ai (bT HB1.o hb2);clear z0 hb2;have v0:=(HQB.o.below HB2.o).cell (j:=0) rfl;have v1:=(HQB.o.below HB2.o).cell (j:=1) rfl;have x2:=(HSB.o.below HB2.o).cell (j:=0) rfl;skip)
     | (go_at_call 26;refine(rfind_any s _ _ (HS.o.mono HB2.o)).mono ?_;rintro e w3 ⟨rfl,hb3⟩;rw [HFO.o];have HB3:=ai (bT HB2.o hb3);clear hb3))
    go_ret2
    exact⟨TyOut.no rfl HJ.o,HB0.o.trans (HB3.o.mono HB0.o.size)⟩
   ·obtain⟨k,hk,hfi⟩:=fok_at hfb
    have HFI:=ai hfi;have HJ:=ai (show q.tq s= (0,s.tabs[k].cols.map Col.typ) by rw [HOPK.o,hfb,if_pos rfl,scan_ty hk _ hfi])
    have hcl:=HSC.o _ (List.getElem_mem hk);have hkm2:=HS.o.rt.len;clear hfb hfi;go_wp2_with (first
     | (go_at_call 70;refine(plainAt_1 q HOP.o _ (HQ.o.mono HBW.o).flat.cd).mono ?_;rintro e w1 ⟨rfl,hb1⟩;rw [HPB.o];have HC1:=ai hb1;have HB1:=ai (bT HBW.o hb1);clear y0 y1 y2 y3 y4 y5 y6 y7 y8 y9 y10 y11 y12 y13 y14 hb1;have z0:=(HQB.o.below HB1.o).cell (j:=0) rfl)
     | (go_at_call 71;refine(kidsAt_1 _).mono ?_;rintro e w2 ⟨rfl,hb2⟩;have HC2:=ai (bT HC1.o hb2);have HB2:=ai (bT HB1.o hb2);clear z0 hb2;have v0:=(HQB.o.below HB2.o).cell (j:=0) rfl;have v1:=(HQB.o.below HB2.o).cell (j:=1) rfl;have x2:=(HSB.o.below HB2.o).cell (j:=0) rfl;skip)
     | (go_at_call 26;refine(rfind_any s _ _ (HS.o.mono HB2.o)).mono ?_;rintro e w3 ⟨rfl,hb3⟩;rw [HFO.o,HFI.o];have HB3:=ai (bT HB2.o hb3);clear hb3 v0 v1 x2;have x3:=(HSB.o.below HB3.o).cell (j:=0) rfl;have HS3:=ai (HS.o.mono HB3.o);have hix:=HS3.o.rt.ix hk Tryd.underlying26 sz22;obtain⟨c0,c1,c2,c3,c4,c5⟩:=tab_at HS3.o.rt hk;have hbk:=HS3.o.rt.blk hk)
     | (go_at_call 20;refine(rtypes_new s.tabs[k] _ (HS3.o.ts _ (List.getElem_mem hk)) hcl).mono ?_;rintro e w4 ⟨⟨r,rfl,hr,hri,hrn⟩,hb4⟩;have HR:=ai hr;have HRI:=ai hri;have HRN:=ai hrn;have HB4:=ai (bT HB3.o hb4);clear hr hri hrn hb4))
    go_ret2
    exact⟨TyOut.yes (o:=r) rfl HRI.o (fun hp=>FarQ.new (by have h1:=HRN.o hp;have h2:=HB3.o.size;have h3:=HWs.o;omega)) (by rw [HJ.o,HR.o]),HB0.o.trans (HB4.o.mono HB0.o.size)⟩
end Go.Proofs.YtogalchclmmfgaaDoor
namespace Go.Proofs.YtogalchclmmfgaaDoor
open Go.RowKit
theorem typed_2 (s:Sch) (hsc:SchS s) (q:Qu) (hop:q.op=2) (hIH: ∀x∈q.kids,TypAt 40 s x) (w:World) (hs:s.In w) (hq:q.In w) (hf:FormsAt w) (hopa:OpsAt w) (hsh:w.ShapedOpen Tryd.prog) (hsz:q.size≤1000000) (hwt:q.wt≤1048576) :
  Calls Tryd.prog 40 #[.agg #[.slice s.th.ao s.tabs.length s.th.cap],.agg #[.int .i64 2,.string q.table,.int .i64 q.kind,.bool q.all,.int .i64 q.cond.op,.int .i64 q.cond.typ,.int .i64 q.cond.num,.string q.cond.text,.int .i64 q.cond.col,.slice q.cond.kh.ao q.cond.kids.length q.cond.kh.cap,.slice q.eh.ao q.exprs.length q.eh.cap,.slice q.ah.ao q.aggs.length q.ah.cap,.slice q.types.h.ao q.types.l.length q.types.h.cap,.slice q.rh.ao q.rows.length q.rh.cap,.slice q.qh.ao q.kids.length q.qh.cap]] w fun e w'=>TyOut (FarQ q w) (q.tq s) w' e∧Below w.heap.size w w':=by
 obtain⟨i0,hi,hz0,hz1,hz2⟩:=info_parts info_il;have HI:=ai (And.intro hi (And.intro hz0 (And.intro hz1 hz2)));clear hi hz0 hz1 hz2;have IH:=ai hIH;have HB0:=ai (belAA (w:=w) (.cells #[.slice s.th.ao s.tabs.length s.th.cap] 28) (.cells #[.int .i64 2,.string q.table,.int .i64 q.kind,.bool q.all,.int .i64 q.cond.op,.int .i64 q.cond.typ,.int .i64 q.cond.num,.string q.cond.text,.int .i64 q.cond.col,.slice q.cond.kh.ao q.cond.kids.length q.cond.kh.cap,.slice q.eh.ao q.exprs.length q.eh.cap,.slice q.ah.ao q.aggs.length q.ah.cap,.slice q.types.h.ao q.types.l.length q.types.h.cap,.slice q.rh.ao q.rows.length q.rh.cap,.slice q.qh.ao q.kids.length q.qh.cap] 57))
 have HSB:=ai ((Box.new w #[.slice s.th.ao s.tabs.length s.th.cap] 28).below (belA (.cells #[.int .i64 2,.string q.table,.int .i64 q.kind,.bool q.all,.int .i64 q.cond.op,.int .i64 q.cond.typ,.int .i64 q.cond.num,.string q.cond.text,.int .i64 q.cond.col,.slice q.cond.kh.ao q.cond.kids.length q.cond.kh.cap,.slice q.eh.ao q.exprs.length q.eh.cap,.slice q.ah.ao q.aggs.length q.ah.cap,.slice q.types.h.ao q.types.l.length q.types.h.cap,.slice q.rh.ao q.rows.length q.rh.cap,.slice q.qh.ao q.kids.length q.qh.cap] 57)));have HQB:=ai (Box.new (w.alloc (.cells #[.slice s.th.ao s.tabs.length s.th.cap] 28)) #[.int .i64 2,.string q.table,.int .i64 q.kind,.bool q.all,.int .i64 q.cond.op,.int .i64 q.cond.typ,.int .i64 q.cond.num,.string q.cond.text,.int .i64 q.cond.col,.slice q.cond.kh.ao q.cond.kids.length q.cond.kh.cap,.slice q.eh.ao q.exprs.length q.eh.cap,.slice q.ah.ao q.aggs.length q.ah.cap,.slice q.types.h.ao q.types.l.length q.types.h.cap,.slice q.rh.ao q.rows.length q.rh.cap,.slice q.qh.ao q.kids.length q.qh.cap] 57);simp only [World.size_alloc]at HQB;have HS:=ai (hs.mono HB0.o);have HQ:=ai (hq.mono HB0.o);have HF:=ai (hf.mono HB0.o);have HO:=ai (hopa.mono HB0.o);have HSH:=ai (hsh.keptBut (HB0.o.frame (fun _=>False)) (by simp))
 have HSZ:=ai hsz;have HWT:=ai hwt;have HOP:=ai hop;have HSC:=ai hsc;have hnk:=hq.row.len;have hkl:q.kids.length≤1000000:=Nat.le_trans q.len_le hsz;clear hIH hs hq hf hopa hsh hsz hwt hop hsc
 go_enter Tryd.func40,Tryd.ntmps40;go_upto_region 1 with(fail)
 generalize hWW: (w.alloc (.cells #[.slice s.th.ao s.tabs.length s.th.cap] 28)).alloc (.cells #[.int .i64 2,.string q.table,.int .i64 q.kind,.bool q.all,.int .i64 q.cond.op,.int .i64 q.cond.typ,.int .i64 q.cond.num,.string q.cond.text,.int .i64 q.cond.col,.slice q.cond.kh.ao q.cond.kids.length q.cond.kh.cap,.slice q.eh.ao q.exprs.length q.eh.cap,.slice q.ah.ao q.aggs.length q.ah.cap,.slice q.types.h.ao q.types.l.length q.types.h.cap,.slice q.rh.ao q.rows.length q.rh.cap,.slice q.qh.ao q.kids.length q.qh.cap] 57) =W at *;have HWs:=ai (show w.heap.size≤W.heap.size by rw [←hWW];simp only [World.size_alloc];omega)
 clear hWW;go_wp2;go_loopw [6,7] (fun v i wr=>∃ks:List IL,i = .int .i64 ks.length∧Hid (KT s q ks.length ks)∧Hid (KO q w W wr v ks)) (fun _ i _=>q.kids.length - (intOf i).toNat)
 case atStart=>exact⟨[],rfl,KT.zero s q,KO.zero q w W⟩
 case round=>
  obtain⟨ks,rfl,HK,HKO⟩:=hrel;have hkle:=HK.o.le;have hwl:=HKO.o.bel.size;by_cases hlt:ks.length<q.kids.length
  ·have hlti: (ks.length:Int) <q.kids.length:=by omega
   have HROW:=ai (HQ.o.row.mono HKO.o.bel);have hix:=HROW.o.ix hlt Tryd.underlying55 sz46;obtain⟨⟨k0,k1,k2,k3⟩,⟨k4,k5,k6,k7,k8,k9⟩,k10,k11,k12,k13,k14⟩:=qu_at HROW.o hlt;have hbk:=HROW.o.blk hlt;have HXI:=ai ((HQ.o.kid _ (List.getElem_mem hlt)).mono HKO.o.bel);have HTY:=ai (IH.o _ (List.getElem_mem hlt));have HXS:=ai (Nat.le_trans (Qu.kid_le (List.getElem_mem hlt)) HSZ.o);have HXW:=ai (Nat.le_trans (Qu.wt_kid (List.getElem_mem hlt)) HWT.o);have HMEM:=ai (List.getElem_mem hlt);obtain⟨x,hx⟩ : ∃x,q.kids[ks.length] =x:=⟨_,rfl⟩;have HX:=ai hx;rw [hx]at k0 k1 k2 k3 k4 k5 k6 k7 k8 k9 k10 k11 k12 k13 k14 HXI HTY HXS HXW HMEM;clear hx;have y14:=(HQB.o.below HKO.o.bel).cell (j:=14) rfl
   have hsb:=(HSB.o.below HKO.o.bel).cell (j:=0) rfl
   have HBX:=ai (show Below wr.heap.size wr wr.drew from(Below.refl _ _).drew)
   have HBY:=ai (bT HKO.o.bel HBX.o);obtain⟨v1,htq⟩ : ∃v,(x.tq s).1=v:=⟨_,rfl⟩;have HTQ:=ai htq;clear htq;by_cases hv:v1=0
   ·subst hv
    go_upto_region 5 with(fail)
    go_region_law (first| (go_simp;go_at_call 40;refine(HTY.o _ (HS.o.mono HBY.o) (HXI.o.mono HBX.o) (HF.o.mono HBY.o) (HO.o.mono HBY.o) (HSH.o.keptBut (HBY.o.frame (fun _=>False)) (by simp)) HXS.o HXW.o).mono ?_;rintro e w2 ⟨⟨o,rfl,ho,hoi,hof⟩,hb2⟩;rw [HTQ.o];have HOL:=ai ho;have HOI:=ai hoi;have HOF:=ai hof;have HB2:=ai hb2;have hs2:W.heap.size≤w2.heap.size:=Nat.le_trans HBY.o.size hb2.size;clear ho hoi hof hb2))
    all_goals
     go_wp2_with (first| (at_builtin;refine wpList_append_lies _ rfl _ _ 35 rfl W.heap.size 22 i0 (.slice none 0 0) 1 24 Tryd.underlying35 HI.o.1 HI.o.2.1 HI.o.2.2.1 HI.o.2.2.2 rfl (by decide) _ _ _ rfl ((own_il HKO.o.own (bT HBX.o HB2.o)).alloc _) ⟨w2.heap.size,0,none⟩ 1 1 [.slice o.h.ao o.l.length o.h.cap] rfl rfl (new_cells (l:= [_])) (by intro u hu;rw [List.mem_singleton.1 hu];rfl) (by decide) (by unfold maxLen;omega) (by omega) (by simp only [World.size_alloc];omega) _ rfl ?_;intro g cap w3 hown hgr hat _;have HK3:=ai (HKO.o.snoc HWs.o HMEM.o HQ.o HBX.o HB2.o HOI.o HOF.o hown hgr hat);clear hown hgr hat))
     go_roundw
    all_goals first
     | (case rel=>
       have hl: (ks ++ [o]).length=ks.length+1:=by simp
       refine⟨ks ++ [o],by rw [hl];go_num,?_,?_⟩
       ·rw [hl]
        exact HK.o.snoc hlt (by rw [HX.o,HTQ.o]) (by rw [HX.o];exact HOL.o)
       ·exact HK3.o)
     | (case measure=>simp [intOf];omega)
   ·have HJ:=ai (tq_kid hlt HK.o.no (v:=v1) (by rw [HX.o,HTQ.o]) hv)
    have hv2: (v1 != 0) =true:=bne_iff_ne.2 hv;clear hv;go_upto_region 5 with(fail)
    go_region_law (first| (go_simp;go_at_call 40;refine(HTY.o _ (HS.o.mono HBY.o) (HXI.o.mono HBX.o) (HF.o.mono HBY.o) (HO.o.mono HBY.o) (HSH.o.keptBut (HBY.o.frame (fun _=>False)) (by simp)) HXS.o HXW.o).mono ?_;rintro e w2 ⟨⟨o,rfl,ho,hoi,hof⟩,hb2⟩;rw [HTQ.o];have HOL:=ai ho;have HOI:=ai hoi;have HOF:=ai hof;have HB2:=ai hb2;have hs2:W.heap.size≤w2.heap.size:=Nat.le_trans HBY.o.size hb2.size;clear ho hoi hof hb2))
    all_goals
     go_wp2
     go_ret2
     exact⟨TyOut.no rfl HJ.o,HB0.o.trans ((bT HBY.o HB2.o).mono HB0.o.size)⟩
  ·have hlti: ¬(ks.length:Int) <q.kids.length:=by omega
   obtain⟨hal0,halT,hall⟩:=HK.o.all hlt;have HAL0:=ai hal0;have HALT:=ai halT;have HALL:=ai hall;clear hal0 halT hall;obtain⟨hd,rfl,hrow⟩:=HKO.o.row;have hkm:=hrow.len;have HRK:=ai hrow;have HBW:=ai HKO.o.bel;clear hrow;have y0:=(HQB.o.below HBW.o).cell (j:=0) rfl
   have y1:=(HQB.o.below HBW.o).cell (j:=1) rfl
   have y2:=(HQB.o.below HBW.o).cell (j:=2) rfl
   have y3:=(HQB.o.below HBW.o).cell (j:=3) rfl
   have y4:=(HQB.o.below HBW.o).cell (j:=4) rfl
   have y5:=(HQB.o.below HBW.o).cell (j:=5) rfl
   have y6:=(HQB.o.below HBW.o).cell (j:=6) rfl
   have y7:=(HQB.o.below HBW.o).cell (j:=7) rfl
   have y8:=(HQB.o.below HBW.o).cell (j:=8) rfl
   have y9:=(HQB.o.below HBW.o).cell (j:=9) rfl
   have y10:=(HQB.o.below HBW.o).cell (j:=10) rfl
   have y11:=(HQB.o.below HBW.o).cell (j:=11) rfl
   have y12:=(HQB.o.below HBW.o).cell (j:=12) rfl
   have y13:=(HQB.o.below HBW.o).cell (j:=13) rfl
   have y14:=(HQB.o.below HBW.o).cell (j:=14) rfl
   obtain⟨pb,hpb⟩ : ∃b,plainB q=b:=⟨_,rfl⟩;have HPB:=ai hpb;clear hpb
   cases pb
   ·go_wp2_with (first
     | (go_at_call 70;refine(plainAt_2 q HOP.o _ (HQ.o.mono HBW.o).flat.cd).mono ?_;rintro e w1 ⟨rfl,hb1⟩;rw [HPB.o];have HC1:=ai hb1;have HB1:=ai (bT HBW.o hb1);clear y0 y1 y2 y3 y4 y5 y6 y7 y8 y9 y10 y11 y12 y13 y14 hb1;have z0:=(HQB.o.below HB1.o).cell (j:=0) rfl)
     | (go_at_call 71;refine(kidsAt_2 _).mono ?_;rintro e w2 ⟨rfl,hb2⟩;have HC2:=ai (bT HC1.o hb2);have HB2:=ai (bT HB1.o hb2);clear z0 hb2;have v0:=(HQB.o.below HB2.o).cell (j:=0) rfl;skip))
    go_ret2
    exact⟨TyOut.no rfl (tq_no HAL0.o HPB.o),HB0.o.trans (HB1.o.mono HB0.o.size)⟩
   by_cases hkn:ks.length=0
   case neg=>
    have hkn2: ((ks.length:Int) != 0) =true:=bne_iff_ne.2 (by omega)
    have HJ:=ai (tq_ar HAL0.o HPB.o (by rw [←HALL.o,HOP.o];exact hkn))
    clear hkn;go_wp2_with (first
     | (go_at_call 70;refine(plainAt_2 q HOP.o _ (HQ.o.mono HBW.o).flat.cd).mono ?_;rintro e w1 ⟨rfl,hb1⟩;rw [HPB.o];have HC1:=ai hb1;have HB1:=ai (bT HBW.o hb1);clear y0 y1 y2 y3 y4 y5 y6 y7 y8 y9 y10 y11 y12 y13 y14 hb1;have z0:=(HQB.o.below HB1.o).cell (j:=0) rfl)
     | (go_at_call 71;refine(kidsAt_2 _).mono ?_;rintro e w2 ⟨rfl,hb2⟩;have HC2:=ai (bT HC1.o hb2);have HB2:=ai (bT HB1.o hb2);clear z0 hb2;have v0:=(HQB.o.below HB2.o).cell (j:=0) rfl;skip))
    go_ret2
    exact⟨TyOut.no rfl HJ.o,HB0.o.trans (HB2.o.mono HB0.o.size)⟩
   case pos=>
   have HOPK:=ai ((tq_ok HAL0.o HPB.o (by rw [←HALL.o,HOP.o];exact hkn) HALT.o).trans (opK_2 HOP.o))
   have hkn2: ((ks.length:Int) != 0) =false:=by rw [hkn];rfl
   have HKN:=ai hkn;clear hkn;obtain⟨x,hx⟩ : ∃x,valsE q=x:=⟨_,rfl⟩;have HX:=ai hx;by_cases hx0:x=0
   ·subst hx0
    have HJ:=ai (show q.tq s= (0,q.types.l) by rw [HOPK.o,hx,if_pos rfl])
    clear hx;go_wp2_with (first
     | (go_at_call 70;refine(plainAt_2 q HOP.o _ (HQ.o.mono HBW.o).flat.cd).mono ?_;rintro e w1 ⟨rfl,hb1⟩;rw [HPB.o];have HC1:=ai hb1;have HB1:=ai (bT HBW.o hb1);clear y0 y1 y2 y3 y4 y5 y6 y7 y8 y9 y10 y11 y12 y13 y14 hb1;have z0:=(HQB.o.below HB1.o).cell (j:=0) rfl)
     | (go_at_call 71;refine(kidsAt_2 _).mono ?_;rintro e w2 ⟨rfl,hb2⟩;have HC2:=ai (bT HC1.o hb2);have HB2:=ai (bT HB1.o hb2);clear z0 hb2;have v0:=(HQB.o.below HB2.o).cell (j:=0) rfl;have v1:=(HQB.o.below HB2.o).cell (j:=1) rfl;have v2:=(HQB.o.below HB2.o).cell (j:=2) rfl;have v3:=(HQB.o.below HB2.o).cell (j:=3) rfl;have v4:=(HQB.o.below HB2.o).cell (j:=4) rfl;have v5:=(HQB.o.below HB2.o).cell (j:=5) rfl;have v6:=(HQB.o.below HB2.o).cell (j:=6) rfl;have v7:=(HQB.o.below HB2.o).cell (j:=7) rfl;have v8:=(HQB.o.below HB2.o).cell (j:=8) rfl;have v9:=(HQB.o.below HB2.o).cell (j:=9) rfl;have v10:=(HQB.o.below HB2.o).cell (j:=10) rfl;have v11:=(HQB.o.below HB2.o).cell (j:=11) rfl;have v12:=(HQB.o.below HB2.o).cell (j:=12) rfl;have v13:=(HQB.o.below HB2.o).cell (j:=13) rfl;have v14:=(HQB.o.below HB2.o).cell (j:=14) rfl;skip)
     | (go_at_call 72;refine(rvalsAt q HOP.o _ (HQ.o.mono HB2.o).flat).mono ?_;rintro e w3 ⟨h| ⟨-,rfl⟩,hb3⟩;(exact absurd HX.o h.1);have HB3:=ai (bT HB2.o hb3);clear v0 v1 v2 v3 v4 v5 v6 v7 v8 v9 v10 v11 v12 v13 v14 hb3))
    go_ret2
    exact⟨TyOut.yes (o:=q.types) rfl (HQ.o.mono HB3.o).flat.ty (fun hp u hu _=>.inl (il_lt hu.flat.ty hp)) HJ.o,HB0.o.trans (HB3.o.mono HB0.o.size)⟩
   ·have HJ:=ai (show q.tq s= (x,[]) by rw [HOPK.o,hx,if_neg hx0])
    have HX0:=ai hx0;clear hx hx0;go_wp2_with (first
     | (go_at_call 70;refine(plainAt_2 q HOP.o _ (HQ.o.mono HBW.o).flat.cd).mono ?_;rintro e w1 ⟨rfl,hb1⟩;rw [HPB.o];have HC1:=ai hb1;have HB1:=ai (bT HBW.o hb1);clear y0 y1 y2 y3 y4 y5 y6 y7 y8 y9 y10 y11 y12 y13 y14 hb1;have z0:=(HQB.o.below HB1.o).cell (j:=0) rfl)
     | (go_at_call 71;refine(kidsAt_2 _).mono ?_;rintro e w2 ⟨rfl,hb2⟩;have HC2:=ai (bT HC1.o hb2);have HB2:=ai (bT HB1.o hb2);clear z0 hb2;have v0:=(HQB.o.below HB2.o).cell (j:=0) rfl;have v1:=(HQB.o.below HB2.o).cell (j:=1) rfl;have v2:=(HQB.o.below HB2.o).cell (j:=2) rfl;have v3:=(HQB.o.below HB2.o).cell (j:=3) rfl;have v4:=(HQB.o.below HB2.o).cell (j:=4) rfl;have v5:=(HQB.o.below HB2.o).cell (j:=5) rfl;have v6:=(HQB.o.below HB2.o).cell (j:=6) rfl;have v7:=(HQB.o.below HB2.o).cell (j:=7) rfl;have v8:=(HQB.o.below HB2.o).cell (j:=8) rfl;have v9:=(HQB.o.below HB2.o).cell (j:=9) rfl;have v10:=(HQB.o.below HB2.o).cell (j:=10) rfl;have v11:=(HQB.o.below HB2.o).cell (j:=11) rfl;have v12:=(HQB.o.below HB2.o).cell (j:=12) rfl;have v13:=(HQB.o.below HB2.o).cell (j:=13) rfl;have v14:=(HQB.o.below HB2.o).cell (j:=14) rfl;skip)
     | (go_at_call 72;refine(rvalsAt q HOP.o _ (HQ.o.mono HB2.o).flat).mono ?_;rintro e w3 ⟨⟨-,rfl⟩ |h,hb3⟩;rotate_left;(exact absurd (HX.o.symm.trans h.1) HX0.o);rw [HX.o];have HB3:=ai (bT HB2.o hb3);clear v0 v1 v2 v3 v4 v5 v6 v7 v8 v9 v10 v11 v12 v13 v14 hb3))
    go_ret2
    exact⟨TyOut.no rfl HJ.o,HB0.o.trans (HB3.o.mono HB0.o.size)⟩
end Go.Proofs.YtogalchclmmfgaaDoor
namespace Go.Proofs.YtogalchclmmfgaaDoor
open Go.RowKit
theorem typed_3 (s:Sch) (hsc:SchS s) (q:Qu) (hop:q.op=3) (hIH: ∀x∈q.kids,TypAt 40 s x) (w:World) (hs:s.In w) (hq:q.In w) (hf:FormsAt w) (hopa:OpsAt w) (hsh:w.ShapedOpen Tryd.prog) (hsz:q.size≤1000000) (hwt:q.wt≤1048576) :
  Calls Tryd.prog 40 #[.agg #[.slice s.th.ao s.tabs.length s.th.cap],.agg #[.int .i64 3,.string q.table,.int .i64 q.kind,.bool q.all,.int .i64 q.cond.op,.int .i64 q.cond.typ,.int .i64 q.cond.num,.string q.cond.text,.int .i64 q.cond.col,.slice q.cond.kh.ao q.cond.kids.length q.cond.kh.cap,.slice q.eh.ao q.exprs.length q.eh.cap,.slice q.ah.ao q.aggs.length q.ah.cap,.slice q.types.h.ao q.types.l.length q.types.h.cap,.slice q.rh.ao q.rows.length q.rh.cap,.slice q.qh.ao q.kids.length q.qh.cap]] w fun e w'=>TyOut (FarQ q w) (q.tq s) w' e∧Below w.heap.size w w':=by
 obtain⟨i0,hi,hz0,hz1,hz2⟩:=info_parts info_il;have HI:=ai (And.intro hi (And.intro hz0 (And.intro hz1 hz2)));clear hi hz0 hz1 hz2;have IH:=ai hIH;have HB0:=ai (belAA (w:=w) (.cells #[.slice s.th.ao s.tabs.length s.th.cap] 28) (.cells #[.int .i64 3,.string q.table,.int .i64 q.kind,.bool q.all,.int .i64 q.cond.op,.int .i64 q.cond.typ,.int .i64 q.cond.num,.string q.cond.text,.int .i64 q.cond.col,.slice q.cond.kh.ao q.cond.kids.length q.cond.kh.cap,.slice q.eh.ao q.exprs.length q.eh.cap,.slice q.ah.ao q.aggs.length q.ah.cap,.slice q.types.h.ao q.types.l.length q.types.h.cap,.slice q.rh.ao q.rows.length q.rh.cap,.slice q.qh.ao q.kids.length q.qh.cap] 57))
 have HSB:=ai ((Box.new w #[.slice s.th.ao s.tabs.length s.th.cap] 28).below (belA (.cells #[.int .i64 3,.string q.table,.int .i64 q.kind,.bool q.all,.int .i64 q.cond.op,.int .i64 q.cond.typ,.int .i64 q.cond.num,.string q.cond.text,.int .i64 q.cond.col,.slice q.cond.kh.ao q.cond.kids.length q.cond.kh.cap,.slice q.eh.ao q.exprs.length q.eh.cap,.slice q.ah.ao q.aggs.length q.ah.cap,.slice q.types.h.ao q.types.l.length q.types.h.cap,.slice q.rh.ao q.rows.length q.rh.cap,.slice q.qh.ao q.kids.length q.qh.cap] 57)));have HQB:=ai (Box.new (w.alloc (.cells #[.slice s.th.ao s.tabs.length s.th.cap] 28)) #[.int .i64 3,.string q.table,.int .i64 q.kind,.bool q.all,.int .i64 q.cond.op,.int .i64 q.cond.typ,.int .i64 q.cond.num,.string q.cond.text,.int .i64 q.cond.col,.slice q.cond.kh.ao q.cond.kids.length q.cond.kh.cap,.slice q.eh.ao q.exprs.length q.eh.cap,.slice q.ah.ao q.aggs.length q.ah.cap,.slice q.types.h.ao q.types.l.length q.types.h.cap,.slice q.rh.ao q.rows.length q.rh.cap,.slice q.qh.ao q.kids.length q.qh.cap] 57);simp only [World.size_alloc]at HQB;have HS:=ai (hs.mono HB0.o);have HQ:=ai (hq.mono HB0.o);have HF:=ai (hf.mono HB0.o);have HO:=ai (hopa.mono HB0.o);have HSH:=ai (hsh.keptBut (HB0.o.frame (fun _=>False)) (by simp))
 have HSZ:=ai hsz;have HWT:=ai hwt;have HOP:=ai hop;have HSC:=ai hsc;have hnk:=hq.row.len;have hkl:q.kids.length≤1000000:=Nat.le_trans q.len_le hsz;clear hIH hs hq hf hopa hsh hsz hwt hop hsc
 go_enter Tryd.func40,Tryd.ntmps40;go_upto_region 1 with(fail)
 generalize hWW: (w.alloc (.cells #[.slice s.th.ao s.tabs.length s.th.cap] 28)).alloc (.cells #[.int .i64 3,.string q.table,.int .i64 q.kind,.bool q.all,.int .i64 q.cond.op,.int .i64 q.cond.typ,.int .i64 q.cond.num,.string q.cond.text,.int .i64 q.cond.col,.slice q.cond.kh.ao q.cond.kids.length q.cond.kh.cap,.slice q.eh.ao q.exprs.length q.eh.cap,.slice q.ah.ao q.aggs.length q.ah.cap,.slice q.types.h.ao q.types.l.length q.types.h.cap,.slice q.rh.ao q.rows.length q.rh.cap,.slice q.qh.ao q.kids.length q.qh.cap] 57) =W at *;have HWs:=ai (show w.heap.size≤W.heap.size by rw [←hWW];simp only [World.size_alloc];omega)
 clear hWW;go_wp2;go_loopw [6,7] (fun v i wr=>∃ks:List IL,i = .int .i64 ks.length∧Hid (KT s q ks.length ks)∧Hid (KO q w W wr v ks)) (fun _ i _=>q.kids.length - (intOf i).toNat)
 case atStart=>exact⟨[],rfl,KT.zero s q,KO.zero q w W⟩
 case round=>
  obtain⟨ks,rfl,HK,HKO⟩:=hrel;have hkle:=HK.o.le;have hwl:=HKO.o.bel.size;by_cases hlt:ks.length<q.kids.length
  ·have hlti: (ks.length:Int) <q.kids.length:=by omega
   have HROW:=ai (HQ.o.row.mono HKO.o.bel);have hix:=HROW.o.ix hlt Tryd.underlying55 sz46;obtain⟨⟨k0,k1,k2,k3⟩,⟨k4,k5,k6,k7,k8,k9⟩,k10,k11,k12,k13,k14⟩:=qu_at HROW.o hlt;have hbk:=HROW.o.blk hlt;have HXI:=ai ((HQ.o.kid _ (List.getElem_mem hlt)).mono HKO.o.bel);have HTY:=ai (IH.o _ (List.getElem_mem hlt));have HXS:=ai (Nat.le_trans (Qu.kid_le (List.getElem_mem hlt)) HSZ.o);have HXW:=ai (Nat.le_trans (Qu.wt_kid (List.getElem_mem hlt)) HWT.o);have HMEM:=ai (List.getElem_mem hlt);obtain⟨x,hx⟩ : ∃x,q.kids[ks.length] =x:=⟨_,rfl⟩;have HX:=ai hx;rw [hx]at k0 k1 k2 k3 k4 k5 k6 k7 k8 k9 k10 k11 k12 k13 k14 HXI HTY HXS HXW HMEM;clear hx;have y14:=(HQB.o.below HKO.o.bel).cell (j:=14) rfl
   have hsb:=(HSB.o.below HKO.o.bel).cell (j:=0) rfl
   have HBX:=ai (show Below wr.heap.size wr wr.drew from(Below.refl _ _).drew)
   have HBY:=ai (bT HKO.o.bel HBX.o);obtain⟨v1,htq⟩ : ∃v,(x.tq s).1=v:=⟨_,rfl⟩;have HTQ:=ai htq;clear htq;by_cases hv:v1=0
   ·subst hv
    go_upto_region 5 with(fail)
    go_region_law (first| (go_simp;go_at_call 40;refine(HTY.o _ (HS.o.mono HBY.o) (HXI.o.mono HBX.o) (HF.o.mono HBY.o) (HO.o.mono HBY.o) (HSH.o.keptBut (HBY.o.frame (fun _=>False)) (by simp)) HXS.o HXW.o).mono ?_;rintro e w2 ⟨⟨o,rfl,ho,hoi,hof⟩,hb2⟩;rw [HTQ.o];have HOL:=ai ho;have HOI:=ai hoi;have HOF:=ai hof;have HB2:=ai hb2;have hs2:W.heap.size≤w2.heap.size:=Nat.le_trans HBY.o.size hb2.size;clear ho hoi hof hb2))
    all_goals
     go_wp2_with (first| (at_builtin;refine wpList_append_lies _ rfl _ _ 35 rfl W.heap.size 22 i0 (.slice none 0 0) 1 24 Tryd.underlying35 HI.o.1 HI.o.2.1 HI.o.2.2.1 HI.o.2.2.2 rfl (by decide) _ _ _ rfl ((own_il HKO.o.own (bT HBX.o HB2.o)).alloc _) ⟨w2.heap.size,0,none⟩ 1 1 [.slice o.h.ao o.l.length o.h.cap] rfl rfl (new_cells (l:= [_])) (by intro u hu;rw [List.mem_singleton.1 hu];rfl) (by decide) (by unfold maxLen;omega) (by omega) (by simp only [World.size_alloc];omega) _ rfl ?_;intro g cap w3 hown hgr hat _;have HK3:=ai (HKO.o.snoc HWs.o HMEM.o HQ.o HBX.o HB2.o HOI.o HOF.o hown hgr hat);clear hown hgr hat))
     go_roundw
    all_goals first
     | (case rel=>
       have hl: (ks ++ [o]).length=ks.length+1:=by simp
       refine⟨ks ++ [o],by rw [hl];go_num,?_,?_⟩
       ·rw [hl]
        exact HK.o.snoc hlt (by rw [HX.o,HTQ.o]) (by rw [HX.o];exact HOL.o)
       ·exact HK3.o)
     | (case measure=>simp [intOf];omega)
   ·have HJ:=ai (tq_kid hlt HK.o.no (v:=v1) (by rw [HX.o,HTQ.o]) hv)
    have hv2: (v1 != 0) =true:=bne_iff_ne.2 hv;clear hv;go_upto_region 5 with(fail)
    go_region_law (first| (go_simp;go_at_call 40;refine(HTY.o _ (HS.o.mono HBY.o) (HXI.o.mono HBX.o) (HF.o.mono HBY.o) (HO.o.mono HBY.o) (HSH.o.keptBut (HBY.o.frame (fun _=>False)) (by simp)) HXS.o HXW.o).mono ?_;rintro e w2 ⟨⟨o,rfl,ho,hoi,hof⟩,hb2⟩;rw [HTQ.o];have HOL:=ai ho;have HOI:=ai hoi;have HOF:=ai hof;have HB2:=ai hb2;have hs2:W.heap.size≤w2.heap.size:=Nat.le_trans HBY.o.size hb2.size;clear ho hoi hof hb2))
    all_goals
     go_wp2
     go_ret2
     exact⟨TyOut.no rfl HJ.o,HB0.o.trans ((bT HBY.o HB2.o).mono HB0.o.size)⟩
  ·have hlti: ¬(ks.length:Int) <q.kids.length:=by omega
   obtain⟨hal0,halT,hall⟩:=HK.o.all hlt;have HAL0:=ai hal0;have HALT:=ai halT;have HALL:=ai hall;clear hal0 halT hall;obtain⟨hd,rfl,hrow⟩:=HKO.o.row;have hkm:=hrow.len;have HRK:=ai hrow;have HBW:=ai HKO.o.bel;clear hrow;have y0:=(HQB.o.below HBW.o).cell (j:=0) rfl
   have y1:=(HQB.o.below HBW.o).cell (j:=1) rfl
   have y2:=(HQB.o.below HBW.o).cell (j:=2) rfl
   have y3:=(HQB.o.below HBW.o).cell (j:=3) rfl
   have y4:=(HQB.o.below HBW.o).cell (j:=4) rfl
   have y5:=(HQB.o.below HBW.o).cell (j:=5) rfl
   have y6:=(HQB.o.below HBW.o).cell (j:=6) rfl
   have y7:=(HQB.o.below HBW.o).cell (j:=7) rfl
   have y8:=(HQB.o.below HBW.o).cell (j:=8) rfl
   have y9:=(HQB.o.below HBW.o).cell (j:=9) rfl
   have y10:=(HQB.o.below HBW.o).cell (j:=10) rfl
   have y11:=(HQB.o.below HBW.o).cell (j:=11) rfl
   have y12:=(HQB.o.below HBW.o).cell (j:=12) rfl
   have y13:=(HQB.o.below HBW.o).cell (j:=13) rfl
   have y14:=(HQB.o.below HBW.o).cell (j:=14) rfl
   obtain⟨pb,hpb⟩ : ∃b,plainB q=b:=⟨_,rfl⟩;have HPB:=ai hpb;clear hpb
   cases pb
   ·go_wp2_with (first
     | (go_at_call 70;refine(plainAt_3 q HOP.o _ (HQ.o.mono HBW.o).flat.cd).mono ?_;rintro e w1 ⟨rfl,hb1⟩;rw [HPB.o];have HC1:=ai hb1;have HB1:=ai (bT HBW.o hb1);clear y0 y1 y2 y3 y4 y5 y6 y7 y8 y9 y10 y11 y12 y13 y14 hb1;have z0:=(HQB.o.below HB1.o).cell (j:=0) rfl)
     | (go_at_call 71;refine(kidsAt_3 _).mono ?_;rintro e w2 ⟨rfl,hb2⟩;have HC2:=ai (bT HC1.o hb2);have HB2:=ai (bT HB1.o hb2);clear z0 hb2;have v0:=(HQB.o.below HB2.o).cell (j:=0) rfl;skip))
    go_ret2
    exact⟨TyOut.no rfl (tq_no HAL0.o HPB.o),HB0.o.trans (HB1.o.mono HB0.o.size)⟩
   by_cases hkn:ks.length=1
   case neg=>
    have hkn2: ((ks.length:Int) != 1) =true:=bne_iff_ne.2 (by omega)
    have HJ:=ai (tq_ar HAL0.o HPB.o (by rw [←HALL.o,HOP.o];exact hkn))
    clear hkn;go_wp2_with (first
     | (go_at_call 70;refine(plainAt_3 q HOP.o _ (HQ.o.mono HBW.o).flat.cd).mono ?_;rintro e w1 ⟨rfl,hb1⟩;rw [HPB.o];have HC1:=ai hb1;have HB1:=ai (bT HBW.o hb1);clear y0 y1 y2 y3 y4 y5 y6 y7 y8 y9 y10 y11 y12 y13 y14 hb1;have z0:=(HQB.o.below HB1.o).cell (j:=0) rfl)
     | (go_at_call 71;refine(kidsAt_3 _).mono ?_;rintro e w2 ⟨rfl,hb2⟩;have HC2:=ai (bT HC1.o hb2);have HB2:=ai (bT HB1.o hb2);clear z0 hb2;have v0:=(HQB.o.below HB2.o).cell (j:=0) rfl;skip))
    go_ret2
    exact⟨TyOut.no rfl HJ.o,HB0.o.trans (HB2.o.mono HB0.o.size)⟩
   case pos=>
   have HOPK:=ai ((tq_ok HAL0.o HPB.o (by rw [←HALL.o,HOP.o];exact hkn) HALT.o).trans (opK_3 HOP.o))
   have hkn2: ((ks.length:Int) != 1) =false:=by rw [hkn];rfl
   have HKN:=ai hkn;clear hkn;have hl0:0<ks.length:=by have:=HKN.o;omega
   obtain⟨a,ha⟩ : ∃x,ks[0] =x:=⟨_,rfl⟩;have HRa:=ai (show∀w':World,Below wr.heap.size wr w'→w'.cell? ⟨hd.b,hd.o,none⟩ =some (.slice a.h.ao a.l.length a.h.cap)from fun w' hbw=>by
    have:=il_at (HRK.o.mono hbw) hl0;rw [ha]at this;exact this)
   have hrx0: ∀U,(Instr.indexAt 35 (.slice hd.ao ks.length hd.cap) (.int .i64 0)).run Tryd.prog U = .ok (.pointer (some ⟨hd.b,hd.o,none⟩)) U:=fun U=>by simpa using HRK.o.ix (i:=0) hl0 Tryd.underlying35 szil U
   have HIa:=ai (show a.In wr from ha▸HKO.o.inn _ (List.getElem_mem hl0))
   have HFa:=ai (show 0<a.l.length→FarQ q w a from ha▸HKO.o.far _ (List.getElem_mem hl0))
   have HSa:=ai (show a.l.length≤1000 from ha▸HK.o.small HSC.o _ (List.getElem_mem hl0))
   have HGa:=ai (show(ks.map IL.l).getD 0 [] =a.l by rw [getD0 hl0,ha])
   clear ha hl0;have HCS:=ai (Nat.le_trans (Qu.cond_le (.inl HOP.o)) HSZ.o);obtain⟨x,hx⟩ : ∃x,condE a.l q.cond=x:=⟨_,rfl⟩;have HX:=ai hx;by_cases hx0:x=0
   ·subst hx0
    have HJ:=ai (show q.tq s= (0,a.l) by rw [HOPK.o,HGa.o,hx,if_pos rfl])
    clear hx;go_upto_region 22 with(first
     | (go_at_call 70;refine(plainAt_3 q HOP.o _ (HQ.o.mono HBW.o).flat.cd).mono ?_;rintro e w1 ⟨rfl,hb1⟩;rw [HPB.o];have HC1:=ai hb1;have HB1:=ai (bT HBW.o hb1);clear y0 y1 y2 y3 y4 y5 y6 y7 y8 y9 y10 y11 y12 y13 y14 hb1;have z0:=(HQB.o.below HB1.o).cell (j:=0) rfl)
     | (go_at_call 71;refine(kidsAt_3 _).mono ?_;rintro e w2 ⟨rfl,hb2⟩;have HC2:=ai (bT HC1.o hb2);have HB2:=ai (bT HB1.o hb2);clear z0 hb2;have v0:=(HQB.o.below HB2.o).cell (j:=0) rfl;have ra:=HRa.o w2 HC2.o;have v4:=(HQB.o.below HB2.o).cell (j:=4) rfl;have v5:=(HQB.o.below HB2.o).cell (j:=5) rfl;have v6:=(HQB.o.below HB2.o).cell (j:=6) rfl;have v7:=(HQB.o.below HB2.o).cell (j:=7) rfl;have v8:=(HQB.o.below HB2.o).cell (j:=8) rfl;have v9:=(HQB.o.below HB2.o).cell (j:=9) rfl;skip))
    refine region_tail 5 mixed (by kernel_rfl) ?_
    simp only [List.take_succ_cons,List.take_zero,List.drop_succ_cons,List.drop_zero]
    repeat still_step
    refine wpStill_nil ?_
    go_wp2_with (go_at_call 73;refine(rcond_any q.cond a _ (HIa.o.mono HC2.o.drew) (HQ.o.flat.cd.mono HB2.o.drew) HCS.o).mono ?_;rintro e w3 ⟨rfl,hb3⟩;rw [HX.o];have hc3:=bel_drew hb3;have HC3:=ai (bT HC2.o hc3);have HB3:=ai (bT HB2.o hc3);clear ra v0 v4 v5 v6 v7 v8 v9 hb3 hc3;have ra:=HRa.o w3 HC3.o;skip)
    go_ret2
    exact⟨TyOut.yes (o:=a) rfl (HIa.o.mono HC3.o) HFa.o HJ.o,HB0.o.trans (HB3.o.mono HB0.o.size)⟩
   ·have HJ:=ai (show q.tq s= (x,[]) by rw [HOPK.o,HGa.o,hx,if_neg hx0])
    have hx2: (x != 0) =true:=bne_iff_ne.2 hx0;clear hx hx0;go_upto_region 22 with(first
     | (go_at_call 70;refine(plainAt_3 q HOP.o _ (HQ.o.mono HBW.o).flat.cd).mono ?_;rintro e w1 ⟨rfl,hb1⟩;rw [HPB.o];have HC1:=ai hb1;have HB1:=ai (bT HBW.o hb1);clear y0 y1 y2 y3 y4 y5 y6 y7 y8 y9 y10 y11 y12 y13 y14 hb1;have z0:=(HQB.o.below HB1.o).cell (j:=0) rfl)
     | (go_at_call 71;refine(kidsAt_3 _).mono ?_;rintro e w2 ⟨rfl,hb2⟩;have HC2:=ai (bT HC1.o hb2);have HB2:=ai (bT HB1.o hb2);clear z0 hb2;have v0:=(HQB.o.below HB2.o).cell (j:=0) rfl;have ra:=HRa.o w2 HC2.o;have v4:=(HQB.o.below HB2.o).cell (j:=4) rfl;have v5:=(HQB.o.below HB2.o).cell (j:=5) rfl;have v6:=(HQB.o.below HB2.o).cell (j:=6) rfl;have v7:=(HQB.o.below HB2.o).cell (j:=7) rfl;have v8:=(HQB.o.below HB2.o).cell (j:=8) rfl;have v9:=(HQB.o.below HB2.o).cell (j:=9) rfl;skip))
    refine region_tail 5 mixed (by kernel_rfl) ?_
    simp only [List.take_succ_cons,List.take_zero,List.drop_succ_cons,List.drop_zero]
    repeat still_step
    refine wpStill_nil ?_
    go_wp2_with (go_at_call 73;refine(rcond_any q.cond a _ (HIa.o.mono HC2.o.drew) (HQ.o.flat.cd.mono HB2.o.drew) HCS.o).mono ?_;rintro e w3 ⟨rfl,hb3⟩;rw [HX.o];have hc3:=bel_drew hb3;have HC3:=ai (bT HC2.o hc3);have HB3:=ai (bT HB2.o hc3);clear ra v0 v4 v5 v6 v7 v8 v9 hb3 hc3;have ra:=HRa.o w3 HC3.o;skip)
    go_ret2
    exact⟨TyOut.no rfl HJ.o,HB0.o.trans (HB3.o.mono HB0.o.size)⟩
end Go.Proofs.YtogalchclmmfgaaDoor

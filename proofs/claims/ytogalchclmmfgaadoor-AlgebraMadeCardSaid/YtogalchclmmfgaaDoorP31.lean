/- A part of the proof of AlgebraMade. -/
import Derived.Test.YtogalchclmmfgaaDoorP26
set_option maxRecDepth 100000
set_option maxHeartbeats 16000000
namespace Go.Proofs.YtogalchclmmfgaaDoor
open Go.RowKit
theorem typ_7 (s:Sch) (hsc:SchS s) (q:Qu) (hop:q.op=7) (hIH: ∀x∈q.kids,TypAt 37 s x) (w:World) (hs:s.In w) (hq:q.In w) (hf:FormsAt w) (hopa:OpsAt w) (hsh:w.ShapedOpen Tryd.prog) (hsz:q.size≤1000000) (hwt:q.wt≤1048576) :
  Calls Tryd.prog 37 #[.agg #[.slice s.th.ao s.tabs.length s.th.cap],.agg #[.int .i64 7,.string q.table,.int .i64 q.kind,.bool q.all,.int .i64 q.cond.op,.int .i64 q.cond.typ,.int .i64 q.cond.num,.string q.cond.text,.int .i64 q.cond.col,.slice q.cond.kh.ao q.cond.kids.length q.cond.kh.cap,.slice q.eh.ao q.exprs.length q.eh.cap,.slice q.ah.ao q.aggs.length q.ah.cap,.slice q.types.h.ao q.types.l.length q.types.h.cap,.slice q.rh.ao q.rows.length q.rh.cap,.slice q.qh.ao q.kids.length q.qh.cap]] w fun e w'=>TyOut (FarQ q w) (q.tq s) w' e∧Below w.heap.size w w':=by
 obtain⟨i0,hi,hz0,hz1,hz2⟩:=info_parts info_il;have HI:=ai (And.intro hi (And.intro hz0 (And.intro hz1 hz2)));clear hi hz0 hz1 hz2;have IH:=ai hIH;have HB0:=ai (belAA (w:=w) (.cells #[.slice s.th.ao s.tabs.length s.th.cap] 28) (.cells #[.int .i64 7,.string q.table,.int .i64 q.kind,.bool q.all,.int .i64 q.cond.op,.int .i64 q.cond.typ,.int .i64 q.cond.num,.string q.cond.text,.int .i64 q.cond.col,.slice q.cond.kh.ao q.cond.kids.length q.cond.kh.cap,.slice q.eh.ao q.exprs.length q.eh.cap,.slice q.ah.ao q.aggs.length q.ah.cap,.slice q.types.h.ao q.types.l.length q.types.h.cap,.slice q.rh.ao q.rows.length q.rh.cap,.slice q.qh.ao q.kids.length q.qh.cap] 57))
 have HSB:=ai ((Box.new w #[.slice s.th.ao s.tabs.length s.th.cap] 28).below (belA (.cells #[.int .i64 7,.string q.table,.int .i64 q.kind,.bool q.all,.int .i64 q.cond.op,.int .i64 q.cond.typ,.int .i64 q.cond.num,.string q.cond.text,.int .i64 q.cond.col,.slice q.cond.kh.ao q.cond.kids.length q.cond.kh.cap,.slice q.eh.ao q.exprs.length q.eh.cap,.slice q.ah.ao q.aggs.length q.ah.cap,.slice q.types.h.ao q.types.l.length q.types.h.cap,.slice q.rh.ao q.rows.length q.rh.cap,.slice q.qh.ao q.kids.length q.qh.cap] 57)));have HQB:=ai (Box.new (w.alloc (.cells #[.slice s.th.ao s.tabs.length s.th.cap] 28)) #[.int .i64 7,.string q.table,.int .i64 q.kind,.bool q.all,.int .i64 q.cond.op,.int .i64 q.cond.typ,.int .i64 q.cond.num,.string q.cond.text,.int .i64 q.cond.col,.slice q.cond.kh.ao q.cond.kids.length q.cond.kh.cap,.slice q.eh.ao q.exprs.length q.eh.cap,.slice q.ah.ao q.aggs.length q.ah.cap,.slice q.types.h.ao q.types.l.length q.types.h.cap,.slice q.rh.ao q.rows.length q.rh.cap,.slice q.qh.ao q.kids.length q.qh.cap] 57);simp only [World.size_alloc]at HQB;have HS:=ai (hs.mono HB0.o);have HQ:=ai (hq.mono HB0.o);have HF:=ai (hf.mono HB0.o);have HO:=ai (hopa.mono HB0.o);have HSH:=ai (hsh.keptBut (HB0.o.frame (fun _=>False)) (by simp))
 have HSZ:=ai hsz;have HWT:=ai hwt;have HOP:=ai hop;have HSC:=ai hsc;have hnk:=hq.row.len;have hkl:q.kids.length≤1000000:=Nat.le_trans q.len_le hsz;clear hIH hs hq hf hopa hsh hsz hwt hop hsc
 go_enter Tryd.func37,Tryd.ntmps37;go_upto_region 1 with(fail)
 generalize hWW: (w.alloc (.cells #[.slice s.th.ao s.tabs.length s.th.cap] 28)).alloc (.cells #[.int .i64 7,.string q.table,.int .i64 q.kind,.bool q.all,.int .i64 q.cond.op,.int .i64 q.cond.typ,.int .i64 q.cond.num,.string q.cond.text,.int .i64 q.cond.col,.slice q.cond.kh.ao q.cond.kids.length q.cond.kh.cap,.slice q.eh.ao q.exprs.length q.eh.cap,.slice q.ah.ao q.aggs.length q.ah.cap,.slice q.types.h.ao q.types.l.length q.types.h.cap,.slice q.rh.ao q.rows.length q.rh.cap,.slice q.qh.ao q.kids.length q.qh.cap] 57) =W at *;have HWs:=ai (show w.heap.size≤W.heap.size by rw [←hWW];simp only [World.size_alloc];omega)
 clear hWW;have y14:=HQB.o.cell (j:=14) rfl
 go_wp2;clear y14;go_loopw [6,20] (fun v i wr=>∃ks:List IL,i = .int .i64 ks.length∧Hid (KT s q ks.length ks)∧Hid (KO q w W wr v ks)) (fun _ i _=>q.kids.length - (intOf i).toNat)
 case atStart=>exact⟨[],rfl,KT.zero s q,KO.zero q w W⟩
 case round=>
  obtain⟨ks,rfl,HK,HKO⟩:=hrel;have hkle:=HK.o.le;have hwl:=HKO.o.bel.size;by_cases hlt:ks.length<q.kids.length
  ·have hlti: (ks.length:Int) <q.kids.length:=by omega
   have HROW:=ai (HQ.o.row.mono HKO.o.bel);have hix:=HROW.o.ix hlt Tryd.underlying55 sz46;obtain⟨⟨k0,k1,k2,k3⟩,⟨k4,k5,k6,k7,k8,k9⟩,k10,k11,k12,k13,k14⟩:=qu_at HROW.o hlt;have hbk:=HROW.o.blk hlt;have HXI:=ai ((HQ.o.kid _ (List.getElem_mem hlt)).mono HKO.o.bel);have HTY:=ai (IH.o _ (List.getElem_mem hlt));have HXS:=ai (Nat.le_trans (Qu.kid_le (List.getElem_mem hlt)) HSZ.o);have HXW:=ai (Nat.le_trans (Qu.wt_kid (List.getElem_mem hlt)) HWT.o);have HMEM:=ai (List.getElem_mem hlt);obtain⟨x,hx⟩ : ∃x,q.kids[ks.length] =x:=⟨_,rfl⟩;have HX:=ai hx;rw [hx]at k0 k1 k2 k3 k4 k5 k6 k7 k8 k9 k10 k11 k12 k13 k14 HXI HTY HXS HXW HMEM;clear hx;have hsb: ∀o,(wr.alloc o).cell? ⟨w.heap.size,0,none⟩ =some (.slice s.th.ao s.tabs.length s.th.cap):=fun o=>(HSB.o.below (bT HKO.o.bel (belA o))).cell (j:=0) rfl
   have HBX:=ai (belA (w:=wr) (.cells x.lit 57))
   have HBY:=ai (bT HKO.o.bel HBX.o);obtain⟨v1,htq⟩ : ∃v,(x.tq s).1=v:=⟨_,rfl⟩;have HTQ:=ai htq;clear htq;by_cases hv:v1=0
   ·subst hv
    go_wp2_with (first
     | (go_at_call 37;refine(HTY.o _ (HS.o.mono HBY.o) (HXI.o.mono HBX.o) (HF.o.mono HBY.o) (HO.o.mono HBY.o) (HSH.o.keptBut (HBY.o.frame (fun _=>False)) (by simp)) HXS.o HXW.o).mono ?_;rintro e w2 ⟨⟨o,rfl,ho,hoi,hof⟩,hb2⟩;rw [HTQ.o];have HOL:=ai ho;have HOI:=ai hoi;have HOF:=ai hof;have HB2:=ai hb2;have hs2:W.heap.size≤w2.heap.size:=Nat.le_trans HBY.o.size hb2.size;clear ho hoi hof hb2)
     | (at_builtin;refine wpList_append_lies _ rfl _ _ 35 rfl W.heap.size 22 i0 (.slice none 0 0) 1 24 Tryd.underlying35 HI.o.1 HI.o.2.1 HI.o.2.2.1 HI.o.2.2.2 rfl (by decide) _ _ _ rfl ((own_il HKO.o.own (bT HBX.o HB2.o)).alloc _) ⟨w2.heap.size,0,none⟩ 1 1 [.slice o.h.ao o.l.length o.h.cap] rfl rfl (new_cells (l:= [_])) (by intro u hu;rw [List.mem_singleton.1 hu];rfl) (by decide) (by unfold maxLen;omega) (by omega) (by simp only [World.size_alloc];omega) _ rfl ?_;intro g cap w3 hown hgr hat _;have HK3:=ai (HKO.o.snoc HWs.o HMEM.o HQ.o HBX.o HB2.o HOI.o HOF.o hown hgr hat);clear hown hgr hat))
    go_roundw
    case rel=>
     have hl: (ks ++ [o]).length=ks.length+1:=by simp
     refine⟨ks ++ [o],by rw [hl];go_num,?_,?_⟩
     ·rw [hl]
      exact HK.o.snoc hlt (by rw [HX.o,HTQ.o]) (by rw [HX.o];exact HOL.o)
     ·exact HK3.o
    case measure=>simp [intOf];omega
   ·have HJ:=ai (tq_kid hlt HK.o.no (v:=v1) (by rw [HX.o,HTQ.o]) hv)
    have hv2: (v1 != 0) =true:=bne_iff_ne.2 hv;clear hv;go_wp2_with (first
     | (go_at_call 37;refine(HTY.o _ (HS.o.mono HBY.o) (HXI.o.mono HBX.o) (HF.o.mono HBY.o) (HO.o.mono HBY.o) (HSH.o.keptBut (HBY.o.frame (fun _=>False)) (by simp)) HXS.o HXW.o).mono ?_;rintro e w2 ⟨⟨o,rfl,ho,hoi,hof⟩,hb2⟩;rw [HTQ.o];have HOL:=ai ho;have HOI:=ai hoi;have HOF:=ai hof;have HB2:=ai hb2;have hs2:W.heap.size≤w2.heap.size:=Nat.le_trans HBY.o.size hb2.size;clear ho hoi hof hb2))
    go_ret2
    exact⟨TyOut.no rfl HJ.o,HB0.o.trans ((bT HBY.o HB2.o).mono HB0.o.size)⟩
  ·have hlti: ¬(ks.length:Int) <q.kids.length:=by omega
   obtain⟨hal0,halT,hall⟩:=HK.o.all hlt;have HAL0:=ai hal0;have HALT:=ai halT;have HALL:=ai hall;clear hal0 halT hall;obtain⟨hd,rfl,hrow⟩:=HKO.o.row;have hkm:=hrow.len;have HRK:=ai hrow;have HBW:=ai HKO.o.bel;clear hrow;have y0:=(HQB.o.below HBW.o).cell (j:=0) rfl
   obtain⟨pb,hpb⟩ : ∃b,plainB q=b:=⟨_,rfl⟩;have HPB:=ai hpb;clear hpb
   cases pb
   ·go_wp2_with (first
     | (go_at_call 60;refine(formAt_7 _ (HF.o.mono HBW.o)).mono ?_;rintro e w1 ⟨rfl,hb1⟩;have HFB:=ai (Box.new w1 #[.string ⟨#[101,120,99,101,112,116]⟩,.int .i64 2,.string ⟨#[97,108,108]⟩] 103);have HC1:=ai (bT hb1 (belA (.cells #[.string ⟨#[101,120,99,101,112,116]⟩,.int .i64 2,.string ⟨#[97,108,108]⟩] 103)));have HB1:=ai (bT HBW.o HC1.o);clear y0 hb1;have z0:=(HQB.o.below HB1.o).cell (j:=0) rfl;have z1:=(HQB.o.below HB1.o).cell (j:=1) rfl;have z2:=(HQB.o.below HB1.o).cell (j:=2) rfl;have z3:=(HQB.o.below HB1.o).cell (j:=3) rfl;have z4:=(HQB.o.below HB1.o).cell (j:=4) rfl;have z5:=(HQB.o.below HB1.o).cell (j:=5) rfl;have z6:=(HQB.o.below HB1.o).cell (j:=6) rfl;have z7:=(HQB.o.below HB1.o).cell (j:=7) rfl;have z8:=(HQB.o.below HB1.o).cell (j:=8) rfl;have z9:=(HQB.o.below HB1.o).cell (j:=9) rfl;have z10:=(HQB.o.below HB1.o).cell (j:=10) rfl;have z11:=(HQB.o.below HB1.o).cell (j:=11) rfl;have z12:=(HQB.o.below HB1.o).cell (j:=12) rfl;have z13:=(HQB.o.below HB1.o).cell (j:=13) rfl;have z14:=(HQB.o.below HB1.o).cell (j:=14) rfl;skip)
     | (go_at_call 61;refine(cleanAt_7 q HOP.o _ (HQ.o.mono HB1.o) (HSH.o.keptBut (HB1.o.frame (fun _=>False)) (by simp))).mono ?_;rintro e w2 ⟨rfl,hb2⟩;rw [HPB.o];have HC2:=ai (bT HC1.o hb2);have HB2:=ai (bT HB1.o hb2);have f1:=(HFB.o.below hb2).cell (j:=1) rfl;clear z0 z1 z2 z3 z4 z5 z6 z7 z8 z9 z10 z11 z12 z13 z14 hb2;have v0:=(HQB.o.below HB2.o).cell (j:=0) rfl;skip))
    go_ret2
    exact⟨TyOut.no rfl (tq_no HAL0.o HPB.o),HB0.o.trans (HB2.o.mono HB0.o.size)⟩
   by_cases hkn:ks.length=2
   case neg=>
    have hkn2: ((ks.length:Int) != 2) =true:=bne_iff_ne.2 (by omega)
    have HJ:=ai (tq_ar HAL0.o HPB.o (by rw [←HALL.o,HOP.o];exact hkn))
    clear hkn;go_wp2_with (first
     | (go_at_call 60;refine(formAt_7 _ (HF.o.mono HBW.o)).mono ?_;rintro e w1 ⟨rfl,hb1⟩;have HFB:=ai (Box.new w1 #[.string ⟨#[101,120,99,101,112,116]⟩,.int .i64 2,.string ⟨#[97,108,108]⟩] 103);have HC1:=ai (bT hb1 (belA (.cells #[.string ⟨#[101,120,99,101,112,116]⟩,.int .i64 2,.string ⟨#[97,108,108]⟩] 103)));have HB1:=ai (bT HBW.o HC1.o);clear y0 hb1;have z0:=(HQB.o.below HB1.o).cell (j:=0) rfl;have z1:=(HQB.o.below HB1.o).cell (j:=1) rfl;have z2:=(HQB.o.below HB1.o).cell (j:=2) rfl;have z3:=(HQB.o.below HB1.o).cell (j:=3) rfl;have z4:=(HQB.o.below HB1.o).cell (j:=4) rfl;have z5:=(HQB.o.below HB1.o).cell (j:=5) rfl;have z6:=(HQB.o.below HB1.o).cell (j:=6) rfl;have z7:=(HQB.o.below HB1.o).cell (j:=7) rfl;have z8:=(HQB.o.below HB1.o).cell (j:=8) rfl;have z9:=(HQB.o.below HB1.o).cell (j:=9) rfl;have z10:=(HQB.o.below HB1.o).cell (j:=10) rfl;have z11:=(HQB.o.below HB1.o).cell (j:=11) rfl;have z12:=(HQB.o.below HB1.o).cell (j:=12) rfl;have z13:=(HQB.o.below HB1.o).cell (j:=13) rfl;have z14:=(HQB.o.below HB1.o).cell (j:=14) rfl;skip)
     | (go_at_call 61;refine(cleanAt_7 q HOP.o _ (HQ.o.mono HB1.o) (HSH.o.keptBut (HB1.o.frame (fun _=>False)) (by simp))).mono ?_;rintro e w2 ⟨rfl,hb2⟩;rw [HPB.o];have HC2:=ai (bT HC1.o hb2);have HB2:=ai (bT HB1.o hb2);have f1:=(HFB.o.below hb2).cell (j:=1) rfl;clear z0 z1 z2 z3 z4 z5 z6 z7 z8 z9 z10 z11 z12 z13 z14 hb2;have v0:=(HQB.o.below HB2.o).cell (j:=0) rfl;skip))
    go_ret2
    exact⟨TyOut.no rfl HJ.o,HB0.o.trans (HB2.o.mono HB0.o.size)⟩
   case pos=>
   have HOPK:=ai ((tq_ok HAL0.o HPB.o (by rw [←HALL.o,HOP.o];exact hkn) HALT.o).trans (opK_7 HOP.o))
   have hkn2: ((ks.length:Int) != 2) =false:=by rw [hkn];rfl
   have HKN:=ai hkn;clear hkn;have hl0:0<ks.length:=by have:=HKN.o;omega
   obtain⟨a,ha⟩ : ∃x,ks[0] =x:=⟨_,rfl⟩;have HRa:=ai (show∀w':World,Below wr.heap.size wr w'→w'.cell? ⟨hd.b,hd.o,none⟩ =some (.slice a.h.ao a.l.length a.h.cap)from fun w' hbw=>by
    have:=il_at (HRK.o.mono hbw) hl0;rw [ha]at this;exact this)
   have hrx0: ∀U,(Instr.indexAt 35 (.slice hd.ao ks.length hd.cap) (.int .i64 0)).run Tryd.prog U = .ok (.pointer (some ⟨hd.b,hd.o,none⟩)) U:=fun U=>by simpa using HRK.o.ix (i:=0) hl0 Tryd.underlying35 szil U
   have HIa:=ai (show a.In wr from ha▸HKO.o.inn _ (List.getElem_mem hl0))
   have HFa:=ai (show 0<a.l.length→FarQ q w a from ha▸HKO.o.far _ (List.getElem_mem hl0))
   have HSa:=ai (show a.l.length≤1000 from ha▸HK.o.small HSC.o _ (List.getElem_mem hl0))
   have HGa:=ai (show(ks.map IL.l).getD 0 [] =a.l by rw [getD0 hl0,ha])
   clear ha hl0;have hl1:1<ks.length:=by have:=HKN.o;omega
   obtain⟨b,hb⟩ : ∃x,ks[1] =x:=⟨_,rfl⟩;have HRb:=ai (show∀w':World,Below wr.heap.size wr w'→w'.cell? ⟨hd.b,hd.o+1,none⟩ =some (.slice b.h.ao b.l.length b.h.cap)from fun w' hbw=>by
    have:=il_at (HRK.o.mono hbw) hl1;rw [hb]at this;exact this)
   have hrx1: ∀U,(Instr.indexAt 35 (.slice hd.ao ks.length hd.cap) (.int .i64 1)).run Tryd.prog U = .ok (.pointer (some ⟨hd.b,hd.o+1,none⟩)) U:=fun U=>by simpa using HRK.o.ix (i:=1) hl1 Tryd.underlying35 szil U
   have HIb:=ai (show b.In wr from hb▸HKO.o.inn _ (List.getElem_mem hl1))
   have HFb:=ai (show 0<b.l.length→FarQ q w b from hb▸HKO.o.far _ (List.getElem_mem hl1))
   have HSb:=ai (show b.l.length≤1000 from hb▸HK.o.small HSC.o _ (List.getElem_mem hl1))
   have HGb:=ai (show(ks.map IL.l).getD 1 [] =b.l by rw [getD1 hl1,hb])
   clear hb hl1;obtain⟨x,hx⟩ : ∃x,eqb a.l b.l=x:=⟨_,rfl⟩;have HX:=ai hx
   cases x
   ·have HJ:=ai (show q.tq s= (4,[]) by rw [HOPK.o,HGa.o,HGb.o,hx,if_neg (by simp)])
    clear hx;go_upto_region 41 with(first
     | (go_at_call 60;refine(formAt_7 _ (HF.o.mono HBW.o)).mono ?_;rintro e w1 ⟨rfl,hb1⟩;have HFB:=ai (Box.new w1 #[.string ⟨#[101,120,99,101,112,116]⟩,.int .i64 2,.string ⟨#[97,108,108]⟩] 103);have HC1:=ai (bT hb1 (belA (.cells #[.string ⟨#[101,120,99,101,112,116]⟩,.int .i64 2,.string ⟨#[97,108,108]⟩] 103)));have HB1:=ai (bT HBW.o HC1.o);clear y0 hb1;have z0:=(HQB.o.below HB1.o).cell (j:=0) rfl;have z1:=(HQB.o.below HB1.o).cell (j:=1) rfl;have z2:=(HQB.o.below HB1.o).cell (j:=2) rfl;have z3:=(HQB.o.below HB1.o).cell (j:=3) rfl;have z4:=(HQB.o.below HB1.o).cell (j:=4) rfl;have z5:=(HQB.o.below HB1.o).cell (j:=5) rfl;have z6:=(HQB.o.below HB1.o).cell (j:=6) rfl;have z7:=(HQB.o.below HB1.o).cell (j:=7) rfl;have z8:=(HQB.o.below HB1.o).cell (j:=8) rfl;have z9:=(HQB.o.below HB1.o).cell (j:=9) rfl;have z10:=(HQB.o.below HB1.o).cell (j:=10) rfl;have z11:=(HQB.o.below HB1.o).cell (j:=11) rfl;have z12:=(HQB.o.below HB1.o).cell (j:=12) rfl;have z13:=(HQB.o.below HB1.o).cell (j:=13) rfl;have z14:=(HQB.o.below HB1.o).cell (j:=14) rfl;skip)
     | (go_at_call 61;refine(cleanAt_7 q HOP.o _ (HQ.o.mono HB1.o) (HSH.o.keptBut (HB1.o.frame (fun _=>False)) (by simp))).mono ?_;rintro e w2 ⟨rfl,hb2⟩;rw [HPB.o];have HC2:=ai (bT HC1.o hb2);have HB2:=ai (bT HB1.o hb2);have f1:=(HFB.o.below hb2).cell (j:=1) rfl;clear z0 z1 z2 z3 z4 z5 z6 z7 z8 z9 z10 z11 z12 z13 z14 hb2;have v0:=(HQB.o.below HB2.o).cell (j:=0) rfl;have ra:=HRa.o w2 HC2.o;have rb:=HRb.o w2 HC2.o;skip))
    refine region_tail 6 mixed (by kernel_rfl) ?_
    simp only [List.take_succ_cons,List.take_zero,List.drop_succ_cons,List.drop_zero]
    repeat still_step
    refine wpStill_nil ?_
    go_wp2_with (go_at_call 68;refine(inteq_any a b _ (HIa.o.mono HC2.o.drew) (HIb.o.mono HC2.o.drew)).mono ?_;rintro e w3 ⟨rfl,hb3⟩;rw [HX.o];have hc3:=bel_drew hb3;have HC3:=ai (bT HC2.o hc3);have HB3:=ai (bT HB2.o hc3);clear ra rb v0 hb3 hc3;have ra:=HRa.o w3 HC3.o;have rb:=HRb.o w3 HC3.o;skip)
    go_ret2
    exact⟨TyOut.no rfl HJ.o,HB0.o.trans (HB3.o.mono HB0.o.size)⟩
   ·have HJ:=ai (show q.tq s= (0,a.l) by rw [HOPK.o,HGa.o,HGb.o,hx,if_pos rfl])
    clear hx;go_upto_region 41 with(first
     | (go_at_call 60;refine(formAt_7 _ (HF.o.mono HBW.o)).mono ?_;rintro e w1 ⟨rfl,hb1⟩;have HFB:=ai (Box.new w1 #[.string ⟨#[101,120,99,101,112,116]⟩,.int .i64 2,.string ⟨#[97,108,108]⟩] 103);have HC1:=ai (bT hb1 (belA (.cells #[.string ⟨#[101,120,99,101,112,116]⟩,.int .i64 2,.string ⟨#[97,108,108]⟩] 103)));have HB1:=ai (bT HBW.o HC1.o);clear y0 hb1;have z0:=(HQB.o.below HB1.o).cell (j:=0) rfl;have z1:=(HQB.o.below HB1.o).cell (j:=1) rfl;have z2:=(HQB.o.below HB1.o).cell (j:=2) rfl;have z3:=(HQB.o.below HB1.o).cell (j:=3) rfl;have z4:=(HQB.o.below HB1.o).cell (j:=4) rfl;have z5:=(HQB.o.below HB1.o).cell (j:=5) rfl;have z6:=(HQB.o.below HB1.o).cell (j:=6) rfl;have z7:=(HQB.o.below HB1.o).cell (j:=7) rfl;have z8:=(HQB.o.below HB1.o).cell (j:=8) rfl;have z9:=(HQB.o.below HB1.o).cell (j:=9) rfl;have z10:=(HQB.o.below HB1.o).cell (j:=10) rfl;have z11:=(HQB.o.below HB1.o).cell (j:=11) rfl;have z12:=(HQB.o.below HB1.o).cell (j:=12) rfl;have z13:=(HQB.o.below HB1.o).cell (j:=13) rfl;have z14:=(HQB.o.below HB1.o).cell (j:=14) rfl;skip)
     | (go_at_call 61;refine(cleanAt_7 q HOP.o _ (HQ.o.mono HB1.o) (HSH.o.keptBut (HB1.o.frame (fun _=>False)) (by simp))).mono ?_;rintro e w2 ⟨rfl,hb2⟩;rw [HPB.o];have HC2:=ai (bT HC1.o hb2);have HB2:=ai (bT HB1.o hb2);have f1:=(HFB.o.below hb2).cell (j:=1) rfl;clear z0 z1 z2 z3 z4 z5 z6 z7 z8 z9 z10 z11 z12 z13 z14 hb2;have v0:=(HQB.o.below HB2.o).cell (j:=0) rfl;have ra:=HRa.o w2 HC2.o;have rb:=HRb.o w2 HC2.o;skip))
    refine region_tail 6 mixed (by kernel_rfl) ?_
    simp only [List.take_succ_cons,List.take_zero,List.drop_succ_cons,List.drop_zero]
    repeat still_step
    refine wpStill_nil ?_
    go_wp2_with (go_at_call 68;refine(inteq_any a b _ (HIa.o.mono HC2.o.drew) (HIb.o.mono HC2.o.drew)).mono ?_;rintro e w3 ⟨rfl,hb3⟩;rw [HX.o];have hc3:=bel_drew hb3;have HC3:=ai (bT HC2.o hc3);have HB3:=ai (bT HB2.o hc3);clear ra rb v0 hb3 hc3;have ra:=HRa.o w3 HC3.o;have rb:=HRb.o w3 HC3.o;skip)
    go_ret2
    exact⟨TyOut.yes (o:=a) rfl (HIa.o.mono HC3.o) HFa.o HJ.o,HB0.o.trans (HB3.o.mono HB0.o.size)⟩
end Go.Proofs.YtogalchclmmfgaaDoor
namespace Go.Proofs.YtogalchclmmfgaaDoor
open Go.RowKit
theorem typ_8 (s:Sch) (hsc:SchS s) (q:Qu) (hop:q.op=8) (hIH: ∀x∈q.kids,TypAt 37 s x) (w:World) (hs:s.In w) (hq:q.In w) (hf:FormsAt w) (hopa:OpsAt w) (hsh:w.ShapedOpen Tryd.prog) (hsz:q.size≤1000000) (hwt:q.wt≤1048576) :
  Calls Tryd.prog 37 #[.agg #[.slice s.th.ao s.tabs.length s.th.cap],.agg #[.int .i64 8,.string q.table,.int .i64 q.kind,.bool q.all,.int .i64 q.cond.op,.int .i64 q.cond.typ,.int .i64 q.cond.num,.string q.cond.text,.int .i64 q.cond.col,.slice q.cond.kh.ao q.cond.kids.length q.cond.kh.cap,.slice q.eh.ao q.exprs.length q.eh.cap,.slice q.ah.ao q.aggs.length q.ah.cap,.slice q.types.h.ao q.types.l.length q.types.h.cap,.slice q.rh.ao q.rows.length q.rh.cap,.slice q.qh.ao q.kids.length q.qh.cap]] w fun e w'=>TyOut (FarQ q w) (q.tq s) w' e∧Below w.heap.size w w':=by
 obtain⟨i0,hi,hz0,hz1,hz2⟩:=info_parts info_il;have HI:=ai (And.intro hi (And.intro hz0 (And.intro hz1 hz2)));clear hi hz0 hz1 hz2;have IH:=ai hIH;have HB0:=ai (belAA (w:=w) (.cells #[.slice s.th.ao s.tabs.length s.th.cap] 28) (.cells #[.int .i64 8,.string q.table,.int .i64 q.kind,.bool q.all,.int .i64 q.cond.op,.int .i64 q.cond.typ,.int .i64 q.cond.num,.string q.cond.text,.int .i64 q.cond.col,.slice q.cond.kh.ao q.cond.kids.length q.cond.kh.cap,.slice q.eh.ao q.exprs.length q.eh.cap,.slice q.ah.ao q.aggs.length q.ah.cap,.slice q.types.h.ao q.types.l.length q.types.h.cap,.slice q.rh.ao q.rows.length q.rh.cap,.slice q.qh.ao q.kids.length q.qh.cap] 57))
 have HSB:=ai ((Box.new w #[.slice s.th.ao s.tabs.length s.th.cap] 28).below (belA (.cells #[.int .i64 8,.string q.table,.int .i64 q.kind,.bool q.all,.int .i64 q.cond.op,.int .i64 q.cond.typ,.int .i64 q.cond.num,.string q.cond.text,.int .i64 q.cond.col,.slice q.cond.kh.ao q.cond.kids.length q.cond.kh.cap,.slice q.eh.ao q.exprs.length q.eh.cap,.slice q.ah.ao q.aggs.length q.ah.cap,.slice q.types.h.ao q.types.l.length q.types.h.cap,.slice q.rh.ao q.rows.length q.rh.cap,.slice q.qh.ao q.kids.length q.qh.cap] 57)));have HQB:=ai (Box.new (w.alloc (.cells #[.slice s.th.ao s.tabs.length s.th.cap] 28)) #[.int .i64 8,.string q.table,.int .i64 q.kind,.bool q.all,.int .i64 q.cond.op,.int .i64 q.cond.typ,.int .i64 q.cond.num,.string q.cond.text,.int .i64 q.cond.col,.slice q.cond.kh.ao q.cond.kids.length q.cond.kh.cap,.slice q.eh.ao q.exprs.length q.eh.cap,.slice q.ah.ao q.aggs.length q.ah.cap,.slice q.types.h.ao q.types.l.length q.types.h.cap,.slice q.rh.ao q.rows.length q.rh.cap,.slice q.qh.ao q.kids.length q.qh.cap] 57);simp only [World.size_alloc]at HQB;have HS:=ai (hs.mono HB0.o);have HQ:=ai (hq.mono HB0.o);have HF:=ai (hf.mono HB0.o);have HO:=ai (hopa.mono HB0.o);have HSH:=ai (hsh.keptBut (HB0.o.frame (fun _=>False)) (by simp))
 have HSZ:=ai hsz;have HWT:=ai hwt;have HOP:=ai hop;have HSC:=ai hsc;have hnk:=hq.row.len;have hkl:q.kids.length≤1000000:=Nat.le_trans q.len_le hsz;clear hIH hs hq hf hopa hsh hsz hwt hop hsc
 go_enter Tryd.func37,Tryd.ntmps37;go_upto_region 1 with(fail)
 generalize hWW: (w.alloc (.cells #[.slice s.th.ao s.tabs.length s.th.cap] 28)).alloc (.cells #[.int .i64 8,.string q.table,.int .i64 q.kind,.bool q.all,.int .i64 q.cond.op,.int .i64 q.cond.typ,.int .i64 q.cond.num,.string q.cond.text,.int .i64 q.cond.col,.slice q.cond.kh.ao q.cond.kids.length q.cond.kh.cap,.slice q.eh.ao q.exprs.length q.eh.cap,.slice q.ah.ao q.aggs.length q.ah.cap,.slice q.types.h.ao q.types.l.length q.types.h.cap,.slice q.rh.ao q.rows.length q.rh.cap,.slice q.qh.ao q.kids.length q.qh.cap] 57) =W at *;have HWs:=ai (show w.heap.size≤W.heap.size by rw [←hWW];simp only [World.size_alloc];omega)
 clear hWW;have y14:=HQB.o.cell (j:=14) rfl
 go_wp2;clear y14;go_loopw [6,20] (fun v i wr=>∃ks:List IL,i = .int .i64 ks.length∧Hid (KT s q ks.length ks)∧Hid (KO q w W wr v ks)) (fun _ i _=>q.kids.length - (intOf i).toNat)
 case atStart=>exact⟨[],rfl,KT.zero s q,KO.zero q w W⟩
 case round=>
  obtain⟨ks,rfl,HK,HKO⟩:=hrel;have hkle:=HK.o.le;have hwl:=HKO.o.bel.size;by_cases hlt:ks.length<q.kids.length
  ·have hlti: (ks.length:Int) <q.kids.length:=by omega
   have HROW:=ai (HQ.o.row.mono HKO.o.bel);have hix:=HROW.o.ix hlt Tryd.underlying55 sz46;obtain⟨⟨k0,k1,k2,k3⟩,⟨k4,k5,k6,k7,k8,k9⟩,k10,k11,k12,k13,k14⟩:=qu_at HROW.o hlt;have hbk:=HROW.o.blk hlt;have HXI:=ai ((HQ.o.kid _ (List.getElem_mem hlt)).mono HKO.o.bel);have HTY:=ai (IH.o _ (List.getElem_mem hlt));have HXS:=ai (Nat.le_trans (Qu.kid_le (List.getElem_mem hlt)) HSZ.o);have HXW:=ai (Nat.le_trans (Qu.wt_kid (List.getElem_mem hlt)) HWT.o);have HMEM:=ai (List.getElem_mem hlt);obtain⟨x,hx⟩ : ∃x,q.kids[ks.length] =x:=⟨_,rfl⟩;have HX:=ai hx;rw [hx]at k0 k1 k2 k3 k4 k5 k6 k7 k8 k9 k10 k11 k12 k13 k14 HXI HTY HXS HXW HMEM;clear hx;have hsb: ∀o,(wr.alloc o).cell? ⟨w.heap.size,0,none⟩ =some (.slice s.th.ao s.tabs.length s.th.cap):=fun o=>(HSB.o.below (bT HKO.o.bel (belA o))).cell (j:=0) rfl
   have HBX:=ai (belA (w:=wr) (.cells x.lit 57))
   have HBY:=ai (bT HKO.o.bel HBX.o);obtain⟨v1,htq⟩ : ∃v,(x.tq s).1=v:=⟨_,rfl⟩;have HTQ:=ai htq;clear htq;by_cases hv:v1=0
   ·subst hv
    go_wp2_with (first
     | (go_at_call 37;refine(HTY.o _ (HS.o.mono HBY.o) (HXI.o.mono HBX.o) (HF.o.mono HBY.o) (HO.o.mono HBY.o) (HSH.o.keptBut (HBY.o.frame (fun _=>False)) (by simp)) HXS.o HXW.o).mono ?_;rintro e w2 ⟨⟨o,rfl,ho,hoi,hof⟩,hb2⟩;rw [HTQ.o];have HOL:=ai ho;have HOI:=ai hoi;have HOF:=ai hof;have HB2:=ai hb2;have hs2:W.heap.size≤w2.heap.size:=Nat.le_trans HBY.o.size hb2.size;clear ho hoi hof hb2)
     | (at_builtin;refine wpList_append_lies _ rfl _ _ 35 rfl W.heap.size 22 i0 (.slice none 0 0) 1 24 Tryd.underlying35 HI.o.1 HI.o.2.1 HI.o.2.2.1 HI.o.2.2.2 rfl (by decide) _ _ _ rfl ((own_il HKO.o.own (bT HBX.o HB2.o)).alloc _) ⟨w2.heap.size,0,none⟩ 1 1 [.slice o.h.ao o.l.length o.h.cap] rfl rfl (new_cells (l:= [_])) (by intro u hu;rw [List.mem_singleton.1 hu];rfl) (by decide) (by unfold maxLen;omega) (by omega) (by simp only [World.size_alloc];omega) _ rfl ?_;intro g cap w3 hown hgr hat _;have HK3:=ai (HKO.o.snoc HWs.o HMEM.o HQ.o HBX.o HB2.o HOI.o HOF.o hown hgr hat);clear hown hgr hat))
    go_roundw
    case rel=>
     have hl: (ks ++ [o]).length=ks.length+1:=by simp
     refine⟨ks ++ [o],by rw [hl];go_num,?_,?_⟩
     ·rw [hl]
      exact HK.o.snoc hlt (by rw [HX.o,HTQ.o]) (by rw [HX.o];exact HOL.o)
     ·exact HK3.o
    case measure=>simp [intOf];omega
   ·have HJ:=ai (tq_kid hlt HK.o.no (v:=v1) (by rw [HX.o,HTQ.o]) hv)
    have hv2: (v1 != 0) =true:=bne_iff_ne.2 hv;clear hv;go_wp2_with (first
     | (go_at_call 37;refine(HTY.o _ (HS.o.mono HBY.o) (HXI.o.mono HBX.o) (HF.o.mono HBY.o) (HO.o.mono HBY.o) (HSH.o.keptBut (HBY.o.frame (fun _=>False)) (by simp)) HXS.o HXW.o).mono ?_;rintro e w2 ⟨⟨o,rfl,ho,hoi,hof⟩,hb2⟩;rw [HTQ.o];have HOL:=ai ho;have HOI:=ai hoi;have HOF:=ai hof;have HB2:=ai hb2;have hs2:W.heap.size≤w2.heap.size:=Nat.le_trans HBY.o.size hb2.size;clear ho hoi hof hb2))
    go_ret2
    exact⟨TyOut.no rfl HJ.o,HB0.o.trans ((bT HBY.o HB2.o).mono HB0.o.size)⟩
  ·have hlti: ¬(ks.length:Int) <q.kids.length:=by omega
   obtain⟨hal0,halT,hall⟩:=HK.o.all hlt;have HAL0:=ai hal0;have HALT:=ai halT;have HALL:=ai hall;clear hal0 halT hall;obtain⟨hd,rfl,hrow⟩:=HKO.o.row;have hkm:=hrow.len;have HRK:=ai hrow;have HBW:=ai HKO.o.bel;clear hrow;have y0:=(HQB.o.below HBW.o).cell (j:=0) rfl
   obtain⟨pb,hpb⟩ : ∃b,plainB q=b:=⟨_,rfl⟩;have HPB:=ai hpb;clear hpb
   cases pb
   ·go_wp2_with (first
     | (go_at_call 60;refine(formAt_8 _ (HF.o.mono HBW.o)).mono ?_;rintro e w1 ⟨rfl,hb1⟩;have HFB:=ai (Box.new w1 #[.string ⟨#[105,110,116,101,114,115,101,99,116]⟩,.int .i64 2,.string ⟨#[97,108,108]⟩] 103);have HC1:=ai (bT hb1 (belA (.cells #[.string ⟨#[105,110,116,101,114,115,101,99,116]⟩,.int .i64 2,.string ⟨#[97,108,108]⟩] 103)));have HB1:=ai (bT HBW.o HC1.o);clear y0 hb1;have z0:=(HQB.o.below HB1.o).cell (j:=0) rfl;have z1:=(HQB.o.below HB1.o).cell (j:=1) rfl;have z2:=(HQB.o.below HB1.o).cell (j:=2) rfl;have z3:=(HQB.o.below HB1.o).cell (j:=3) rfl;have z4:=(HQB.o.below HB1.o).cell (j:=4) rfl;have z5:=(HQB.o.below HB1.o).cell (j:=5) rfl;have z6:=(HQB.o.below HB1.o).cell (j:=6) rfl;have z7:=(HQB.o.below HB1.o).cell (j:=7) rfl;have z8:=(HQB.o.below HB1.o).cell (j:=8) rfl;have z9:=(HQB.o.below HB1.o).cell (j:=9) rfl;have z10:=(HQB.o.below HB1.o).cell (j:=10) rfl;have z11:=(HQB.o.below HB1.o).cell (j:=11) rfl;have z12:=(HQB.o.below HB1.o).cell (j:=12) rfl;have z13:=(HQB.o.below HB1.o).cell (j:=13) rfl;have z14:=(HQB.o.below HB1.o).cell (j:=14) rfl;skip)
     | (go_at_call 61;refine(cleanAt_8 q HOP.o _ (HQ.o.mono HB1.o) (HSH.o.keptBut (HB1.o.frame (fun _=>False)) (by simp))).mono ?_;rintro e w2 ⟨rfl,hb2⟩;rw [HPB.o];have HC2:=ai (bT HC1.o hb2);have HB2:=ai (bT HB1.o hb2);have f1:=(HFB.o.below hb2).cell (j:=1) rfl;clear z0 z1 z2 z3 z4 z5 z6 z7 z8 z9 z10 z11 z12 z13 z14 hb2;have v0:=(HQB.o.below HB2.o).cell (j:=0) rfl;skip))
    go_ret2
    exact⟨TyOut.no rfl (tq_no HAL0.o HPB.o),HB0.o.trans (HB2.o.mono HB0.o.size)⟩
   by_cases hkn:ks.length=2
   case neg=>
    have hkn2: ((ks.length:Int) != 2) =true:=bne_iff_ne.2 (by omega)
    have HJ:=ai (tq_ar HAL0.o HPB.o (by rw [←HALL.o,HOP.o];exact hkn))
    clear hkn;go_wp2_with (first
     | (go_at_call 60;refine(formAt_8 _ (HF.o.mono HBW.o)).mono ?_;rintro e w1 ⟨rfl,hb1⟩;have HFB:=ai (Box.new w1 #[.string ⟨#[105,110,116,101,114,115,101,99,116]⟩,.int .i64 2,.string ⟨#[97,108,108]⟩] 103);have HC1:=ai (bT hb1 (belA (.cells #[.string ⟨#[105,110,116,101,114,115,101,99,116]⟩,.int .i64 2,.string ⟨#[97,108,108]⟩] 103)));have HB1:=ai (bT HBW.o HC1.o);clear y0 hb1;have z0:=(HQB.o.below HB1.o).cell (j:=0) rfl;have z1:=(HQB.o.below HB1.o).cell (j:=1) rfl;have z2:=(HQB.o.below HB1.o).cell (j:=2) rfl;have z3:=(HQB.o.below HB1.o).cell (j:=3) rfl;have z4:=(HQB.o.below HB1.o).cell (j:=4) rfl;have z5:=(HQB.o.below HB1.o).cell (j:=5) rfl;have z6:=(HQB.o.below HB1.o).cell (j:=6) rfl;have z7:=(HQB.o.below HB1.o).cell (j:=7) rfl;have z8:=(HQB.o.below HB1.o).cell (j:=8) rfl;have z9:=(HQB.o.below HB1.o).cell (j:=9) rfl;have z10:=(HQB.o.below HB1.o).cell (j:=10) rfl;have z11:=(HQB.o.below HB1.o).cell (j:=11) rfl;have z12:=(HQB.o.below HB1.o).cell (j:=12) rfl;have z13:=(HQB.o.below HB1.o).cell (j:=13) rfl;have z14:=(HQB.o.below HB1.o).cell (j:=14) rfl;skip)
     | (go_at_call 61;refine(cleanAt_8 q HOP.o _ (HQ.o.mono HB1.o) (HSH.o.keptBut (HB1.o.frame (fun _=>False)) (by simp))).mono ?_;rintro e w2 ⟨rfl,hb2⟩;rw [HPB.o];have HC2:=ai (bT HC1.o hb2);have HB2:=ai (bT HB1.o hb2);have f1:=(HFB.o.below hb2).cell (j:=1) rfl;clear z0 z1 z2 z3 z4 z5 z6 z7 z8 z9 z10 z11 z12 z13 z14 hb2;have v0:=(HQB.o.below HB2.o).cell (j:=0) rfl;skip))
    go_ret2
    exact⟨TyOut.no rfl HJ.o,HB0.o.trans (HB2.o.mono HB0.o.size)⟩
   case pos=>
   have HOPK:=ai ((tq_ok HAL0.o HPB.o (by rw [←HALL.o,HOP.o];exact hkn) HALT.o).trans (opK_8 HOP.o))
   have hkn2: ((ks.length:Int) != 2) =false:=by rw [hkn];rfl
   have HKN:=ai hkn;clear hkn;have hl0:0<ks.length:=by have:=HKN.o;omega
   obtain⟨a,ha⟩ : ∃x,ks[0] =x:=⟨_,rfl⟩;have HRa:=ai (show∀w':World,Below wr.heap.size wr w'→w'.cell? ⟨hd.b,hd.o,none⟩ =some (.slice a.h.ao a.l.length a.h.cap)from fun w' hbw=>by
    have:=il_at (HRK.o.mono hbw) hl0;rw [ha]at this;exact this)
   have hrx0: ∀U,(Instr.indexAt 35 (.slice hd.ao ks.length hd.cap) (.int .i64 0)).run Tryd.prog U = .ok (.pointer (some ⟨hd.b,hd.o,none⟩)) U:=fun U=>by simpa using HRK.o.ix (i:=0) hl0 Tryd.underlying35 szil U
   have HIa:=ai (show a.In wr from ha▸HKO.o.inn _ (List.getElem_mem hl0))
   have HFa:=ai (show 0<a.l.length→FarQ q w a from ha▸HKO.o.far _ (List.getElem_mem hl0))
   have HSa:=ai (show a.l.length≤1000 from ha▸HK.o.small HSC.o _ (List.getElem_mem hl0))
   have HGa:=ai (show(ks.map IL.l).getD 0 [] =a.l by rw [getD0 hl0,ha])
   clear ha hl0;have hl1:1<ks.length:=by have:=HKN.o;omega
   obtain⟨b,hb⟩ : ∃x,ks[1] =x:=⟨_,rfl⟩;have HRb:=ai (show∀w':World,Below wr.heap.size wr w'→w'.cell? ⟨hd.b,hd.o+1,none⟩ =some (.slice b.h.ao b.l.length b.h.cap)from fun w' hbw=>by
    have:=il_at (HRK.o.mono hbw) hl1;rw [hb]at this;exact this)
   have hrx1: ∀U,(Instr.indexAt 35 (.slice hd.ao ks.length hd.cap) (.int .i64 1)).run Tryd.prog U = .ok (.pointer (some ⟨hd.b,hd.o+1,none⟩)) U:=fun U=>by simpa using HRK.o.ix (i:=1) hl1 Tryd.underlying35 szil U
   have HIb:=ai (show b.In wr from hb▸HKO.o.inn _ (List.getElem_mem hl1))
   have HFb:=ai (show 0<b.l.length→FarQ q w b from hb▸HKO.o.far _ (List.getElem_mem hl1))
   have HSb:=ai (show b.l.length≤1000 from hb▸HK.o.small HSC.o _ (List.getElem_mem hl1))
   have HGb:=ai (show(ks.map IL.l).getD 1 [] =b.l by rw [getD1 hl1,hb])
   clear hb hl1;obtain⟨x,hx⟩ : ∃x,eqb a.l b.l=x:=⟨_,rfl⟩;have HX:=ai hx
   cases x
   ·have HJ:=ai (show q.tq s= (4,[]) by rw [HOPK.o,HGa.o,HGb.o,hx,if_neg (by simp)])
    clear hx;go_upto_region 41 with(first
     | (go_at_call 60;refine(formAt_8 _ (HF.o.mono HBW.o)).mono ?_;rintro e w1 ⟨rfl,hb1⟩;have HFB:=ai (Box.new w1 #[.string ⟨#[105,110,116,101,114,115,101,99,116]⟩,.int .i64 2,.string ⟨#[97,108,108]⟩] 103);have HC1:=ai (bT hb1 (belA (.cells #[.string ⟨#[105,110,116,101,114,115,101,99,116]⟩,.int .i64 2,.string ⟨#[97,108,108]⟩] 103)));have HB1:=ai (bT HBW.o HC1.o);clear y0 hb1;have z0:=(HQB.o.below HB1.o).cell (j:=0) rfl;have z1:=(HQB.o.below HB1.o).cell (j:=1) rfl;have z2:=(HQB.o.below HB1.o).cell (j:=2) rfl;have z3:=(HQB.o.below HB1.o).cell (j:=3) rfl;have z4:=(HQB.o.below HB1.o).cell (j:=4) rfl;have z5:=(HQB.o.below HB1.o).cell (j:=5) rfl;have z6:=(HQB.o.below HB1.o).cell (j:=6) rfl;have z7:=(HQB.o.below HB1.o).cell (j:=7) rfl;have z8:=(HQB.o.below HB1.o).cell (j:=8) rfl;have z9:=(HQB.o.below HB1.o).cell (j:=9) rfl;have z10:=(HQB.o.below HB1.o).cell (j:=10) rfl;have z11:=(HQB.o.below HB1.o).cell (j:=11) rfl;have z12:=(HQB.o.below HB1.o).cell (j:=12) rfl;have z13:=(HQB.o.below HB1.o).cell (j:=13) rfl;have z14:=(HQB.o.below HB1.o).cell (j:=14) rfl;skip)
     | (go_at_call 61;refine(cleanAt_8 q HOP.o _ (HQ.o.mono HB1.o) (HSH.o.keptBut (HB1.o.frame (fun _=>False)) (by simp))).mono ?_;rintro e w2 ⟨rfl,hb2⟩;rw [HPB.o];have HC2:=ai (bT HC1.o hb2);have HB2:=ai (bT HB1.o hb2);have f1:=(HFB.o.below hb2).cell (j:=1) rfl;clear z0 z1 z2 z3 z4 z5 z6 z7 z8 z9 z10 z11 z12 z13 z14 hb2;have v0:=(HQB.o.below HB2.o).cell (j:=0) rfl;have ra:=HRa.o w2 HC2.o;have rb:=HRb.o w2 HC2.o;skip))
    refine region_tail 6 mixed (by kernel_rfl) ?_
    simp only [List.take_succ_cons,List.take_zero,List.drop_succ_cons,List.drop_zero]
    repeat still_step
    refine wpStill_nil ?_
    go_wp2_with (go_at_call 68;refine(inteq_any a b _ (HIa.o.mono HC2.o.drew) (HIb.o.mono HC2.o.drew)).mono ?_;rintro e w3 ⟨rfl,hb3⟩;rw [HX.o];have hc3:=bel_drew hb3;have HC3:=ai (bT HC2.o hc3);have HB3:=ai (bT HB2.o hc3);clear ra rb v0 hb3 hc3;have ra:=HRa.o w3 HC3.o;have rb:=HRb.o w3 HC3.o;skip)
    go_ret2
    exact⟨TyOut.no rfl HJ.o,HB0.o.trans (HB3.o.mono HB0.o.size)⟩
   ·have HJ:=ai (show q.tq s= (0,a.l) by rw [HOPK.o,HGa.o,HGb.o,hx,if_pos rfl])
    clear hx;go_upto_region 41 with(first
     | (go_at_call 60;refine(formAt_8 _ (HF.o.mono HBW.o)).mono ?_;rintro e w1 ⟨rfl,hb1⟩;have HFB:=ai (Box.new w1 #[.string ⟨#[105,110,116,101,114,115,101,99,116]⟩,.int .i64 2,.string ⟨#[97,108,108]⟩] 103);have HC1:=ai (bT hb1 (belA (.cells #[.string ⟨#[105,110,116,101,114,115,101,99,116]⟩,.int .i64 2,.string ⟨#[97,108,108]⟩] 103)));have HB1:=ai (bT HBW.o HC1.o);clear y0 hb1;have z0:=(HQB.o.below HB1.o).cell (j:=0) rfl;have z1:=(HQB.o.below HB1.o).cell (j:=1) rfl;have z2:=(HQB.o.below HB1.o).cell (j:=2) rfl;have z3:=(HQB.o.below HB1.o).cell (j:=3) rfl;have z4:=(HQB.o.below HB1.o).cell (j:=4) rfl;have z5:=(HQB.o.below HB1.o).cell (j:=5) rfl;have z6:=(HQB.o.below HB1.o).cell (j:=6) rfl;have z7:=(HQB.o.below HB1.o).cell (j:=7) rfl;have z8:=(HQB.o.below HB1.o).cell (j:=8) rfl;have z9:=(HQB.o.below HB1.o).cell (j:=9) rfl;have z10:=(HQB.o.below HB1.o).cell (j:=10) rfl;have z11:=(HQB.o.below HB1.o).cell (j:=11) rfl;have z12:=(HQB.o.below HB1.o).cell (j:=12) rfl;have z13:=(HQB.o.below HB1.o).cell (j:=13) rfl;have z14:=(HQB.o.below HB1.o).cell (j:=14) rfl;skip)
     | (go_at_call 61;refine(cleanAt_8 q HOP.o _ (HQ.o.mono HB1.o) (HSH.o.keptBut (HB1.o.frame (fun _=>False)) (by simp))).mono ?_;rintro e w2 ⟨rfl,hb2⟩;rw [HPB.o];have HC2:=ai (bT HC1.o hb2);have HB2:=ai (bT HB1.o hb2);have f1:=(HFB.o.below hb2).cell (j:=1) rfl;clear z0 z1 z2 z3 z4 z5 z6 z7 z8 z9 z10 z11 z12 z13 z14 hb2;have v0:=(HQB.o.below HB2.o).cell (j:=0) rfl;have ra:=HRa.o w2 HC2.o;have rb:=HRb.o w2 HC2.o;skip))
    refine region_tail 6 mixed (by kernel_rfl) ?_
    simp only [List.take_succ_cons,List.take_zero,List.drop_succ_cons,List.drop_zero]
    repeat still_step
    refine wpStill_nil ?_
    go_wp2_with (go_at_call 68;refine(inteq_any a b _ (HIa.o.mono HC2.o.drew) (HIb.o.mono HC2.o.drew)).mono ?_;rintro e w3 ⟨rfl,hb3⟩;rw [HX.o];have hc3:=bel_drew hb3;have HC3:=ai (bT HC2.o hc3);have HB3:=ai (bT HB2.o hc3);clear ra rb v0 hb3 hc3;have ra:=HRa.o w3 HC3.o;have rb:=HRb.o w3 HC3.o;skip)
    go_ret2
    exact⟨TyOut.yes (o:=a) rfl (HIa.o.mono HC3.o) HFa.o HJ.o,HB0.o.trans (HB3.o.mono HB0.o.size)⟩
end Go.Proofs.YtogalchclmmfgaaDoor

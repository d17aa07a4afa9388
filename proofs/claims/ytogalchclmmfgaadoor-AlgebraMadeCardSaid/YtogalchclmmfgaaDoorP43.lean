/- A part of the proof of AlgebraMade. -/
import Derived.Test.YtogalchclmmfgaaDoorP21
import Derived.Test.YtogalchclmmfgaaDoorP37
import Derived.Test.YtogalchclmmfgaaDoorP42
import Derived.Deep.CutBlock
import Derived.OwnWalk
import Derived.Deep.DeepCutAuto
set_option maxRecDepth 100000
set_option maxHeartbeats 16000000
namespace Go.Proofs.YtogalchclmmfgaaDoor
open Go.RowKit
theorem made_walk (HSA:Hid SchemaAt) (HQ4:Hid (QryAt 2070 500 4)) (L:IL) (wh tn:Int) (w:World) (hL:L.In w) (hto:int64 tn) (hf:FormsAt w) (hopa:OpsAt w) (hsh:w.ShapedOpen Tryd.prog) :
  Calls Tryd.prog 5 #[.slice L.h.ao L.l.length L.h.cap,.int .i64 wh,.int .i64 tn] w fun e w'=>e = .returned (.bool true)∧Below w.heap.size w w':=by
 have HT:=ai (show TapeIn (w.alloc (.cells #[.slice L.h.ao L.l.length L.h.cap,.int .i64 0] 25)) w.heap.size L 0 from⟨(Box.new w _ _).cell (j:=0) rfl,(Box.new w _ _).cell (j:=1) rfl,(Box.new w _ _).fr 1,hL.mono (belA _),fun hp=>by have:=hL.1.blk hp;omega⟩)
 have HWX:=ai (show∀w':World,Below w.heap.size w w'→FormsAt w'∧OpsAt w'∧w'.ShapedOpen Tryd.prog from fun w' h=>⟨hf.mono h,hopa.mono h,hsh.keptBut (h.frame (fun _=>False)) (by simp)⟩)
 have HTO:=ai hto;clear hf hopa hsh hL hto
 go_enter Tryd.func5,Tryd.ntmps5;go_upto_region 3 with(go_at_call 7;refine(HSA.o _ w.heap.size 0 L HT.o (by omega)).mono ?_;rintro e w2 ⟨h,ts,rfl,h1,h3,a',ha',hso⟩;have HSK:=ai (hso.skd (by simp) h1 h3);have HTP:=ai hso.tp;have HGW:=ai hso.gb;have HB2:=ai (grown1 (B:=w.heap.size) (Below.refl _ _) (Nat.le_refl _) hso.gb (fun k hk=>by injection hk with hk;omega));clear hso)
 have HB3:=ai (HB2.o.trans ((belA (.cells #[.slice h.ao ts.length h.cap] 28)).mono HB2.o.size));have HS3:=ai (HSK.o.below (belA (.cells #[.slice h.ao ts.length h.cap] 28)));have HT3:=ai (HTP.o.mono (belA (.cells #[.slice h.ao ts.length h.cap] 28)));have HBX:=ai (Box.new w2 #[.slice h.ao ts.length h.cap] 28);have hcw:w.heap.size<w2.heap.size:=HTP.o.lt;have hW2: (w2.alloc (.cells #[.slice h.ao ts.length h.cap] 28)).heap.size=w2.heap.size+1:=by simp
 have HW2:=ai hW2;clear hW2;generalize w2.alloc (.cells #[.slice h.ao ts.length h.cap] 28) =W at *;clear HSK HB2 HT HTP HGW;generalize w2.heap.size=g8 at *;have x0:=HBX.o.cell (j:=0) rfl
 go_upto_region 4 with(go_at_call 13;refine(HQ4.o _ w.heap.size a' L ⟨h,ts⟩ g8 HS3.o (by have:=HW2.o;omega) HT3.o (by omega)).mono ?_;rintro e w3 ⟨⟨q,o,rfl,hqo⟩,⟨p,hp1,hp2,htp⟩,hgr⟩;have HQO:=ai hqo;have HGR:=ai hgr;clear hqo htp hgr)
 clear x0;have hsw:g8+1≤w3.heap.size:=by have:=HGR.o.size;have:=HW2.o;omega
 have HPW:=ai (show PW w w.heap.size ⟨h,ts⟩ g8 g8 (w3.alloc (.cells q.lit 57))from
  (show PW w w.heap.size ⟨h,ts⟩ g8 g8 w3 from⟨HS3.o.tape HGR.o,HBX.o.grown HGR.o (by simp;omega),HB3.o.grown HGR.o HB3.o.size (fun k e=>by injection e with e;omega),⟨Nat.le_refl _,by omega⟩⟩).below (belA _))
 have HQ0:=ai (HQO.o.below (belA (.cells q.lit 57)));have HB9:=ai (show Box (w3.alloc (.cells q.lit 57)) w3.heap.size q.cells.toArray 57 from Box.new w3 _ _)
 have hWg:W.heap.size=g8+1:=HW2.o;clear HT3 HS3 HB3 HBX HQO HGR HW2;generalize w3.alloc (.cells q.lit 57) =V at *;generalize hg9:w3.heap.size=g9 at *;generalize W.heap.size=B at *;have hsz:=HQ0.o.sz;have hwt:=HQ0.o.wt;have hbg:=HQ0.o.bg;have HSC:=ai (show SchS ⟨h,ts⟩from fun t ht=>by have:=HPW.o.sk.nc t ht;omega)
 obtain⟨v1,hv1⟩ : ∃v,(q.typeQ ⟨h,ts⟩).1=v:=⟨_,rfl⟩;have HV:=ai hv1;have HMQ:=ai (show(q.typeQ ⟨h,ts⟩).1=0→(q.typeQ ⟨h,ts⟩).2=o.l from fun h0=>by have h1:=typeQ_zero h0;rw [h1]at h0 ⊢;exact HQ0.o.mq h0)
 clear hv1;have HAL:=ai (show Sch.In V ⟨h,ts⟩∧FormsAt V∧OpsAt V∧V.ShapedOpen Tryd.prog from⟨HPW.o.sk.dep.now,HWX.o V HPW.o.bel⟩)
 have H08:=HPW.o.b8;have H09:=HB9.o;obtain⟨y0,y1,y2,y3,y4,y5,y6,y7,y8,y9,y10,y11,y12,y13,y14⟩:=HB9.o.c15;have x0:=HPW.o.b8.cell (j:=0) rfl
 go_upto_region 6 with(first
 | (go_at_call 14;refine(ctype_all ⟨h,ts⟩ HSC.o q _ HAL.o.1 HQ0.o.qd.inn HAL.o.2.1 HAL.o.2.2.1 HAL.o.2.2.2 (by omega) (by omega)).mono ?_;rintro e w4 ⟨⟨o1,rfl,hl1,hi1,-⟩,hb4⟩;rw [HV.o];have HL1:=ai hl1;have HI1:=ai hi1;have HBA:=ai hb4;have z0:=((H09).below hb4).cell (j:=0) rfl;have z1:=((H09).below hb4).cell (j:=1) rfl;have z2:=((H09).below hb4).cell (j:=2) rfl;have z3:=((H09).below hb4).cell (j:=3) rfl;have z4:=((H09).below hb4).cell (j:=4) rfl;have z5:=((H09).below hb4).cell (j:=5) rfl;have z6:=((H09).below hb4).cell (j:=6) rfl;have z7:=((H09).below hb4).cell (j:=7) rfl;have z8:=((H09).below hb4).cell (j:=8) rfl;have z9:=((H09).below hb4).cell (j:=9) rfl;have z10:=((H09).below hb4).cell (j:=10) rfl;have z11:=((H09).below hb4).cell (j:=11) rfl;have z12:=((H09).below hb4).cell (j:=12) rfl;have z13:=((H09).below hb4).cell (j:=13) rfl;have z14:=((H09).below hb4).cell (j:=14) rfl;have x1:=((H08).below hb4).cell (j:=0) rfl;clear hl1 hi1 hb4)
 | (go_at_call 15;refine(rtype_all ⟨h,ts⟩ HSC.o q _ (HAL.o.1.mono HBA.o) (HQ0.o.qd.inn.mono HBA.o) (HAL.o.2.1.mono HBA.o) (HAL.o.2.2.1.mono HBA.o) (HAL.o.2.2.2.keptBut (HBA.o.frame (fun _=>False)) (by simp)) (by omega) (by omega)).mono ?_;rintro e w5 ⟨⟨o2,rfl,hl2,hi2,-⟩,hb5⟩;rw [HV.o];have HL2:=ai hl2;have HI2:=ai hi2;have HBB:=ai hb5;clear hl2 hi2 hb5))
 clear y0 z0 y1 z1 y2 z2 y3 z3 y4 z4 y5 z5 y6 z6 y7 z7 y8 z8 y9 z9 y10 z10 y11 z11 y12 z12 y13 z13 y14 z14 x0 x1 H08 H09;have HBV:=ai (bT HBA.o HBB.o);have HOO:=ai (HQ0.o.od.now.mono HBV.o);have HOI1:=ai (HI1.o.mono HBB.o);clear HI1 HBA HBB;go_cut [57] (fun cv wx=>cv = .bool false∧Hid (Below w5.heap.size w5 wx))
 case first=>
  have HE12:=ai (show o1.l=o2.l from HL1.o.trans HL2.o.symm)
  by_cases hv:v1=0
  ·subst hv
   have HE2O:=ai (show o2.l=o.l from HL2.o.trans (HMQ.o HV.o))
   go_wp2_with (first
    | (go_at_call 16;with_reducible refine(lsame_any o1 o2 _ HOI1.o HI2.o).mono ?_;rintro e w6 ⟨rfl,hb6⟩;rw [decide_eq_true HE12.o];have HB6:=ai hb6;clear hb6)
    | (go_at_call 16;with_reducible refine(lsame_any o2 o _ (HI2.o.mono HB6.o) (HOO.o.mono HB6.o)).mono ?_;rintro e w7 ⟨rfl,hb7⟩;rw [decide_eq_true HE2O.o];have HB7:=ai (bT HB6.o hb7);clear hb7))
   go_meet
   exact⟨rfl,HB7.o⟩
  ·have hb0: (v1 == 0) =false:=beq_eq_false_iff_ne.2 hv
   have hbn: (v1 != v1) =false:=bne_self_eq_false _;clear hv;go_wp2_with (go_at_call 16;with_reducible refine(lsame_any o1 o2 _ HOI1.o HI2.o).mono ?_;rintro e w6 ⟨rfl,hb6⟩;rw [decide_eq_true HE12.o];have HB6:=ai hb6;clear hb6)
   go_meet
   exact⟨rfl,HB6.o⟩
 case rest=>
 obtain⟨rfl,HBC⟩:=hcut;have HBW:=ai (bT HBV.o HBC.o);have HP5:=ai (HPW.o.below HBW.o);have HQ5:=ai (HQ0.o.below HBW.o);have H9:=ai (HB9.o.below HBW.o);have h98:g8<g9:=by omega
 have HB:=ai (show B≤g9 by omega)
 clear HPW HQ0 HB9 HBW HBV HBC HOI1 HI2 HOO HL1 HL2 HMQ HV HAL
 go_upto_block 0 with fail
 generalize Go.bits BinOp.and IntKind.i64 wh 7=x;go_cut [] (fun wx=>Hid (∃q':Qu,q'.In wx∧q'.size≤1000000∧q'.wt≤1048576∧Box wx g9 q'.cells.toArray 57∧PW w w.heap.size ⟨h,ts⟩ g8 g8 wx))
 case first=>
  have hqle:=HQ5.o.qd.le;by_cases h0:x=0
  ·subst h0
   go_upto_if 66 with fail
   with_reducible refine wp_cond_true rfl ?_
   with_reducible refine lcase_0 HP5 HQ5 H9 HB HTO h98 (by omega) ?hc ?hN
   case hc=>rfl
   case hN=>
    intros
    try dsimp only
    go_wp2_with fail
    go_meet
    assumption
  have b0: (x == 0) =false:=beq_eq_false_iff_ne.2 h0;by_cases h1:x=1
  ·subst h1
   go_upto_if 70 with fail
   with_reducible refine wp_cond_true rfl ?_
   with_reducible refine lcase_1 HP5 HQ5 H9 HB HTO h98 (by omega) ?hc ?hN
   case hc=>rfl
   case hN=>
    intros
    try dsimp only
    go_wp2_with fail
    go_meet
    assumption
  have b1: (x == 1) =false:=beq_eq_false_iff_ne.2 h1;by_cases h2:x=2
  ·subst h2
   go_upto_if 74 with fail
   with_reducible refine wp_cond_true rfl ?_
   with_reducible refine lcase_2 HP5 HQ5 H9 HB HTO h98 (by omega) ?hc ?hN
   case hc=>rfl
   case hN=>
    intros
    try dsimp only
    go_wp2_with fail
    go_meet
    assumption
  have b2: (x == 2) =false:=beq_eq_false_iff_ne.2 h2;by_cases h3:x=3
  ·subst h3
   go_upto_if 80 with fail
   with_reducible refine wp_cond_true rfl ?_
   with_reducible refine lcase_3 HP5 HQ5 H9 HB HTO h98 (by omega) ?hc ?hN
   case hc=>rfl
   case hN=>
    intros
    try dsimp only
    go_wp2_with fail
    go_meet
    assumption
  have b3: (x == 3) =false:=beq_eq_false_iff_ne.2 h3;by_cases h4:x=4
  ·subst h4
   go_upto_if 85 with fail
   with_reducible refine wp_cond_true rfl ?_
   with_reducible refine lcase_4 HP5 HQ5 H9 HB HTO h98 (by omega) ?hc ?hN
   case hc=>rfl
   case hN=>
    intros
    try dsimp only
    go_wp2_with fail
    go_meet
    assumption
  have b4: (x == 4) =false:=beq_eq_false_iff_ne.2 h4;by_cases h5:x=5
  ·subst h5
   go_upto_if 94 with fail
   with_reducible refine wp_cond_true rfl ?_
   with_reducible refine lcase_5 HP5 HQ5 H9 HB HTO h98 (by omega) ?hc ?hN
   case hc=>rfl
   case hN=>
    intros
    try dsimp only
    go_wp2_with fail
    go_meet
    assumption
  have b5: (x == 5) =false:=beq_eq_false_iff_ne.2 h5;by_cases h6:x=6
  ·subst h6
   go_upto_if 103 with fail
   with_reducible refine wp_cond_true rfl ?_
   with_reducible refine lcase_6 HP5 HQ5 H9 HB HTO h98 (by omega) ?hc ?hN
   case hc=>rfl
   case hN=>
    intros
    try dsimp only
    go_wp2_with fail
    go_meet
    assumption
  have b6: (x == 6) =false:=beq_eq_false_iff_ne.2 h6
  go_upto_if 103 with fail
  with_reducible refine wp_cond_false rfl ?_
  with_reducible refine lcase_7 HP5 HQ5 H9 HB HTO h98 (by omega) ?hc ?hN
  case hc=>rfl
  case hN=>
   intros
   try dsimp only
   go_wp2_with fail
   go_meet
   assumption
 case rest=>
  obtain⟨q',hqi,hsz',hwt',hb9,hpw⟩:=hcut.o;have HPW:=ai hpw;have HQI:=ai hqi;have HNL:=ai (show Sch.In wc ⟨h,ts⟩∧FormsAt wc∧OpsAt wc∧wc.ShapedOpen Tryd.prog from⟨hpw.sk.dep.now,HWX.o wc hpw.bel⟩)
  have H18:=hpw.b8;have H19:=hb9;clear hcut hpw hqi HP5 HQ5 H9;obtain⟨v2,hv2⟩ : ∃v,(q'.typeQ ⟨h,ts⟩).1=v:=⟨_,rfl⟩;have HV:=ai hv2;clear hv2;obtain⟨y0,y1,y2,y3,y4,y5,y6,y7,y8,y9,y10,y11,y12,y13,y14⟩:=H19.c15;have x0:=H18.cell (j:=0) rfl
  go_upto_region 27 with(first
  | (go_at_call 14;refine(ctype_all ⟨h,ts⟩ HSC.o q' _ HNL.o.1 HQI.o HNL.o.2.1 HNL.o.2.2.1 HNL.o.2.2.2 hsz' hwt').mono ?_;rintro e w8 ⟨⟨o3,rfl,hl1,hi1,-⟩,hb4⟩;rw [HV.o];have HL1:=ai hl1;have HI1:=ai hi1;have HBA:=ai hb4;have z0:=((H19).below hb4).cell (j:=0) rfl;have z1:=((H19).below hb4).cell (j:=1) rfl;have z2:=((H19).below hb4).cell (j:=2) rfl;have z3:=((H19).below hb4).cell (j:=3) rfl;have z4:=((H19).below hb4).cell (j:=4) rfl;have z5:=((H19).below hb4).cell (j:=5) rfl;have z6:=((H19).below hb4).cell (j:=6) rfl;have z7:=((H19).below hb4).cell (j:=7) rfl;have z8:=((H19).below hb4).cell (j:=8) rfl;have z9:=((H19).below hb4).cell (j:=9) rfl;have z10:=((H19).below hb4).cell (j:=10) rfl;have z11:=((H19).below hb4).cell (j:=11) rfl;have z12:=((H19).below hb4).cell (j:=12) rfl;have z13:=((H19).below hb4).cell (j:=13) rfl;have z14:=((H19).below hb4).cell (j:=14) rfl;have x1:=((H18).below hb4).cell (j:=0) rfl;clear hl1 hi1 hb4)
  | (go_at_call 15;refine(rtype_all ⟨h,ts⟩ HSC.o q' _ (HNL.o.1.mono HBA.o) (HQI.o.mono HBA.o) (HNL.o.2.1.mono HBA.o) (HNL.o.2.2.1.mono HBA.o) (HNL.o.2.2.2.keptBut (HBA.o.frame (fun _=>False)) (by simp)) hsz' hwt').mono ?_;rintro e w9 ⟨⟨o4,rfl,hl2,hi2,-⟩,hb5⟩;rw [HV.o];have HL2:=ai hl2;have HI2:=ai hi2;have HBB:=ai hb5;clear hl2 hi2 hb5))
  clear y0 z0 y1 z1 y2 z2 y3 z3 y4 z4 y5 z5 y6 z6 y7 z7 y8 z8 y9 z9 y10 z10 y11 z11 y12 z12 y13 z13 y14 z14 x0 x1 H18 H19 hb9;have HE12:=ai (show o3.l=o4.l from HL1.o.trans HL2.o.symm)
  have HOI1:=ai (HI1.o.mono HBB.o);have HBV:=ai (bT HBA.o HBB.o);go_wp2_with (go_at_call 16;with_reducible refine(lsame_any o3 o4 _ HOI1.o HI2.o).mono ?_;rintro e wa ⟨rfl,hb6⟩;rw [decide_eq_true HE12.o];have HB6:=ai (bT HBV.o hb6);clear hb6)
  go_ret
  exact⟨rfl,HPW.o.bel.trans (HB6.o.mono HPW.o.bel.size)⟩
 end Go.Proofs.YtogalchclmmfgaaDoor

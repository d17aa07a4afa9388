/- meaning.Fits of an instance that fits. -/
import Derived.Test.YtiijaaohphokcaaGreatDoorG34
import Derived.Test.YtiijaaohphokcaaGreatDoorG17
import Derived.Test.YtiijaaohphokcaaGreatDoorG10
import Derived.Deep.DeepCutAuto
set_option maxRecDepth 100000
set_option maxHeartbeats 16000000
namespace Go.Proofs.YtiijaaohphokcaaGreatDoor
open Go.RowKit
theorem fit_row {s:Sch} {x:Ins} {n:Nat} (hp:PSch s) (hf:FitI (colT s) x n) {k:Nat} (hk:k<s.tabs.length) : ∃(hx:k<x.l.length) (nm:ByteArray) (ch:Hd) (cols:List Col) (ph:Hd),s.tabs[k] =pt nm ch cols ph∧PCols cols∧x.l[k].l.length≤n∧∀v∈x.l[k].l,v.l.length=cols.length∧∀i (h1:i<v.l.length) (h2:i<cols.length),ValOk v.l[i] (cols[i]).typ:=by
 have hx:k<x.l.length:=by rw [hf.len];show k< (s.tabs.map _).length;rw [List.length_map];exact hk
 obtain⟨nm,ch,cols,ph,e,_,hc⟩:=hp.pl _ (List.getElem_mem hk);refine⟨hx,nm,ch,cols,ph,e,hc,hf.few _ (List.getElem_mem hx),fun v hv=> ?_⟩
 have hT: (colT s)[k]? = some (cols.map Col.typ):=by
  show(s.tabs.map _)[k]? = _
  rw [List.getElem?_map,List.getElem?_eq_getElem hk,e];rfl
 obtain⟨h1,h2⟩:=hf.row k _ _ (List.getElem?_eq_getElem hx) hT v hv;rw [List.length_map]at h1;exact⟨h1,fun i g1 g2=>h2 i _ _ (List.getElem?_eq_getElem g1) (by rw [List.getElem?_map,List.getElem?_eq_getElem g2];rfl)⟩
theorem fitsI_yes (s:Sch) (x:Ins) (n:Nat) (w:World) (hs:s.In w) (hp:PSch s) (hx:x.In w) (hf:FitI (colT s) x n) (hn:n≤200) (hsh:w.ShapedOpen Tryz.prog) :
  Calls Tryz.prog 54 #[.agg #[.slice s.th.ao s.tabs.length s.th.cap],.agg #[.slice x.h.ao x.l.length x.h.cap]] w fun e w'=>e = .returned (.int .i64 0)∧Below w.heap.size w w':=by
 obtain⟨X,hX⟩ : ∃X,(w.alloc (.cells #[.slice s.th.ao s.tabs.length s.th.cap] 27)).alloc (.cells #[.slice x.h.ao x.l.length x.h.cap] 46) =X:=⟨_,rfl⟩;have HBX:=ai (show Below w.heap.size w X from by rw [←hX];exact belAA _ _)
 have HBS:=ai (show Box X w.heap.size #[.slice s.th.ao s.tabs.length s.th.cap] 27 from by rw [←hX];exact(Box.new _ _ _).below (belA _))
 have HBI:=ai (show Box X (w.heap.size+1) #[.slice x.h.ao x.l.length x.h.cap] 46 from by
  rw [←hX];have h:=Box.new (w.alloc (.cells #[.slice s.th.ao s.tabs.length s.th.cap] 27)) #[.slice x.h.ao x.l.length x.h.cap] 46
  rwa [World.size_alloc]at h)
 have HV:=ai (svalid_plain s X (hs.mono HBX.o) hp (ShX hsh HBX.o));have HS:=ai hs;have HXI:=ai hx;have HP:=ai hp;have HF:=ai hf;have s0:X.cell? ⟨w.heap.size,0,none⟩ =some (.slice s.th.ao s.tabs.length s.th.cap):=HBS.o.cell rfl;have hn6:s.tabs.length≤6:=hp.n6;have hlx:x.l.length=s.tabs.length:=by rw [hf.len];exact List.length_map _
 have hlb: ((x.l.length:Int) != (s.tabs.length:Int)) =false:=by rw [hlx];exact bne_self_eq_false _
 have HLX:=ai hlx;clear hs hp hx hf hsh hlx
 go_enter Tryz.func54,Tryz.ntmps54;go_upto_region 1 with fail
 try rw [hX]
 clear hX;go_upto_region 2 with(go_at_call 68;refine HV.o.mono ?_;rintro e y ⟨rfl,hb⟩;have HY:=ai (bT HBX.o hb);have HSY:=ai (HBS.o.below hb);have HIY:=ai (HBI.o.below hb);clear hb s0)
 have s0:y.cell? ⟨w.heap.size,0,none⟩ =some (.slice s.th.ao s.tabs.length s.th.cap):=HSY.o.cell rfl;have i0:y.cell? ⟨w.heap.size+1,0,none⟩ =some (.slice x.h.ao x.l.length x.h.cap):=HIY.o.cell rfl;go_wp2;clear s0 i0;go_loopw [27] (fun i wr=>∃k:Nat,k≤s.tabs.length∧i = .int .i64 k∧Hid (Below y.heap.size y wr)) (fun i _=>s.tabs.length - (intOf i).toNat)
 case atStart=>exact⟨0,Nat.zero_le _,rfl,ai (Below.refl _ _)⟩
 case round=>
  obtain⟨k,hk,rfl,HW⟩:=hrel;by_cases hlt:k<s.tabs.length
  ·have HBW:=ai (bT HY.o HW.o)
   have hsr:=(HS.o.mono HBW.o).rt;have hix:=hsr.ix hlt Tryz.underlying25 sz22;have htab:=tab_at hsr hlt;have hbk:=hsr.blk hlt;obtain⟨hxl,nm,ch,cols,ph,e,hpc,hfew,hrw⟩:=fit_row HP.o HF.o hlt;have HTI:=ai (HS.o.ts _ (List.getElem_mem hlt));rw [e]at htab HTI;obtain⟨t0,t1,t2,t3,t4,t5⟩:=htab
   change wr.cell? ⟨s.th.b,s.th.o+k*6+2,none⟩ =some (.slice ph.ao 1 ph.cap)at t2
   change wr.cell? ⟨s.th.b,s.th.o+k*6+3,none⟩ =some (.slice none 0 0)at t3
   change wr.cell? ⟨s.th.b,s.th.o+k*6+4,none⟩ =some (.slice none 0 0)at t4
   change wr.cell? ⟨s.th.b,s.th.o+k*6+5,none⟩ =some (.slice none 0 0)at t5
   have HPC:=ai hpc;obtain⟨R,hR⟩ : ∃R,x.l[k] =R:=⟨_,rfl⟩;rw [hR]at hfew hrw;have HRW:=ai hrw;have HRI:=ai (show R.In w from hR▸HXI.o.2 _ (List.getElem_mem hxl))
   have hixx:=(HXI.o.1.mono HBW.o).ix hxl Tryz.underlying44 szrl;have r0:=rl_at (HXI.o.1.mono HBW.o) hxl;have hbx:=(HXI.o.1.mono HBW.o).blk hxl;rw [hR]at r0;have hf2: ¬(200:Int) <R.l.length:=by omega
   have hrl:R.l.length≤9223372036854775807:=by omega
   obtain⟨Z,hZ⟩ : ∃Z,wr.alloc (.cells #[.string nm,.slice ch.ao cols.length ch.cap,.slice ph.ao 1 ph.cap,.slice none 0 0,.slice none 0 0,.slice none 0 0] 78) =Z:=⟨_,rfl⟩;have HZB:=ai (box1X hZ).2;have HZT:=ai (box1X hZ).1;have HZW:=ai (bT HBW.o HZB.o);have HZT2:=HZT;have HZI:=ai ((HIY.o.below HW.o).below HZB.o);have i0:Z.cell? ⟨w.heap.size+1,0,none⟩ =some (.slice x.h.ao x.l.length x.h.cap):=HZI.o.cell rfl;have r0z:Z.cell? ⟨x.h.b,x.h.o+k,none⟩ =some (.slice R.h.ao R.l.length R.h.cap):=by rw [HZB.o.cell (p:=⟨x.h.b,x.h.o+k,none⟩) hbx];exact r0
   have HZE:=ai hZ;clear e hpc hR hrw r0 hZ;go_upto_region 9 with fail
   rw [HZE.o];clear HZE hix t0 t1 t2 t3 t4 t5;go_wp2;clear i0 r0z hixx;go_loopw [45] (fun i wr=>∃j:Nat,j≤R.l.length∧i = .int .i64 j∧Hid (Below Z.heap.size Z wr)) (fun i _=>R.l.length - (intOf i).toNat)
   case atStart=>exact⟨0,Nat.zero_le _,rfl,ai (Below.refl _ _)⟩
   case round=>
    obtain⟨j,hj,rfl,HW2⟩:=hrel;by_cases hlj:j<R.l.length
    ·have HBW2:=ai (bT HZW.o HW2.o)
     have hrr:=(HRI.o.mono HBW2.o).1;have hixr:=hrr.ix hlj Tryz.underlying49 szrv;have v0:=vl_at hrr hlj;have hbr:=hrr.blk hlj;obtain⟨r,hr⟩ : ∃r,R.l[j] =r:=⟨_,rfl⟩;have HRM:=ai (show r∈R.l from hr▸List.getElem_mem hlj)
     rw [hr]at v0;obtain⟨hrl1,hrok⟩:=HRW.o r HRM.o;have hrb: ((r.l.length:Int) != (cols.length:Int)) =false:=by rw [hrl1];exact bne_self_eq_false _
     have HRL1:=ai hrl1;have HROK:=ai hrok;have HRIN:=ai (HRI.o.2 r HRM.o);have hrn:=HRIN.o.1.len;have z1:=(HZT2.o.below HW2.o).cell (j:=1) rfl
     clear hr hrl1 hrok;go_wp2;clear v0 z1 hixr;go_loopw [57] (fun i wr=>∃c:Nat,c≤r.l.length∧i = .int .i64 c∧Hid (Below Z.heap.size Z wr)) (fun i _=>r.l.length - (intOf i).toNat)
     case atStart=>exact⟨0,Nat.zero_le _,rfl,HW2⟩
     case round=>
      obtain⟨c,hc,rfl,HW3⟩:=hrel;by_cases hlc:c<r.l.length
      ·have hcc:c<cols.length:=by rw [←HRL1.o];exact hlc
       have HBW3:=ai (bT HZW.o HW3.o);have hvr:=(HRIN.o.mono HBW3.o).1;have hixv:=hvr.ix hlc Tryz.underlying96 szv3;obtain⟨d0,d1,d2⟩:=val_at hvr hlc;have hbv:=hvr.blk hlc;obtain⟨v,hv⟩ : ∃v,r.l[c] =v:=⟨_,rfl⟩;have hok:=HROK.o c hlc hcc;rw [hv]at d0 d1 d2 hok;obtain⟨ty,hty⟩ : ∃t,(cols[c]).typ=t:=⟨_,rfl⟩;rw [hty]at hok;have hty2:=HPC.o.ty _ (List.getElem_mem hcc);rw [hty]at hty2;obtain⟨hwf,hvd,hkd⟩:=hok;have HWF:=ai hwf;have HVD:=ai hvd;have hk0: (v.kind != 0) =true:=bne_iff_ne.2 (by rw [hkd];omega)
       have hkt: (v.kind != ty) =false:=by rw [hkd];exact bne_self_eq_false _
       obtain⟨V,hV⟩ : ∃V,wr.alloc (.cells #[.int .i64 v.kind,.int .i64 v.num,.string v.text] 81) =V:=⟨_,rfl⟩;have HVB:=ai (box1X hV).2;have HVX:=ai (box1X hV).1;have HVZ:=ai (bT HW3.o HVB.o);have HVW:=ai (bT HBW3.o HVB.o);have y0:=hy_of (HVX.o.cell (j:=0) rfl)
       have y1:=hy_of (HVX.o.cell (j:=1) rfl)
       have y2:=hy_of (HVX.o.cell (j:=2) rfl)
       have yt:=hy_of ((HZT2.o.below HVZ.o).cell (j:=1) rfl)
       have hcr:=(HTI.o.mono HVW.o).rc;have hixc:=hcr.ix hcc Tryz.underlying73 sz30;have yc:=hy_of (col_at hcr hcc).2.1;rw [hty]at yc;have hbc:=hcr.blk hcc;have HVA:=ai (fun W=>vval_any v HWF.o W)
       clear hv hty hty2 hwf hvd hkd hcr;go_upto_region 19 with fail
       try rw [hV]
       clear hV d0 d1 d2 hixv;obtain⟨vk,vn,vt⟩:=v
       dsimp only at *
       go_region_held3 (fun w'=>Below V.heap.size V w') ((first|exact(Below.refl _ _).drew|exact bT (by assumption) (by assumption))) (first
        | (go_at_call 92;refine(HVA.o _).mono ?_;rintro e Y ⟨rfl,hb⟩;rw [HVD.o]))
       have HBY:=ai (show Below V.heap.size V Y by assumption)
       clear hb y0 y1 y2 yt yc hixc hk0 hkt;go_wp2;go_roundw
       case rel=>exact⟨c+1,by omega,by go_num,ai (bT HVZ.o HBY.o)⟩
       case measure=>simp [intOf];omega
      ·go_wp2
       go_roundw
       case rel=>exact⟨j+1,by omega,by go_num,HW3⟩
       case measure=>simp [intOf];omega
    ·go_wp2
     go_roundw
     case rel=>exact⟨k+1,by omega,by go_num,ai (bT (bT HW.o HZB.o) HW2.o)⟩
     case measure=>simp [intOf];omega
  ·go_wp2
   go_ret
   exact⟨rfl,bT HY.o HW.o⟩
end Go.Proofs.YtiijaaohphokcaaGreatDoor
/- conjunctive.Eval: no value of a row is null. -/
namespace Go.Proofs.YtiijaaohphokcaaGreatDoor
open Go.RowKit
theorem nullc_any (v:V) (h0:v.kind≠0) (w:World) :Calls Tryz.prog 56 #[.agg #[.int .i64 v.kind,.int .i64 v.num,.string v.text]] w fun e w'=>e = .returned (.bool false)∧Below w.heap.size w w':=by
 have hb: (v.kind == 0) =false:=beq_eq_false_iff_ne.2 h0;obtain⟨vk,vn,vt⟩:=v
 dsimp only at *
 clear h0
 go_enter Tryz.func56,Tryz.ntmps56;go_wp2;go_ret
 exact⟨rfl,belA _⟩
theorem nullx_any (r:VL) (w:World) (hr:r.In w) (h0: ∀v∈r.l,v.kind≠0) :Calls Tryz.prog 93 #[.slice r.h.ao r.l.length r.h.cap,.func (.func 56) #[] #[]] w fun e w'=>e = .returned (.int .i64 (-1))∧Below w.heap.size w w':=by
 have hn:=hr.1.len;have HR:=ai hr;have H0:=ai h0;clear hr h0
 go_enter Tryz.func93,Tryz.ntmps93;go_wp2;go_loopw [5,8] (fun _ i wr=>∃k:Nat,k≤r.l.length∧i = .int .i64 k∧Hid (Below w.heap.size w wr)) (fun _ i _=>r.l.length - (intOf i).toNat)
 case atStart=>exact⟨0,Nat.zero_le _,rfl,ai (Below.refl _ _)⟩
 case round=>
  obtain⟨k,hk,rfl,HB⟩:=hrel;by_cases hlt:k<r.l.length
  ·have hrr:=(HR.o.mono HB.o).1
   have hix:=hrr.ix hlt Tryz.underlying96 szv3;obtain⟨c0,c1,c2⟩:=val_at hrr hlt;obtain⟨v,hv⟩ : ∃v,r.l[k] =v:=⟨_,rfl⟩;have HV:=ai (show v.kind≠0 from hv▸H0.o _ (List.getElem_mem hlt))
   rw [hv]at c0 c1 c2;have hbk:=hrr.blk hlt;have HC:=ai (fun W=>nullc_any v HV.o W)
   obtain⟨vk,vn,vt⟩:=v
   dsimp only at c0 c1 c2 HC
   clear hv hrr HV;go_wp2_with (go_at_call 56;refine(HC.o _).mono ?_;rintro e x ⟨rfl,hb⟩;have HX:=ai (bT HB.o hb);clear hb)
   go_roundw
   case rel=>exact⟨k+1,by omega,by go_num,HX⟩
   case measure=>simp [intOf];omega
  ·go_wp2
   go_ret
   exact⟨rfl,HB.o⟩
theorem nulls_any (r:VL) (w:World) (hr:r.In w) (h0: ∀v∈r.l,v.kind≠0) :Calls Tryz.prog 55 #[.slice r.h.ao r.l.length r.h.cap,.func (.func 56) #[] #[]] w fun e w'=>e = .returned (.bool false)∧Below w.heap.size w w':=by
 have HC:=ai (nullx_any r w hr h0);clear hr h0
 go_enter Tryz.func55,Tryz.ntmps55;go_wp2_with (go_at_call 93;refine HC.o.mono ?_;rintro e x ⟨rfl,hb⟩)
 go_ret
 exact⟨rfl,hb⟩
end Go.Proofs.YtiijaaohphokcaaGreatDoor
/- conjunctive.Eval: the region that makes the solver. -/
namespace Go.Proofs.YtiijaaohphokcaaGreatDoor
open Go.RowKit
noncomputable def evBody:Code:=Tryz.f19.body.getD .skip
theorem made_at {n y i:Nat} {v:Value} (hy:y<n) (hi: ([.int .i64 0,.int .i64 0,.string ByteArray.empty] :List Value)[i]? = some v) : (madeCells (Value.agg #[.int .i64 0,.int .i64 0,.string ByteArray.empty]).cells (n*3)).toList[y*3+i]? = some v:=by
 have hi3:i<3:=(List.getElem?_eq_some_iff.1 hi).1;have hl:y*3+i<n*3:=by omega
 have hm: (y*3+i) % 3=i:=by omega
 rw [Array.getElem?_toList]
 unfold madeCells
 rw [Array.getElem?_map,Array.getElem?_range,if_pos hl]
 show some ((#[.int .i64 0,.int .i64 0,.string ByteArray.empty] :Array Value)[(y*3+i) % 3]!) =_
 rw [hm];have h3:i=0∨i=1∨i=2:=by omega
 rcases h3 with rfl|rfl|rfl<;>exact hi
theorem ev_reg {g4 g5:Nat} {q:Cq} {ia:Ins} {W:World} (hqv:q.vars≤1000) (HQB:Hid (Box W g5 #[.int .i64 (q.vars:Nat),.slice q.lh.ao q.lits.length q.lh.cap,.slice q.head.h.ao q.head.l.length q.head.h.cap] 32)) (HIB:Hid (Box W g4 #[.slice ia.h.ao ia.l.length ia.h.cap] 46)) {Q:Exit→Act→World→Prop} {c:Code} {u0 u1 u2 u3 u6 u7 u8 u9 u10 u11 u12 u13 u14 u15 u16 u17 u18 u19 u20 u21 u22 u23 u24 u25 u26 u27 u28 u29 u30 u31 u32 u33 u34 u35 u36 u37 u38 u39 u40 u41 u42 u43 u44 u45 u46 u47 u48 u49 u50 u51 u52 u53 u54 u55 u56 u57 u58 u59 u60 u61 u62 u63 u64 u65:Value} (hc:c=codeIn [1,1,1,1,0] evBody) (hend: ∀b5 c8 b9 c9 b10 x,Below W.heap.size W x→Box x b10 #[.int .i64 0,.slice none 0 0,.slice none 0 0,.slice none 0 0,.slice none 0 0,.slice none 0 0,.slice none 0 0] 104→x.ownsRow W.heap.size 4 1 (.slice (some ⟨b9,0,none⟩) q.vars q.vars) q.vars (madeCells (Value.bool false).cells (q.vars*1)).toList→x.ownsRow W.heap.size 81 3 (.slice (some ⟨c9,0,none⟩) q.vars q.vars) q.vars (madeCells (Value.agg #[.int .i64 0,.int .i64 0,.string ByteArray.empty]).cells (q.vars*3)).toList→(b9≠b10∧c9≠b10∧b9≠c9)→W.heap.size≤b10→Q .normal { tmps:=(u0 :: u1 :: u2 :: u3 :: (.pointer (some ⟨g4,0,none⟩)) :: (.pointer (some ⟨g5,0,none⟩)) :: u6 :: u7 :: u8 :: u9 :: u10 :: u11 :: u12 :: u13 :: .pointer (some ⟨b10,0,none⟩) :: u15 :: u16 :: u17 :: u18 :: u19 :: u20 :: u21 :: u22 :: u23 :: u24 :: u25 :: u26 :: u27 :: u28 :: u29 :: u30 :: u31 :: u32 :: u33 :: u34 :: u35 :: u36 :: u37 :: u38 :: u39 :: u40 :: u41 :: u42 :: u43 :: u44 :: u45 :: u46 :: u47 :: u48 :: .agg #[.int .i64 (q.vars:Nat),.slice q.lh.ao q.lits.length q.lh.cap,.slice q.head.h.ao q.head.l.length q.head.h.cap] :: .pointer (some ⟨g4,0,none⟩) :: .slice ia.h.ao ia.l.length ia.h.cap :: .pointer (some ⟨g5,0,none⟩) :: .int .i64 (q.vars:Nat) :: .slice (some ⟨b5,0,none⟩) q.vars q.vars :: .pointer (some ⟨g5,0,none⟩) :: .int .i64 (q.vars:Nat) :: .slice (some ⟨c8,0,none⟩) q.vars q.vars :: .agg #[.int .i64 (q.vars:Nat),.slice q.lh.ao q.lits.length q.lh.cap,.slice q.head.h.ao q.head.l.length q.head.h.cap,.slice ia.h.ao ia.l.length ia.h.cap,.slice (some ⟨b9,0,none⟩) q.vars q.vars,.slice (some ⟨c9,0,none⟩) q.vars q.vars,.slice none 0 0] :: u59 :: u60 :: u61 :: u62 :: u63 :: u64 :: u65 :: []).toArray,defers:= [] } (((((((x.setCell ⟨b10,0,none⟩ (.int .i64 (q.vars:Nat))).setCell ⟨b10,1,none⟩ (.slice q.lh.ao q.lits.length q.lh.cap)).setCell ⟨b10,2,none⟩ (.slice q.head.h.ao q.head.l.length q.head.h.cap)).setCell ⟨b10,3,none⟩ (.slice ia.h.ao ia.l.length ia.h.cap)).setCell ⟨b10,4,none⟩ (.slice (some ⟨b9,0,none⟩) q.vars q.vars)).setCell ⟨b10,5,none⟩ (.slice (some ⟨c9,0,none⟩) q.vars q.vars)).setCell ⟨b10,6,none⟩ (.slice none 0 0))) :Code.wp Tryz.prog c Q { tmps:=(u0 :: u1 :: u2 :: u3 :: (.pointer (some ⟨g4,0,none⟩)) :: (.pointer (some ⟨g5,0,none⟩)) :: u6 :: u7 :: u8 :: u9 :: u10 :: u11 :: u12 :: u13 :: u14 :: u15 :: u16 :: u17 :: u18 :: u19 :: u20 :: u21 :: u22 :: u23 :: u24 :: u25 :: u26 :: u27 :: u28 :: u29 :: u30 :: u31 :: u32 :: u33 :: u34 :: u35 :: u36 :: u37 :: u38 :: u39 :: u40 :: u41 :: u42 :: u43 :: u44 :: u45 :: u46 :: u47 :: u48 :: u49 :: u50 :: u51 :: u52 :: u53 :: u54 :: u55 :: u56 :: u57 :: u58 :: u59 :: u60 :: u61 :: u62 :: u63 :: u64 :: u65 :: []).toArray,defers:= [] } W:=by
 subst hc;conv=>enter [2];whnf
 refine wp_region_tail (by kernel_rfl) (by kernel_rfl) 11 (by show 11<_;decide) (by kernel_rfl) (by kernel_rfl) (fun s:Nat→Value=>({ tmps:=(u0 :: u1 :: u2 :: u3 :: (.pointer (some ⟨g4,0,none⟩)) :: (.pointer (some ⟨g5,0,none⟩)) :: u6 :: u7 :: u8 :: u9 :: u10 :: u11 :: u12 :: u13 :: s 14 :: u15 :: u16 :: u17 :: u18 :: u19 :: u20 :: u21 :: u22 :: u23 :: u24 :: u25 :: u26 :: u27 :: u28 :: u29 :: u30 :: u31 :: u32 :: u33 :: u34 :: u35 :: u36 :: u37 :: u38 :: u39 :: u40 :: u41 :: u42 :: u43 :: u44 :: u45 :: u46 :: u47 :: u48 :: s 49 :: s 50 :: s 51 :: s 52 :: s 53 :: s 54 :: s 55 :: s 56 :: s 57 :: s 58 :: u59 :: u60 :: u61 :: u62 :: u63 :: u64 :: u65 :: []).toArray,defers:= [] } : Act)) (fun k=>if k=49 then u49 else if k=50 then u50 else if k=51 then u51 else if k=52 then u52 else if k=53 then u53 else if k=54 then u54 else if k=55 then u55 else if k=56 then u56 else if k=57 then u57 else if k=58 then u58 else if k=14 then u14 else undef) rfl (fun i v x=>(i=5→∃b5,v = .slice (some ⟨b5,0,none⟩) q.vars q.vars∧x.ownsRow W.heap.size 4 1 (.slice (some ⟨b5,0,none⟩) q.vars q.vars) q.vars (madeCells (Value.bool false).cells (q.vars*1)).toList)∧(i=8→∃c8,v = .slice (some ⟨c8,0,none⟩) q.vars q.vars∧x.ownsRow W.heap.size 81 3 (.slice (some ⟨c8,0,none⟩) q.vars q.vars) q.vars (madeCells (Value.agg #[.int .i64 0,.int .i64 0,.string ByteArray.empty]).cells (q.vars*3)).toList)∧(i=9→∃b9 c9,v = .agg #[.int .i64 (q.vars:Nat),.slice q.lh.ao q.lits.length q.lh.cap,.slice q.head.h.ao q.head.l.length q.head.h.cap,.slice ia.h.ao ia.l.length ia.h.cap,.slice (some ⟨b9,0,none⟩) q.vars q.vars,.slice (some ⟨c9,0,none⟩) q.vars q.vars,.slice none 0 0]∧x.ownsRow W.heap.size 4 1 (.slice (some ⟨b9,0,none⟩) q.vars q.vars) q.vars (madeCells (Value.bool false).cells (q.vars*1)).toList∧x.ownsRow W.heap.size 81 3 (.slice (some ⟨c9,0,none⟩) q.vars q.vars) q.vars (madeCells (Value.agg #[.int .i64 0,.int .i64 0,.string ByteArray.empty]).cells (q.vars*3)).toList)∧(i=10→∃b,v = .pointer (some ⟨b,0,none⟩)∧Box x b #[.int .i64 0,.slice none 0 0,.slice none 0 0,.slice none 0 0,.slice none 0 0,.slice none 0 0,.slice none 0 0] 104∧W.heap.size≤b)∧(i≠5→i≠8→i≠9→i≠10→([.agg #[.int .i64 (q.vars:Nat),.slice q.lh.ao q.lits.length q.lh.cap,.slice q.head.h.ao q.head.l.length q.head.h.cap],.pointer (some ⟨g4,0,none⟩),.slice ia.h.ao ia.l.length ia.h.cap,.pointer (some ⟨g5,0,none⟩),.int .i64 (q.vars:Nat),undef,.pointer (some ⟨g5,0,none⟩),.int .i64 (q.vars:Nat),undef,undef,undef] :List Value)[i]? = some v)) (fun i v x y h hb=>⟨fun hi=>(by obtain⟨b5,h0,q0⟩:=h.1 hi;exact⟨b5,h0,q0.kept (only_below hb none) (Classical.em _)⟩),fun hi=>(by obtain⟨c8,h0,q0⟩:=h.2.1 hi;exact⟨c8,h0,q0.kept (only_below hb none) (Classical.em _)⟩),fun hi=>(by obtain⟨b9,c9,h0,q0,q1⟩:=h.2.2.1 hi;exact⟨b9,c9,h0,q0.kept (only_below hb none) (Classical.em _),q1.kept (only_below hb none) (Classical.em _)⟩),fun hi=>(by obtain⟨b,h1,h2,h3⟩:=h.2.2.2.1 hi;exact⟨b,h1,h2.below hb,h3⟩),h.2.2.2.2⟩) (fun i=>([49,50,51,52,53,54,55,56,57,58,14] :List Nat).getD i 0) ?inj ?step ?last
 case inj=>
  intro i j hi hj h;have hI:i=0∨i=1∨i=2∨i=3∨i=4∨i=5∨i=6∨i=7∨i=8∨i=9∨i=10:=by omega
  have hJ:j=0∨j=1∨j=2∨j=3∨j=4∨j=5∨j=6∨j=7∨j=8∨j=9∨j=10:=by omega
  rcases hI with rfl|rfl|rfl|rfl|rfl|rfl|rfl|rfl|rfl|rfl|rfl<;>rcases hJ with rfl|rfl|rfl|rfl|rfl|rfl|rfl|rfl|rfl|rfl|rfl<;>first|rfl| (exact absurd h (by decide))
 case last=>
  intro s x hv hb;have HB:=ai hb;clear hb;have z0:s 49 = .agg #[.int .i64 (q.vars:Nat),.slice q.lh.ao q.lits.length q.lh.cap,.slice q.head.h.ao q.head.l.length q.head.h.cap]:=by have h:=(hv 0 (by decide)).2.2.2.2 (by decide) (by decide) (by decide) (by decide);injection h with h;exact h.symm
  have z1:s 50 = .pointer (some ⟨g4,0,none⟩):=by have h:=(hv 1 (by decide)).2.2.2.2 (by decide) (by decide) (by decide) (by decide);injection h with h;exact h.symm
  have z2:s 51 = .slice ia.h.ao ia.l.length ia.h.cap:=by have h:=(hv 2 (by decide)).2.2.2.2 (by decide) (by decide) (by decide) (by decide);injection h with h;exact h.symm
  have z3:s 52 = .pointer (some ⟨g5,0,none⟩):=by have h:=(hv 3 (by decide)).2.2.2.2 (by decide) (by decide) (by decide) (by decide);injection h with h;exact h.symm
  have z4:s 53 = .int .i64 (q.vars:Nat):=by have h:=(hv 4 (by decide)).2.2.2.2 (by decide) (by decide) (by decide) (by decide);injection h with h;exact h.symm
  obtain⟨b5,hz5,hg5_0⟩:=(hv 5 (by decide)).1 rfl
  have z5:s 54 = .slice (some ⟨b5,0,none⟩) q.vars q.vars:=hz5;clear hz5;have z6:s 55 = .pointer (some ⟨g5,0,none⟩):=by have h:=(hv 6 (by decide)).2.2.2.2 (by decide) (by decide) (by decide) (by decide);injection h with h;exact h.symm
  have z7:s 56 = .int .i64 (q.vars:Nat):=by have h:=(hv 7 (by decide)).2.2.2.2 (by decide) (by decide) (by decide) (by decide);injection h with h;exact h.symm
  obtain⟨c8,hz8,hg8_0⟩:=(hv 8 (by decide)).2.1 rfl
  have z8:s 57 = .slice (some ⟨c8,0,none⟩) q.vars q.vars:=hz8;clear hz8;obtain⟨b9,c9,hz9,hg9_0,hg9_1⟩:=(hv 9 (by decide)).2.2.1 rfl
  have z9:s 58 = .agg #[.int .i64 (q.vars:Nat),.slice q.lh.ao q.lits.length q.lh.cap,.slice q.head.h.ao q.head.l.length q.head.h.cap,.slice ia.h.ao ia.l.length ia.h.cap,.slice (some ⟨b9,0,none⟩) q.vars q.vars,.slice (some ⟨c9,0,none⟩) q.vars q.vars,.slice none 0 0]:=hz9;clear hz9;obtain⟨b10,hz10,hx10,hg10⟩:=(hv 10 (by decide)).2.2.2.1 rfl
  have z10:s 14 = .pointer (some ⟨b10,0,none⟩):=hz10;clear hz10;clear hv;have hne1:=row_ne_box hg9_0 hx10 (by decide)
  have hne2:=row_ne_box hg9_1 hx10 (by decide)
  have hne3:=row_ne_row hg9_0 hg9_1 (by decide)
  have o0:=hx10.cell (j:=0) rfl
  have o1:=hx10.cell (j:=1) rfl
  have o2:=hx10.cell (j:=2) rfl
  have o3:=hx10.cell (j:=3) rfl
  have o4:=hx10.cell (j:=4) rfl
  have o5:=hx10.cell (j:=5) rfl
  have o6:=hx10.cell (j:=6) rfl
  have f0:=hx10.fr 0;have f1:=hx10.fr 1;have f2:=hx10.fr 2;have f3:=hx10.fr 3;have f4:=hx10.fr 4;have f5:=hx10.fr 5;have f6:=hx10.fr 6;have HBX:=ai hx10;have HR1:=ai hg9_0;have HR2:=ai hg9_1;have HN:=ai (And.intro hne1 (And.intro hne2 hne3));clear hx10 hg9_0 hg9_1 hne1 hne2 hne3
  show Oper.wp _ _ _ _ _ _
  refine opwp_K (fun K2 hK2=> ?_)
  go_simp
  refine hK2 _ _ ?_
  show Q _ _ _
  have h:=hend b5 c8 b9 c9 b10 x HB.o HBX.o HR1.o HR2.o HN.o hg10
  first|exact h| (simp only [z0,z1,z2,z3,z4,z5,z6,z7,z8,z9,z10];exact h)
 case step=>
  intro i o s x hin ho he hb;have HB:=ai hb;clear hb;have hcase:i=0∨i=1∨i=2∨i=3∨i=4∨i=5∨i=6∨i=7∨i=8∨i=9∨i=10:=by omega
  rcases hcase with rfl|rfl|rfl|rfl|rfl|rfl|rfl|rfl|rfl|rfl|rfl
  ·injection ho with ho
   subst ho;clear he;have hbe:=HQB.o.below HB.o;have k0:=hbe.cell (j:=0) rfl
   have k1:=hbe.cell (j:=1) rfl
   have k2:=hbe.cell (j:=2) rfl
   clear hbe;refine opwp_K (fun K2 hK2=> ?_)
   go_simp
   exact hK2 _ _ ⟨(.agg #[.int .i64 (q.vars:Nat),.slice q.lh.ao q.lits.length q.lh.cap,.slice q.head.h.ao q.head.l.length q.head.h.cap]),(by first|rfl| (simp [List.getD];done)),Below.refl _ _,⟨fun h=>absurd h (by decide),fun h=>absurd h (by decide),fun h=>absurd h (by decide),fun h=>absurd h (by decide),fun _ _ _ _=>rfl⟩⟩
  ·injection ho with ho
   subst ho;clear he;refine opwp_K (fun K2 hK2=> ?_)
   go_simp
   exact hK2 _ _ ⟨(.pointer (some ⟨g4,0,none⟩)),(by first|rfl| (simp [List.getD];done)),Below.refl _ _,⟨fun h=>absurd h (by decide),fun h=>absurd h (by decide),fun h=>absurd h (by decide),fun h=>absurd h (by decide),fun _ _ _ _=>rfl⟩⟩
  ·injection ho with ho
   subst ho;have z1:s 50 = .pointer (some ⟨g4,0,none⟩):=by have h:=(he ⟨1,.data⟩ (by simp) rfl).2.2.2.2 (by decide) (by decide) (by decide) (by decide);injection h with h;exact h.symm
   clear he;have hbe:=HIB.o.below HB.o;have k0:=hbe.cell (j:=0) rfl
   clear hbe;refine opwp_K (fun K2 hK2=> ?_)
   go_simp
   exact hK2 _ _ ⟨(.slice ia.h.ao ia.l.length ia.h.cap),(by first|rfl| (simp [z1];done)),Below.refl _ _,⟨fun h=>absurd h (by decide),fun h=>absurd h (by decide),fun h=>absurd h (by decide),fun h=>absurd h (by decide),fun _ _ _ _=>rfl⟩⟩
  ·injection ho with ho
   subst ho;clear he;refine opwp_K (fun K2 hK2=> ?_)
   go_simp
   exact hK2 _ _ ⟨(.pointer (some ⟨g5,0,none⟩)),(by first|rfl| (simp [List.getD];done)),Below.refl _ _,⟨fun h=>absurd h (by decide),fun h=>absurd h (by decide),fun h=>absurd h (by decide),fun h=>absurd h (by decide),fun _ _ _ _=>rfl⟩⟩
  ·injection ho with ho
   subst ho;have z3:s 52 = .pointer (some ⟨g5,0,none⟩):=by have h:=(he ⟨3,.data⟩ (by simp) rfl).2.2.2.2 (by decide) (by decide) (by decide) (by decide);injection h with h;exact h.symm
   clear he;have hbe:=HQB.o.below HB.o;have k0:=hbe.cell (j:=0) rfl
   clear hbe;refine opwp_K (fun K2 hK2=> ?_)
   go_simp
   exact hK2 _ _ ⟨(.int .i64 (q.vars:Nat)),(by first|rfl| (simp [z3];done)),Below.refl _ _,⟨fun h=>absurd h (by decide),fun h=>absurd h (by decide),fun h=>absurd h (by decide),fun h=>absurd h (by decide),fun _ _ _ _=>rfl⟩⟩
  ·injection ho with ho
   subst ho;have z4:s 53 = .int .i64 (q.vars:Nat):=by have h:=(he ⟨4,.data⟩ (by simp) rfl).2.2.2.2 (by decide) (by decide) (by decide) (by decide);injection h with h;exact h.symm
   clear he;obtain⟨i0,hi,hz0,hz1,hz2⟩:=info_parts info_bool;refine owp_make _ _ 102 rfl W.heap.size 4 i0 (.bool false) 1 Tryz.underlying102 hi hz0 hz1 q.vars (by show s 53=_;first|exact z4|exact z7) (by show s 53=_;first|exact z4|exact z7) (by rw [hz2];omega) (by unfold maxLen;omega) HB.o.size ?_
   intro y h1 h2;exact⟨_,rfl,grown_below h2,⟨fun _=>⟨_,rfl,h1⟩,fun h=>absurd h (by decide),fun h=>absurd h (by decide),fun h=>absurd h (by decide),fun h _ _ _=>absurd rfl h⟩⟩
  ·injection ho with ho
   subst ho;clear he;refine opwp_K (fun K2 hK2=> ?_)
   go_simp
   exact hK2 _ _ ⟨(.pointer (some ⟨g5,0,none⟩)),(by first|rfl| (simp [List.getD];done)),Below.refl _ _,⟨fun h=>absurd h (by decide),fun h=>absurd h (by decide),fun h=>absurd h (by decide),fun h=>absurd h (by decide),fun _ _ _ _=>rfl⟩⟩
  ·injection ho with ho
   subst ho;have z6:s 55 = .pointer (some ⟨g5,0,none⟩):=by have h:=(he ⟨6,.data⟩ (by simp) rfl).2.2.2.2 (by decide) (by decide) (by decide) (by decide);injection h with h;exact h.symm
   clear he;have hbe:=HQB.o.below HB.o;have k0:=hbe.cell (j:=0) rfl
   clear hbe;refine opwp_K (fun K2 hK2=> ?_)
   go_simp
   exact hK2 _ _ ⟨(.int .i64 (q.vars:Nat)),(by first|rfl| (simp [z6];done)),Below.refl _ _,⟨fun h=>absurd h (by decide),fun h=>absurd h (by decide),fun h=>absurd h (by decide),fun h=>absurd h (by decide),fun _ _ _ _=>rfl⟩⟩
  ·injection ho with ho
   subst ho;have z7:s 56 = .int .i64 (q.vars:Nat):=by have h:=(he ⟨7,.data⟩ (by simp) rfl).2.2.2.2 (by decide) (by decide) (by decide) (by decide);injection h with h;exact h.symm
   clear he;obtain⟨i0,hi,hz0,hz1,hz2⟩:=info_parts info_v3;refine owp_make _ _ 96 rfl W.heap.size 81 i0 (Value.agg #[.int .i64 0,.int .i64 0,.string ByteArray.empty]) 3 Tryz.underlying96 hi hz0 hz1 q.vars (by show s 56=_;first|exact z4|exact z7) (by show s 56=_;first|exact z4|exact z7) (by rw [hz2];omega) (by unfold maxLen;omega) HB.o.size ?_
   intro y h1 h2;exact⟨_,rfl,grown_below h2,⟨fun h=>absurd h (by decide),fun _=>⟨_,rfl,h1⟩,fun h=>absurd h (by decide),fun h=>absurd h (by decide),fun _ h _ _=>absurd rfl h⟩⟩
  ·injection ho with ho
   subst ho;have z0:s 49 = .agg #[.int .i64 (q.vars:Nat),.slice q.lh.ao q.lits.length q.lh.cap,.slice q.head.h.ao q.head.l.length q.head.h.cap]:=by have h:=(he ⟨0,.data⟩ (by simp) rfl).2.2.2.2 (by decide) (by decide) (by decide) (by decide);injection h with h;exact h.symm
   have z2:s 51 = .slice ia.h.ao ia.l.length ia.h.cap:=by have h:=(he ⟨2,.data⟩ (by simp) rfl).2.2.2.2 (by decide) (by decide) (by decide) (by decide);injection h with h;exact h.symm
   obtain⟨b5,hz5,hg5_0⟩:=(he ⟨5,.data⟩ (by simp) rfl).1 rfl
   have z5:s 54 = .slice (some ⟨b5,0,none⟩) q.vars q.vars:=hz5;clear hz5;obtain⟨c8,hz8,hg8_0⟩:=(he ⟨8,.data⟩ (by simp) rfl).2.1 rfl
   have z8:s 57 = .slice (some ⟨c8,0,none⟩) q.vars q.vars:=hz8;clear hz8;clear he;refine opwp_K (fun K2 hK2=> ?_)
   go_simp
   exact hK2 _ _ ⟨_,(by first|rfl| (simp [z0,z2,z5,z8];done)),Below.refl _ _,⟨fun h=>absurd h (by decide),fun h=>absurd h (by decide),fun _=>⟨_,_,rfl,hg5_0,hg8_0⟩,fun h=>absurd h (by decide),fun _ _ h _=>absurd rfl h⟩⟩
  ·injection ho with ho
   subst ho;clear he;refine opwp_K (fun K2 hK2=> ?_)
   go_simp
   exact hK2 _ _ ⟨_,(by first|rfl|simp),belA _,⟨fun h=>absurd h (by decide),fun h=>absurd h (by decide),fun h=>absurd h (by decide),fun _=>⟨_,rfl,Box.new _ _ _,HB.o.size⟩,fun _ _ _ h=>absurd rfl h⟩⟩
theorem set7 (x:World) (g:Nat) (a b c d e f h:Value) :x.grownBy (((((((x.setCell ⟨g,0,none⟩ a).setCell ⟨g,1,none⟩ b).setCell ⟨g,2,none⟩ c).setCell ⟨g,3,none⟩ d).setCell ⟨g,4,none⟩ e).setCell ⟨g,5,none⟩ f).setCell ⟨g,6,none⟩ h) (some g):=
 ((((((gb_set _ _ _ _).trans (gb_set _ _ _ _)).trans (gb_set _ _ _ _)).trans (gb_set _ _ _ _)).trans (gb_set _ _ _ _)).trans (gb_set _ _ _ _)).trans (gb_set _ _ _ _)
theorem boxset7 {x:World} {g:Nat} {T:TypeId} {p0 p1 p2 p3 p4 p5 p6:Value} (h0:Box x g #[p0,p1,p2,p3,p4,p5,p6] T) (a b c d e f h:Value) :Box (((((((x.setCell ⟨g,0,none⟩ a).setCell ⟨g,1,none⟩ b).setCell ⟨g,2,none⟩ c).setCell ⟨g,3,none⟩ d).setCell ⟨g,4,none⟩ e).setCell ⟨g,5,none⟩ f).setCell ⟨g,6,none⟩ h) g #[a,b,c,d,e,f,h] T:=by
 have:=((((((h0.set 0 a).set 1 b).set 2 c).set 3 d).set 4 e).set 5 f).set 6 h
 simpa only [List.setIfInBounds_toArray,List.set_cons_zero,List.set_cons_succ]using this
theorem nulV_wf:nulV.wf:=⟨by constructor<;>decide,by constructor<;>decide,Nat.zero_le _⟩
theorem ew_start {w W x Y:World} {b9 c9 gs:Nat} {q:Cq} {ia:Ins} (hW:Below w.heap.size w W) (hb:Below W.heap.size W x) (hr1:x.ownsRow W.heap.size 4 1 (.slice (some ⟨b9,0,none⟩) q.vars q.vars) q.vars (madeCells (Value.bool false).cells (q.vars*1)).toList) (hr2:x.ownsRow W.heap.size 81 3 (.slice (some ⟨c9,0,none⟩) q.vars q.vars) q.vars (madeCells (Value.agg #[.int .i64 0,.int .i64 0,.string ByteArray.empty]).cells (q.vars*3)).toList) (hne:b9≠gs∧c9≠gs∧b9≠c9) (h11:W.heap.size≤gs) (hg:x.grownBy Y (some gs)) (hbox:Box Y gs (ecells q ia b9 c9 (.slice none 0 0)) 104) :
  EW w gs b9 c9 q ia (fun _=>none) (.slice none 0 0) [] Y:=by
 have h1:=hr1.kept hg (.inr (fun e=>hne.1 (Option.some.inj e)))
 have h2:=hr2.kept hg (.inr (fun e=>hne.2.1 (Option.some.inj e)))
 have l1:=h1.lt b9 rfl;have l2:=h2.lt c9 rfl;have hs:=hW.size;rw [made_cells _ rfl]at h1;refine⟨(bT hW hb).grown hg (bT hW hb).size (fun j e=>by injection e with e;omega),hbox,World.ownsRow_nil _ _ _ _,fun _ h=>(by cases h),fun _ h=>(by cases h),fun v hv=> ?_,fun v hv=>⟨nulV,.inl rfl,nulV_wf,?_,?_,?_⟩,fun v u e=>(by cases e),fun j=>h1.frozenAt j,fun j=>h2.frozenAt j,⟨by omega,by omega,by omega⟩,⟨hbox.lt,l1.2,l2.2⟩,⟨fun e=>hne.1 e.symm,fun e=>hne.2.1 e.symm,hne.2.2,by simp [Value.ownBlock],by simp [Value.ownBlock],by simp [Value.ownBlock]⟩⟩
 ·rw [h1.cellAt v (by omega)];exact repl_get hv
 ·rw [h2.cellAt (v*3) (by omega)];exact made_at (i:=0) hv rfl
 ·rw [h2.cellAt (v*3+1) (by omega)];exact made_at (i:=1) hv rfl
 ·rw [h2.cellAt (v*3+2) (by omega)];exact made_at (i:=2) hv rfl
end Go.Proofs.YtiijaaohphokcaaGreatDoor

/- conjunctive.right of a query that is right; Valid. -/
import Derived.Test.YtiijaaohphokcaaGreatDoorG16
import Derived.OwnWalk
import Derived.Shelf.SlicesE.Clone
import Derived.Deep.RegionLaw
import Derived.Lib.SliceRun
set_option maxRecDepth 100000
set_option maxHeartbeats 16000000
namespace Go.Proofs.YtiijaaohphokcaaGreatDoor
open Go.RowKit
theorem bi_int: (Tryz.prog.info? 3).map (fun i=>(i.zero,i.size,i.bytes)) =some (some (.int .i64 0),1,8):=by kernel_rfl
theorem tw_start {w X y:World} {s:Sch} {q:Cq} {g:Nat} (hX:Below w.heap.size w X) (hs:Box X w.heap.size #[.slice s.th.ao s.tabs.length s.th.cap] 27) (hq:Box X (w.heap.size+1) (qcells q) 32) (hg:X.grownBy y none) (ho:y.ownsRow X.heap.size 3 1 (.slice (some ⟨g,0,none⟩) q.vars q.vars) q.vars (madeCells (Value.int .i64 0).cells (q.vars*1)).toList) :TW w s q g (fun _=>0) y:=by
 have l1:=ho.lt g rfl;have l2:=hq.lt;rw [made_cells _ rfl]at ho;refine⟨hX.grown hg hX.size (fun j e=>by cases e),hs.grown hg (by intro e;cases e),hq.grown hg (by intro e;cases e),fun n hn=> ?_,fun j=>ho.frozenAt j,by omega,l1.2⟩
 rw [ho.cellAt n (by omega)]
 exact repl_get hn
theorem zs_has {n:Nat} {f:Nat→Int} (h: ∀j,j<n→f j≠0) : (((List.range n).map f).take n).contains 0=false:=by
 rw [List.take_of_length_le (by simp)]
 cases hc: ((List.range n).map f).contains 0 with
 | false=>rfl
 | true=>
  rw [List.contains_iff_exists_mem_beq]at hc;obtain⟨y,hy,e⟩:=hc;obtain⟨j,hj,rfl⟩:=List.mem_map.1 hy;exact absurd (eq_of_beq e).symm (h j (List.mem_range.1 hj))
theorem τ_pos {s:Sch} {q:Cq} {τ:Nat→Int} (hp:PSch s) (hr:Right (colT s) q.vars q.cj τ) {n:Nat} (hn:n<q.vars) :τ n=1∨τ n=3:=by
 obtain⟨l,hl,hx⟩:=hr.occ n hn;obtain⟨a,ha,rfl⟩:=List.mem_map.1 hl;obtain⟨ht,nm,ch,cols,ph,e,hc,hlen,hsl⟩:=lit_tab hp (hr.lit _ (List.mem_map_of_mem ha));obtain⟨i,hi,he⟩:=List.getElem_of_mem (show Tm.v n∈a.sl.l from hx)
 have h:=hsl i hi (by omega)
 rw [he]at h;rw [h.2];exact hc.ty _ (List.getElem_mem _)
theorem right_yes (s:Sch) (q:Cq) (B:Nat) (w:World) (hs:s.In w) (hp:PSch s) (rq:RightQ w (colT s) q B) :
  Calls Tryz.prog 69 #[.agg #[.slice s.th.ao s.tabs.length s.th.cap],.agg #[.int .i64 (q.vars:Nat),.slice q.lh.ao q.lits.length q.lh.cap,.slice q.head.h.ao q.head.l.length q.head.h.cap]] w fun e w'=>e = .returned (.bool true)∧Below w.heap.size w w':=by
 obtain⟨τ,hr⟩:=rq.ri;have HP:=ai hp;have HR:=ai hr;have HQ:=ai rq.qi;have HS:=ai hs;obtain⟨X,hX⟩ : ∃X,(w.alloc (.cells #[.slice s.th.ao s.tabs.length s.th.cap] 27)).alloc (.cells #[.int .i64 (q.vars:Nat),.slice q.lh.ao q.lits.length q.lh.cap,.slice q.head.h.ao q.head.l.length q.head.h.cap] 32) =X:=⟨_,rfl⟩;have HBX:=ai (show Below w.heap.size w X from by rw [←hX];exact belAA _ _)
 have HBS:=ai (show Box X w.heap.size #[.slice s.th.ao s.tabs.length s.th.cap] 27 from by rw [←hX];exact(Box.new _ _ _).below (belA _))
 have HBQ:=ai (show Box X (w.heap.size+1) (qcells q) 32 from by
  rw [←hX];have h:=Box.new (w.alloc (.cells #[.slice s.th.ao s.tabs.length s.th.cap] 27)) #[.int .i64 (q.vars:Nat),.slice q.lh.ao q.lits.length q.lh.cap,.slice q.head.h.ao q.head.l.length q.head.h.cap] 32
  rwa [World.size_alloc]at h)
 have q0:X.cell? ⟨w.heap.size+1,0,none⟩ =some (.int .i64 (q.vars:Nat)):=HBQ.o.cell rfl;have q1:X.cell? ⟨w.heap.size+1,1,none⟩ =some (.slice q.lh.ao q.lits.length q.lh.cap):=HBQ.o.cell rfl;have q2:X.cell? ⟨w.heap.size+1,2,none⟩ =some (.slice q.head.h.ao q.head.l.length q.head.h.cap):=HBQ.o.cell rfl;have hll:q.lits.length≤8:=by have h:=hr.n8;rwa [show q.cj.lits.length=q.lits.length from List.length_map _]at h
 have hlp:0<q.lits.length:=by have h:=hr.n1;rwa [show q.cj.lits.length=q.lits.length from List.length_map _]at h
 have e1: ((q.lits.length:Int) == 0) =false:=beq_eq_false_iff_ne.2 (by omega)
 have e2: ¬(8:Int) <q.lits.length:=by omega
 have e3: ¬(q.vars:Int) <0:=by omega
 have e4: ¬(16:Int) <q.vars:=by have:=hr.v16;omega
 have e5: ((q.head.l.length:Int) == 0) =false:=beq_eq_false_iff_ne.2 (by have h:0<q.head.l.length:=hr.h1;omega)
 have e6: ¬(24:Int) <q.head.l.length:=by have h:q.head.l.length≤24:=hr.h24;omega
 have hv16:q.vars≤16:=hr.v16;obtain⟨bi,hbi,hbz,hbs,hbb⟩:=info_parts bi_int;clear hs hp rq hr
 go_enter Tryz.func69,Tryz.ntmps69;go_upto_region 1 with fail
 try rw [hX]
 clear hX;go_wp2_with (at_make;refine wpList_make_full _ rfl _ _ 22 rfl X.heap.size 3 bi (.int .i64 0) 1 Tryz.underlying22 hbi hbz hbs _ _ _ _ q.vars rfl rfl rfl rfl (by rw [hbb];omega) (by unfold maxLen;omega) (Nat.le_refl _) ?_;intro Y hown hgrow;have HT0:=ai (tw_start HBX.o HBS.o HBQ.o hgrow hown);clear hown hgrow q0 q1 q2;have q1:Y.cell? ⟨w.heap.size+1,1,none⟩ =some (.slice q.lh.ao q.lits.length q.lh.cap):=HT0.o.bq.cell rfl)
 clear q1;generalize X.heap.size=g at *;go_loopw [49] (fun i wr=>∃k:Nat,k≤q.lits.length∧i = .int .i64 k∧∃f:Nat→Int,Hid (TW w s q g f wr)∧Hid (TOk q τ k 0 f)) (fun i _=>q.lits.length - (intOf i).toNat)
 case atStart=>exact⟨0,Nat.zero_le _,rfl,_,HT0.o,TOk.zero⟩
 case round=>
  obtain⟨k,hk,rfl,f,HT,HK⟩:=hrel;by_cases hlt:k<q.lits.length
  ·have HQR:=ai (HQ.o.mono HT.o.bel)
   have HSR:=ai (HS.o.mono HT.o.bel);have hix:=HQR.o.row.ix hlt Tryz.underlying29 szlit;obtain⟨c0,c1⟩:=li_at HQR.o.row hlt;have hbk:=HQR.o.row.blk hlt;have HSL:=ai (fun W (hW:Below w.heap.size w W)=>(HQ.o.mono hW).sl _ (List.getElem_mem hlt))
   obtain⟨ht,nm,ch,cols,ph,ht2,hpc,hlen,hsl⟩:=lit_tab HP.o (HR.o.lit _ (List.mem_map_of_mem (List.getElem_mem hlt)));obtain⟨l,hl⟩ : ∃l,q.lits[k] =l:=⟨_,rfl⟩;have HKL:=ai (show∀i,¬i<l.sl.l.length→∀f,TOk q τ k i f→TOk q τ (k+1) 0 f from by subst hl;exact fun i hi f h=>h.lit hlt hi)
   have HKC:=ai (show∀i (hi:i<l.sl.l.length) f,TOk q τ k i f→∀c:V,l.sl.l[i] = .c c→TOk q τ k (i+1) f from by subst hl;exact fun i hi f h c hc=>h.con hlt hi hc)
   have HKV:=ai (show∀i (hi:i<l.sl.l.length) f,TOk q τ k i f→∀m:Nat,l.sl.l[i] = .v m→∀c,τ m=c→TOk q τ k (i+1) (fun y=>if y=m then c else f y)from by subst hl;exact fun i hi f h m hm c hc=>h.var hlt hi hm hc)
   have HSK:=ai (show∀i (h1:i<l.sl.l.length) (h2:i<cols.length),SlotOk q.vars τ l.sl.l[i] (cols[i]).typ from by subst hl;exact hsl)
   rw [hl]at c0 c1 hlen HSL;have ht3: ∃h:l.tab<s.tabs.length,s.tabs[l.tab] =pt nm ch cols ph:=by subst hl;exact⟨ht,ht2⟩
   clear hsl hl ht ht2;obtain⟨ht,ht2⟩:=ht3;have HPC:=ai hpc;have HTI:=ai (fun W (hW:Below w.heap.size w W)=>(HS.o.mono hW).ts _ (List.getElem_mem ht))
   have HTA:=ai (fun W (hW:Below w.heap.size w W)=>tab_at (HS.o.mono hW).rt ht)
   rw [ht2]at HTI HTA;have HIT:=ai (HSR.o.rt.ix ht Tryz.underlying25 sz22);have htl: ¬(s.tabs.length:Int)≤(l.tab:Int):=by omega
   have htn: ¬(l.tab:Int) <0:=by omega
   have hle: ((l.sl.l.length:Int) != (cols.length:Int)) =false:=by rw [hlen];exact bne_self_eq_false _
   have hstb:=HSR.o.rt.blk ht;obtain⟨Z,hZ⟩ : ∃Z,wr.alloc (.cells #[.int .i64 (l.tab:Nat),.slice l.sl.h.ao l.sl.l.length l.sl.h.cap] 56) =Z:=⟨_,rfl⟩;have HZB:=ai (box1X hZ).2;have HZL:=ai (box1X hZ).1;have HLE:=ai hlen;clear ht2 hpc ht hlen;go_upto_region 7 with fail
   try rw [hZ]
   clear hZ hix c0 c1 hbk;have HTZ:=ai (HT.o.grown HZB.o);have y0: ∀w',Below Z.heap.size Z w'→w'.cell? ⟨w.heap.size,0,none⟩ =some (.slice s.th.ao s.tabs.length s.th.cap):=fun w' h=>(HTZ.o.grown h).bs.cell rfl
   have y1: ∀w',Below Z.heap.size Z w'→w'.cell? ⟨wr.heap.size,0,none⟩ =some (.int .i64 (l.tab:Nat)):=fun w' h=>(HZL.o.below h).cell rfl
   have y2: ∀w',Below Z.heap.size Z w'→w'.cell? ⟨wr.heap.size,1,none⟩ =some (.slice l.sl.h.ao l.sl.l.length l.sl.h.cap):=fun w' h=>(HZL.o.below h).cell rfl
   have y3: ∀w',Below Z.heap.size Z w'→w'.cell? ⟨s.th.b,s.th.o+l.tab*6,none⟩ =some (.string nm):=fun w' h=>(HTA.o w' (HTZ.o.grown h).bel).1
   have y4: ∀w',Below Z.heap.size Z w'→w'.cell? ⟨s.th.b,s.th.o+l.tab*6+1,none⟩ =some (.slice ch.ao cols.length ch.cap):=fun w' h=>(HTA.o w' (HTZ.o.grown h).bel).2.1
   have y5: ∀w',Below Z.heap.size Z w'→w'.cell? ⟨s.th.b,s.th.o+l.tab*6+2,none⟩ =some (.slice ph.ao 1 ph.cap):=fun w' h=>(HTA.o w' (HTZ.o.grown h).bel).2.2.1
   have y6: ∀w',Below Z.heap.size Z w'→w'.cell? ⟨s.th.b,s.th.o+l.tab*6+3,none⟩ =some (.slice none 0 0):=fun w' h=>(HTA.o w' (HTZ.o.grown h).bel).2.2.2.1
   have y7: ∀w',Below Z.heap.size Z w'→w'.cell? ⟨s.th.b,s.th.o+l.tab*6+4,none⟩ =some (.slice none 0 0):=fun w' h=>(HTA.o w' (HTZ.o.grown h).bel).2.2.2.2.1
   have y8: ∀w',Below Z.heap.size Z w'→w'.cell? ⟨s.th.b,s.th.o+l.tab*6+5,none⟩ =some (.slice none 0 0):=fun w' h=>(HTA.o w' (HTZ.o.grown h).bel).2.2.2.2.2
   have hix:=HIT.o;have HPL:=ai (fun W (hW:Below Z.heap.size Z W)=>plain_yes nm ch cols ph W (HTI.o W (HTZ.o.grown hW).bel) HPC.o)
   go_region_held3 (fun w'=>Below Z.heap.size Z w') ((first|exact(Below.refl _ _).drew|exact bT (by assumption) (by assumption))) (first| (go_at_call 109;refine(HPL.o _ (by assumption)).mono ?_;rintro e x ⟨rfl,hb⟩))
   have hHx:Below Z.heap.size Z x:=by assumption
   have HTX:=ai (HTZ.o.grown hHx);have HLX:=ai (HZL.o.below hHx);have HGL:=ai HT.o.hi;clear y0 y1 y2 y3 y4 y5 y6 y7 y8 hix HPL hb hHx HZB HZL HTZ HT;generalize wr.heap.size=gl at *;have y1:x.cell? ⟨gl,1,none⟩ =some (.slice l.sl.h.ao l.sl.l.length l.sl.h.cap):=HLX.o.cell rfl;go_wp2;clear y1;go_loopw [91] (fun i wr=>∃m:Nat,m≤l.sl.l.length∧i = .int .i64 m∧∃f:Nat→Int,Hid (TW w s q g f wr)∧Hid (TOk q τ k m f)∧Hid (Box wr gl #[.int .i64 (l.tab:Nat),.slice l.sl.h.ao l.sl.l.length l.sl.h.cap] 56)) (fun i _=>l.sl.l.length - (intOf i).toNat)
   case atStart=>exact⟨0,Nat.zero_le _,rfl,f,HTX.o,HK.o,HLX.o⟩
   clear HTX HLX HK
   case round=>
    obtain⟨m,hm,rfl,f,HT,HK,HL⟩:=hrel;by_cases hlm:m<l.sl.l.length
    ·have hlc:m<cols.length:=by have:=HLE.o;omega
     have hrs:=(HSL.o _ HT.o.bel).row;have HWF:=ai ((HSL.o _ HT.o.bel).wf _ (List.getElem_mem hlm));have hix:=hrs.ix hlm Tryz.underlying30 szslot;obtain⟨c0,c1,c2,c3⟩:=tm_at hrs hlm;have hbk:=hrs.blk hlm;have hsn:=hrs.len;have HSO:=ai (HSK.o m hlm hlc);have HK1:=ai (HKC.o m hlm f HK.o);have HK2:=ai (HKV.o m hlm f HK.o);have HTY:=ai (HPC.o.ty _ (List.getElem_mem hlc));have HRC:=ai (fun W (hW:Below w.heap.size w W)=>And.intro ((HTI.o W hW).rc.ix hlc Tryz.underlying73 sz30) (col_at (HTI.o W hW).rc hlc).2.1)
     obtain⟨t,ht⟩ : ∃t,l.sl.l[m] =t:=⟨_,rfl⟩;obtain⟨ty,hty⟩ : ∃c,(cols[m]).typ=c:=⟨_,rfl⟩;rw [ht]at c0 c1 c2 c3 HWF HSO HK1 HK2;rw [hty]at HSO HTY;simp only [hty]at HRC;have HV:=ai (fun W (hW:Below w.heap.size w W)=>formed_yes q.vars (.slice q.lh.ao q.lits.length q.lh.cap) (.slice q.head.h.ao q.head.l.length q.head.h.cap) t W HWF.o (by
      cases t with
      | v n=>exact HSO.o.1
      | c kk=>exact⟨HSO.o.1.1,by have h1:kk.kind=ty:=HSO.o.2;have h2:=HTY.o;omega⟩))
     clear ht hty hrs;have HLM:=ai hlm;obtain⟨V,hV⟩ : ∃V,wr.alloc (.cells #[.int .i64 t.nr,.int .i64 t.val.kind,.int .i64 t.val.num,.string t.val.text] 83) =V:=⟨_,rfl⟩;have HTV:=ai (HT.o.grown (box1X hV).2);have HBV:=ai (box1X hV).1;have HLV:=ai (HL.o.below (box1X hV).2);go_upto_region 12 with fail
     try rw [hV]
     clear hV hix c0 c1 c2 c3 hbk HT HL;generalize wr.heap.size=gt at *;have v0:V.cell? ⟨w.heap.size,0,none⟩ =some (.slice s.th.ao s.tabs.length s.th.cap):=HTV.o.bs.cell rfl;have v1:V.cell? ⟨gl,0,none⟩ =some (.int .i64 (l.tab:Nat)):=HLV.o.cell rfl;have v2:=(HTA.o V HTV.o.bel).2.1;have v3:=(HRC.o V HTV.o.bel).1;have v4:=(HRC.o V HTV.o.bel).2;have v5:V.cell? ⟨w.heap.size+1,0,none⟩ =some (.int .i64 (q.vars:Nat)):=HTV.o.bq.cell rfl;have v6:V.cell? ⟨w.heap.size+1,1,none⟩ =some (.slice q.lh.ao q.lits.length q.lh.cap):=HTV.o.bq.cell rfl;have v7:V.cell? ⟨w.heap.size+1,2,none⟩ =some (.slice q.head.h.ao q.head.l.length q.head.h.cap):=HTV.o.bq.cell rfl;have x0:V.cell? ⟨gt,0,none⟩ =some (.int .i64 t.nr):=HBV.o.cell rfl;have x1:V.cell? ⟨gt,1,none⟩ =some (.int .i64 t.val.kind):=HBV.o.cell rfl;have x2:V.cell? ⟨gt,2,none⟩ =some (.int .i64 t.val.num):=HBV.o.cell rfl;have x3:V.cell? ⟨gt,3,none⟩ =some (.string t.val.text):=HBV.o.cell rfl;have hixt:=HIT.o
     cases t with
     | c kk=>
      have hkb: (kk.kind != ty) =false:=by rw [show kk.kind=ty from HSO.o.2];exact bne_self_eq_false _
      have HK3:=ai (HK1.o kk rfl);clear HK1 HK2;simp only [Tm.nr,Tm.val]at *;go_wp2_with (go_at_call 110;refine(HV.o _ HTV.o.bel).mono ?_;rintro e y ⟨rfl,hb⟩;have HTY2:=ai (HTV.o.grown hb);have HLY:=ai (HLV.o.below hb);have hby:=HBV.o.below hb;clear hb x0 x1 x2 x3 v0 v1 v2 v3 v4 v5 v6 v7;have x0:y.cell? ⟨gt,0,none⟩ =some (.int .i64 (-1)):=hby.cell rfl;have x1:y.cell? ⟨gt,1,none⟩ =some (.int .i64 kk.kind):=hby.cell rfl;clear hby)
      go_roundw
      case rel=>exact⟨m+1,HLM.o,by go_num,f,HTY2.o,HK3.o,HLY.o⟩
      case measure=>have:=HLM.o;simp [intOf];omega
     | v n=>
      have hn:n<q.vars:=HSO.o.1;have hn0: ¬(n:Int) <0:=by omega
      have HK3:=ai (HK2.o n rfl ty HSO.o.2);have HF0:=ai (HK.o n hn).1;have HTN:=ai (show τ n=ty from HSO.o.2)
      have HNG:=ai (show gl≠g from by have:=HGL.o;omega)
      clear HK1 HK2;simp only [Tm.nr,Tm.val,nulV]at *;have hixg:=index_ptr (P:=Tryz.prog) Tryz.underlying22 szil g q.vars q.vars n hn
      have hfn: ((f n != 0) =false)∨((f n != 0) =true∧(f n != ty) =false):=by
       rcases HF0.o with h|h
       ·left;rw [h];rfl
       ·right
        rw [h,HTN.o];have h2:=HTY.o;exact⟨bne_iff_ne.2 (by omega),bne_self_eq_false _⟩
      rcases hfn with hfn| ⟨hfn,hfm⟩
      all_goals
       go_wp2_with (go_at_call 110;refine(HV.o _ HTV.o.bel).mono ?_;rintro e y ⟨rfl,hb⟩;have HTY2:=ai (HTV.o.grown hb);have HLY:=ai (HLV.o.below hb);have hby:=HBV.o.below hb;clear hb x0 x1 x2 x3 v0 v1 v2 v3 v4 v5 v6 v7;have x0:y.cell? ⟨gt,0,none⟩ =some (.int .i64 (n:Nat)):=hby.cell rfl;have z0:=HTY2.o.at' n hn;have z1:=HTY2.o.fr n;clear hby)
       go_roundw
       case rel=>exact⟨m+1,HLM.o,by go_num,_,HTY2.o.set hn ty,HK3.o,HLY.o.grown (gb_set _ _ _ _) (by intro e;injection e with e;exact HNG.o e)⟩
       case measure=>have:=HLM.o;simp [intOf];omega
    ·have HK3:=ai (HKL.o m hlm f HK.o)
     go_wp2;go_roundw
     case rel=>exact⟨k+1,by omega,by go_num,f,HT.o,HK3.o⟩
     case measure=>simp [intOf];omega
  ·have HB1:=ai HT.o.bel
   have HQR:=ai (HQ.o.mono HT.o.bel);obtain rfl:k=q.lits.length:=by omega
   have HFN:=ai (show∀j,j<q.vars→f j≠0 from fun j hj=>by
    rw [HK.o.last hj (HR.o.occ j hj)];have:=τ_pos HP.o HR.o hj;omega)
   have HCT:=ai (Tryz.slices_Contains_int g 0 q.vars q.vars ((List.range q.vars).map f) 0 wr (by simp) (by omega) (fun j hj=>by
    have hj2:j<q.vars:=by simpa using hj
    rw [Nat.zero_add,HT.o.at' j hj2];simp [List.getD,hj2]))
   have HZS:=ai (zs_has HFN.o);have q2:wr.cell? ⟨w.heap.size+1,2,none⟩ =some (.slice q.head.h.ao q.head.l.length q.head.h.cap):=HT.o.bq.cell rfl;have HRC:=ai (rsl_cont (fun _=>false) q.head.h q.head.l (w.heap.size+1) wr HQR.o.hd.row (fun W hW x hx=>rclo_no q x (w.heap.size+1) W (HT.o.bq.below hW) (HQR.o.hd.wf x hx) (HR.o.hd x hx)))
   have HAN:=ai (any_no q.head.l);go_wp2_with (first
    | (go_at_call 111;refine HCT.o.mono ?_;rintro e w1 ⟨rfl,rfl⟩;rw [HZS.o])
    | (go_at_call 84;refine HRC.o.mono ?_;rintro e w2 ⟨rfl,hb2⟩;rw [HAN.o];have HB2:=ai hb2;clear hb2))
   go_ret
   exact⟨rfl,bT HB1.o HB2.o⟩
end Go.Proofs.YtiijaaohphokcaaGreatDoor
/- conjunctive.Valid of a query that is right. -/
namespace Go.Proofs.YtiijaaohphokcaaGreatDoor
open Go.RowKit
theorem valid_yes (s:Sch) (q:Cq) (B:Nat) (w:World) (hs:s.In w) (hp:PSch s) (rq:RightQ w (colT s) q B) (hsh:w.ShapedOpen Tryz.prog) :
  Calls Tryz.prog 31 #[.agg #[.slice s.th.ao s.tabs.length s.th.cap],.agg #[.int .i64 (q.vars:Nat),.slice q.lh.ao q.lits.length q.lh.cap,.slice q.head.h.ao q.head.l.length q.head.h.cap]] w fun e w'=>e = .returned (.int .i64 0)∧Below w.heap.size w w':=by
 obtain⟨X,hX⟩ : ∃X,(w.alloc (.cells #[.slice s.th.ao s.tabs.length s.th.cap] 27)).alloc (.cells #[.int .i64 (q.vars:Nat),.slice q.lh.ao q.lits.length q.lh.cap,.slice q.head.h.ao q.head.l.length q.head.h.cap] 32) =X:=⟨_,rfl⟩;have HBX:=ai (show Below w.heap.size w X from by rw [←hX];exact belAA _ _)
 have HBS:=ai (show Box X w.heap.size #[.slice s.th.ao s.tabs.length s.th.cap] 27 from by rw [←hX];exact(Box.new _ _ _).below (belA _))
 have HBQ:=ai (show Box X (w.heap.size+1) (qcells q) 32 from by
  rw [←hX];have h:=Box.new (w.alloc (.cells #[.slice s.th.ao s.tabs.length s.th.cap] 27)) #[.int .i64 (q.vars:Nat),.slice q.lh.ao q.lits.length q.lh.cap,.slice q.head.h.ao q.head.l.length q.head.h.cap] 32
  rwa [World.size_alloc]at h)
 have HV:=ai (svalid_plain s X (hs.mono HBX.o) hp (ShX hsh HBX.o));have HR:=ai (fun W (hW:Below w.heap.size w W)=>right_yes s q B W (hs.mono hW) hp (rq.mono hW))
 have s0:X.cell? ⟨w.heap.size,0,none⟩ =some (.slice s.th.ao s.tabs.length s.th.cap):=HBS.o.cell rfl;clear hs hp rq hsh
 go_enter Tryz.func31,Tryz.ntmps31;go_upto_region 1 with fail
 try rw [hX]
 clear hX;go_wp2_with (first
  | (go_at_call 68;refine HV.o.mono ?_;rintro e y ⟨rfl,hb⟩;have HY:=ai (bT HBX.o hb);have h1:=HBS.o.below hb;have h2:=HBQ.o.below hb;clear hb s0;have s0:y.cell? ⟨w.heap.size,0,none⟩ =some (.slice s.th.ao s.tabs.length s.th.cap):=h1.cell rfl;have q0:y.cell? ⟨w.heap.size+1,0,none⟩ =some (.int .i64 (q.vars:Nat)):=h2.cell rfl;have q1:y.cell? ⟨w.heap.size+1,1,none⟩ =some (.slice q.lh.ao q.lits.length q.lh.cap):=h2.cell rfl;have q2:y.cell? ⟨w.heap.size+1,2,none⟩ =some (.slice q.head.h.ao q.head.l.length q.head.h.cap):=h2.cell rfl;clear h1 h2)
  | (go_at_call 69;refine(HR.o _ HY.o).mono ?_;rintro e z ⟨rfl,hb⟩;have HZ:=ai (bT HY.o hb);clear hb))
 go_ret
 exact⟨rfl,HZ.o⟩
theorem fine_of {s:Sch} {q:Cq} {B:Nat} {w:World} (hs:s.In w) (hp:PSch s) (rq:RightQ w (colT s) q B) (hsh:w.ShapedOpen Tryz.prog) :Fine w s q:=fun W hW=>valid_yes s q B W (hs.mono hW) hp (rq.mono hW) (ShX hsh hW)
end Go.Proofs.YtiijaaohphokcaaGreatDoor
/- slices.Clone of literals and of slots; slices.Delete of one literal. -/
namespace Go.Proofs.YtiijaaohphokcaaGreatDoor
open Go.RowKit Go.Shelf
def clL_ren:Go.Shelf.Ren:=⟨fun|41=>44|n=>n,fun|22=>29|23=>56|4=>4|n=>n,fun|n=>n⟩
theorem clL:Go.Proofs.SlLaysE0.n41 Tryz.prog clL_ren:= {
 mixed:=by kernel_rfl
 f41:=⟨Tryz.f44.name,by decide,Tryz.func44.trans (congrArg some (by kernel_rfl))⟩
 t4:=Tryz.underlying4
 a4:=Tryz.isAgg4
 z4:=Tryz.sizeOf4
 v4:=Tryz.zeroValue4
 t22:=Tryz.underlying29
 a22:=Tryz.isAgg29
 z22:=Tryz.sizeOf29
 v22:=Tryz.zeroValue29 }
def clS_ren:Go.Shelf.Ren:=⟨fun|41=>89|n=>n,fun|22=>30|23=>83|4=>4|n=>n,fun|n=>n⟩
theorem clS:Go.Proofs.SlLaysE0.n41 Tryz.prog clS_ren:= {
 mixed:=by kernel_rfl
 f41:=⟨Tryz.f89.name,by decide,Tryz.func89.trans (congrArg some (by kernel_rfl))⟩
 t4:=Tryz.underlying4
 a4:=Tryz.isAgg4
 z4:=Tryz.sizeOf4
 v4:=Tryz.zeroValue4
 t22:=Tryz.underlying30
 a22:=Tryz.isAgg30
 z22:=Tryz.sizeOf30
 v22:=Tryz.zeroValue30 }
theorem info_lit: (Tryz.prog.info? 56).map (fun i=>(i.zero,i.size,i.bytes)) =some (some (.agg #[.int .i64 0,.slice none 0 0]),2,32):=by kernel_rfl
theorem info_slot: (Tryz.prog.info? 83).map (fun i=>(i.zero,i.size,i.bytes)) =some (some (.agg #[.int .i64 0,.int .i64 0,.int .i64 0,.string ⟨#[]⟩]),4,40):=by kernel_rfl
theorem zero_lit (w:World) : (zeroValue 56).run Tryz.prog w = .ok (.agg #[.int .i64 0,.slice none 0 0]) w:=by kernel_rfl
theorem clone_lits (h:Hd) (xs:List Li) (w:World) (hr:Row w 2 Li.cells h xs) (hp:0<xs.length) (hs:xs.length≤1000) :
  Calls Tryz.prog 44 #[.slice h.ao xs.length h.cap] w fun e w'=>∃g cap,e = .returned (.slice (some ⟨g,0,none⟩) xs.length cap)∧w'.ownsRow w.heap.size 56 2 (.slice (some ⟨g,0,none⟩) xs.length cap) xs.length (xs.flatMap Li.cells)∧Below w.heap.size w w':=by
 obtain⟨i0,hi,hz0,hz1,hz2⟩:=info_parts info_lit;rw [(hr.2.2.1 hp).1];refine(AnyE.slices_Clone clL i0 _ 2 32 hi hz0 hz1 hz2 rfl (by decide) (fun w=>by kernel_rfl) h.b h.o xs.length h.cap (xs.flatMap Li.cells) w (by rw [flatMap_len (cells:=Li.cells) (size:=2) (fun _=>rfl)]) (by unfold maxLen;omega) (by omega) (fun j u hu=> ?_) (fun u hu=> ?_)).mono ?_
 ·have hl:=(List.getElem?_eq_some_iff.1 hu).1
  rw [flatMap_len (cells:=Li.cells) (size:=2) (fun _=>rfl)]at hl
  have hj:j / 2<xs.length:=by omega
  have h2:=flatMap_at (cells:=Li.cells) (size:=2) (fun _=>rfl) xs (j / 2) (j % 2) hj (by omega)
  rw [show j / 2*2+j % 2=j by omega,hu]at h2
  have:=hr.2.2.2 (j / 2) hj (j % 2) u h2.symm
  rwa [show h.o+j / 2*2+j % 2=h.o+j by omega]at this
 ·obtain⟨l,hl,hul⟩:=List.mem_flatMap.1 hu
  rcases List.mem_cons.1 hul with rfl|hul
  ·rfl
  ·rw [List.mem_singleton.1 hul];rfl
 ·rintro e w' ⟨v',rfl,ho,_,hb⟩
  obtain⟨g,cap,hv,_⟩:=ho.form hp;subst hv;exact⟨g,cap,rfl,ho,hb⟩
theorem clone_slots (h:Hd) (xs:List (Tm V)) (w:World) (hr:Row w 4 Tm.cells h xs) (hp:0<xs.length) (hs:xs.length≤1000) :
  Calls Tryz.prog 89 #[.slice h.ao xs.length h.cap] w fun e w'=>∃g cap,e = .returned (.slice (some ⟨g,0,none⟩) xs.length cap)∧w'.ownsRow w.heap.size 83 4 (.slice (some ⟨g,0,none⟩) xs.length cap) xs.length (xs.flatMap Tm.cells)∧Below w.heap.size w w':=by
 obtain⟨i0,hi,hz0,hz1,hz2⟩:=info_parts info_slot;rw [(hr.2.2.1 hp).1];refine(AnyE.slices_Clone clS i0 _ 4 40 hi hz0 hz1 hz2 rfl (by decide) (fun w=>by kernel_rfl) h.b h.o xs.length h.cap (xs.flatMap Tm.cells) w (by rw [flatMap_len (cells:=Tm.cells) (size:=4) Tm.cells_len]) (by unfold maxLen;omega) (by omega) (fun j u hu=> ?_) (fun u hu=> ?_)).mono ?_
 ·have hl:=(List.getElem?_eq_some_iff.1 hu).1
  rw [flatMap_len (cells:=Tm.cells) (size:=4) Tm.cells_len]at hl
  have hj:j / 4<xs.length:=by omega
  have h2:=flatMap_at (cells:=Tm.cells) (size:=4) Tm.cells_len xs (j / 4) (j % 4) hj (by omega)
  rw [show j / 4*4+j % 4=j by omega,hu]at h2
  have:=hr.2.2.2 (j / 4) hj (j % 4) u h2.symm
  rwa [show h.o+j / 4*4+j % 4=h.o+j by omega]at this
 ·obtain⟨l,hl,hul⟩:=List.mem_flatMap.1 hu
  rw [Tm.cells_eq]at hul;simp only [List.mem_cons,List.not_mem_nil,or_false]at hul;rcases hul with rfl|rfl|rfl|rfl<;>rfl
 ·rintro e w' ⟨v',rfl,ho,_,hb⟩
  obtain⟨g,cap,hv,_⟩:=ho.form hp;subst hv;exact⟨g,cap,rfl,ho,hb⟩
theorem run_clear_one {P:Program} (w:World) (t e ty:TypeId) (z:Value) (cs:List Value) (ht:P.underlying t=some (.slice e)) (hv: ∀w,(zeroValue e).run P w = .ok z w) (hz: (Builtin.zeroCells z.cells 1).toList=cs) (h1: ∀v∈cs,v.oneCell'=true) (b o c:Nat)
  (hc: ∀j,j<cs.length→(w.cell? ⟨b,o+j,none⟩).isSome=true) (hf: ∀j,j<cs.length→w.frozen? ⟨b,o+j,none⟩ =false) :
  (Builtin.clear_ #[t] ty #[.slice (some ⟨b,o,none⟩) 1 c]).run P w = .ok (.tuple #[]) (w.setCells b o cs):=by
 have hst:=run_storeCells_cells (P:=P) b o cs 0 w (by simpa using hc) (by simpa using hf) h1
 simp only [Nat.add_zero]at hst;simp [Builtin.clear_,run_underlying ht,hv,hz,hst]
end Go.Proofs.YtiijaaohphokcaaGreatDoor

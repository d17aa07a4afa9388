/- conjunctive.Core of a query that is right. -/
import Derived.Test.YtiijaaohphokcaaGreatDoorG21
import Derived.Test.YtiijaaohphokcaaGreatDoorG12
import Derived.Test.YtiijaaohphokcaaGreatDoorG15
set_option maxRecDepth 100000
set_option maxHeartbeats 16000000
namespace Go.Proofs.YtiijaaohphokcaaGreatDoor
open Go.RowKit Go.Maps
structure CoW (w:World) (q lq:Cq) (lb:Nat) (x:World) :Prop where
 bel:Below w.heap.size w x
 br:Box x (w.heap.size+1+1) #[.int .i64 0,.slice none 0 0,.slice none 0 0] 32
 bl:Box x lb (qcells lq) 32
 lo:w.heap.size+1+1<lb
 row:Row x 2 Li.cells lq.lh lq.lits
 ne:lq.lh.b≠lb
 vars:lq.vars=q.vars
 head:lq.head=q.head
 sub: ∀l∈lq.lits,l∈q.lits
 pos:0<lq.lits.length
 len:lq.lits.length≤q.lits.length
section
variable {w x y:World} {q lq:Cq} {lb B:Nat}
theorem CoW.call (h:CoW w q lq lb x) (hb:Below x.heap.size x y) :CoW w q lq lb y:=⟨bT h.bel hb,h.br.below hb,h.bl.below hb,h.lo,h.row.mono hb,h.ne,h.vars,h.head,h.sub,h.pos,h.len⟩
theorem in_of {ls:List Li} {h:Hd} (hq:q.In w B) (hb:Below w.heap.size w x) (hr:Row x 2 Li.cells h ls) (hs: ∀l∈ls,l∈q.lits) :Cq.In x 0 ⟨q.vars,h,ls,q.head⟩:=
 ⟨hr,fun _=>Nat.zero_le _,fun l hl=>((hq.sl l (hs l hl)).mono hb).le (Nat.zero_le _),fun l hl=>hq.tb l (hs l hl),(hq.hd.mono hb).le (Nat.zero_le _),hq.vr⟩
theorem QOk.mono' {x y:World} {q r:Cq} (h:QOk x q r) (hb:Below x.heap.size x y) :QOk y q r:=⟨h.qi.mono hb,h.ri.mono hb,h.vq,h.ql,h.rl,h.qs⟩
theorem CoW.inq (h:CoW w q lq lb x) (hq:q.In w B) :lq.In x 0:=by
 have:=in_of (h:=lq.lh) (ls:=lq.lits) hq h.bel h.row h.sub
 rw [←h.vars,←h.head]at this;exact this
theorem CoW.set {ls:List Li} {hd:Hd} (h:CoW w q lq lb x) (hr:Row x 2 Li.cells hd ls) (hne:hd.b≠lb) (hs: ∀l∈ls,l∈lq.lits) (hp:0<ls.length) (hl:ls.length≤lq.lits.length) :
  CoW w q ⟨lq.vars,hd,ls,lq.head⟩ lb (((x.setCell ⟨lb,0,none⟩ (.int .i64 (lq.vars:Nat))).setCell ⟨lb,1,none⟩ (.slice hd.ao ls.length hd.cap)).setCell ⟨lb,2,none⟩ (.slice lq.head.h.ao lq.head.l.length lq.head.h.cap)):=by
 have hg:=set3 x lb (.int .i64 (lq.vars:Nat)) (.slice hd.ao ls.length hd.cap) (.slice lq.head.h.ao lq.head.l.length lq.head.h.cap);have hlo:=h.lo;have hb:=((h.bl.set 0 (.int .i64 (lq.vars:Nat))).set 1 (.slice hd.ao ls.length hd.cap)).set 2 (.slice lq.head.h.ao lq.head.l.length lq.head.h.cap);simp only [List.setIfInBounds_toArray,List.set_cons_zero,List.set_cons_succ]at hb;exact⟨h.bel.grown hg h.bel.size (fun j e=>by injection e with e;omega),h.br.grown hg (by intro e;injection e with e;omega),hb,h.lo,row_row hr hg (by intro e;injection e with e;exact hne e),hne,h.vars,h.head,fun l hl=>h.sub l (hs l hl),hp,Nat.le_trans hl h.len⟩
end
theorem nodup_le {n:Nat} {l:List Nat} (hn:l.Nodup) (h: ∀x∈l,x<n) :l.length≤n:=by
 apply Classical.byContradiction
 intro hlt;have hm: ∀k,k<l.length→l.getD k 0∈l:=fun k hk=>by rw [List.getD_eq_getElem?_getD,List.getElem?_eq_getElem hk];exact List.getElem_mem _
 obtain⟨a,b,h1,h2,h3⟩:=php n (fun k=>l.getD k 0) (fun k hk=>h _ (hm k (by omega)))
 have ha:a<l.length:=by omega
 have hb:b<l.length:=by omega
 have h3:l.getD a 0=l.getD b 0:=h3;rw [List.getD_eq_getElem?_getD,List.getD_eq_getElem?_getD,List.getElem?_eq_getElem ha,List.getElem?_eq_getElem hb]at h3;have h3:l[a] =l[b]:=h3;have h6:=List.Nodup.idxOf_getElem hn a ha;have h7:=List.Nodup.idxOf_getElem hn b hb;rw [h3,h7]at h6;omega
theorem CoW.okq {w x:World} {q lq:Cq} {lb B:Nat} {T:List (List Int)} (h:CoW w q lq lb x) (rq:RightQ w T q B) : (∀l∈lq.lits,∀x,Tm.v x∈l.sl.l→x<lq.vars)∧(∀l∈lq.lits,l.sl.l.length≤1000)∧lq.cj.occ.length≤1000∧(∀x,Tm.v x∈lq.head.l→x<lq.vars)∧lq.head.l.length≤1000∧0<lq.head.l.length:=by
 have hk:=rq.ok rq;obtain⟨τ,hr⟩:=rq.ri;refine⟨fun l hl x hx=> ?_,fun l hl=>hk.qs l (h.sub l hl),?_,fun x hx=> ?_,?_,?_⟩
 ·rw [h.vars];exact hk.vq l (h.sub l hl) x hx
 ·refine Nat.le_trans (nodup_le (n:=q.vars) (occQ_nodup _ (by simp)) (fun x hx=> ?_)) (Nat.le_trans hr.v16 (by decide))
  obtain⟨a,ha,hm⟩:=(occ_iff (q:=lq.cj) x).1 hx
  obtain⟨l,hl,rfl⟩:=List.mem_map.1 ha;exact hk.vq l (h.sub l hl) x hm
 ·rw [h.vars];rw [h.head]at hx;exact hr.hd _ hx
 ·rw [h.head];exact Nat.le_trans hr.h24 (by decide)
 ·rw [h.head];exact hr.h1
theorem coreL_skip {K:Type} {q:Cj K} {n i:Nat} (hi:i<q.lits.length) (h: ¬Rem q i) :coreL (n+1) q i=coreL n q (i+1):=by
 rw [coreL,if_pos hi,if_neg h]
theorem coreL_take {K:Type} {q:Cj K} {n i:Nat} (hi:i<q.lits.length) (h:Rem q i) :coreL (n+1) q i=coreL n (q.del i) i:=by
 rw [coreL,if_pos hi,if_pos h]
theorem own_row0 {α:Type} {w:World} {base g n cap size:Nat} {e:TypeId} {cells:α→List Value} {xs:List α} (hs: ∀x,(cells x).length=size) (hpos:0<size) (h:w.ownsRow base e size (.slice (some ⟨g,0,none⟩) n cap) n (xs.flatMap cells)) :Row w size cells ⟨some ⟨g,0,none⟩,cap⟩ xs:=by
 obtain⟨⟨ao,c⟩,hv,hr⟩:=own_row hs hpos h;injection hv with h1 _ h2;subst h2;have h1:some (⟨g,0,none⟩ :Addr) =ao:=h1;subst h1;exact hr
def CorePost (q:Cq) (w:World) (e:Ending) (w':World) :Prop:=∃r:Cq,e = .returned (.tuple #[.agg #[.int .i64 (r.vars:Nat),.slice r.lh.ao r.lits.length r.lh.cap,.slice r.head.h.ao r.head.l.length r.head.h.cap],.int .i64 0])∧r.In w' w.heap.size∧r.cj=q.cj.core∧r.vars=q.cj.core.occ.length∧Below w.heap.size w w'
def litN (wr:World) (lb:Nat) :Nat:=match wr.cell? ⟨lb,1,none⟩with|some v=>slen v|none=>0
theorem litN_of {wr:World} {lb:Nat} {q:Cq} (h:Box wr lb (qcells q) 32) :litN wr lb=q.lits.length:=by
 unfold litN
 rw [h.cell (j:=1) rfl]
 rfl
theorem core_any (s:Sch) (T:List (List Int)) (q:Cq) (B:Nat) (w:World) (hf:Fine w s q) (rq:RightQ w T q B) (hty: ∀ty∈T,0<ty.length) :
  Calls Tryz.prog 12 #[.agg #[.slice s.th.ao s.tabs.length s.th.cap],.agg #[.int .i64 (q.vars:Nat),.slice q.lh.ao q.lits.length q.lh.cap,.slice q.head.h.ao q.head.l.length q.head.h.cap]] w (CorePost q w):=by
 have HQ:=ai rq.qi;have HR:=ai rq;obtain⟨X,hX⟩ : ∃X,((w.alloc (.cells #[.slice s.th.ao s.tabs.length s.th.cap] 27)).alloc (.cells #[.int .i64 (q.vars:Nat),.slice q.lh.ao q.lits.length q.lh.cap,.slice q.head.h.ao q.head.l.length q.head.h.cap] 32)).alloc (.cells #[.int .i64 0,.slice none 0 0,.slice none 0 0] 32) =X:=⟨_,rfl⟩;have HBX:=ai (show Below w.heap.size w X from by rw [←hX];exact bT (belAA _ _) (belA _))
 obtain⟨hb0,hb1,hb2⟩:=boxes3X hX;have HB0:=ai hb0;have HB1:=ai hb1;have HB2:=ai hb2;have HF:=ai (fun W (hW:Below X.heap.size X W)=>hf W (bT HBX.o hW))
 have s0:X.cell? ⟨w.heap.size,0,none⟩ =some (.slice s.th.ao s.tabs.length s.th.cap):=hb0.cell rfl;have x0:X.cell? ⟨w.heap.size+1,0,none⟩ =some (.int .i64 (q.vars:Nat)):=hb1.cell rfl;have x1:X.cell? ⟨w.heap.size+1,1,none⟩ =some (.slice q.lh.ao q.lits.length q.lh.cap):=hb1.cell rfl;have x2:X.cell? ⟨w.heap.size+1,2,none⟩ =some (.slice q.head.h.ao q.head.l.length q.head.h.cap):=hb1.cell rfl;clear hf rq hb0 hb1 hb2
 go_enter Tryz.func12,Tryz.ntmps12;go_upto_region 1 with fail
 try rw [hX]
 clear hX;go_upto_region 4 with(go_at_call 31;refine(HF.o _ (Below.refl _ _)).mono ?_;rintro e y ⟨rfl,hby⟩;have HY:=ai hby;clear hby)
 clear s0 x0 x1 x2;have HBY:=ai (HB1.o.below HY.o);have HCL:=ai (fun(W:World) (hW:Below y.heap.size y W)=>clone_lits q.lh q.lits W ((HQ.o.mono (bT HBX.o (bT HY.o hW))).row) (by obtain⟨τ,hr⟩:=HR.o.ri;have:=hr.n1;rwa [show q.cj.lits.length=q.lits.length from List.length_map _]at this) (by have:=HR.o.hl;omega))
 have y0:y.cell? ⟨w.heap.size+1,0,none⟩ =some (.int .i64 (q.vars:Nat)):=HBY.o.cell rfl;have y1:y.cell? ⟨w.heap.size+1,1,none⟩ =some (.slice q.lh.ao q.lits.length q.lh.cap):=HBY.o.cell rfl;have y2:y.cell? ⟨w.heap.size+1,2,none⟩ =some (.slice q.head.h.ao q.head.l.length q.head.h.cap):=HBY.o.cell rfl;have hqb:w.heap.size+1<y.heap.size:=HBY.o.lt;go_upto_region 6 with(go_at_call 44;refine(HCL.o _ (belA _)).mono ?_;rintro e z ⟨g,cap,rfl,ho,hz⟩;have HZ:=ai hz;have HO:=ai ho;have HBL:=ai ((Box.new y (qcells q) 32).below hz);have z1:z.cell? ⟨y.heap.size,1,none⟩ =some (.slice q.lh.ao q.lits.length q.lh.cap):=HBL.o.cell rfl;have f1:=HBL.o.fr 1;clear ho hz)
 clear y0 y1 y2 z1 f1;have HW0:=ai (show CoW w q ⟨q.vars,⟨some ⟨g,0,none⟩,cap⟩,q.lits,q.head⟩ y.heap.size (z.setCell ⟨y.heap.size,1,none⟩ (.slice (some ⟨g,0,none⟩) q.lits.length cap))from by
  have hg:=gb_set z y.heap.size 1 (.slice (some ⟨g,0,none⟩) q.lits.length cap);have hyz:=bT (belA (w:=y) (.cells (qcells q) 32)) HZ.o
  have hX:=HB2.o.lt;have hXY:=HY.o.size;have hgl:=(HO.o.lt g rfl).1;rw [World.size_alloc]at hgl;have hbl:=HBL.o.set 1 (.slice (some ⟨g,0,none⟩) q.lits.length cap);simp only [List.setIfInBounds_toArray,List.set_cons_zero,List.set_cons_succ]at hbl;have hwz:=bT HBX.o (bT HY.o hyz);refine⟨hwz.grown hg hwz.size (fun j e=>by injection e with e;omega),((HB2.o.below HY.o).below hyz).grown hg (by intro e;injection e with e;omega),hbl,by omega,row_row (own_row0 (fun _=>rfl) (by decide) HO.o) hg (by intro e;injection e with e;have e:g=y.heap.size:=e;omega),?_,rfl,rfl,fun _ h=>h,?_,Nat.le_refl _⟩
  ·show g≠y.heap.size;omega
  ·obtain⟨τ,hr⟩:=HR.o.ri;have:=hr.n1;rwa [show q.cj.lits.length=q.lits.length from List.length_map _]at this)
 have HLN:=ai (show(q.lits.length≤8)from HR.o.hl.2)
 have HC0:=ai (show coreL (q.lits.length - 0) (Cq.cj ⟨q.vars,⟨some ⟨g,0,none⟩,cap⟩,q.lits,q.head⟩) 0=coreL q.cj.lits.length q.cj 0 from by rw [show q.cj.lits.length=q.lits.length from List.length_map _];rfl)
 clear HBY HCL HZ HO HBL HF HB0 HB1 HB2 HY;generalize y.heap.size=lb at *;generalize z.setCell ⟨lb,1,none⟩ (.slice (some ⟨g,0,none⟩) q.lits.length cap) =Z at *;go_wp2;go_loopw [8] (fun i wr=>∃(k:Nat) (lq:Cq),k≤lq.lits.length∧i = .int .i64 k∧Hid (CoW w q lq lb wr)∧Hid (coreL (lq.lits.length - k) lq.cj k=coreL q.cj.lits.length q.cj 0)∧Hid (Cov lq.cj)) (fun i wr=>litN wr lb - (intOf i).toNat)
 case atStart=>exact⟨0,_,Nat.zero_le _,rfl,HW0.o,HC0.o,by obtain⟨τ,hr⟩:=HR.o.ri;exact hr.cov⟩
 clear HW0 HC0
 case round=>
  obtain⟨k,lq,hk,rfl,HW,HC,HCV⟩:=hrel;have HOK:=ai (HW.o.okq HR.o);have HLR:=ai (litN_of HW.o.bl);have y0:wr.cell? ⟨lb,0,none⟩ =some (.int .i64 (lq.vars:Nat)):=HW.o.bl.cell rfl;have y1:wr.cell? ⟨lb,1,none⟩ =some (.slice lq.lh.ao lq.lits.length lq.lh.cap):=HW.o.bl.cell rfl;have y2:wr.cell? ⟨lb,2,none⟩ =some (.slice lq.head.h.ao lq.head.l.length lq.head.h.cap):=HW.o.bl.cell rfl;have hlw:lb<wr.heap.size:=HW.o.bl.lt;have hn8:lq.lits.length≤8:=by have h1:=HW.o.len;have h2:=HLN.o;omega
  by_cases hlt:k<lq.lits.length
  ·have hlti: (k:Int) <lq.lits.length:=by omega
   have HLT:=ai hlt;obtain⟨VV,hV⟩ : ∃VV,wr.alloc (.cells (qcells lq) 32) =VV:=⟨_,rfl⟩;obtain⟨hbv,hvb⟩:=box1X hV;have HVB:=ai hvb;have HBV:=ai hbv;have HWV:=ai (HW.o.call hvb);have HCL:=ai (clone_lits lq.lh lq.lits VV HWV.o.row HW.o.pos (by omega))
   have v1:VV.cell? ⟨lb,1,none⟩ =some (.slice lq.lh.ao lq.lits.length lq.lh.cap):=HWV.o.bl.cell rfl;have HGS:=ai (show wr.heap.size<VV.heap.size from HBV.o.lt)
   clear hbv hvb;go_upto_region 9 with fail
   try rw [hV]
   clear hV y0 y1 y2;go_upto_region 10 with(first
    | (go_at_call 44;refine HCL.o.mono ?_;rintro e y ⟨g1,cap1,rfl,ho,hby⟩;have HO:=ai ho;have HY:=ai hby;clear ho hby)
    | (go_at_call 45;refine(delete_lits g1 cap1 VV.heap.size lq.lits k y HLT.o HO.o).mono ?_;rintro e z ⟨rfl,hr,hg⟩;have HG1:=ai (HO.o.lt g1 rfl).1;have HVZ:=ai (HY.o.grown hg HY.o.size (fun j e=>by injection e with e;rw [←e];exact(HO.o.lt g1 rfl).1));have HRZ:=ai hr;have HBZ:=ai (HBV.o.below HVZ.o);have z1:z.cell? ⟨wr.heap.size,1,none⟩ =some (.slice lq.lh.ao lq.lits.length lq.lh.cap):=HBZ.o.cell rfl;have f1:=HBZ.o.fr 1;clear hr hg))
   clear z1 f1 v1;have HD:=ai (show(⟨lq.vars,⟨some ⟨g1,0,none⟩,cap1⟩,lq.lits.eraseIdx k,lq.head⟩ :Cq).cj=lq.cj.del k from by
    show Cj.mk ((lq.lits.eraseIdx k).map Li.lt) lq.head.l=Cj.mk ((lq.lits.map Li.lt).eraseIdx k) lq.head.l
    rw [erase_map])
   have HGZ:=gb_set z wr.heap.size 1 (.slice (some ⟨g1,0,none⟩) (lq.lits.eraseIdx k).length cap1);have hbz:=bT HVB.o HVZ.o;have HBY:=ai (hbz.grown HGZ hbz.size (fun j e=>by injection e with e;omega))
   have HLE:=ai (show(lq.lits.eraseIdx k).length=lq.lits.length - 1 from List.length_eraseIdx_of_lt hlt)
   have HRY:=ai (row_row HRZ.o HGZ (by intro e;injection e with e;have e:g1=wr.heap.size:=e;have h1:=HG1.o;have h2:=HGS.o;omega))
   have HBX3:=ai (show Box (z.setCell ⟨wr.heap.size,1,none⟩ (.slice (some ⟨g1,0,none⟩) (lq.lits.eraseIdx k).length cap1)) wr.heap.size (qcells ⟨lq.vars,⟨some ⟨g1,0,none⟩,cap1⟩,lq.lits.eraseIdx k,lq.head⟩) 32 from by
    have h:=HBZ.o.set 1 (.slice (some ⟨g1,0,none⟩) (lq.lits.eraseIdx k).length cap1);simp only [List.setIfInBounds_toArray,List.set_cons_zero,List.set_cons_succ]at h;exact h)
   clear HGZ hbz HBZ HRZ HVZ HWV HVB HBV HCL HO HY;generalize z.setCell ⟨wr.heap.size,1,none⟩ (.slice (some ⟨g1,0,none⟩) (lq.lits.eraseIdx k).length cap1) =Y3 at *;have HW3:=ai (HW.o.call HBY.o);have HSUB:=ai (show∀l∈lq.lits.eraseIdx k,l∈lq.lits from fun l hl=>List.mem_of_mem_eraseIdx hl)
   have HDI:=ai (show Cq.In Y3 0 ⟨lq.vars,⟨some ⟨g1,0,none⟩,cap1⟩,lq.lits.eraseIdx k,lq.head⟩from by
    have h:=in_of HQ.o HW3.o.bel HRY.o (fun l hl=>HW.o.sub l (HSUB.o l hl))
    rw [←HW.o.vars,←HW.o.head]at h;exact h)
   have HQK:=ai (show QOk Y3 lq ⟨lq.vars,⟨some ⟨g1,0,none⟩,cap1⟩,lq.lits.eraseIdx k,lq.head⟩from
    ⟨HW3.o.inq HQ.o,HDI.o,HOK.o.1,by omega,by show(lq.lits.eraseIdx k).length≤1000;rw [HLE.o];omega,HOK.o.2.1⟩)
   have HCO:=ai (covered_any ⟨lq.vars,⟨some ⟨g1,0,none⟩,cap1⟩,lq.lits.eraseIdx k,lq.head⟩ 0 Y3 HDI.o);obtain⟨dl,hdl⟩ : ∃d,lq.lits.eraseIdx k=d:=⟨_,rfl⟩;rw [hdl]at HD HLE HRY HBX3 HSUB HDI HQK HCO ⊢;clear hdl;have y0:Y3.cell? ⟨wr.heap.size,0,none⟩ =some (.int .i64 (lq.vars:Nat)):=HBX3.o.cell rfl;have y1:Y3.cell? ⟨wr.heap.size,1,none⟩ =some (.slice (some ⟨g1,0,none⟩) dl.length cap1):=HBX3.o.cell rfl;have y2:Y3.cell? ⟨wr.heap.size,2,none⟩ =some (.slice lq.head.h.ao lq.head.l.length lq.head.h.cap):=HBX3.o.cell rfl;by_cases hcv:Cov (lq.cj.del k)
   ·have HCD:=ai hcv
    clear hcv;by_cases hhm:Hom lq.cj (lq.cj.del k)
    ·have HHM:=ai hhm
     clear hhm;go_wp2_with (first
      | (go_at_call 46;refine HCO.o.mono ?_;rintro e Y4 ⟨bc,rfl,hbc,hb4⟩;have hbc2:bc=true:=hbc.2 (by rw [HD.o];exact HCD.o);subst hbc2;have HB4:=ai hb4;clear hbc hb4 y0 y1 y2;have HB6:=HBX3.o.below HB4.o;have HW6:=HW3.o.call HB4.o;have b0:Y4.cell? ⟨wr.heap.size,0,none⟩ =some (.int .i64 (lq.vars:Nat)):=HB6.cell rfl;have b1:Y4.cell? ⟨wr.heap.size,1,none⟩ =some (.slice (some ⟨g1,0,none⟩) dl.length cap1):=HB6.cell rfl;have b2:Y4.cell? ⟨wr.heap.size,2,none⟩ =some (.slice lq.head.h.ao lq.head.l.length lq.head.h.cap):=HB6.cell rfl;have a0:Y4.cell? ⟨lb,0,none⟩ =some (.int .i64 (lq.vars:Nat)):=HW6.bl.cell rfl;have a1:Y4.cell? ⟨lb,1,none⟩ =some (.slice lq.lh.ao lq.lits.length lq.lh.cap):=HW6.bl.cell rfl;have a2:Y4.cell? ⟨lb,2,none⟩ =some (.slice lq.head.h.ao lq.head.l.length lq.head.h.cap):=HW6.bl.cell rfl;clear HB6 HW6)
      | (go_at_call 47;refine(match_any lq ⟨lq.vars,⟨some ⟨g1,0,none⟩,cap1⟩,dl,lq.head⟩ false Y4 (HQK.o.mono' HB4.o) HOK.o.2.2.2.1 HCV.o.1 HOK.o.2.2.2.2.1).mono ?_;rintro e Y5 ⟨v,bm,rfl,hbm,hb5⟩;have hbm2:bm=true:=hbm.2 (by show Hom _ _;rw [HD.o];exact HHM.o);subst hbm2;have HB5:=ai (bT HB4.o hb5);clear hbm hb5 a0 a1 a2 b0 b1 b2;have HB6:=HBX3.o.below HB5.o;have HW6:=HW3.o.call HB5.o;have b0:Y5.cell? ⟨wr.heap.size,0,none⟩ =some (.int .i64 (lq.vars:Nat)):=HB6.cell rfl;have b1:Y5.cell? ⟨wr.heap.size,1,none⟩ =some (.slice (some ⟨g1,0,none⟩) dl.length cap1):=HB6.cell rfl;have b2:Y5.cell? ⟨wr.heap.size,2,none⟩ =some (.slice lq.head.h.ao lq.head.l.length lq.head.h.cap):=HB6.cell rfl;have a0:Y5.cell? ⟨lb,0,none⟩ =some (.int .i64 (lq.vars:Nat)):=HW6.bl.cell rfl;have a1:Y5.cell? ⟨lb,1,none⟩ =some (.slice lq.lh.ao lq.lits.length lq.lh.cap):=HW6.bl.cell rfl;have a2:Y5.cell? ⟨lb,2,none⟩ =some (.slice lq.head.h.ao lq.head.l.length lq.head.h.cap):=HW6.bl.cell rfl;have f0:=HW6.bl.fr 0;have f1:=HW6.bl.fr 1;have f2:=HW6.bl.fr 2;clear HB6 HW6))
     have HWS:=ai ((HW3.o.call HB5.o).set (ls:=dl) (hd:=⟨some ⟨g1,0,none⟩,cap1⟩) (HRY.o.mono HB5.o) (by show g1≠lb;have h1:=HG1.o;have h2:=HGS.o;omega) HSUB.o (by have h:=HCD.o.2;rw [←HD.o]at h;rwa [show(⟨lq.vars,⟨some ⟨g1,0,none⟩,cap1⟩,dl,lq.head⟩ :Cq).cj.lits.length=dl.length from List.length_map _]at h) (by rw [HLE.o];omega))
     have HLE2:=ai (litN_of HWS.o.bl);refine⟨⟨k,⟨lq.vars,⟨some ⟨g1,0,none⟩,cap1⟩,dl,lq.head⟩,by show k≤dl.length;rw [HLE.o];omega,rfl,HWS.o,?_,by rw [HD.o];exact HCD.o⟩,?_⟩
     ·show coreL (dl.length - k) _ k=_
      rw [HD.o,←HC.o,HLE.o,show lq.lits.length - k= (lq.lits.length - 1 - k) +1 by omega]
      exact(coreL_take (by rw [show lq.cj.lits.length=lq.lits.length from List.length_map _];exact HLT.o) ⟨HCD.o,HHM.o⟩).symm
     ·trace_state
      rw [HLE2.o,HLR.o]
      show dl.length - _<_
      rw [HLE.o];simp [intOf];omega
    ·have HHM:=ai hhm
     clear hhm;have HC2:=ai (show coreL (lq.lits.length - (k+1)) lq.cj (k+1) =coreL q.cj.lits.length q.cj 0 from by
      rw [←HC.o,show lq.lits.length - k= (lq.lits.length - (k+1)) +1 by omega]
      exact(coreL_skip (by rw [show lq.cj.lits.length=lq.lits.length from List.length_map _];exact HLT.o) (fun h=>HHM.o h.2)).symm)
     go_wp2_with (first
       | (go_at_call 46;refine HCO.o.mono ?_;rintro e Y4 ⟨bc,rfl,hbc,hb4⟩;have hbc2:bc=true:=hbc.2 (by rw [HD.o];exact HCD.o);subst hbc2;have HB4:=ai hb4;clear hbc hb4 y0 y1 y2;have HB6:=HBX3.o.below HB4.o;have HW6:=HW3.o.call HB4.o;have b0:Y4.cell? ⟨wr.heap.size,0,none⟩ =some (.int .i64 (lq.vars:Nat)):=HB6.cell rfl;have b1:Y4.cell? ⟨wr.heap.size,1,none⟩ =some (.slice (some ⟨g1,0,none⟩) dl.length cap1):=HB6.cell rfl;have b2:Y4.cell? ⟨wr.heap.size,2,none⟩ =some (.slice lq.head.h.ao lq.head.l.length lq.head.h.cap):=HB6.cell rfl;have a0:Y4.cell? ⟨lb,0,none⟩ =some (.int .i64 (lq.vars:Nat)):=HW6.bl.cell rfl;have a1:Y4.cell? ⟨lb,1,none⟩ =some (.slice lq.lh.ao lq.lits.length lq.lh.cap):=HW6.bl.cell rfl;have a2:Y4.cell? ⟨lb,2,none⟩ =some (.slice lq.head.h.ao lq.head.l.length lq.head.h.cap):=HW6.bl.cell rfl;clear HB6 HW6)
       | (go_at_call 47;refine(match_any lq ⟨lq.vars,⟨some ⟨g1,0,none⟩,cap1⟩,dl,lq.head⟩ false Y4 (HQK.o.mono' HB4.o) HOK.o.2.2.2.1 HCV.o.1 HOK.o.2.2.2.2.1).mono ?_;rintro e Y5 ⟨v,bm,rfl,hbm,hb5⟩;have hbm2:bm=false:=Bool.eq_false_iff.2 (fun e=>HHM.o (by have:=hbm.1 e;rw [←HD.o];exact this));subst hbm2;have HB5:=ai (bT HB4.o hb5);clear hbm hb5 a0 a1 a2 b0 b1 b2))
     have HWE:=ai (HW3.o.call HB5.o);have HLE2:=ai (litN_of HWE.o.bl);go_roundw
     case rel=>exact⟨k+1,lq,HLT.o,by go_num,HWE.o,HC2.o,HCV.o⟩
     case measure=>rw [HLE2.o,HLR.o];have:=HLT.o;simp [intOf];omega
   ·have HCD:=ai hcv
    clear hcv;have HC2:=ai (show coreL (lq.lits.length - (k+1)) lq.cj (k+1) =coreL q.cj.lits.length q.cj 0 from by
     rw [←HC.o,show lq.lits.length - k= (lq.lits.length - (k+1)) +1 by omega]
     exact(coreL_skip (by rw [show lq.cj.lits.length=lq.lits.length from List.length_map _];exact HLT.o) (fun h=>HCD.o h.1)).symm)
    go_wp2_with ((go_at_call 46;refine HCO.o.mono ?_;rintro e Y4 ⟨bc,rfl,hbc,hb4⟩;have hbc2:bc=false:=Bool.eq_false_iff.2 (fun e=>HCD.o (by have:=hbc.1 e;rw [←HD.o];exact this));subst hbc2;have HB4:=ai hb4;clear hbc hb4 y0 y1 y2))
    have HWE:=ai (HW3.o.call HB4.o);have HLE2:=ai (litN_of HWE.o.bl);go_roundw
    case rel=>exact⟨k+1,lq,HLT.o,by go_num,HWE.o,HC2.o,HCV.o⟩
    case measure=>rw [HLE2.o,HLR.o];have:=HLT.o;simp [intOf];omega
  ·have hlti: ¬(k:Int) <lq.lits.length:=by omega
   obtain rfl:k=lq.lits.length:=by omega
   have HNU:=ai (numbered_any lq 0 wr (HW.o.inq HQ.o) (fun l hl=>by
    have hl2:=HW.o.sub l hl;refine⟨?_,HOK.o.2.1 l hl⟩
    obtain⟨τ,hr⟩:=HR.o.ri;obtain⟨ty,t1,t2,_⟩:=hr.lit l.lt (List.mem_map_of_mem hl2);have t2:l.sl.l.length=ty.length:=t2;rw [t2];exact hty ty (List.mem_of_getElem? t1)) ⟨HOK.o.2.2.2.2.2,HOK.o.2.2.2.2.1⟩ (by omega) HCV.o.1 HOK.o.2.2.1)
   go_wp2_with (go_at_call 48;refine HNU.o.mono ?_;rintro e x ⟨r,rfl,hr,hc,hv,hb⟩;have HRI:=ai hr;have HRC:=ai hc;have HRV:=ai hv;have HBE:=ai hb;have HBR:=ai (HW.o.br.below hb);have r0:x.cell? ⟨w.heap.size+1+1,0,none⟩ =some (.int .i64 0):=HBR.o.cell rfl;have r1:x.cell? ⟨w.heap.size+1+1,1,none⟩ =some (.slice none 0 0):=HBR.o.cell rfl;have r2:x.cell? ⟨w.heap.size+1+1,2,none⟩ =some (.slice none 0 0):=HBR.o.cell rfl;have f0:=HBR.o.fr 0;have f1:=HBR.o.fr 1;have f2:=HBR.o.fr 2;clear hr hc hv hb)
   have HG:=ai (set3 x (w.heap.size+1+1) (.int .i64 (r.vars:Nat)) (.slice r.lh.ao r.lits.length r.lh.cap) (.slice r.head.h.ao r.head.l.length r.head.h.cap));have hbl:=HW.o.br.lt;have hbw:=HW.o.bel;have hcore:q.cj.core=lq.cj.num:=by
    have h:=HC.o;rw [Nat.sub_self]at h
    show(coreL _ _ _).num=_
    rw [←h];rfl
   refine bodyPost_ret (v:=.tuple #[.agg #[.int .i64 (r.vars:Nat),.slice r.lh.ao r.lits.length r.lh.cap,.slice r.head.h.ao r.head.l.length r.head.h.cap],.int .i64 0]) ?_ ?_ ?_
   case refine_3=>exact⟨r,rfl,(HRI.o.grown HG.o hbl).le hbw.size,by rw [hcore];exact HRC.o,by rw [hcore,num_occ,List.length_range];exact HRV.o,(bT hbw HBE.o).grown HG.o (bT hbw HBE.o).size (fun j e=>by injection e with e;omega)⟩
   case refine_2=>rfl
   simp [results,Tryz.results12,go_sem,r0,r1,r2]
end Go.Proofs.YtiijaaohphokcaaGreatDoor
/- ref03.Name: which strings are names, by one loop over the letters and one over the reserved words. -/
namespace Go.Proofs.YtiijaaohphokcaaGreatDoor
open Go.RowKit
theorem lett_of {c:Int} (h1: ¬c<97) (h2: ¬122<c) :lett c=true:=by unfold lett;exact decide_eq_true ⟨by omega,by omega⟩
theorem lett_not {c:Int} (h:c<97∨122<c) :lett c=false:=by unfold lett;exact decide_eq_false (fun h'=>by omega)
theorem vch_dig {c:Int} (h1: ¬c<48) (h2: ¬57<c) :vch c=true:=by unfold vch;rw [decide_eq_true (p:=48≤c∧c≤57) ⟨by omega,by omega⟩];simp
theorem vch_und {c:Int} (h:c=95) :vch c=true:=by subst h;rfl
theorem vch_let {c:Int} (h:lett c=true) :vch c=true:=by unfold vch;rw [h];rfl
theorem vch_not {c:Int} (h:c<97∨122<c) (h1:c<48∨57<c) (h2:c≠95) :vch c=false:=by
 unfold vch;rw [lett_not h,decide_eq_false (fun h'=>by omega),decide_eq_false h2];rfl
theorem rname_short (s:ByteArray) (w:World) (h0: (s.size:Int) <1) :
  Calls Tryz.prog 113 #[.string s] w fun e w'=>e = .returned (.bool (pb (IsName s)))∧Below w.heap.size w w':=by
 have hr:=ai (pb_no (p:=IsName s) (fun h=>by have:=h.lo;omega))
 go_enter Tryz.func113,Tryz.ntmps113;go_wp2;go_ret
 exact⟨retb hr.o.symm,Below.refl _ _⟩
theorem rname_long (s:ByteArray) (w:World) (h0: ¬(s.size:Int) <1) (h16:16< (s.size:Int)) (hs:s.size≤9223372036854775807) :
  Calls Tryz.prog 113 #[.string s] w fun e w'=>e = .returned (.bool (pb (IsName s)))∧Below w.heap.size w w':=by
 have hr:=ai (pb_no (p:=IsName s) (fun h=>by have:=h.hi;omega))
 go_enter Tryz.func113,Tryz.ntmps113;go_wp2;go_ret
 exact⟨retb hr.o.symm,Below.refl _ _⟩
theorem rname_lo (s:ByteArray) (w:World) (h0: ¬(s.size:Int) <1) (h16: ¬16< (s.size:Int)) (hpos:0<s.size) (hc: ((s[0]'hpos).toNat:Int) <97) :
  Calls Tryz.prog 113 #[.string s] w fun e w'=>e = .returned (.bool (pb (IsName s)))∧Below w.heap.size w w':=by
 have hr:=ai (pb_no (p:=IsName s) (fun h=>by have:=h.fst hpos;rw [lett_not (.inl hc)]at this;cases this))
 go_enter Tryz.func113,Tryz.ntmps113;go_wp2;go_ret
 exact⟨retb hr.o.symm,Below.refl _ _⟩
theorem rname_hi (s:ByteArray) (w:World) (h0: ¬(s.size:Int) <1) (h16: ¬16< (s.size:Int)) (hpos:0<s.size) (hc: ¬((s[0]'hpos).toNat:Int) <97) (hd:122< ((s[0]'hpos).toNat:Int)) :
  Calls Tryz.prog 113 #[.string s] w fun e w'=>e = .returned (.bool (pb (IsName s)))∧Below w.heap.size w w':=by
 have hr:=ai (pb_no (p:=IsName s) (fun h=>by have:=h.fst hpos;rw [lett_not (.inr hd)]at this;cases this))
 go_enter Tryz.func113,Tryz.ntmps113;go_wp2;go_ret
 exact⟨retb hr.o.symm,Below.refl _ _⟩
theorem rname_main (s:ByteArray) (w:World) (h0: ¬(s.size:Int) <1) (h16: ¬16< (s.size:Int)) (hpos:0<s.size) (hc: ¬((s[0]'hpos).toNat:Int) <97) (hd: ¬122< ((s[0]'hpos).toNat:Int)) :
  Calls Tryz.prog 113 #[.string s] w fun e w'=>e = .returned (.bool (pb (IsName s)))∧Below w.heap.size w w':=by
 have HF:=ai (lett_of hc hd)
 go_enter Tryz.func113,Tryz.ntmps113;go_wp2;clear hc hd;go_loop [3] (fun i=>∃k:Nat,k≤s.size∧i = .int .i64 k∧∀j (h:j<s.size),j<k→vch ((s[j]'h).toNat:Int) =true) (fun i=>s.size - (intOf i).toNat)
 case atStart=>exact⟨0,Nat.zero_le _,rfl,fun j _ h=>absurd h (by omega)⟩
 case round=>
  obtain⟨k,hk,rfl,hno⟩:=hrel;have HN:=ai hno;clear hno;by_cases hlt:k<s.size
  ·have hki: (k:Int) < (s.size:Int):=by omega
   by_cases d1: ((s[k]'hlt).toNat:Int) <97
   ·by_cases d3: ((s[k]'hlt).toNat:Int) <48
    ·have d5: (((s[k]'hlt).toNat:Int) != 95) =true:=by simp;omega
     have hr:=ai (pb_no (p:=IsName s) (fun h=>by have:=h.all k hlt;rw [vch_not (.inl d1) (.inl d3) (by omega)]at this;cases this))
     go_wp2;go_ret
     exact⟨retb hr.o.symm,Below.refl _ _⟩
    ·by_cases d4:57< ((s[k]'hlt).toNat:Int)
     ·by_cases d5': ((s[k]'hlt).toNat:Int) =95
      ·have d5: (((s[k]'hlt).toNat:Int) != 95) =false:=by rw [d5'];rfl
       have HV:=ai (vch_und d5');clear d5';go_wp2;go_round
       case rel=>
        refine⟨k+1,by omega,by go_num,fun j hj h=> ?_⟩
        by_cases e:j=k
        ·subst e;exact HV.o
        ·exact HN.o j hj (by omega)
       case measure=>simp [intOf];omega
      ·have d5: (((s[k]'hlt).toNat:Int) != 95) =true:=by simpa using d5'
       have hr:=ai (pb_no (p:=IsName s) (fun h=>by have:=h.all k hlt;rw [vch_not (.inl d1) (.inr d4) d5']at this;cases this))
       clear d5';go_wp2;go_ret
       exact⟨retb hr.o.symm,Below.refl _ _⟩
     ·have HV:=ai (vch_dig d3 d4)
      go_wp2;go_round
      case rel=>
       refine⟨k+1,by omega,by go_num,fun j hj h=> ?_⟩
       by_cases e:j=k
       ·subst e;exact HV.o
       ·exact HN.o j hj (by omega)
      case measure=>simp [intOf];omega
   ·by_cases d2:122< ((s[k]'hlt).toNat:Int)
    ·have d3: ¬((s[k]'hlt).toNat:Int) <48:=by omega
     have d4:57< ((s[k]'hlt).toNat:Int):=by omega
     have d5: (((s[k]'hlt).toNat:Int) != 95) =true:=by simp;omega
     have hr:=ai (pb_no (p:=IsName s) (fun h=>by have:=h.all k hlt;rw [vch_not (.inr d2) (.inr d4) (by omega)]at this;cases this))
     go_wp2;go_ret
     exact⟨retb hr.o.symm,Below.refl _ _⟩
    ·have HV:=ai (vch_let (lett_of d1 d2))
     go_wp2;go_round
     case rel=>
      refine⟨k+1,by omega,by go_num,fun j hj h=> ?_⟩
      by_cases e:j=k
      ·subst e;exact HV.o
      ·exact HN.o j hj (by omega)
     case measure=>simp [intOf];omega
  ·have HA:=ai (show∀j (h:j<s.size),vch ((s[j]'h).toNat:Int) =true from fun j h=>HN.o j h (by omega))
   clear HN;go_wp2_with (go_at_call 161;refine(reserved_any _).mono ?_;rintro e w1 ⟨⟨rh,rfl,hrow⟩,hb1⟩;have HB:=ai hb1;have HR:=ai hrow;clear hb1 hrow)
   go_loop [5] (fun i=>∃k:Nat,k≤resWords.length∧i = .int .i64 k∧∀j (h:j<resWords.length),j<k→¬resWords[j] =s) (fun i=>resWords.length - (intOf i).toNat)
   case atStart=>exact⟨0,Nat.zero_le _,rfl,fun j _ h=>absurd h (by omega)⟩
   case round=>
    obtain⟨k,hk,rfl,hno⟩:=hrel;have HN:=ai hno;clear hno;have hlen:resWords.length≤9223372036854775807:=by rw [res_len];omega
    by_cases hlt:k<resWords.length
    ·have hki: (k:Int) < (resWords.length:Int):=by omega
     have hix:=HR.o.ix hlt Tryz.underlying142 sz9;simp only [Nat.mul_one]at hix;have hc0:=str_at HR.o hlt;obtain⟨x,hx'⟩ : ∃x,x=resWords[k]:=⟨_,rfl⟩;rw [←hx']at hc0;by_cases hq:x=s
     ·have hq1: (x.toList == s.toList) =true:=by simp [hq]
      have hr:=ai (pb_no (p:=IsName s) (fun h=>h.new (by rw [←hq,hx'];exact List.getElem_mem hlt)))
      clear hx' hq;go_wp2;go_ret
      exact⟨retb hr.o.symm,HB.o⟩
     ·have hq1: (x.toList == s.toList) =false:=by
       rw [beq_eq_false_iff_ne];intro h;rw [Lib.toList_data,Lib.toList_data]at h;exact hq (Go.WideShapes.bytes_inj h)
      have HQ:=ai hq;have HX:=ai hx';clear hq hx';go_wp2;go_round
      case rel=>
       refine⟨k+1,by omega,by go_num,fun j hj h=> ?_⟩
       by_cases e:j=k
       ·subst e;rw [←HX.o];exact HQ.o
       ·exact HN.o j hj (by omega)
      case measure=>simp [intOf];omega
    ·have hr:=ai (pb_yes (p:=IsName s) ⟨by omega,by omega,fun _=>HF.o,HA.o,fun h=>by
      obtain⟨j,hj,e⟩:=List.getElem_of_mem h;exact HN.o j hj (by omega) e⟩)
     clear HN;go_wp2;go_ret
     exact⟨retb hr.o.symm,HB.o⟩
theorem rname_any (s:ByteArray) (w:World) (hs:s.size≤9223372036854775807) :
  Calls Tryz.prog 113 #[.string s] w fun e w'=>e = .returned (.bool (pb (IsName s)))∧Below w.heap.size w w':=by
 by_cases h0: (s.size:Int) <1
 ·exact rname_short s w h0
 by_cases h16:16< (s.size:Int)
 ·exact rname_long s w h0 h16 hs
 have hpos:0<s.size:=by omega
 by_cases hc: ((s[0]'hpos).toNat:Int) <97
 ·exact rname_lo s w h0 h16 hpos hc
 by_cases hd:122< ((s[0]'hpos).toNat:Int)
 ·exact rname_hi s w h0 h16 hpos hc hd
 exact rname_main s w h0 h16 hpos hc hd
end Go.Proofs.YtiijaaohphokcaaGreatDoor
/- ref03.table, ref03.Valid of plain tables (for the laws that compare with the reference). -/
namespace Go.Proofs.YtiijaaohphokcaaGreatDoor
open Go.RowKit
theorem rtable_plain (nm:ByteArray) (ch:Hd) (cols:List Col) (ph:Hd) (w:World) (hx: (pt nm ch cols ph).In w) (hp:PCols cols) :
  Calls Tryz.prog 115 #[.agg #[.string nm,.slice ch.ao cols.length ch.cap,.slice ph.ao 1 ph.cap,.slice none 0 0,.slice none 0 0,.slice none 0 0]] w fun e w'=>e = .returned (.int .i64 0)∧Below w.heap.size w w':=by
 obtain⟨X,hX⟩ : ∃X,w.alloc (.cells #[.string nm,.slice ch.ao cols.length ch.cap,.slice ph.ao 1 ph.cap,.slice none 0 0,.slice none 0 0,.slice none 0 0] 78) =X:=⟨_,rfl⟩;have HB0:=ai (box1X hX).2;have HBX:=ai (box1X hX).1;have HX:=ai (hx.mono HB0.o);have y0:=HBX.o.cell (j:=0) rfl
 have y1:=HBX.o.cell (j:=1) rfl
 have y2:=HBX.o.cell (j:=2) rfl
 have y3:=HBX.o.cell (j:=3) rfl
 have y4:=HBX.o.cell (j:=4) rfl
 have y5:=HBX.o.cell (j:=5) rfl
 have HP:=ai hp;have HKE:=ai (show keyB cols.length [0] =true from keyB_yes ⟨by decide,fun i hi=>by
  have h0:i=0:=by have: ([0] :List Int).length=1:=rfl;omega
  subst h0;refine⟨Int.le_refl _,?_,fun j hj h=>absurd h (by omega)⟩
  have:=hp.l1
  show(0:Int) <_;omega⟩)
 have c1: ¬(8:Int) <cols.length:=by have:=hp.l8;omega
 have h0b: ((cols.length:Int) == 0) =false:=beq_eq_false_iff_ne.2 (by have:=hp.l1;omega)
 have hn:=hx.rc.len;clear hx hp
 go_enter Tryz.func115,Tryz.ntmps115;go_upto_region 1 with fail
 try rw [hX]
 clear hX;go_wp2;clear y0 y1 y2 y3 y4 y5;go_loopw [3] (fun i wr=>∃k:Nat,k≤cols.length∧i = .int .i64 k∧Hid (Below X.heap.size X wr)) (fun i _=>cols.length - (intOf i).toNat)
 case atStart=>exact⟨0,Nat.zero_le _,rfl,Below.refl _ _⟩
 case round=>
  obtain⟨k,hk,rfl,HBW⟩:=hrel;have HXR:=ai (HX.o.mono HBW.o);have HBR:=ai (HBX.o.below HBW.o);have v1:=HBR.o.cell (j:=1) rfl
  by_cases hlt:k<cols.length
  ·have hix:=HXR.o.rc.ix hlt Tryz.underlying73 sz30
   obtain⟨q0,q1,q2⟩:=col_at HXR.o.rc hlt;have hbk:=HXR.o.rc.blk hlt;have HNM:=ai (show(cols[k]).name.size≤9223372036854775807 by have:=(HXR.o.cs _ (List.getElem_mem hlt)).1;unfold maxLen at this;omega)
   have HBN:=ai (pb_yes (HP.o.nm _ (List.getElem_mem hlt)));have HFI:=ai (HP.o.un k hlt);have HWA:=ai (bT HBW.o (belA (w:=wr) (.cells #[.string (cols[k]).name,.int .i64 (cols[k]).typ,.bool (cols[k]).nul] 72)))
   rcases HP.o.ty _ (List.getElem_mem hlt)with hty|hty
   all_goals
    rw [hty]at q1 HWA;go_wp2_with (first
     | (go_at_call 113;refine(rname_any _ _ HNM.o).mono ?_;rintro e w1 ⟨rfl,hb1⟩;rw [HBN.o];have hbq1:=boxA hb1;have p0:=hbq1.cell (j:=0) rfl;have p1:=hbq1.cell (j:=1) rfl;have HB1:=ai (bT HWA.o hb1);have HQ1:=ai hb1;have hba:=HBX.o.below HB1.o;have z0:=hba.cell (j:=0) rfl;have z1:=hba.cell (j:=1) rfl;have z2:=hba.cell (j:=2) rfl;have z3:=hba.cell (j:=3) rfl;have z4:=hba.cell (j:=4) rfl;have z5:=hba.cell (j:=5) rfl;clear hb1 hbq1 hba v1)
     | (go_at_call 162;refine(rcolumn_any (pt nm ch cols ph) _ _ (HX.o.mono HB1.o)).mono ?_;rintro e w2 ⟨rfl,hb2⟩;rw [HFI.o];have HB2:=ai (bT HB1.o hb2);have hbq:=boxA (bT HQ1.o hb2);have x0:=hbq.cell (j:=0) rfl;have x1:=hbq.cell (j:=1) rfl;clear hb2 hbq z0 z1 z2 z3 z4 z5 p0 p1))
    go_roundw
    case rel=>exact⟨k+1,by omega,by go_num,HB2.o⟩
    case measure=>simp [intOf];omega
  ·have z0:=HBR.o.cell (j:=0) rfl
   have z2:=HBR.o.cell (j:=2) rfl
   have z3:=HBR.o.cell (j:=3) rfl
   have z4:=HBR.o.cell (j:=4) rfl
   have z5:=HBR.o.cell (j:=5) rfl
   go_wp2_with (go_at_call 163;refine(listed_any (pt nm ch cols ph) ⟨ph,[0]⟩ _ HXR.o.rp).mono ?_;rintro e w3 ⟨rfl,hb3⟩;rw [HKE.o];have HB3:=ai (bT HBW.o hb3);clear hb3 z0 v1 z2 z3 z4 z5)
   go_loopw [7] (fun i wz=>∃k:Nat,k≤1∧i = .int .i64 k∧Hid (Below X.heap.size X wz)) (fun i _=>1 - (intOf i).toNat)
   case atStart=>exact⟨0,Nat.zero_le _,rfl,HB3.o⟩
   case round=>
    obtain⟨m,hm,rfl,HBZ⟩:=hrel;have HXZ:=ai (HX.o.mono HBZ.o);have HBQ:=ai (HBX.o.below HBZ.o);have v1:=HBQ.o.cell (j:=1) rfl
    have v2:=HBQ.o.cell (j:=2) rfl
    by_cases h1:m<1
    ·obtain rfl:m=0:=by omega
     have hixp: ∀U,(Instr.indexAt 22 (.slice ph.ao 1 ph.cap) (.int .i64 0)).run Tryz.prog U = .ok (.pointer (some ⟨ph.b,ph.o,none⟩)) U:=IL.ix HXZ.o.rp (i:=0) (Nat.zero_lt_one)
     have r0:wr.cell? ⟨ph.b,ph.o,none⟩ =some (.int .i64 0):=int_at HXZ.o.rp.1 (i:=0) (Nat.zero_lt_one)
     have hlt0:0<cols.length:=HP.o.l1;have hix: ∀U,(Instr.indexAt 73 (.slice ch.ao cols.length ch.cap) (.int .i64 0)).run Tryz.prog U = .ok (.pointer (some ⟨ch.b,ch.o,none⟩)) U:=fun U=>by simpa using HXZ.o.rc.ix hlt0 Tryz.underlying73 sz30 U
     have q2:wr.cell? ⟨ch.b,ch.o+2,none⟩ =some (.bool false):=by
      have h:=(col_at HXZ.o.rc hlt0).2.2;rw [HP.o.nu _ (List.getElem_mem hlt0)]at h
      simpa using h
     go_wp2
     go_quiet (fail)
     go_wp2;go_roundw
     case rel=>exact⟨1,by omega,by go_num,below_drewN HBZ.o _⟩
     case measure=>simp [intOf]
    ·obtain rfl:m=1:=by omega
     have v3:=HBQ.o.cell (j:=3) rfl
     have v4:=HBQ.o.cell (j:=4) rfl
     have v5:=HBQ.o.cell (j:=5) rfl
     go_wp2;go_loopw [8] (fun i wy=>i = .int .i64 0∧wy=wr) (fun i _=>0)
     case atStart=>exact⟨rfl,rfl⟩
     case round=>
      obtain⟨rfl,rfl⟩:=hrel;go_wp2;go_loopw [9] (fun i wy=>i = .int .i64 0∧wy=wr) (fun i _=>0)
      case atStart=>exact⟨rfl,rfl⟩
      case round=>
       obtain⟨rfl,rfl⟩:=hrel;go_wp2;go_loopw [10] (fun i wy=>i = .int .i64 0∧wy=wr) (fun i _=>0)
       case atStart=>exact⟨rfl,rfl⟩
       case round=>
        obtain⟨rfl,rfl⟩:=hrel;go_wp2;go_ret
        exact⟨rfl,bT HB0.o HBZ.o⟩
theorem rvalid_plain (s:Sch) (w:World) (hs:s.In w) (hp:PSch s) :
  Calls Tryz.prog 70 #[.agg #[.slice s.th.ao s.tabs.length s.th.cap]] w fun e w'=>e = .returned (.int .i64 0)∧Below w.heap.size w w':=by
 obtain⟨X,hX⟩ : ∃X,w.alloc (.cells #[.slice s.th.ao s.tabs.length s.th.cap] 27) =X:=⟨_,rfl⟩;have HB0:=ai (box1X hX).2;have HBX:=ai (box1X hX).1;have HX:=ai (hs.mono HB0.o);have y0:=HBX.o.cell (j:=0) rfl
 have HP:=ai hp;have c1: ¬(6:Int) <s.tabs.length:=by have:=hp.n6;omega
 have hn:=hs.rt.len;clear hs hp
 go_enter Tryz.func70,Tryz.ntmps70;go_upto_region 1 with fail
 try rw [hX]
 clear hX;go_wp2;clear y0;go_loopw [3] (fun i wr=>∃k:Nat,k≤s.tabs.length∧i = .int .i64 k∧Hid (Below X.heap.size X wr)) (fun i _=>s.tabs.length - (intOf i).toNat)
 case atStart=>exact⟨0,Nat.zero_le _,rfl,Below.refl _ _⟩
 case round=>
  obtain⟨k,hk,rfl,HBW⟩:=hrel;have HXR:=ai (HX.o.mono HBW.o);have z0:=(HBX.o.below HBW.o).cell (j:=0) rfl
  by_cases hlt:k<s.tabs.length
  ·have hix:=HXR.o.rt.ix hlt Tryz.underlying25 sz22
   have hta:=tab_at HXR.o.rt hlt;have hbk:=HXR.o.rt.blk hlt;have HXI:=ai (HXR.o.ts _ (List.getElem_mem hlt));have HFI:=ai (HP.o.un k hlt);have HTA:=ai (fun(w':World) (h:Below X.heap.size X w')=>tab_at (HX.o.mono h).rt hlt)
   obtain⟨nm,ch,cols,ph,e,hnm,hpc⟩:=HP.o.pl _ (List.getElem_mem hlt);rw [e]at hta HXI HFI HTA;have HPC:=ai hpc;have HBN:=ai (pb_yes hnm);have HNM:=ai (show nm.size≤9223372036854775807 by have:=HXI.o.nm;unfold maxLen at this;exact Nat.le_trans this (by omega))
   clear e hnm hpc;obtain⟨t0,t1,t2,t3,t4,t5⟩:=hta;go_upto_region 8 with(first
    | (go_at_call 113;refine(rname_any _ _ HNM.o).mono ?_;rintro e w1 ⟨rfl,hb1⟩;rw [HBN.o];have HB1:=ai (bT HBW.o hb1);have HR1:=ai hb1))
   have hg: ∀w':World,Below w1.heap.size w1 w'→w'.cell? ⟨w.heap.size,0,none⟩ =some (.slice s.th.ao s.tabs.length s.th.cap):=fun w' h=>(HBX.o.below (bT HB1.o h)).cell (j:=0) rfl
   have ht: ∀w':World,Below w1.heap.size w1 w'→w'.cell? ⟨s.th.b,s.th.o+k*6,none⟩ =some (.string nm):=fun w' h=>(HTA.o w' (bT HB1.o h)).1
   have HSW:=ai (show∀w':World,Below w1.heap.size w1 w'→s.In w' from fun w' h=>HX.o.mono (bT HB1.o h))
   clear t0 t1 t2 t3 t4 t5 z0
   go_region_held3 (fun w'=>Below w1.heap.size w1 w') ((first|exact(Below.refl _ _).drew|exact bT (by assumption) (by assumption))) (first| (go_at_call 114;refine(rfind_any s _ _ (HSW.o _ (by assumption))).mono ?_;rintro e' y1 ⟨rfl,hk1⟩;rw [HFI.o]))
   have HB2:=ai (bT HB1.o (show Below w1.heap.size w1 y1 by assumption))
   have gs:=(HBX.o.below HB2.o).cell (j:=0) rfl
   obtain⟨t0,t1,t2,t3,t4,t5⟩:=HTA.o _ HB2.o;have HXI2:=ai (HXI.o.mono ((bT HR1.o (show Below w1.heap.size w1 y1 by assumption))))
   go_wp2_with (first
    | (go_at_call 115;refine(rtable_plain nm ch cols ph _ HXI2.o HPC.o).mono ?_;rintro e w3 ⟨rfl,hb3⟩;have HB3:=ai (bT HB2.o hb3);clear hb3))
   go_roundw
   case rel=>exact⟨k+1,by omega,by go_num,HB3.o⟩
   case measure=>simp [intOf];omega
  ·go_wp2
   go_loopw [7] (fun i wr=>∃k:Nat,k≤s.tabs.length∧i = .int .i64 k∧Hid (Below X.heap.size X wr)) (fun i _=>s.tabs.length - (intOf i).toNat)
   case atStart=>exact⟨0,Nat.zero_le _,rfl,HBW.o⟩
   clear z0 HBW HXR
   case round=>
    obtain⟨k,hk,rfl,HBW⟩:=hrel;have HXR:=ai (HX.o.mono HBW.o);have z0:=(HBX.o.below HBW.o).cell (j:=0) rfl
    by_cases hlt2:k<s.tabs.length
    ·have HIX:=ai (HXR.o.rt.ix hlt2 Tryz.underlying25 sz22)
     have HTA:=ai (fun(w':World) (h:Below X.heap.size X w')=>tab_at (HX.o.mono h).rt hlt2)
     have hbk:=HXR.o.rt.blk hlt2;obtain⟨nm,ch,cols,ph,e,hnm,hpc⟩:=HP.o.pl _ (List.getElem_mem hlt2);rw [e]at HTA;clear e hnm hpc;go_wp2;go_loopw [8] (fun i wy=>i = .int .i64 0∧wy=wr) (fun i _=>0)
     case atStart=>exact⟨rfl,rfl⟩
     case round=>
      obtain⟨rfl,rfl⟩:=hrel;obtain⟨t0,t1,t2,t3,t4,t5⟩:=HTA.o _ HBW.o;have hix:=HIX.o;go_wp2;go_roundw
      case rel=>exact⟨k+1,by omega,by go_num,HBW.o⟩
      case measure=>simp [intOf];omega
    ·go_wp2_with (go_at_call 117;refine(rorder_any s _ HXR.o (Nat.le_trans HP.o.n6 (by decide))).mono ?_;rintro e w3 ⟨h,hb3⟩;rcases h with⟨_,h⟩ | ⟨_,D,⟨h,_⟩ | ⟨_,r,_,_,rfl⟩⟩;exact(h HP.o.found).elim;exact(HP.o.ends h).elim;have HB3:=ai (bT HBW.o hb3);clear hb3 z0)
     go_ret
     exact⟨rfl,bT HB0.o HB3.o⟩
end Go.Proofs.YtiijaaohphokcaaGreatDoor
/- ref27.fixed, slot, plain of what is right. -/
namespace Go.Proofs.YtiijaaohphokcaaGreatDoor
open Go.RowKit
def Tm.isC:Tm V→Bool
 | .v _=>false
 | .c _=>true
theorem Tm.isC_nr (t:Tm V) : (t.nr == -1) =t.isC:=by
 cases t with
 | v n=>exact beq_eq_false_iff_ne.2 (show(n:Int)≠ -1 by omega)
 | c k=>rfl
theorem rfixed_any (t:Tm V) (w:World) :Calls Tryz.prog 73 #[.agg #[.int .i64 t.nr,.int .i64 t.val.kind,.int .i64 t.val.num,.string t.val.text]] w fun e w'=>e = .returned (.bool t.isC)∧Below w.heap.size w w':=by
 have HC:=ai t.isC_nr
 go_enter Tryz.func73,Tryz.ntmps73;go_wp2;go_ret
 exact⟨congrArg (fun b=>Ending.returned (.bool b)) HC.o,belA _⟩
theorem rslot_yes (vars:Nat) (t:Tm V) (w:World) (hw:t.wf) (ht:match t with | .v n=>n<vars | .c k=>validV k=true∧k.kind≠0) :
  Calls Tryz.prog 72 #[.agg #[.int .i64 t.nr,.int .i64 t.val.kind,.int .i64 t.val.num,.string t.val.text],.int .i64 (vars:Nat)] w fun e w'=>e = .returned (.bool true)∧Below w.heap.size w w':=by
 have HFX:=ai (fun W=>rfixed_any t W)
 have HB0:=ai (belA (w:=w) (.cells #[.int .i64 t.nr,.int .i64 t.val.kind,.int .i64 t.val.num,.string t.val.text] 83))
 have HBX:=ai (Box.new w #[.int .i64 t.nr,.int .i64 t.val.kind,.int .i64 t.val.num,.string t.val.text] 83)
 cases t with
 | v n=>
  have hn:n<vars:=ht;have h2: (0:Int)≤(n:Int):=by omega
  have h3: (n:Int) < (vars:Int):=by omega
  clear ht hw;simp only [Tm.nr,Tm.val,nulV,Tm.isC]at *
  go_enter Tryz.func72,Tryz.ntmps72;go_wp2_with (go_at_call 73;refine(HFX.o _).mono ?_;rintro e w1 ⟨rfl,hb1⟩;have HB1:=ai hb1;have hbq:=HBX.o.below hb1;have x0:w1.cell? ⟨w.heap.size,0,none⟩ =some (.int .i64 (n:Nat)):=hbq.cell rfl;have x1:w1.cell? ⟨w.heap.size,1,none⟩ =some (.int .i64 0):=hbq.cell rfl;have x2:w1.cell? ⟨w.heap.size,2,none⟩ =some (.int .i64 0):=hbq.cell rfl;have x3:w1.cell? ⟨w.heap.size,3,none⟩ =some (.string ⟨#[]⟩):=hbq.cell rfl;clear hb1 hbq)
  go_ret
  exact⟨rfl,bT HB0.o HB1.o⟩
 | c k=>
  obtain⟨hk,h0⟩:=ht;have HK:=ai hk;have HWF:=ai (show k.wf from hw)
  have h1: (k.kind != 0) =true:=bne_iff_ne.2 h0;clear hk h0 hw;simp only [Tm.nr,Tm.val,Tm.isC]at *
  go_enter Tryz.func72,Tryz.ntmps72;go_wp2_with (first
   | (go_at_call 73;refine(HFX.o _).mono ?_;rintro e w1 ⟨rfl,hb1⟩;have HB1:=ai hb1;have HBQ:=ai (HBX.o.below hb1);have x1:w1.cell? ⟨w.heap.size,1,none⟩ =some (.int .i64 k.kind):=HBQ.o.cell rfl;have x2:w1.cell? ⟨w.heap.size,2,none⟩ =some (.int .i64 k.num):=HBQ.o.cell rfl;have x3:w1.cell? ⟨w.heap.size,3,none⟩ =some (.string k.text):=HBQ.o.cell rfl;clear hb1)
   | (go_at_call 119;refine(rval_any k HWF.o _).mono ?_;rintro e w2 ⟨rfl,hb2⟩;rw [HK.o];have HB2:=ai hb2;clear x1 x2 x3;have x1:w2.cell? ⟨w.heap.size,1,none⟩ =some (.int .i64 k.kind):=(HBQ.o.below hb2).cell rfl;clear hb2))
  go_ret
  exact⟨rfl,bT HB0.o (bT HB1.o HB2.o)⟩
theorem rplain_yes (nm:ByteArray) (ch:Hd) (cols:List Col) (ph:Hd) (w:World) (hx: (pt nm ch cols ph).In w) (hp:PCols cols) :
  Calls Tryz.prog 118 #[.agg #[.string nm,.slice ch.ao cols.length ch.cap,.slice ph.ao 1 ph.cap,.slice none 0 0,.slice none 0 0,.slice none 0 0]] w fun e w'=>e = .returned (.bool true)∧Below w.heap.size w w':=by
 have HB0:=ai (belA (w:=w) (.cells #[.string nm,.slice ch.ao cols.length ch.cap,.slice ph.ao 1 ph.cap,.slice none 0 0,.slice none 0 0,.slice none 0 0] 78))
 have HX:=ai hx;have HP:=ai hp;have hn:=hx.rc.len;clear hx hp
 go_enter Tryz.func118,Tryz.ntmps118;go_wp2;go_loopw [8] (fun i wr=>∃k:Nat,k≤cols.length∧i = .int .i64 k∧Hid (Below w.heap.size w wr)) (fun i _=>cols.length - (intOf i).toNat)
 case atStart=>exact⟨0,Nat.zero_le _,rfl,HB0.o⟩
 case round=>
  obtain⟨k,hk,rfl,HB⟩:=hrel;by_cases hlt:k<cols.length
  ·have hrc:=(HX.o.mono HB.o).rc
   have hix:=hrc.ix hlt Tryz.underlying73 sz30;obtain⟨c0,c1,c2⟩:=col_at hrc hlt;have hbk:=hrc.blk hlt;have hnu:=HP.o.nu _ (List.getElem_mem hlt);have hty:=HP.o.ty _ (List.getElem_mem hlt);obtain⟨c,hc⟩ : ∃c,cols[k] =c:=⟨_,rfl⟩;rw [hc]at c0 c1 c2 hnu hty;rw [hnu]at c2;have h2: (c.typ == 2) =false:=beq_eq_false_iff_ne.2 (by omega)
   clear hc hrc hnu hty;go_wp2;go_roundw
   case rel=>exact⟨k+1,by omega,by go_num,bT HB.o (belA _)⟩
   case measure=>simp [intOf];omega
  ·go_wp2
   go_ret
   exact⟨rfl,HB.o⟩
end Go.Proofs.YtiijaaohphokcaaGreatDoor

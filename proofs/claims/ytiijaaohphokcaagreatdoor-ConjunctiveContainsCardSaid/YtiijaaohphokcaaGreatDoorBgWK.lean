/- law27.frozen: its walk. -/
import Derived.Test.YtiijaaohphokcaaGreatDoorG41
import Derived.Test.YtiijaaohphokcaaGreatDoorG23
import Derived.Test.YtiijaaohphokcaaGreatDoorG16
import Derived.Test.YtiijaaohphokcaaGreatDoorG28
import Derived.Test.YtiijaaohphokcaaGreatDoorG35
set_option maxRecDepth 100000
set_option maxHeartbeats 16000000
namespace Go.Proofs.YtiijaaohphokcaaGreatDoor
open Go.RowKit
theorem own_box {w:World} {base g n size:Nat} {e:TypeId} {xs:List Value} (h:w.ownsRow base e size (.slice (some ⟨g,0,none⟩) n n) n xs) :Box w g xs.toArray e:=by
 rcases h.2 with⟨h2,_⟩ | ⟨g2,cap',cur,hv,_,hg,_,_,hc,ht⟩
 ·cases h2
 ·injection hv with e1 _ e2
  injection e1 with e1;injection e1 with e1 _;subst e1;subst e2;have:cur.toList=xs:=by rw [←ht,List.take_of_length_le (by simp;omega)]
  have:cur=xs.toArray:=by rw [←this]
  rw [←this];exact hg
def FrPost (s:Sch) (q:Cq) (τ:Nat→Int) (w:World) (e:Ending) (w':World) :Prop:=
 ∃x:Ins,e = .returned (.agg #[.slice x.h.ao x.l.length x.h.cap])∧x.In w'∧FitI (colT s) x q.lits.length∧(∀t row,row∈x.D t↔∃l∈q.cj.lits,l.1=t∧l.2.map (Tm.at (nuV τ)) =row)∧(∀j z,j<w.heap.size→w'.grownBy z (some j)→x.In z)∧Below w.heap.size w w'
def FC (ν:Nat→V) (ls:List (Lt V)) (n:Nat) (T:List RL) :Prop:=T.length=n∧∀(t:Nat) (ht:t<T.length),T[t].l.map VL.l=rowsOf ν ls t
theorem FC.nil (ν:Nat→V) (n:Nat) :FC ν [] n (List.replicate n ⟨nilHd,[]⟩):=⟨List.length_replicate,fun t ht=>by rw [List.getElem_replicate];rfl⟩
theorem FC.set {ν:Nat→V} {ls:List (Lt V)} {n t:Nat} {T:List RL} {l:Lt V} {h:Hd} {r:VL} (f:FC ν ls n T) (ht:t<T.length) (hl:l.1=t) (hr:r.l=l.2.map (Tm.at ν)) :FC ν (ls ++ [l]) n (T.set t ⟨h,T[t].l ++ [r]⟩):=by
 refine⟨by rw [List.length_set];exact f.1,fun u hu=> ?_⟩
 have hu2:u<T.length:=by rw [List.length_set]at hu;exact hu
 rw [List.getElem_set,rowsOf_snoc];by_cases e:t=u
 ·subst e
  rw [if_pos rfl,if_pos hl]
  show(T[t].l ++ [r]).map VL.l=_
  rw [List.map_append,f.2 t ht,List.map_cons,List.map_nil,hr]
 ·rw [if_neg e,if_neg (fun h=>e (hl.symm.trans h)),List.append_nil]
  exact f.2 u hu2
theorem frozen_fit {s:Sch} {q:Cq} {τ:Nat→Int} {T:List RL} {hd:Hd} {w:World} {B:Nat} (rq:RightQ w (colT s) q B) (hr:Right (colT s) q.vars q.cj τ) (hp:PSch s) (f:FC (nuV τ) q.cj.lits s.tabs.length T) :FitI (colT s) ⟨hd,T⟩ q.lits.length∧∀t row,row∈(⟨hd,T⟩ :Ins).D t↔∃l∈q.cj.lits,l.1=t∧l.2.map (Tm.at (nuV τ)) =row:=by
 have hcl: (colT s).length=s.tabs.length:=List.length_map _;have hql:q.cj.lits.length=q.lits.length:=List.length_map _;refine⟨⟨by rw [hcl];exact f.1,fun r hr2=> ?_,fun k r ty hk hty v hv=> ?_⟩,fun t row=> ?_⟩
 ·obtain⟨t,ht,rfl⟩:=List.getElem_of_mem hr2
  have h:=congrArg List.length (f.2 t ht);rw [List.length_map]at h;rw [h,←hql];exact rowsOf_len
 ·have hk2:T[k]? = some r:=hk
  obtain⟨hk3,rfl⟩:=List.getElem?_eq_some_iff.1 hk2;have hm:v.l∈rowsOf (nuV τ) q.cj.lits k:=by rw [←f.2 k hk3];exact List.mem_map_of_mem hv
  obtain⟨l,hl,e1,e2⟩:=mem_rowsOf.1 hm;obtain⟨ty2,h1,h2,h3⟩:=hr.lit l hl;rw [e1,hty]at h1;injection h1 with h1;subst h1;rw [←e2];refine⟨by rw [List.length_map];exact h2,fun i u c hu hc=> ?_⟩
  rw [List.getElem?_map]at hu
  cases hli:l.2[i]? with
  | none=>rw [hli]at hu;cases hu
  | some t=>
   rw [hli]at hu;injection hu with hu;have h4:=h3 i t c hli hc;subst hu
   cases t with
   | v x=>
    obtain⟨h5,h6⟩:=h4;have hx:x<16:=Nat.lt_of_lt_of_le h5 hr.v16;have hty3:τ x=1∨τ x=3:=by
     rw [h6];have hci:c∈ty:=List.mem_of_getElem? hc;have htm:ty∈colT s:=List.mem_of_getElem? hty;obtain⟨tb,htb,rfl⟩:=List.mem_map.1 htm;obtain⟨nm,ch,cols,ph,e,_,h7⟩:=hp.pl tb htb;obtain⟨col,hcol,rfl⟩:=List.mem_map.1 hci;rw [e]at hcol;exact h7.ty col hcol
    have:=nuV_ok hx hty3;rw [h6]at this;exact this
   | c k=>
    obtain⟨li,hli2,e⟩:=List.mem_map.1 hl;have hw: (Tm.c k:Tm V).wf:=(rq.qi.sl li hli2).wf _ (by
     have:Tm.c k∈l.2:=List.mem_of_getElem? hli;rw [←e]at this;exact this)
    exact⟨hw,h4.1.1,h4.2⟩
 ·unfold Ins.D
  show row∈(match T[t]? with|some r=>r.rows|none=> [])↔_
  cases ht:T[t]? with
  | none=>
   refine⟨fun h=>(by cases h),fun⟨l,hl,e1,e2⟩=> ?_⟩
   obtain⟨ty,h1,_⟩:=hr.lit l hl;have h2:=(List.getElem?_eq_some_iff.1 h1).1;have h3:=List.getElem?_eq_none_iff.1 ht;rw [f.1]at h3;omega
  | some r=>
   obtain⟨ht2,rfl⟩:=List.getElem?_eq_some_iff.1 ht
   show row∈T[t].l.map VL.l↔_
   rw [f.2 t ht2];exact mem_rowsOf
theorem frozen_any (s:Sch) (q:Cq) (τ:Nat→Int) (B0:Nat) (w:World) (rq:RightQ w (colT s) q B0) (hr:Right (colT s) q.vars q.cj τ) (hs:s.In w) (hp:PSch s) :
  Calls Tryz.prog 18 #[.agg #[.slice s.th.ao s.tabs.length s.th.cap],.agg #[.int .i64 (q.vars:Nat),.slice q.lh.ao q.lits.length q.lh.cap,.slice q.head.h.ao q.head.l.length q.head.h.cap]] w (FrPost s q τ w):=by
 obtain⟨X,hX⟩ : ∃X,((w.alloc (.cells #[.slice s.th.ao s.tabs.length s.th.cap] 27)).alloc (.cells #[.int .i64 (q.vars:Nat),.slice q.lh.ao q.lits.length q.lh.cap,.slice q.head.h.ao q.head.l.length q.head.h.cap] 32)).alloc (.cells #[.slice none 0 0] 46) =X:=⟨_,rfl⟩;have HBX:=ai (show Below w.heap.size w X from by rw [←hX];exact bT (belAA _ _) (belA _))
 have HBS:=ai (show Box X w.heap.size #[.slice s.th.ao s.tabs.length s.th.cap] 27 from by rw [←hX];exact((Box.new _ _ _).below (belA _)).below (belA _))
 have HBQ:=ai (show Box X (w.heap.size+1) #[.int .i64 (q.vars:Nat),.slice q.lh.ao q.lits.length q.lh.cap,.slice q.head.h.ao q.head.l.length q.head.h.cap] 32 from by
  rw [←hX];have h:=(Box.new (w.alloc (.cells #[.slice s.th.ao s.tabs.length s.th.cap] 27)) #[.int .i64 (q.vars:Nat),.slice q.lh.ao q.lits.length q.lh.cap,.slice q.head.h.ao q.head.l.length q.head.h.cap] 32).below (belA (.cells #[.slice none 0 0] 46))
  rwa [World.size_alloc]at h)
 have HBR:=ai (show Box X (w.heap.size+1+1) #[.slice none 0 0] 46 from by
  rw [←hX];have h:=Box.new ((w.alloc (.cells #[.slice s.th.ao s.tabs.length s.th.cap] 27)).alloc (.cells #[.int .i64 (q.vars:Nat),.slice q.lh.ao q.lits.length q.lh.cap,.slice q.head.h.ao q.head.l.length q.head.h.cap] 32)) #[.slice none 0 0] 46
  rwa [World.size_alloc,World.size_alloc]at h)
 have HXS:=ai (show w.heap.size+3≤X.heap.size from by have:=HBR.o.lt;omega)
 have HS:=ai (hs.mono HBX.o);have HQ:=ai (rq.mono HBX.o);have HRT:=ai hr;have HPS:=ai hp;obtain⟨it,hit,hitz,hits,hitb⟩:=info_parts info_rl;have HIT:=ai (And.intro hit (And.intro hitz (And.intro hits hitb)));obtain⟨i3,hi3,hi3z,hi3s,hi3b⟩:=info_parts info_v3;have HI3:=ai (And.intro hi3 (And.intro hi3z (And.intro hi3s hi3b)));have HNT:=ai (show s.tabs.length≤6 from hp.n6)
 have HNQ:=ai (show q.lits.length≤8 from by rw [←show q.cj.lits.length=q.lits.length from List.length_map _];exact hr.n8)
 have s0:=HBS.o.cell (j:=0) rfl
 clear rq hr hs hp hit hitz hits hitb hi3 hi3z hi3s hi3b
 go_enter Tryz.func18,Tryz.ntmps18;go_upto_region 1 with fail
 try rw [hX]
 clear hX;go_upto_region 2 with(at_make;refine wpList_make_full _ rfl _ _ 44 rfl X.heap.size 49 it (.slice none 0 0) 1 Tryz.underlying44 HIT.o.1 HIT.o.2.1 HIT.o.2.2.1 _ _ _ _ s.tabs.length rfl rfl rfl rfl (by rw [HIT.o.2.2.2];have:=HNT.o;omega) (by have:=HNT.o;unfold maxLen;omega) (Nat.le_refl _) ?_;intro Y hown hgr;have HOY:=ai (own_box hown);have HGY:=ai (grown_below hgr);clear hown hgr)
 clear s0;have hyl:=HOY.o.lt;have HYX:=ai (show X.heap.size<Y.heap.size from hyl)
 obtain⟨Z,hZ⟩ : ∃Z,Y.alloc (.cells #[.slice (some ⟨X.heap.size,0,none⟩) s.tabs.length s.tabs.length] 46) =Z:=⟨_,rfl⟩;have HZB:=ai (show Below Y.heap.size Y Z from by rw [←hZ];exact belA _)
 have HZX:=ai (show Box Z Y.heap.size #[.slice (some ⟨X.heap.size,0,none⟩) s.tabs.length s.tabs.length] 46 from by rw [←hZ];exact Box.new _ _ _)
 rw [hZ];clear hZ hyl;have HZW:=ai (bT HGY.o HZB.o);have HFZ:=ai (show FZ Z.heap.size Y.heap.size X.heap.size (List.replicate s.tabs.length ⟨nilHd,[]⟩) Z from by
  have hz:=HZX.o.lt;have hb:=HYX.o;refine⟨by rw [List.length_replicate];exact HZX.o,?_,fun t ht=> ?_,fun t u ht hu _ g hg=> ?_,fun t u ht hu r hr=> ?_,fun t ht r hr=> ?_,⟨hz,by omega⟩⟩
  ·have h:=HOY.o.below HZB.o
   rw [made_cells _ rfl]at h;rw [List.map_replicate];exact h
  ·rw [List.getElem_replicate];exact OutV.nil _ _ (Nat.le_refl _)
  ·rw [List.getElem_replicate]at hg;cases hg
  ·rw [List.getElem_replicate]at hr;cases hr
  ·rw [List.getElem_replicate]at hr;cases hr)
 obtain⟨gt,hgt⟩ : ∃g,X.heap.size=g:=⟨_,rfl⟩;obtain⟨gx,hgx⟩ : ∃g,Y.heap.size=g:=⟨_,rfl⟩;obtain⟨gr,hgr⟩ : ∃g,w.heap.size+1+1=g:=⟨_,rfl⟩;have HGT:=ai hgt;have HGX:=ai hgx;have HGR:=ai hgr;rw [hgt,hgx]at HFZ;simp only [hgt,hgx,hgr];rw [hgr]at HBR;have HBQZ:=ai (HBQ.o.below HZW.o);have q1:=HBQZ.o.cell (j:=1) rfl
 clear hgt hgx hgr HOY HGY HZB HZX;go_wp2;go_loopw [19] (fun iv wr=>∃(i:Nat) (T:List RL),i≤q.lits.length∧iv = .int .i64 i∧Hid (FZ Z.heap.size gx gt T wr)∧Hid (FC (nuV τ) (q.cj.lits.take i) s.tabs.length T)∧Hid (Below X.heap.size X wr)) (fun iv _=>q.lits.length - (intOf iv).toNat)
 case atStart=>exact⟨0,_,Nat.zero_le _,rfl,HFZ,ai (FC.nil _ _),HZW⟩
 clear HFZ q1 HBQZ
 case round=>
 obtain⟨i,T,hi,rfl,HF,HC,HB⟩:=hrel;obtain⟨w1,rfl⟩ : ∃M,M=wr:=⟨_,rfl⟩;have HQW:=ai (HQ.o.mono HB.o);have HSW:=ai (HS.o.mono HB.o);have HBSW:=ai (HBS.o.below HB.o);by_cases hlt:i<q.lits.length
 ·have hlti: (i:Int) <q.lits.length:=by omega
  have hixl:=HQW.o.qi.row.ix hlt Tryz.underlying29 szlit;obtain⟨c0,c1⟩:=li_at HQW.o.qi.row hlt;obtain⟨l,hl⟩ : ∃l,q.lits[i] =l:=⟨_,rfl⟩;have HLM:=ai (show l∈q.lits from hl▸List.getElem_mem hlt)
  have HLK:=ai (show q.cj.lits.take (i+1) =q.cj.lits.take i ++ [l.lt]from by
   show(q.lits.map Li.lt).take (i+1) = (q.lits.map Li.lt).take i ++ _
   rw [←List.map_take,←List.map_take,←List.take_append_getElem hlt,List.map_append,hl]
   rfl)
  rw [hl]at c0 c1;obtain⟨ty,ht1,ht2,ht3⟩:=HRT.o.lit l.lt (List.mem_map_of_mem HLM.o);have htn:l.tab<s.tabs.length:=by have h:=(List.getElem?_eq_some_iff.1 ht1).1;rwa [show(colT s).length=s.tabs.length from List.length_map _]at h
  obtain⟨tb,htb⟩ : ∃tb,s.tabs[l.tab]? = some tb:=⟨_,List.getElem?_eq_getElem htn⟩;have htc:ty=tb.cols.map Col.typ:=by
   have h: (colT s)[l.tab]? = some ty:=ht1
   unfold colT at h
   rw [List.getElem?_map,htb]at h;injection h with h;exact h.symm
  have HTN:=ai htn;have HTB:=ai htb;have HTM:=ai (List.mem_of_getElem? htb);have HTL:=ai (show l.sl.l.length=tb.cols.length from by have h:l.sl.l.length=ty.length:=ht2;rw [h,htc,List.length_map])
  have HTS:=ai (show∀(j:Nat) (hj:j<l.sl.l.length) (hc:j<tb.cols.length),SlotOk q.vars τ l.sl.l[j] (tb.cols[j]).typ from fun j hj hc=>ht3 j _ _ (List.getElem?_eq_getElem hj) (by rw [htc,List.getElem?_map,List.getElem?_eq_getElem hc];rfl))
  have HSN:=ai (show l.sl.l.length≤1000 from by
   obtain⟨nm,ch,cols,ph,e,_,h7⟩:=HPS.o.pl _ HTM.o;rw [HTL.o,e];have:=h7.l8
   show cols.length≤1000
   omega)
  obtain⟨M,hM⟩ : ∃M,w1.alloc (.cells #[.int .i64 (l.tab:Nat),.slice l.sl.h.ao l.sl.l.length l.sl.h.cap] 56) =M:=⟨_,rfl⟩;have HMB:=ai (box1X hM).2;have HML:=ai (box1X hM).1;have HMX:=ai (bT HB.o HMB.o);clear hl ht1 ht2 ht3 htc htn htb;go_upto_region 6 with fail
  try rw [hM]
  clear hM hixl c0 c1;have m1:=HML.o.cell (j:=1) rfl
  go_wp2;clear m1;go_loopw [8,26] (fun v jv wy=>∃(j:Nat) (vs:List V),j≤l.sl.l.length∧jv = .int .i64 j∧Hid (wy.ownsRow M.heap.size 81 3 v vs.length (vs.flatMap V.cells))∧Hid (vs= (l.sl.l.take j).map (Tm.at (nuV τ)))∧Hid (Below M.heap.size M wy)) (fun _ jv _=>l.sl.l.length - (intOf jv).toNat)
  case atStart=>exact⟨0,[],Nat.zero_le _,rfl,ai (World.ownsRow_nil _ _ _ _),ai rfl,ai (Below.refl _ _)⟩
  case round=>
  obtain⟨j,vs,hj,rfl,HO,HV,HY⟩:=hrel;obtain⟨wy,rfl⟩ : ∃M,M=wr:=⟨_,rfl⟩;have HYX:=ai (bT HMX.o HY.o);have hjb:j≤1000:=by have:=HSN.o;omega
  have HVL:=ai (show vs.length=j from by rw [HV.o,List.length_map,List.length_take];omega)
  by_cases hlj:j<l.sl.l.length
  ·have hlji: (j:Int) <l.sl.l.length:=by omega
   have hsr:=((HQ.o.mono HYX.o).qi.sl l HLM.o);have hixs:=hsr.row.ix hlj Tryz.underlying30 szslot;obtain⟨x0,x1,x2,x3⟩:=tm_at hsr.row hlj;have hjc:j<tb.cols.length:=by rw [←HTL.o];exact hlj
   have hso:=HTS.o j hlj hjc;obtain⟨t,ht⟩ : ∃t,l.sl.l[j] =t:=⟨_,rfl⟩;have HWT:=ai (show t.wf from ht▸hsr.wf _ (List.getElem_mem hlj))
   have HVN:=ai (show(l.sl.l.take (j+1)).map (Tm.at (nuV τ)) =vs ++ [t.at (nuV τ)]from by rw [←List.take_append_getElem hlj,List.map_append,←HV.o,ht];rfl)
   rw [ht]at x0 x1 x2 x3 hso;clear ht hsr;obtain⟨V1,hV1⟩ : ∃V,wy.alloc (.cells #[.int .i64 t.nr,.int .i64 t.val.kind,.int .i64 t.val.num,.string t.val.text] 83) =V:=⟨_,rfl⟩;have HVB:=ai (box1X hV1).2;have HVX:=ai (box1X hV1).1;have HVM:=ai (bT HY.o HVB.o);have HOV:=ai (HO.o.kept (only_below HVB.o none) (Classical.em _));go_upto_region 10 with fail
   try rw [hV1]
   clear hV1 x0 x1 x2 x3 hixs;have v0:=HVX.o.cell (j:=0) rfl
   have v1:=HVX.o.cell (j:=1) rfl
   have v2:=HVX.o.cell (j:=2) rfl
   have v3:=HVX.o.cell (j:=3) rfl
   cases t with
   | c k=>
    have hnr: (Tm.c k:Tm V).nr = -1:=rfl;have hvl: (Tm.c k:Tm V).val=k:=rfl;rw [hnr]at v0;rw [hvl]at v1 v2 v3;have HVN2:=ai (show(l.sl.l.take (j+1)).map (Tm.at (nuV τ)) =vs ++ [k]from HVN.o)
    obtain⟨kk,kn,kt⟩:=k
    dsimp only at v1 v2 v3
    clear hnr hvl HVN hso;go_wp2_with (at_builtin;refine wpList_append_own _ rfl _ _ 96 rfl M.heap.size 81 i3 (.agg #[.int .i64 0,.int .i64 0,.string ByteArray.empty]) 3 32 Tryz.underlying96 HI3.o.1 HI3.o.2.1 HI3.o.2.2.1 HI3.o.2.2.2 rfl (by decide) _ _ _ rfl (HOV.o.alloc _) ⟨V1.heap.size,0,none⟩ 1 1 (V.cells ⟨kk,kn,kt⟩) rfl rfl (new_cells (l:=V.cells ⟨kk,kn,kt⟩)) (va_one ⟨kk,kn,kt⟩) (by have:=HVL.o;have:=HSN.o;unfold maxLen;omega) (by have:=HVL.o;have:=HSN.o;omega) (by have:=HVM.o.size;simp;omega) ?_;intro nv Y4 hown hgr _;have HON:=ai hown;have HGN:=ai hgr;clear hown hgr)
    have HBN:=ai (show Below M.heap.size M Y4 from(bT HVM.o (belA _)).grown HGN.o (by have:=HVM.o.size;simp;omega) (fun g hg=>(HO.o.lt g hg).1))
    go_roundw
    case rel=>exact⟨j+1,vs ++ [⟨kk,kn,kt⟩],by omega,by go_num,ai (by rw [List.length_append,vals_snoc];exact HON.o),ai HVN2.o.symm,HBN⟩
    case measure=>simp [intOf];omega
   | v x=>
    obtain⟨hxv,hxt⟩:=hso;have hnr: (Tm.v x:Tm V).nr= (x:Int):=rfl;rw [hnr]at v0;have hx16:x<16:=Nat.lt_of_lt_of_le hxv HRT.o.v16;have hx0: ¬(x:Int) <0:=by omega
    have htr:=(HS.o.mono (bT HYX.o HVB.o)).rt;have hixt:=htr.ix HTN.o Tryz.underlying25 sz22;obtain⟨_,tc1,_⟩:=tab_at htr HTN.o;rw [(List.getElem?_eq_some_iff.1 HTB.o).2]at tc1;have hcr:=((HS.o.mono (bT HYX.o HVB.o)).ts _ HTM.o).rc;have hixc:=hcr.ix hjc Tryz.underlying73 sz30;obtain⟨_,cc1,_⟩:=col_at hcr hjc;have tb0:=(HBS.o.below (bT HYX.o HVB.o)).cell (j:=0) rfl
    have ml0:=(HML.o.below HVM.o).cell (j:=0) rfl
    have htni: (l.tab:Int) <s.tabs.length:=by have:=HTN.o;omega
    rw [←hxt]at cc1;by_cases h1:τ x=1
    ·rw [h1]at cc1
     have hw:IntKind.i64.wrap (1000+ (x:Int)) =1000+x:=by rw [IntKind.wrap_i64];omega
     have HVN2:=ai (show(l.sl.l.take (j+1)).map (Tm.at (nuV τ)) =vs ++ [⟨1,1000+x,⟨#[]⟩⟩]from by rw [HVN.o];show vs ++ [nuV τ x] =_;unfold nuV;rw [if_pos h1])
     have HFI:=ai (fun W=>fint_any (1000+ (x:Int)) W)
     clear HVN hxt h1;go_upto_region 14 with(first
      | (go_at_call 41;refine(HFI.o _).mono ?_;rintro e U ⟨rfl,hu⟩;have HU:=ai hu;clear hu)
      | (at_builtin;refine wpList_append_own _ rfl _ _ 96 rfl M.heap.size 81 i3 (.agg #[.int .i64 0,.int .i64 0,.string ByteArray.empty]) 3 32 Tryz.underlying96 HI3.o.1 HI3.o.2.1 HI3.o.2.2.1 HI3.o.2.2.2 rfl (by decide) _ _ _ rfl ((HOV.o.kept (only_below HU.o none) (Classical.em _)).alloc _) ⟨U.heap.size,0,none⟩ 1 1 (V.cells ⟨1,1000+x,⟨#[]⟩⟩) rfl rfl (new_cells (l:=V.cells ⟨1,1000+x,⟨#[]⟩⟩)) (va_one ⟨1,1000+x,⟨#[]⟩⟩) (by have:=HVL.o;have:=HSN.o;unfold maxLen;omega) (by have:=HVL.o;have:=HSN.o;omega) (by have:=(bT HVM.o HU.o).size;simp;omega) ?_;intro nv Y4 hown hgr _;have HON:=ai hown;have HGN:=ai hgr;clear hown hgr))
     have HBN:=ai (show Below M.heap.size M Y4 from(bT (bT HVM.o HU.o) (belA _)).grown HGN.o (by have:=(bT HVM.o HU.o).size;simp;omega) (fun g hg=>(HO.o.lt g hg).1))
     go_wp2;go_roundw
     case rel=>exact⟨j+1,vs ++ [⟨1,1000+x,⟨#[]⟩⟩],by omega,by go_num,ai (by rw [List.length_append,vals_snoc];exact HON.o),ai HVN2.o.symm,HBN⟩
     case measure=>simp [intOf];omega
    ·have h1b: (τ x == 1) =false:=beq_eq_false_iff_ne.2 h1
     have hw:IntKind.i64.wrap (97+ (x:Int)) =97+x:=by rw [IntKind.wrap_i64];omega
     obtain⟨c,hc⟩ : ∃c:UInt8,c=UInt8.ofNat (97+x):=⟨_,rfl⟩;have hw8:IntKind.u8.wrap (97+ (x:Int)) = (c.toNat:Int):=by
      have h: ∀x:Nat,x<16→IntKind.u8.wrap (97+ (x:Int)) = ((UInt8.ofNat (97+x)).toNat:Int):=by decide
      rw [hc];exact h x hx16
     have hcv:=conv1 (Box.new V1 #[.int .u8 (c.toNat:Int)] 5);have hsz: ((⟨#[118]⟩ :ByteArray) ++ ⟨#[c]⟩).size=2:=rfl;have HVN2:=ai (show(l.sl.l.take (j+1)).map (Tm.at (nuV τ)) =vs ++ [⟨3,0,(⟨#[118]⟩ :ByteArray) ++ ⟨#[c]⟩⟩]from by rw [HVN.o];show vs ++ [nuV τ x] =_;unfold nuV;rw [if_neg h1,hc];rfl)
     have HFT:=ai (fun s W=>ftxt_any s W)
     have HCH:=ai hc;clear HVN hxt h1 hc;go_upto_region 14 with(first
      | (go_at_call 53;refine(HFT.o _ _).mono ?_;rintro e U ⟨rfl,hu⟩;have HU:=ai (bT (belA _) hu);clear hu)
      | (at_builtin;refine wpList_append_own _ rfl _ _ 96 rfl M.heap.size 81 i3 (.agg #[.int .i64 0,.int .i64 0,.string ByteArray.empty]) 3 32 Tryz.underlying96 HI3.o.1 HI3.o.2.1 HI3.o.2.2.1 HI3.o.2.2.2 rfl (by decide) _ _ _ rfl ((HOV.o.kept (only_below HU.o none) (Classical.em _)).alloc _) ⟨U.heap.size,0,none⟩ 1 1 (V.cells ⟨3,0,(⟨#[118]⟩ :ByteArray) ++ ⟨#[c]⟩⟩) rfl rfl (new_cells (l:=V.cells ⟨3,0,(⟨#[118]⟩ :ByteArray) ++ ⟨#[c]⟩⟩)) (va_one ⟨3,0,(⟨#[118]⟩ :ByteArray) ++ ⟨#[c]⟩⟩) (by have:=HVL.o;have:=HSN.o;unfold maxLen;omega) (by have:=HVL.o;have:=HSN.o;omega) (by have:=(bT HVM.o HU.o).size;simp;omega) ?_;intro nv Y4 hown hgr _;have HON:=ai hown;have HGN:=ai hgr;clear hown hgr))
     have HBN:=ai (show Below M.heap.size M Y4 from(bT (bT HVM.o HU.o) (belA _)).grown HGN.o (by have:=(bT HVM.o HU.o).size;simp;omega) (fun g hg=>(HO.o.lt g hg).1))
     go_wp2;go_roundw
     case rel=>exact⟨j+1,vs ++ [⟨3,0,(⟨#[118]⟩ :ByteArray) ++ ⟨#[c]⟩⟩],by omega,by go_num,ai (by rw [List.length_append,vals_snoc];exact HON.o),ai HVN2.o.symm,HBN⟩
     case measure=>simp [intOf];omega
  ·have hlji: ¬(j:Int) <l.sl.l.length:=by omega
   have hjl:j=l.sl.l.length:=by omega
   obtain⟨hd,hvr,hrw,hhd⟩:=own_rowE (cells:=V.cells) (fun _=>rfl) (by decide) HO.o
   subst hvr;have HVS:=ai (show vs=l.lt.2.map (Tm.at (nuV τ))from by rw [HV.o,List.take_of_length_le (by omega)];rfl)
   have hlen:=HC.o.1;have htT:l.tab<T.length:=by rw [hlen];exact HTN.o
   obtain⟨tr,htr⟩ : ∃r,T[l.tab] =r:=⟨_,rfl⟩;have HFY:=ai (HF.o.below (bT HMB.o HY.o));have hot:=HFY.o.own l.tab htT;rw [htr]at hot;have how:=HF.o.own l.tab htT;rw [htr]at how;have hins:=HFY.o.ins (by rw [hlen];have:=HNT.o;omega)
   have hixT:=hins.1.ix htT Tryz.underlying44 szrl;have hm1:=HMB.o.size;have hml:=HML.o.lt;have hy1:=HY.o.size;have hlo:=HFY.o.lo;have HRI:=ai (show VL.In wy ⟨hd,vs⟩from⟨hrw,fun v hv=>by
    rw [HV.o]at hv;obtain⟨t,ht,rfl⟩:=List.mem_map.1 hv
    cases t with
    | v x=>
     obtain⟨n,hn,e⟩:=List.getElem_of_mem ht;have hso:=HTS.o n (by rw [List.length_take]at hn;omega) (by rw [←HTL.o];rw [List.length_take]at hn;omega)
     rw [List.getElem_take]at e;rw [e]at hso;have hcm:=(HPS.o.pl _ HTM.o);obtain⟨nm,ch,cols,ph,e2,_,h7⟩:=hcm;have hty:τ x=1∨τ x=3:=by
      rw [hso.2];have hcol:tb.cols[n]'(by rw [←HTL.o];rw [List.length_take]at hn;omega)∈tb.cols:=List.getElem_mem _
      have:tb.cols=cols:=by rw [e2]
      exact h7.ty _ (this▸hcol)
     exact(nuV_ok (Nat.lt_of_lt_of_le hso.1 HRT.o.v16) hty).1
    | c k=>exact((HQ.o.qi.sl l HLM.o).wf _ (List.mem_of_mem_take ht) : (Tm.c k:Tm V).wf)⟩)
   have HIX:=ai (show∀W,(Instr.indexAt 44 (.slice (some ⟨gt,0,none⟩) T.length T.length) (.int .i64 (l.tab:Nat))).run Tryz.prog W = .ok (.pointer (some ⟨gt,l.tab,none⟩)) W from fun W=>by simpa [Hd.b,Hd.o]using hixT W)
   have HCT:=ai (show(T.map rlv).toArray[l.tab]? = some (rlv tr)from by simp [htT,htr])
   have HLT:=ai (show∀j,(rlv tr).ownBlock=some j→j<wy.heap.size from fun j e=>(hot.own.lt j e).2)
   have HNE:=ai (show some gx≠(rlv tr).ownBlock∧some gt≠(rlv tr).ownBlock∧some w1.heap.size≠(rlv tr).ownBlock from
    ⟨fun e=>by have:=(hot.own.lt _ e.symm).1;omega,fun e=>by have:=(hot.own.lt _ e.symm).1;omega,fun e=>by have:=(how.own.lt _ e.symm).2;omega⟩)
   have HTRL:=ai (show tr.l.length≤1000 from by
    have h:=congrArg List.length (HC.o.2 l.tab htT);rw [List.length_map,htr]at h;have h2: (rowsOf (nuV τ) (q.cj.lits.take i) l.tab).length≤(q.cj.lits.take i).length:=rowsOf_len;have h3: (q.cj.lits.take i).length≤i:=List.length_take_le _ _;have:=HNQ.o;omega)
   have HG15:=ai (show G15 wy gx gt w1.heap.size T l.tab (.slice l.sl.h.ao l.sl.l.length l.sl.h.cap) false wy.drew from
    ⟨HFY.o.bx.below (Below.refl _ _).drew,HFY.o.bt.below (Below.refl _ _).drew,(HML.o.below HY.o).below (Below.refl _ _).drew,fun _=>(Below.refl _ _).drew,Nat.le_refl _⟩)
   have HOT:=ai hot;have HRB:=ai (show 0<vs.length→M.heap.size≤hd.b from fun hp=>(hhd hp).1)
   have HTR:=ai (And.intro htT htr);clear hot how hins hixT hhd hrw;go_upto_region 15 with fail
   refine fz_reg15 (gx:=gx) (gt:=gt) (gl:=w1.heap.size) (B:=Z.heap.size) (tn:=l.tab) (T:=T) (tr:=tr) (r:=⟨hd,vs⟩) (W:=wy) HIX HCT HLT HOT HTRL HNE HG15 ?hc ?hend
   case hc=>rfl
   case hend=>
   intro b11 g12 c12 x hfa;obtain⟨X1,hb1,hg1,ho1,hk1⟩:=hfa.ex;have htT:=HTR.o.1;have htr:=HTR.o.2;subst htr;have hzw:=(HF.o.own l.tab htT).ge;have hm1:=HMB.o.size;have hy1:=HY.o.size;have happ:=(HFY.o.below hb1).app (t:=l.tab) (r:=⟨hd,vs⟩) htT (HRI.o.mono hb1) (fun s hs hp e=>by have h1:=((HF.o.own s hs).own.lt _ e).2;have h2:=HRB.o hp;have e2: (⟨hd,vs⟩ :VL).h.b=hd.b:=rfl;omega) (fun hp=>by have h2:=HRB.o hp;have e2: (⟨hd,vs⟩ :VL).h.b=hd.b:=rfl;omega) hg1 ho1 hk1
   have HFN:=ai happ;have HCN:=ai (show FC (nuV τ) (q.cj.lits.take (i+1)) s.tabs.length (T.set l.tab ⟨⟨some ⟨g12,0,none⟩,c12⟩,T[l.tab].l ++ [⟨hd,vs⟩]⟩)from by
    rw [HLK.o];exact HC.o.set (l:=l.lt) htT rfl HVS.o)
   have HBN:=ai (show Below X.heap.size X (x.setCell ⟨gt,l.tab,none⟩ (.slice (some ⟨g12,0,none⟩) (T[l.tab].l.length+1) c12))from by
    have hx:=HZW.o.size;have h1:Below X.heap.size X X1:=bT HYX.o hb1;have h2:Below X.heap.size X x:=h1.grown hg1 h1.size (fun j hj=>by have:=((HFY.o.own l.tab htT).own.lt _ hj).1;omega)
    exact h2.grown (gb_set _ _ _ _) h2.size (fun j hj=>by injection hj with hj;have:=HGT.o;omega))
   clear happ hfa hb1 hg1 ho1 hk1;generalize x.setCell ⟨gt,l.tab,none⟩ (.slice (some ⟨g12,0,none⟩) (T[l.tab].l.length+1) c12) =z at *;have hib:i≤1000:=by have:=HNQ.o;omega
   go_wp2;go_roundw
   case rel=>exact⟨i+1,_,by omega,by go_num,HFN,HCN,HBN⟩
   case measure=>simp [intOf];omega
 ·have hlti: ¬(i:Int) <q.lits.length:=by omega
  have HIQ:=ai (show q.cj.lits.take i=q.cj.lits from List.take_of_length_le (by rw [show q.cj.lits.length=q.lits.length from List.length_map _];omega))
  have bx0:=HF.o.bx.cell (j:=0) rfl
  have HBRW:=ai (HBR.o.below HB.o);have r0:=HBRW.o.cell (j:=0) rfl
  have rf:=HBRW.o.fr 0;have HGG:=ai (show gr<X.heap.size∧X.heap.size≤Z.heap.size∧gt=X.heap.size∧X.heap.size<gx∧gr=w.heap.size+1+1 from⟨by have:=HXS.o;have:=HGR.o;omega,HZW.o.size,HGT.o.symm,by have:=HYX.o;have:=HGX.o;omega,HGR.o.symm⟩)
  have HSG:=ai (gb_set w1 gr 0 (.slice (some ⟨gt,0,none⟩) T.length T.length));have HFE:=ai (HF.o.far HSG.o (by have:=HGG.o;omega) (by have:=HGG.o;omega) (by have:=HGG.o;omega))
  have HTL:=ai (show T.length≤1000 from by rw [HC.o.1];have:=HNT.o;omega)
  have HFT:=ai (frozen_fit (hd:=⟨some ⟨gt,0,none⟩,T.length⟩) HQ.o HRT.o HPS.o (by have h:=HC.o;rw [HIQ.o]at h;exact h))
  have HBE:=ai (show Below w.heap.size w (w1.setCell ⟨gr,0,none⟩ (.slice (some ⟨gt,0,none⟩) T.length T.length))from(bT HBX.o HB.o).grown HSG.o (bT HBX.o HB.o).size (fun j hj=>by injection hj with hj;have:=HGG.o;omega))
  go_wp2;have HBZ:=ai (HBRW.o.set 0 (.slice (some ⟨gt,0,none⟩) T.length T.length));have c0:=HBZ.o.cell (j:=0) rfl
  refine bodyPost_ret (v:=.agg #[.slice (some ⟨gt,0,none⟩) T.length T.length]) ?_ ?_ ?_
  case refine_3=>
   exact⟨⟨⟨some ⟨gt,0,none⟩,T.length⟩,T⟩,rfl,HFE.o.ins HTL.o,HFT.o.1,HFT.o.2,fun j z hj hg=>(HFE.o.far hg (by have:=HGG.o;omega) (by have:=HGG.o;omega) (by have:=HGG.o;omega)).ins HTL.o,HBE.o⟩
  case refine_2=>rfl
  simp [results,Tryz.results18,go_sem,c0]
end Go.Proofs.YtiijaaohphokcaaGreatDoor

/- schema.Order: what it answers, by the rounds of the plain law. -/
import Derived.Test.YtiijaaohphokcaaGreatDoorG14
import Derived.Test.YtiijaaohphokcaaGreatDoorG12
set_option maxRecDepth 100000
set_option maxHeartbeats 16000000
namespace Go.Proofs.YtiijaaohphokcaaGreatDoor
open Go.RowKit
theorem oorder_any (s:Sch) (w:World) (hin:s.In w) (hfew:s.tabs.length≤10) :
  Calls Tryz.prog 108 #[.agg #[.slice s.th.ao s.tabs.length s.th.cap]] w fun e w'=>((e = .returned (.tuple #[.slice none 0 0,.int .i64 11])∧¬allFound s)∨(allFound s∧∃D,(Ends (tgts s) D false∧e = .returned (.tuple #[.slice none 0 0,.int .i64 7]))∨
    (Ends (tgts s) D true∧∃r:IL,r.l=D.map Int.ofNat∧r.In w'∧e = .returned (.tuple #[.slice r.h.ao r.l.length r.h.cap,.int .i64 0]))))∧Below w.heap.size w w':=by
 have hn:=hin.rt.len;have hmm:=@run_makeMap Tryz.prog;have HIN:=ai hin;clear hin;obtain⟨i0,hi,hz0,hz1,hz2⟩:=info_parts info3;have HI:=ai (And.intro hi (And.intro hz0 (And.intro hz1 hz2)));clear hi hz0 hz1 hz2;obtain⟨bi,hbi,hbz,hbs,hbb⟩:=info_parts info_map
 go_enter Tryz.func108,Tryz.ntmps108;go_wp2_with (at_make;refine wpList_make_full _ rfl _ _ 201 rfl (w.heap.size+1) 202 bi (.map none) 1 Tryz.underlying201 hbi hbz hbs _ _ _ _ s.tabs.length rfl rfl rfl rfl (by rw [hbb];omega) (by unfold maxLen;omega) (by simp) ?_;intro w2 hown hgrow;have HO:=ai hown;have HG:=ai hgrow;clear hown hgrow;have HBW:=ai (show Below (w.heap.size+1) (w.alloc (.cells #[.slice s.th.ao s.tabs.length s.th.cap] 27)) w2 from(Below.refl _ _).grown HG.o (by simp) (fun b hb=>by cases hb));have hx:=box_cell (w:=w) (c:=#[.slice s.th.ao s.tabs.length s.th.cap]) (T:=27) (j:=0) (HBW.o.mono (by simp)) rfl)
 have HS:=ai (show P1 s w (w.heap.size+1) (.cells #[.slice s.th.ao s.tabs.length s.th.cap] 27) 0 w2 (List.replicate s.tabs.length none) (fun _ _=>False)from
  ⟨⟨by rw [←made_maps];simpa using HO.o,by simp,fun j b hj=>by simp [List.getElem?_replicate]at hj,fun i j b hi hj=>by simp [List.getElem?_replicate]at hi,HBW.o⟩,fun j h=>absurd h (by omega),fun j _ h=>by simp [h],fun j h=>absurd h (by omega),fun j h=>absurd h (by omega)⟩)
 clear HO HG HBW hbi hbz hbs hbb hx;go_loopw [22] (fun i wr=>∃(k:Nat) (os:List (Option Nat)) (S:Nat→Nat→Prop),k≤s.tabs.length∧i = .int .i64 k∧P1 s w (w.heap.size+1) (.cells #[.slice s.th.ao s.tabs.length s.th.cap] 27) k wr os S) (fun i _=>s.tabs.length - (intOf i).toNat)
 case atStart=>exact⟨0,_,_,Nat.zero_le _,rfl,HS.o⟩
 case round=>
  obtain⟨k,os,S,hk,rfl,hp⟩:=hrel;have HP:=ai hp;clear hp HS;have hx:=box_cell (w:=w) (c:=#[.slice s.th.ao s.tabs.length s.th.cap]) (T:=27) (j:=0) (HP.o.bo.bw.mono (by simp)) rfl
  have hki: (k:Int)≤s.tabs.length:=by omega
  by_cases hlt:k<s.tabs.length
  ·have hlti: (k:Int) <s.tabs.length:=by omega
   have hbA:Below w.heap.size w wr:=(belA _).trans (HP.o.bo.bw.mono (by omega))
   have HIN':=ai (HIN.o.mono hbA);have hix:=HIN'.o.rt.ix hlt Tryz.underlying25 sz22;have hbk:=HIN'.o.rt.blk hlt;obtain⟨c0,c1,c2,c3,c4,c5⟩:=tab_at HIN'.o.rt hlt;have hfl:=(HIN'.o.ts _ (List.getElem_mem hlt)).rf.len;have hsz:=HP.o.bo.sz;have hgl:=HP.o.bo.lt.2;have hfz:=HP.o.bo.free k;have hcl:wr.cell? ⟨w.heap.size+1,k,none⟩ =some (.map none):=by
    have hko:k<os.length:=by rw [HP.o.bo.len];exact hlt
    have h1:=HP.o.no k (Nat.le_refl _) hlt;rw [List.getElem?_eq_getElem hko]at h1;rw [HP.o.bo.cell hko,Option.some.inj h1]
   have hq1: ∀x,((wr.alloc x).alloc (.map #[] 0)).cell? ⟨w.heap.size+1,k,none⟩ =some (.map none):=fun x=>by
    rw [(belAA x (.map #[] 0)).cell (p:=⟨w.heap.size+1,k,none⟩) hgl];exact hcl
   have hq2: ∀x,((wr.alloc x).alloc (.map #[] 0)).frozen? ⟨w.heap.size+1,k,none⟩ =false:=fun x=>by
    rw [(belAA x (.map #[] 0)).frozen (p:=⟨w.heap.size+1,k,none⟩) hgl];exact hfz
   have hq3: ∀(c:Array Value) (T:TypeId) (v:Value) (j:Nat),((((wr.alloc (.cells c T)).alloc (.map #[] 0)).setCell ⟨w.heap.size+1,k,none⟩ v).cell? ⟨wr.heap.size,j,none⟩) =c[j]? :=fun c T v j=>by
    rw [cell_of_row _ wr.heap.size j c T (0,0) (by
     rw [Below.heap_setCell _ _ _ _ (by show wr.heap.size≠w.heap.size+1;omega),Below.heap_alloc _ _ _ (by simp)]
     exact heap_alloc_new wr _)]
   clear hbA;go_wp2;clear hq1 hq2 hq3 hcl hfz hgl hix c0 c1 c2 c3 c4 c5;go_loopw [34] (fun i wx=>∃(q b:Nat) (os:List (Option Nat)) (S:Nat→Nat→Prop),q≤s.tabs[k].fors.length∧i = .int .i64 q∧P2 s w (w.heap.size+1) (.cells #[.slice s.th.ao s.tabs.length s.th.cap] 27) k q wx b os S) (fun i _=>s.tabs[k].fors.length - (intOf i).toNat)
   case atStart=>
    obtain⟨S',hS'⟩:=HP.o.start hlt _;exact⟨0,_,_,S',Nat.zero_le _,rfl,hS'⟩
   case round=>
    clear HP HIN' hx hbk hsz;obtain⟨q,b,os,S,hq,rfl,hp⟩:=hrel;have HP:=ai hp;clear hp;have hx:=box_cell (w:=w) (c:=#[.slice s.th.ao s.tabs.length s.th.cap]) (T:=27) (j:=0) (HP.o.bo.bw.mono (by simp)) rfl
    have hqi: (q:Int)≤s.tabs[k].fors.length:=by omega
    by_cases hqt:q<s.tabs[k].fors.length
    ·have hqti: (q:Int) <s.tabs[k].fors.length:=by omega
     have hbA:Below w.heap.size w wr:=(belA _).trans (HP.o.bo.bw.mono (by omega))
     have HIN':=ai (HIN.o.mono hbA);have hrf:=(HIN'.o.ts _ (List.getElem_mem hlt)).rf;have hfx:=hrf.ix hqt Tryz.underlying75 sz61;have hfb:=hrf.blk hqt;obtain⟨f0,f1⟩:=frn_at hrf hqt;clear hrf hbA;have hx3: ∀y,(wr.alloc y).cell? ⟨w.heap.size,0,none⟩ =some (.slice s.th.ao s.tabs.length s.th.cap):=fun y=>by
      rw [(belA y).cell (p:=⟨w.heap.size,0,none⟩) (show w.heap.size<wr.heap.size by have:=HP.o.bo.sz;omega)];exact hx
     cases hqf:fok (named s.tabs[k].fors[q].tab) s.tabs
     ·have HF:=ai hqf
      clear hqf;go_wp2_with (go_at_call 105;refine(find_any s _ _ (HIN'.o.mono (belA _))).mono ?_;rintro e w5 ⟨rfl,hb1⟩;rw [HF.o,fi_tnum];have HB5:=ai (bT (belA _) hb1);clear hb1)
      go_ret2
      refine⟨.inl ⟨rfl,fun h=> ?_⟩,((belA _).trans (HP.o.bo.bw.mono (by omega))).trans (HB5.o.mono (by have:=HP.o.bo.sz;omega))⟩
      have:=h k hlt q hqt;rw [HF.o]at this
      cases this
     ·have HF:=ai hqf
      clear hqf;go_wp2_with (first
       | (go_at_call 105;refine(find_any s _ _ (HIN'.o.mono (belA _))).mono ?_;rintro e w5 ⟨rfl,hb1⟩;rw [HF.o,fi_tnum];have HP5:=ai (HP.o.below (bT (belA _) hb1));clear hb1;have hc9:=HP5.o.cell;obtain⟨D5,hown5,hr5⟩:=HP5.o.ms)
       | (at_mapUpdate;refine wpList_mapUpdate_own _ rfl _ _ _ 202 rfl 3 4 (Maps.int_keyed Tryz.underlying3) Tryz.underlying202 (plainElem (H:=Unit) Tryz.prog 4) b q D5 rfl hown5 (by unfold maxLen;omega) _ _ (key (tnum s s.tabs[k].fors[q].tab)) rfl rfl (Maps.keyOf_int_mk Tryz.underlying3 (tn_wf _ (by have:=tnum_lt HF.o;omega))) _ [] (plainElem_bool Tryz.underlying4 true) ?_;intro w6 hown6 hg6))
      obtain⟨es5,he5,h15,h25⟩:=hr5;obtain⟨S',hS'⟩:=HP5.o.step hlt hqt HF.o hg6 (ms_put _ _ hown6 he5 h15 h25);go_roundw
      case rel=>exact⟨q+1,b,os,S',by omega,by go_num,hS'⟩
      case measure=>simp [intOf];omega
    ·have hqti: ¬(q:Int) <s.tabs[k].fors.length:=by omega
     go_wp2;go_roundw
     case rel=>exact⟨k+1,os,S,by omega,by go_num,HP.o.done hlt hqt⟩
     case measure=>simp [intOf];omega
  ·have hlti: ¬(k:Int) <s.tabs.length:=by omega
   have hkn:k=s.tabs.length:=by omega
   subst hkn;have HAF:=ai (show allFound s from fun i h=>HP.o.fnd i h h)
   have HO:=ai HP.o.rounds;clear HP;go_wp2;clear hx;go_loopw [11,57] (fun v i wx=>∃(D:List Nat) (os:List (Option Nat)) (S:Nat→Nat→Prop),i = .int .i64 D.length∧D.length≤s.tabs.length∧Took (tgts s) D∧OO s w (w.heap.size+1) (.cells #[.slice s.th.ao s.tabs.length s.th.cap] 27) wx v D os S) (fun _ i _=>s.tabs.length - (intOf i).toNat)
   case atStart=>exact⟨[],_,_,rfl,Nat.zero_le _,.nil,HO.o⟩
   case round=>
    clear HO;obtain⟨D,os,S,rfl,hDl,hT,ho⟩:=hrel;have HT:=ai hT;have HO:=ai ho;clear hT ho;by_cases hlt:D.length<s.tabs.length
    ·have hlti: (D.length:Int) <s.tabs.length:=by omega
     have HE:=ai (HO.o.empty (f:=fun j=> @decide (rdy (tgts s) D j) (Classical.propDecidable _)) (fun j=>by simp))
     have hgl:=HO.o.bo.lt.2;have HC:=ai (fun j (hj:j<os.length)=>HO.o.bo.cell hj)
     rcases least (P:=rdy (tgts s) D) s.tabs.length with hno| ⟨m,hm,hr,hmin⟩
     ·have HFX:=ai (fx_range_miss (n:=s.tabs.length) (p:=fun j=> @decide (rdy (tgts s) D j) (Classical.propDecidable _)) (fun j hj=>by simpa using hno j hj))
      have HNO:=ai hno;clear hno;go_wp2_with (go_at_call 156;refine(oindex_any _ _ _ os _ HO.o.os_len hfew hgl HC.o HE.o).mono ?_;rintro e w5 ⟨rfl,hb1⟩;rw [HFX.o];have HO5:=ai (HO.o.below hb1);clear hb1)
      go_ret2
      refine⟨.inr ⟨HAF.o,D,.inl ⟨⟨HT.o,?_⟩,rfl⟩⟩,(belA _).trans (HO5.o.bo.bw.mono (by omega))⟩
      rw [if_neg (by simp),tgts_len]
      exact⟨hlt,fun j hj=>HNO.o j (by rw [tgts_len]at hj;exact hj)⟩
     ·have HFX:=ai (fx_range_hit (n:=s.tabs.length) (p:=fun j=> @decide (rdy (tgts s) D j) (Classical.propDecidable _)) hm (by simpa using hr) (fun j hj=>by simpa using hmin j hj))
      have HNX:=ai (show isNext (tgts s) D m from⟨by rw [tgts_len];exact hm,hr,hmin⟩)
      clear hr hmin;have hmi: (m:Int) <s.tabs.length:=by omega
      have hdn:=fun W:World=>Maps.drop_nil (P:=Tryz.prog) (w:=W) (Maps.int_keyed Tryz.underlying3) Tryz.underlying202 (Maps.keyOf_int_mk Tryz.underlying3 (tn_wf m (by omega)))
      go_wp2_with (first
       | (go_at_call 156;refine(oindex_any _ _ _ os _ HO.o.os_len hfew hgl HC.o HE.o).mono ?_;rintro e w5 ⟨rfl,hb1⟩;rw [HFX.o];have HO5:=ai (HO.o.below hb1);clear hb1;have hs5:=HO5.o.bo.sz)
       | (at_builtin;refine wpList_append_own _ rfl _ _ 22 rfl (w.heap.size+1) 3 i0 (.int .i64 0) 1 8 Tryz.underlying22 HI.o.1 HI.o.2.1 HI.o.2.2.1 HI.o.2.2.2 rfl (by decide) _ _ _ rfl (HO5.o.o.alloc _) ⟨w5.heap.size,0,none⟩ 1 1 [.int .i64 m] rfl rfl (new_cells (l:= [_])) one_int (by unfold maxLen;omega) (by omega) (by simp;omega) ?_;intro v' w1 hown' hgrow _;have HB1:=ai (HO5.o.app hgrow);have HM:=ai (HO5.o.mark hgrow hm hown');clear hgrow hown';have hf1:=HB1.o.free m;have hc1:=HB1.o.cell (j:=m) (by rw [HO5.o.os_len];exact hm)))
      clear hf1 hc1 hs5 HE HC HFX hgl HO5 HB1;go_loopw [72] (fun i wx=>∃(p:Nat) (os:List (Option Nat)) (S:Nat→Nat→Prop),i = .int .i64 p∧p≤s.tabs.length∧DL s w (w.heap.size+1) (.cells #[.slice s.th.ao s.tabs.length s.th.cap] 27) m p wx v' D os S) (fun i _=>s.tabs.length - (intOf i).toNat)
      case atStart=>exact⟨0,_,_,rfl,Nat.zero_le _,HM.o⟩
      case round=>
       clear HM;obtain⟨p,os,S,rfl,hpl,hm2⟩:=hrel;have HM:=ai hm2;clear hm2;by_cases hpt:p<s.tabs.length
       ·have hpi: (p:Int) <s.tabs.length:=by omega
        have hpo:p<os.length:=by rw [HM.o.bo.len];exact hpt
        have hgl:=HM.o.bo.lt.2
        cases hos:os[p]with
        | none=>
         have HP0:=ai (show os[p]? = some none by rw [List.getElem?_eq_getElem hpo,hos])
         clear hos;have hcell:=HM.o.cell HP0.o;go_wp2;go_roundw
         case rel=>exact⟨p+1,os,S,by go_num,by omega,HM.o.skip HP0.o⟩
         case measure=>simp [intOf];omega
        | some b=>
         have HP0:=ai (show os[p]? = some (some b) by rw [List.getElem?_eq_getElem hpo,hos])
         clear hos;have hcell:=HM.o.cell HP0.o;obtain⟨-,z,D5,hown5,hr5⟩:=HM.o.bo.sets p b HP0.o;go_wp2_with (at_delete;refine wpList_delete_own _ rfl _ _ 202 3 rfl 4 (Maps.int_keyed Tryz.underlying3) Tryz.underlying202 (plainElem (H:=Unit) Tryz.prog 4) b z D5 rfl hown5 _ (key m) rfl (Maps.keyOf_int_mk Tryz.underlying3 (tn_wf m (by omega))) ?_;intro w6 hown6 hg6)
         obtain⟨es5,he5,h15,h25⟩:=hr5;obtain⟨S',hS'⟩:=HM.o.strike hpt HP0.o hg6.grown (ms_del _ hown6 he5 h15 h25);go_roundw
         case rel=>exact⟨p+1,os,S',by go_num,by omega,hS'⟩
         case measure=>simp [intOf];omega
       ·have hpi: ¬(p:Int) <s.tabs.length:=by omega
        have hpn:p=s.tabs.length:=by omega
        go_wp2;go_roundw
        case rel=>exact⟨D ++ [m],os,S,by simp,by simp;omega,.snoc HT.o HNX.o,by rw [hpn]at HM;exact HM.o.done⟩
        case measure=>simp [intOf];omega
    ·have hlti: ¬(D.length:Int) <s.tabs.length:=by omega
     go_wp2
     go_ret2
     obtain⟨r,hv,hr,hin2⟩:=il_mk (xs:=D.map Int.ofNat) HO.o.o (fun n hn=>by
      obtain⟨i,hi,rfl⟩:=List.mem_map.1 hn;have:=took_lt HT.o i hi;rw [tgts_len]at this;have h1: (Int.ofNat i) = (i:Int):=rfl;rw [h1];exact⟨by omega,by omega⟩)
     refine⟨.inr ⟨HAF.o,D,.inr ⟨⟨HT.o,?_⟩,r,hr,hin2,?_⟩⟩,(belA _).trans (HO.o.bo.bw.mono (by omega))⟩
     ·rw [if_pos rfl,tgts_len];omega
     ·simp [←hv]
end Go.Proofs.YtiijaaohphokcaaGreatDoor
/- schema.Valid of a schema of plain tables: it is right. -/
namespace Go.Proofs.YtiijaaohphokcaaGreatDoor
open Go.RowKit
structure PSch (s:Sch) :Prop where
 n1:0<s.tabs.length
 n6:s.tabs.length≤6
 pl: ∀t∈s.tabs,∃nm ch cols ph,t=pt nm ch cols ph∧IsName nm∧PCols cols
 un: ∀j (h:j<s.tabs.length),fi (named (s.tabs[j]).name) s.tabs=j
theorem PSch.found {s:Sch} (h:PSch s) :allFound s:=fun i hi k hk=>by
 obtain⟨nm,ch,cols,ph,e,_⟩:=h.pl _ (List.getElem_mem hi);rw [e]at hk;exact absurd hk (Nat.not_lt_zero _)
theorem PSch.ends {s:Sch} (h:PSch s) {D:List Nat} (k:Ends (tgts s) D false) :False:=by
 obtain⟨_,k⟩:=k;rw [if_neg (by decide)]at k
 obtain⟨h1,h2⟩:=k;rw [tgts_len]at h1;have hall: ∀j,j<s.tabs.length→j∈D:=fun j hj=>Classical.byContradiction fun hn=>h2 j (by rw [tgts_len];exact hj) ⟨hn,fun hj2 t ht=>by
  rw [tgts_at s hj]at ht;obtain⟨nm,ch,cols,ph,e,_⟩:=h.pl _ (List.getElem_mem hj);rw [e]at ht
  cases ht⟩
 obtain⟨a,b,g1,g2,g3⟩:=php D.length (fun j=>D.idxOf j) (fun j hj=>List.idxOf_lt_length_iff.2 (hall j (by omega)))
 have g3:D.idxOf a=D.idxOf b:=g3;have:=idx_get (hall a (by omega))
 rw [g3,idx_get (hall b (by omega))]at this
 omega
theorem svalid_plain (s:Sch) (w:World) (hs:s.In w) (hp:PSch s) (hsh:w.ShapedOpen Tryz.prog) :
  Calls Tryz.prog 68 #[.agg #[.slice s.th.ao s.tabs.length s.th.cap]] w fun e w'=>e = .returned (.int .i64 0)∧Below w.heap.size w w':=by
 obtain⟨X,hX⟩ : ∃X,w.alloc (.cells #[.slice s.th.ao s.tabs.length s.th.cap] 27) =X:=⟨_,rfl⟩;have HB0:=ai (box1X hX).2;have HBX:=ai (box1X hX).1;have HX:=ai (hs.mono HB0.o);have HSH:=ai (ShX hsh HB0.o);have y0:=HBX.o.cell (j:=0) rfl
 have HP:=ai hp;have c1: ¬(6:Int) <s.tabs.length:=by have:=hp.n6;omega
 have hn:=hs.rt.len;clear hs hsh hp
 go_enter Tryz.func68,Tryz.ntmps68;go_upto_region 1 with fail
 try rw [hX]
 clear hX;go_wp2;clear y0;go_loopw [22] (fun i wr=>∃k:Nat,k≤s.tabs.length∧i = .int .i64 k∧Hid (Below X.heap.size X wr)) (fun i _=>s.tabs.length - (intOf i).toNat)
 case atStart=>exact⟨0,Nat.zero_le _,rfl,Below.refl _ _⟩
 case round=>
  obtain⟨k,hk,rfl,HBW⟩:=hrel;have HXR:=ai (HX.o.mono HBW.o);by_cases hlt:k<s.tabs.length
  ·have hix:=HXR.o.rt.ix hlt Tryz.underlying25 sz22
   have hta:=tab_at HXR.o.rt hlt;have hbk:=HXR.o.rt.blk hlt;have HXI:=ai (HXR.o.ts _ (List.getElem_mem hlt));have HFI:=ai (HP.o.un k hlt);obtain⟨nm,ch,cols,ph,e,hnm,hpc⟩:=HP.o.pl _ (List.getElem_mem hlt);rw [e]at hta HXI HFI;have HPC:=ai hpc;have HBN:=ai (pb_yes hnm);have HNM:=ai (show nm.size≤9223372036854775807 by have:=HXI.o.nm;unfold maxLen at this;exact Nat.le_trans this (by omega))
   clear e hnm hpc;obtain⟨t0,t1,t2,t3,t4,t5⟩:=hta;have HWA:=ai (bT HBW.o (belA (w:=wr) (.cells #[.string nm,.slice ch.ao cols.length ch.cap,.slice ph.ao 1 ph.cap,.slice none 0 0,.slice none 0 0,.slice none 0 0] 78)))
   have HSR:=ai (ShX HSH.o HWA.o);have z0:=(HBX.o.below HWA.o).cell (j:=0) rfl
   go_wp2_with (first
    | (go_at_call 104;refine(name_any _ _ HSR.o HNM.o).mono ?_;rintro e w1 ⟨rfl,rfl⟩;rw [HBN.o])
    | (go_at_call 105;refine(find_any s _ _ (HX.o.mono HWA.o)).mono ?_;rintro e w2 ⟨rfl,hb2⟩;rw [HFI.o];have HB2:=ai (bT HWA.o hb2);have HW2:=ai (bT (belA _) hb2);have hbq:=boxA hb2;have x0:=hbq.cell (j:=0) rfl;have x1:=hbq.cell (j:=1) rfl;have x2:=hbq.cell (j:=2) rfl;have x3:=hbq.cell (j:=3) rfl;have x4:=hbq.cell (j:=4) rfl;have x5:=hbq.cell (j:=5) rfl;clear hb2 hbq z0 t0 t1 t2 t3 t4 t5)
    | (go_at_call 106;refine(table_plain nm ch cols ph _ (HXI.o.mono HW2.o) HPC.o (ShX HSH.o HB2.o)).mono ?_;rintro e w3 ⟨rfl,hb3⟩;have HB3:=ai (bT HB2.o hb3);clear hb3 x0 x1 x2 x3 x4 x5))
   go_roundw
   case rel=>exact⟨k+1,by omega,by go_num,HB3.o⟩
   case measure=>simp [intOf];omega
  ·have z0:=(HBX.o.below HBW.o).cell (j:=0) rfl
   go_wp2;go_loopw [50] (fun i wr=>∃k:Nat,k≤s.tabs.length∧i = .int .i64 k∧Hid (Below X.heap.size X wr)) (fun i _=>s.tabs.length - (intOf i).toNat)
   case atStart=>exact⟨0,Nat.zero_le _,rfl,HBW.o⟩
   clear z0 HBW HXR
   case round=>
    obtain⟨k,hk,rfl,HBW⟩:=hrel;have HXR:=ai (HX.o.mono HBW.o);by_cases hlt2:k<s.tabs.length
    ·have hix:=HXR.o.rt.ix hlt2 Tryz.underlying25 sz22
     have hta:=tab_at HXR.o.rt hlt2;have hbk:=HXR.o.rt.blk hlt2;obtain⟨nm,ch,cols,ph,e,hnm,hpc⟩:=HP.o.pl _ (List.getElem_mem hlt2);rw [e]at hta;clear e hnm hpc;obtain⟨t0,t1,t2,t3,t4,t5⟩:=hta;go_wp2;go_loopw [57] (fun i wy=>i = .int .i64 0∧Hid (Below X.heap.size X wy)) (fun i _=>0)
     case atStart=>exact⟨rfl,bT HBW.o (belA _)⟩
     case round=>
      obtain⟨rfl,HBZ⟩:=hrel;go_wp2;go_roundw
      case rel=>exact⟨k+1,by omega,by go_num,HBZ.o⟩
      case measure=>simp [intOf];omega
    ·have z0:=(HBX.o.below HBW.o).cell (j:=0) rfl
     go_wp2_with (go_at_call 108;refine(oorder_any s _ HXR.o (Nat.le_trans HP.o.n6 (by decide))).mono ?_;rintro e w3 ⟨h,hb3⟩;rcases h with⟨_,h⟩ | ⟨_,D,⟨h,_⟩ | ⟨_,r,_,_,rfl⟩⟩;exact(h HP.o.found).elim;exact(HP.o.ends h).elim;have HB3:=ai (bT HBW.o hb3);clear hb3 z0)
     go_ret
     exact⟨rfl,bT HB0.o HB3.o⟩
end Go.Proofs.YtiijaaohphokcaaGreatDoor

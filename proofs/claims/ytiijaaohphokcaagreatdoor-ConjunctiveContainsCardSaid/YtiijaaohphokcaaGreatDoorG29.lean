/- ref27.slots, Same of what is the same. -/
import Derived.Test.YtiijaaohphokcaaGreatDoorCjL4K
import Derived.Test.YtiijaaohphokcaaGreatDoorG28
set_option maxRecDepth 100000
set_option maxHeartbeats 16000000
namespace Go.Proofs.YtiijaaohphokcaaGreatDoor
open Go.RowKit
theorem rslots_yes (x y:Hd) (l:List (Tm V)) (w:World) (hx:Row w 4 Tm.cells x l) (hy:Row w 4 Tm.cells y l) :
  Calls Tryz.prog 50 #[.slice x.ao l.length x.cap,.slice y.ao l.length y.cap] w fun e w'=>e = .returned (.bool true)∧∃m,w'=w.drewN m:=by
 have HX:=ai hx;have HY:=ai hy;have hn:=hx.len;clear hx hy
 go_enter Tryz.func50,Tryz.ntmps50;go_wp2;go_loopw [13] (fun i wr=>∃k m:Nat,k≤l.length∧i = .int .i64 k∧wr=w.drewN m) (fun i _=>l.length - (intOf i).toNat)
 case atStart=>exact⟨0,0,Nat.zero_le _,rfl,rfl⟩
 case round=>
  obtain⟨k,m,hk,rfl,rfl⟩:=hrel;by_cases hlt:k<l.length
  ·have hix:=HX.o.ix hlt Tryz.underlying30 szslot
   have hiy:=HY.o.ix hlt Tryz.underlying30 szslot;obtain⟨c0,c1,c2,c3⟩:=tm_at HX.o hlt;obtain⟨d0,d1,d2,d3⟩:=tm_at HY.o hlt;have hbx:=HX.o.blk hlt;have hby:=HY.o.blk hlt;obtain⟨t,ht⟩ : ∃t,l[k] =t:=⟨_,rfl⟩;rw [ht]at c0 c1 c2 c3 d0 d1 d2 d3;clear ht;have HLT:=ai hlt;go_wp2
   go_quiet (fail)
   go_wp2;go_roundw
   case rel=>exact⟨k+1,_,HLT.o,by go_num,rfl⟩
   case measure=>have:=HLT.o;simp [intOf];omega
  ·go_wp2
   go_ret
   exact⟨rfl,_,rfl⟩
noncomputable def smBody:Code:=Tryz.f14.body.getD .skip
theorem sm_reg6 {g k oa ob tab:Nat} {a b:Cq} {hd hd2:Hd} {sl:List (Tm V)} {wr:World} (x1:wr.cell? ⟨g,1,none⟩ =some (.slice a.lh.ao a.lits.length a.lh.cap)) (y1:wr.cell? ⟨g+1,1,none⟩ =some (.slice b.lh.ao b.lits.length b.lh.cap))
  (c0:wr.cell? ⟨a.lh.b,oa,none⟩ =some (.int .i64 (tab:Nat))) (c1:wr.cell? ⟨a.lh.b,oa+1,none⟩ =some (.slice hd.ao sl.length hd.cap)) (d0:wr.cell? ⟨b.lh.b,ob,none⟩ =some (.int .i64 (tab:Nat))) (d1:wr.cell? ⟨b.lh.b,ob+1,none⟩ =some (.slice hd2.ao sl.length hd2.cap))
  (hixa: ∀W,(Instr.indexAt 29 (.slice a.lh.ao a.lits.length a.lh.cap) (.int .i64 (k:Nat))).run Tryz.prog W = .ok (.pointer (some ⟨a.lh.b,oa,none⟩)) W) (hixb: ∀W,(Instr.indexAt 29 (.slice b.lh.ao b.lits.length b.lh.cap) (.int .i64 (k:Nat))).run Tryz.prog W = .ok (.pointer (some ⟨b.lh.b,ob,none⟩)) W)
  (hba:a.lh.b<wr.heap.size) (hbb:b.lh.b<wr.heap.size)
  (HSL:Hid (∀n,Calls Tryz.prog 50 #[.slice hd.ao sl.length hd.cap,.slice hd2.ao sl.length hd2.cap] (wr.drewN n) fun e w'=>e = .returned (.bool true)∧∃m,w'= (wr.drewN n).drewN m))
  {Q:Exit→Act→World→Prop} {c:Code} {u0 u1 u4 u6 u7 u8 u9 u10 u11 u12 u13 u14 u15 u16 u17 u18 u19 u20 u21 u22 u23 u24 u25 u26 u27 u28 u29 u30 u31 u32 u33 u34 u35 u36 u37 u38 u39 u40 u41 u42 u43 u44 u45 u46 u47 u48 u49 u50 u51 u52 u53 u54 u55 u56 u57 u58 u59 u60 u61 u62 u63 u64 u65 u66 u67 u68 u69:Value} (hc:c=codeIn [1,1,0,1,4,5,1,1,0,4,1,0] smBody) (hend: ∀n,Q .normal { tmps:=(u0 :: u1 :: (.pointer (some ⟨g,0,none⟩)) :: (.pointer (some ⟨g+1,0,none⟩)) :: u4 :: (.int .i64 (k:Nat)) :: u6 :: u7 :: u8 :: u9 :: u10 :: u11 :: u12 :: u13 :: u14 :: u15 :: u16 :: u17 :: u18 :: u19 :: u20 :: u21 :: u22 :: u23 :: u24 :: u25 :: u26 :: u27 :: u28 :: u29 :: u30 :: u31 :: u32 :: u33 :: u34 :: (.pointer (some ⟨g,1,none⟩)) :: (.slice a.lh.ao a.lits.length a.lh.cap) :: (.int .i64 (k:Nat)) :: (.pointer (some ⟨a.lh.b,oa,none⟩)) :: (.pointer (some ⟨a.lh.b,oa,none⟩)) :: (.int .i64 (tab:Nat)) :: (.pointer (some ⟨g+1,1,none⟩)) :: (.slice b.lh.ao b.lits.length b.lh.cap) :: (.int .i64 (k:Nat)) :: (.pointer (some ⟨b.lh.b,ob,none⟩)) :: (.pointer (some ⟨b.lh.b,ob,none⟩)) :: (.int .i64 (tab:Nat)) :: (.bool false) :: (.bool false) :: (.pointer (some ⟨g,1,none⟩)) :: (.slice a.lh.ao a.lits.length a.lh.cap) :: (.int .i64 (k:Nat)) :: (.pointer (some ⟨a.lh.b,oa,none⟩)) :: (.pointer (some ⟨a.lh.b,oa+1,none⟩)) :: (.slice hd.ao sl.length hd.cap) :: (.pointer (some ⟨g+1,1,none⟩)) :: (.slice b.lh.ao b.lits.length b.lh.cap) :: (.int .i64 (k:Nat)) :: (.pointer (some ⟨b.lh.b,ob,none⟩)) :: (.pointer (some ⟨b.lh.b,ob+1,none⟩)) :: (.slice hd2.ao sl.length hd2.cap) :: (.bool true) :: (.bool false) :: (.bool false) :: u64 :: u65 :: u66 :: u67 :: u68 :: u69 :: []).toArray,defers:= [] } (wr.drewN n)) :Code.wp Tryz.prog c Q { tmps:=(u0 :: u1 :: (.pointer (some ⟨g,0,none⟩)) :: (.pointer (some ⟨g+1,0,none⟩)) :: u4 :: (.int .i64 (k:Nat)) :: u6 :: u7 :: u8 :: u9 :: u10 :: u11 :: u12 :: u13 :: u14 :: u15 :: u16 :: u17 :: u18 :: u19 :: u20 :: u21 :: u22 :: u23 :: u24 :: u25 :: u26 :: u27 :: u28 :: u29 :: u30 :: u31 :: u32 :: u33 :: u34 :: u35 :: u36 :: u37 :: u38 :: u39 :: u40 :: u41 :: u42 :: u43 :: u44 :: u45 :: u46 :: u47 :: u48 :: u49 :: u50 :: u51 :: u52 :: u53 :: u54 :: u55 :: u56 :: u57 :: u58 :: u59 :: u60 :: u61 :: u62 :: u63 :: u64 :: u65 :: u66 :: u67 :: u68 :: u69 :: []).toArray,defers:= [] } wr:=by
 subst hc;conv=>enter [2];whnf
 have HE:=ai hend;clear hend
 go_quiet (first| (go_at_call 50;exact Calls.quiet_of (HSL.o _)))
 exact HE.o nq
theorem rsame_yes (a b:Cq) (B C:Nat) (w:World) (ha:a.In w B) (hb:b.In w C) (hv:a.vars=b.vars) (hc:a.cj=b.cj) :
  Calls Tryz.prog 14 #[.agg #[.int .i64 (a.vars:Nat),.slice a.lh.ao a.lits.length a.lh.cap,.slice a.head.h.ao a.head.l.length a.head.h.cap],.agg #[.int .i64 (b.vars:Nat),.slice b.lh.ao b.lits.length b.lh.cap,.slice b.head.h.ao b.head.l.length b.head.h.cap]] w fun e w'=>e = .returned (.bool true)∧Below w.heap.size w w':=by
 have HA:=ai ha;have HB:=ai hb;have hh:a.head.l=b.head.l:=congrArg Cj.head hc;have hls:a.lits.map Li.lt=b.lits.map Li.lt:=congrArg Cj.lits hc;have hlen:a.lits.length=b.lits.length:=by have:=congrArg List.length hls;simpa using this
 have HEL:=ai (show∀i (h1:i<a.lits.length) (h2:i<b.lits.length),(a.lits[i]).tab= (b.lits[i]).tab∧(a.lits[i]).sl.l= (b.lits[i]).sl.l from fun i h1 h2=>by
  have: (a.lits.map Li.lt)[i]'(by simpa using h1) = (b.lits.map Li.lt)[i]'(by simpa using h2):=by simp only [hls]
  rw [List.getElem_map,List.getElem_map]at this;exact⟨congrArg Prod.fst this,congrArg Prod.snd this⟩)
 obtain⟨X,hX⟩ : ∃X,(w.alloc (.cells (qcells a) 32)).alloc (.cells (qcells b) 32) =X:=⟨_,rfl⟩;have HBX:=ai (show Below w.heap.size w X from by rw [←hX];exact belAA _ _)
 have HBA:=ai (show Box X w.heap.size (qcells a) 32 from by rw [←hX];exact(Box.new _ _ _).below (belA _))
 have HBB:=ai (show Box X (w.heap.size+1) (qcells b) 32 from by
  rw [←hX];have h:=Box.new (w.alloc (.cells (qcells a) 32)) (qcells b) 32
  rwa [World.size_alloc]at h)
 have x0:X.cell? ⟨w.heap.size,0,none⟩ =some (.int .i64 (a.vars:Nat)):=HBA.o.cell rfl;have x1:X.cell? ⟨w.heap.size,1,none⟩ =some (.slice a.lh.ao a.lits.length a.lh.cap):=HBA.o.cell rfl;have x2:X.cell? ⟨w.heap.size,2,none⟩ =some (.slice a.head.h.ao a.head.l.length a.head.h.cap):=HBA.o.cell rfl;have y0:X.cell? ⟨w.heap.size+1,0,none⟩ =some (.int .i64 (b.vars:Nat)):=HBB.o.cell rfl;have y1:X.cell? ⟨w.heap.size+1,1,none⟩ =some (.slice b.lh.ao b.lits.length b.lh.cap):=HBB.o.cell rfl;have y2:X.cell? ⟨w.heap.size+1,2,none⟩ =some (.slice b.head.h.ao b.head.l.length b.head.h.cap):=HBB.o.cell rfl;have e1: ((a.vars:Int) != (b.vars:Int)) =false:=by rw [hv];exact bne_self_eq_false _
 have e2: ((a.lits.length:Int) != (b.lits.length:Int)) =false:=by rw [hlen];exact bne_self_eq_false _
 have e3: ((a.head.l.length:Int) != (b.head.l.length:Int)) =false:=by rw [hh];exact bne_self_eq_false _
 have HHH:=ai hh;have HLL:=ai hlen;have han:=ha.row.len;clear ha hb hv hc hh hls hlen
 go_enter Tryz.func14,Tryz.ntmps14;go_upto_region 1 with fail
 try rw [hX]
 clear hX;go_wp2;clear x0 x1 x2 y0 y1 y2 e1 e2 e3;go_loopw [32] (fun i wr=>∃k:Nat,k≤a.lits.length∧i = .int .i64 k∧Hid (Below X.heap.size X wr)) (fun i _=>a.lits.length - (intOf i).toNat)
 case atStart=>exact⟨0,Nat.zero_le _,rfl,Below.refl _ _⟩
 case round=>
  obtain⟨k,hk,rfl,HW⟩:=hrel;by_cases hlt:k<a.lits.length
  ·have hltb:k<b.lits.length:=by have:=HLL.o;omega
   have hltbi: (k:Int) <b.lits.length:=by omega
   have HAW:=ai (fun z (hz:Below wr.heap.size wr z)=>HA.o.mono (bT HBX.o (bT HW.o hz)))
   have HBW:=ai (fun z (hz:Below wr.heap.size wr z)=>HB.o.mono (bT HBX.o (bT HW.o hz)))
   have hixa:=(HAW.o wr (Below.refl _ _)).row.ix hlt Tryz.underlying29 szlit;have hixb:=(HBW.o wr (Below.refl _ _)).row.ix hltb Tryz.underlying29 szlit;have hba:=(HAW.o wr (Below.refl _ _)).row.blk hlt;have hbb:=(HBW.o wr (Below.refl _ _)).row.blk hltb;obtain⟨ht,hs⟩:=HEL.o k hlt hltb;have HCA:=ai (fun z (hz:Below wr.heap.size wr z)=>li_at (HAW.o z hz).row hlt)
   have HCB:=ai (fun z (hz:Below wr.heap.size wr z)=>li_at (HBW.o z hz).row hltb)
   have HSA:=ai (fun z (hz:Below wr.heap.size wr z)=>((HAW.o z hz).sl _ (List.getElem_mem hlt)).row)
   have HSB:=ai (fun z (hz:Below wr.heap.size wr z)=>((HBW.o z hz).sl _ (List.getElem_mem hltb)).row)
   obtain⟨la,hla⟩ : ∃l,a.lits[k] =l:=⟨_,rfl⟩;obtain⟨lb,hlb⟩ : ∃l,b.lits[k] =l:=⟨_,rfl⟩;rw [hla]at ht hs HCA HSA;rw [hlb]at ht hs HCB HSB;obtain⟨tab,⟨hd,sl⟩⟩:=la;obtain⟨tab2,⟨hd2,sl2⟩⟩:=lb;have ht:tab=tab2:=ht;have hs:sl=sl2:=hs;subst ht;subst hs;clear hla hlb;have HLT:=ai hlt;have HSL:=ai (fun n=>rslots_yes hd hd2 sl (wr.drewN n) (HSA.o _ (bel_drewN _ _)) (HSB.o _ (bel_drewN _ _)))
   have x1:wr.cell? ⟨w.heap.size,1,none⟩ =some (.slice a.lh.ao a.lits.length a.lh.cap):=(HBA.o.below HW.o).cell rfl;have y1:wr.cell? ⟨w.heap.size+1,1,none⟩ =some (.slice b.lh.ao b.lits.length b.lh.cap):=(HBB.o.below HW.o).cell rfl;have c0:wr.cell? ⟨a.lh.b,a.lh.o+k*2,none⟩ =some (.int .i64 (tab:Nat)):=(HCA.o wr (Below.refl _ _)).1;have c1:wr.cell? ⟨a.lh.b,a.lh.o+k*2+1,none⟩ =some (.slice hd.ao sl.length hd.cap):=(HCA.o wr (Below.refl _ _)).2;have d0:wr.cell? ⟨b.lh.b,b.lh.o+k*2,none⟩ =some (.int .i64 (tab:Nat)):=(HCB.o wr (Below.refl _ _)).1;have d1:wr.cell? ⟨b.lh.b,b.lh.o+k*2+1,none⟩ =some (.slice hd2.ao sl.length hd2.cap):=(HCB.o wr (Below.refl _ _)).2;go_upto_region 6 with fail
   obtain⟨oa,hoa⟩ : ∃o,a.lh.o+k*2=o:=⟨_,rfl⟩;obtain⟨ob,hob⟩ : ∃o,b.lh.o+k*2=o:=⟨_,rfl⟩;rw [hoa]at c0 c1;rw [hob]at d0 d1;simp only [hoa]at hixa;simp only [hob]at hixb;clear hoa hob;refine sm_reg6 (g:=w.heap.size) (k:=k) (oa:=oa) (ob:=ob) (tab:=tab) (a:=a) (b:=b) (hd:=hd) (hd2:=hd2) (sl:=sl) x1 y1 c0 c1 d0 d1 hixa hixb hba hbb HSL ?hc ?hend
   case hc=>rfl
   case hend=>
    intro nq;clear x1 y1 c0 c1 d0 d1 hixa hixb hba hbb;go_wp2;go_roundw
    case rel=>exact⟨k+1,HLT.o,by go_num,bT HW.o (bel_drewN _ _)⟩
    case measure=>have:=HLT.o;simp [intOf];omega
  ·have x2:wr.cell? ⟨w.heap.size,2,none⟩ =some (.slice a.head.h.ao a.head.l.length a.head.h.cap):=(HBA.o.below HW.o).cell rfl
   have y2:wr.cell? ⟨w.heap.size+1,2,none⟩ =some (.slice b.head.h.ao b.head.l.length b.head.h.cap):=(HBB.o.below HW.o).cell rfl;have HSL:=ai (rslots_yes a.head.h b.head.h a.head.l wr (HA.o.mono (bT HBX.o HW.o)).hd.row (by rw [HHH.o];exact(HB.o.mono (bT HBX.o HW.o)).hd.row))
   rw [←HHH.o]at y2;go_wp2_with (go_at_call 50;refine HSL.o.mono ?_;rintro e z ⟨rfl,m,rfl⟩;have HZ:=ai (bel_drewN wr m))
   go_ret
   exact⟨rfl,bT HBX.o (bT HW.o HZ.o)⟩
end Go.Proofs.YtiijaaohphokcaaGreatDoor
/- law27.v, two: the example. -/
namespace Go.Proofs.YtiijaaohphokcaaGreatDoor
open Go.RowKit
theorem v_any (n:Int) (w:World) :Calls Tryz.prog 90 #[.int .i64 n] w fun e w'=>e = .returned (.agg #[.int .i64 n,.int .i64 0,.int .i64 0,.string ⟨#[]⟩])∧Below w.heap.size w w':=by
 go_enter Tryz.func90,Tryz.ntmps90;go_wp2;exact bodyPost_ret (v:=.agg #[.int .i64 n,.int .i64 0,.int .i64 0,.string ⟨#[]⟩]) (by simp [results,Tryz.results90,go_sem]) rfl ⟨rfl,belA _⟩
theorem upd_ne {L:Nat→Bool} {i j:Nat} (h:j≠i) :upd L i j=L j:=by unfold upd;rw [if_neg h]
theorem upd_eq {L:Nat→Bool} {i:Nat} : upd L i i=true:=by unfold upd;rw [if_pos rfl]
noncomputable def twBody:Code:=Tryz.f51.body.getD .skip
structure TwST (w W:World) (t3 t4 t5:Nat) (ct ca cb:Array Value) (b1 b5 b6 b7:Bool) (x:World) :Prop where
 bel:Below w.heap.size w x
 kp: ∀g,w.heap.size+3≤g→g<W.heap.size→x.heap[g]? = W.heap[g]?
 sz:x.heap.size=if b1=true then W.heap.size+1 else W.heap.size
 bt:b1=true→Box x W.heap.size ct 78
 s0:Box x w.heap.size #[if b5=true then .slice (some ⟨W.heap.size,0,none⟩) 1 1 else .slice none 0 0] 27
 s1:Box x (w.heap.size+1) (if b6=true then ca else #[.int .i64 0,.slice none 0 0,.slice none 0 0]) 32
 s2:Box x (w.heap.size+1+1) (if b7=true then cb else #[.int .i64 0,.slice none 0 0,.slice none 0 0]) 32
section
variable {w W x:World} {t3 t4 t5:Nat} {ct ca cb:Array Value} {b1 b5 b6 b7:Bool}
theorem TwST.box (h:TwST w W t3 t4 t5 ct ca cb b1 b5 b6 b7 x) {g:Nat} {cs:Array Value} {T:TypeId} (hb:Box W g cs T) (hg:w.heap.size+3≤g) :Box x g cs T:=(h.kp g hg hb.lt).trans hb
theorem TwST.tab (h:TwST w W t3 t4 t5 ct ca cb false b5 b6 b7 x) (hW:w.heap.size+3≤W.heap.size) :TwST w W t3 t4 t5 ct ca cb true b5 b6 b7 (x.alloc (.cells ct 78)):=by
 have hs:x.heap.size=W.heap.size:=h.sz;have hb:=belA (w:=x) (.cells ct 78)
 refine⟨bT h.bel hb,fun g h1 h2=>(hb.block g (by omega)).trans (h.kp g h1 h2),by rw [World.size_alloc,hs];rfl,fun _=>by have:=Box.new x ct 78;rwa [hs]at this,h.s0.below hb,h.s1.below hb,h.s2.below hb⟩
theorem TwST.set (h:TwST w W t3 t4 t5 ct ca cb b1 b5 b6 b7 x) {y:World} {c:Nat} (hg:x.grownBy y (some c)) (hs:y.heap.size=x.heap.size) (hc:w.heap.size≤c) (hc2:c<w.heap.size+3) (hW:w.heap.size+3≤W.heap.size) :
  Below w.heap.size w y∧(∀g,w.heap.size+3≤g→g<W.heap.size→y.heap[g]? = W.heap[g]?)∧(y.heap.size=if b1=true then W.heap.size+1 else W.heap.size)∧(b1=true→Box y W.heap.size ct 78)∧(∀g cs T,Box x g cs T→g≠c→Box y g cs T):=by
 have hsz:=h.sz;have hxs:W.heap.size≤x.heap.size:=by rw [hsz];split<;>omega
 refine⟨h.bel.grown hg h.bel.size (fun j e=>by injection e with e;omega),fun g h1 h2=>(hg.block g (by omega) (by intro e;injection e with e;omega)).trans (h.kp g h1 h2),by rw [hs];exact h.sz,fun e=>(h.bt e).grown hg (by intro e;injection e with e;omega),fun g cs T hb hne=>hb.grown hg (by intro e;injection e with e;exact hne e)⟩
end
theorem tw_reg4 {w W:World} {t3 t4 t5 cb0 pb0 p1 p2 p3 r1 r2 r3:Nat} {nm:ByteArray} {p0 r0:Int} (hW:w.heap.size+3≤W.heap.size) (B3:Hid (Box W t3 #[.string nm,.slice (some ⟨cb0,0,none⟩) 2 2,.slice (some ⟨pb0,0,none⟩) 1 1,.slice none 0 0,.slice none 0 0,.slice none 0 0] 78)) (B4:Hid (Box W t4 #[.int .i64 p0,.slice (some ⟨p1,0,none⟩) p2 p2,.slice (some ⟨p3,0,none⟩) 1 1] 32)) (B5:Hid (Box W t5 #[.int .i64 r0,.slice (some ⟨r1,0,none⟩) r2 r2,.slice (some ⟨r3,0,none⟩) 1 1] 32)) (h3:w.heap.size+3≤t3) (h4:w.heap.size+3≤t4) (h5:w.heap.size+3≤t5) (H0:Hid (TwST w W t3 t4 t5 #[.string nm,.slice (some ⟨cb0,0,none⟩) 2 2,.slice (some ⟨pb0,0,none⟩) 1 1,.slice none 0 0,.slice none 0 0,.slice none 0 0] #[.int .i64 p0,.slice (some ⟨p1,0,none⟩) p2 p2,.slice (some ⟨p3,0,none⟩) 1 1] #[.int .i64 r0,.slice (some ⟨r1,0,none⟩) r2 r2,.slice (some ⟨r3,0,none⟩) 1 1] false false false false W.drew)) {Q:Exit→Act→World→Prop} {c:Code} {u6 u7 u8 u9 u10 u11 u12 u13 u14 u15 u16 u17 u18 u19 u20 u21 u22 u23 u24 u25 u26 u27 u28 u29 u30 u31 u32 u33 u34 u35:Value} (hc:c=codeIn [1,1,1,1,0] twBody) (hend: ∀x,TwST w W t3 t4 t5 #[.string nm,.slice (some ⟨cb0,0,none⟩) 2 2,.slice (some ⟨pb0,0,none⟩) 1 1,.slice none 0 0,.slice none 0 0,.slice none 0 0] #[.int .i64 p0,.slice (some ⟨p1,0,none⟩) p2 p2,.slice (some ⟨p3,0,none⟩) 1 1] #[.int .i64 r0,.slice (some ⟨r1,0,none⟩) r2 r2,.slice (some ⟨r3,0,none⟩) 1 1] true true true true x→Q .normal { tmps:=((.pointer (some ⟨w.heap.size,0,none⟩)) :: (.pointer (some ⟨w.heap.size+1,0,none⟩)) :: (.pointer (some ⟨w.heap.size+1+1,0,none⟩)) :: (.pointer (some ⟨t3,0,none⟩)) :: (.pointer (some ⟨t4,0,none⟩)) :: (.pointer (some ⟨t5,0,none⟩)) :: (u6) :: (u7) :: (u8) :: (u9) :: (u10) :: (u11) :: (u12) :: (u13) :: (u14) :: (u15) :: (u16) :: (u17) :: (u18) :: (u19) :: (u20) :: (u21) :: (u22) :: (u23) :: (u24) :: (u25) :: (u26) :: (u27) :: (u28) :: (u29) :: (u30) :: (.agg #[.string nm,.slice (some ⟨cb0,0,none⟩) 2 2,.slice (some ⟨pb0,0,none⟩) 1 1,.slice none 0 0,.slice none 0 0,.slice none 0 0]) :: (.slice (some ⟨W.heap.size,0,none⟩) 1 1) :: (.agg #[.slice (some ⟨W.heap.size,0,none⟩) 1 1]) :: (.agg #[.int .i64 p0,.slice (some ⟨p1,0,none⟩) p2 p2,.slice (some ⟨p3,0,none⟩) 1 1]) :: (.agg #[.int .i64 r0,.slice (some ⟨r1,0,none⟩) r2 r2,.slice (some ⟨r3,0,none⟩) 1 1]) :: []).toArray,defers:= [] } x) :Code.wp Tryz.prog c Q { tmps:=((.pointer (some ⟨w.heap.size,0,none⟩)) :: (.pointer (some ⟨w.heap.size+1,0,none⟩)) :: (.pointer (some ⟨w.heap.size+1+1,0,none⟩)) :: (.pointer (some ⟨t3,0,none⟩)) :: (.pointer (some ⟨t4,0,none⟩)) :: (.pointer (some ⟨t5,0,none⟩)) :: (u6) :: (u7) :: (u8) :: (u9) :: (u10) :: (u11) :: (u12) :: (u13) :: (u14) :: (u15) :: (u16) :: (u17) :: (u18) :: (u19) :: (u20) :: (u21) :: (u22) :: (u23) :: (u24) :: (u25) :: (u26) :: (u27) :: (u28) :: (u29) :: (u30) :: (u31) :: (u32) :: (u33) :: (u34) :: (u35) :: []).toArray,defers:= [] } W:=by
 subst hc;conv=>enter [2];whnf
 refine wp_region_st (by kernel_rfl) (by kernel_rfl) 8 (by kernel_rfl) (fun s:Nat→Value=>({ tmps:=((.pointer (some ⟨w.heap.size,0,none⟩)) :: (.pointer (some ⟨w.heap.size+1,0,none⟩)) :: (.pointer (some ⟨w.heap.size+1+1,0,none⟩)) :: (.pointer (some ⟨t3,0,none⟩)) :: (.pointer (some ⟨t4,0,none⟩)) :: (.pointer (some ⟨t5,0,none⟩)) :: (u6) :: (u7) :: (u8) :: (u9) :: (u10) :: (u11) :: (u12) :: (u13) :: (u14) :: (u15) :: (u16) :: (u17) :: (u18) :: (u19) :: (u20) :: (u21) :: (u22) :: (u23) :: (u24) :: (u25) :: (u26) :: (u27) :: (u28) :: (u29) :: (u30) :: (s 31) :: (s 32) :: (s 33) :: (s 34) :: (s 35) :: []).toArray,defers:= [] } : Act)) (fun k=>if k=31 then u31 else if k=32 then u32 else if k=33 then u33 else if k=34 then u34 else if k=35 then u35 else undef) rfl (fun i=>([31,32,33,34,35,0,0,0] :List Nat).getD i 0) (fun i=>decide (i<5)) ?inj (fun i=>([.agg #[.string nm,.slice (some ⟨cb0,0,none⟩) 2 2,.slice (some ⟨pb0,0,none⟩) 1 1,.slice none 0 0,.slice none 0 0,.slice none 0 0],.slice (some ⟨W.heap.size,0,none⟩) 1 1,.agg #[.slice (some ⟨W.heap.size,0,none⟩) 1 1],.agg #[.int .i64 p0,.slice (some ⟨p1,0,none⟩) p2 p2,.slice (some ⟨p3,0,none⟩) 1 1],.agg #[.int .i64 r0,.slice (some ⟨r1,0,none⟩) r2 r2,.slice (some ⟨r3,0,none⟩) 1 1],undef,undef,undef] :List Value).getD i undef) (fun L x=>TwST w W t3 t4 t5 #[.string nm,.slice (some ⟨cb0,0,none⟩) 2 2,.slice (some ⟨pb0,0,none⟩) 1 1,.slice none 0 0,.slice none 0 0,.slice none 0 0] #[.int .i64 p0,.slice (some ⟨p1,0,none⟩) p2 p2,.slice (some ⟨p3,0,none⟩) 1 1] #[.int .i64 r0,.slice (some ⟨r1,0,none⟩) r2 r2,.slice (some ⟨r3,0,none⟩) 1 1] (L 1) (L 5) (L 6) (L 7) x) H0.o ?step ?fin
 case inj=>
  intro i j hi hj hqi hqj h;have hI:i=0∨i=1∨i=2∨i=3∨i=4∨i=5∨i=6∨i=7:=by omega
  have hJ:j=0∨j=1∨j=2∨j=3∨j=4∨j=5∨j=6∨j=7:=by omega
  rcases hI with rfl|rfl|rfl|rfl|rfl|rfl|rfl|rfl<;>rcases hJ with rfl|rfl|rfl|rfl|rfl|rfl|rfl|rfl<;>first|rfl| (exact absurd h (by decide)) | (exact absurd hqi (by decide)) | (exact absurd hqj (by decide))
 case fin=>
  intro s L x hL hv hst;have z0:s 31 = .agg #[.string nm,.slice (some ⟨cb0,0,none⟩) 2 2,.slice (some ⟨pb0,0,none⟩) 1 1,.slice none 0 0,.slice none 0 0,.slice none 0 0]:=hv 0 (by decide) (by decide)
  have z1:s 32 = .slice (some ⟨W.heap.size,0,none⟩) 1 1:=hv 1 (by decide) (by decide)
  have z2:s 33 = .agg #[.slice (some ⟨W.heap.size,0,none⟩) 1 1]:=hv 2 (by decide) (by decide)
  have z3:s 34 = .agg #[.int .i64 p0,.slice (some ⟨p1,0,none⟩) p2 p2,.slice (some ⟨p3,0,none⟩) 1 1]:=hv 3 (by decide) (by decide)
  have z4:s 35 = .agg #[.int .i64 r0,.slice (some ⟨r1,0,none⟩) r2 r2,.slice (some ⟨r3,0,none⟩) 1 1]:=hv 4 (by decide) (by decide)
  clear hv;rw [hL 1 (by omega),hL 5 (by omega),hL 6 (by omega),hL 7 (by omega)]at hst
  have h:=hend x hst
  first|exact h| (simp only [z0,z1,z2,z3,z4];exact h)
 case step=>
  intro i o s L x ho hL he hC hv hst;have hi:i<8:=(Array.getElem?_eq_some_iff.1 ho).1;have HST:=ai hst;have hcase:i=0∨i=1∨i=2∨i=3∨i=4∨i=5∨i=6∨i=7:=by omega
  rcases hcase with rfl|rfl|rfl|rfl|rfl|rfl|rfl|rfl
  ·injection ho with ho
   subst ho;have hb:=HST.o.box B3.o h3;have k0:=hb.cell (j:=0) rfl
   have k1:=hb.cell (j:=1) rfl
   have k2:=hb.cell (j:=2) rfl
   have k3:=hb.cell (j:=3) rfl
   have k4:=hb.cell (j:=4) rfl
   have k5:=hb.cell (j:=5) rfl
   clear hb he hC hv hst;refine opwp_K (fun K2 hK2=> ?_)
   go_simp
   exact hK2 _ _ ⟨.inl ⟨rfl,by first|rfl| (simp [List.getD];done)⟩,by show TwST w W t3 t4 t5 #[.string nm,.slice (some ⟨cb0,0,none⟩) 2 2,.slice (some ⟨pb0,0,none⟩) 1 1,.slice none 0 0,.slice none 0 0,.slice none 0 0] #[.int .i64 p0,.slice (some ⟨p1,0,none⟩) p2 p2,.slice (some ⟨p3,0,none⟩) 1 1] #[.int .i64 r0,.slice (some ⟨r1,0,none⟩) r2 r2,.slice (some ⟨r3,0,none⟩) 1 1] (upd L 0 1) (upd L 0 5) (upd L 0 6) (upd L 0 7) _;rw [upd_ne (by decide),upd_ne (by decide),upd_ne (by decide),upd_ne (by decide)];exact HST.o⟩
  ·injection ho with ho
   subst ho;have z0:s 31 = .agg #[.string nm,.slice (some ⟨cb0,0,none⟩) 2 2,.slice (some ⟨pb0,0,none⟩) 1 1,.slice none 0 0,.slice none 0 0,.slice none 0 0]:=hv 0 (by decide) (he ⟨0,.data⟩ (by simp) rfl)
   have HS:=ai (show TwST w W t3 t4 t5 #[.string nm,.slice (some ⟨cb0,0,none⟩) 2 2,.slice (some ⟨pb0,0,none⟩) 1 1,.slice none 0 0,.slice none 0 0,.slice none 0 0] #[.int .i64 p0,.slice (some ⟨p1,0,none⟩) p2 p2,.slice (some ⟨p3,0,none⟩) 1 1] #[.int .i64 r0,.slice (some ⟨r1,0,none⟩) r2 r2,.slice (some ⟨r3,0,none⟩) 1 1] false (L 5) (L 6) (L 7) x from by have h:=HST.o;rw [hL]at h;exact h)
   have hsx:x.heap.size=W.heap.size:=HS.o.sz;have HSX:=ai hsx;clear he hC hv hst hsx;refine opwp_K (fun K2 hK2=> ?_)
   go_simp
   exact hK2 _ _ ⟨.inl ⟨rfl,by simp [z0,HSX.o]⟩,by show TwST w W t3 t4 t5 #[.string nm,.slice (some ⟨cb0,0,none⟩) 2 2,.slice (some ⟨pb0,0,none⟩) 1 1,.slice none 0 0,.slice none 0 0,.slice none 0 0] #[.int .i64 p0,.slice (some ⟨p1,0,none⟩) p2 p2,.slice (some ⟨p3,0,none⟩) 1 1] #[.int .i64 r0,.slice (some ⟨r1,0,none⟩) r2 r2,.slice (some ⟨r3,0,none⟩) 1 1] (upd L 1 1) (upd L 1 5) (upd L 1 6) (upd L 1 7) _;rw [upd_eq,upd_ne (by decide),upd_ne (by decide),upd_ne (by decide)];exact HS.o.tab hW⟩
  ·injection ho with ho
   subst ho;have z1:s 32 = .slice (some ⟨W.heap.size,0,none⟩) 1 1:=hv 1 (by decide) (he ⟨1,.data⟩ (by simp) rfl)
   clear he hC hv hst;refine opwp_K (fun K2 hK2=> ?_)
   go_simp
   exact hK2 _ _ ⟨.inl ⟨rfl,by first|rfl| (simp [z1];done)⟩,by show TwST w W t3 t4 t5 #[.string nm,.slice (some ⟨cb0,0,none⟩) 2 2,.slice (some ⟨pb0,0,none⟩) 1 1,.slice none 0 0,.slice none 0 0,.slice none 0 0] #[.int .i64 p0,.slice (some ⟨p1,0,none⟩) p2 p2,.slice (some ⟨p3,0,none⟩) 1 1] #[.int .i64 r0,.slice (some ⟨r1,0,none⟩) r2 r2,.slice (some ⟨r3,0,none⟩) 1 1] (upd L 2 1) (upd L 2 5) (upd L 2 6) (upd L 2 7) _;rw [upd_ne (by decide),upd_ne (by decide),upd_ne (by decide),upd_ne (by decide)];exact HST.o⟩
  ·injection ho with ho
   subst ho;have hb:=HST.o.box B4.o h4;have k0:=hb.cell (j:=0) rfl
   have k1:=hb.cell (j:=1) rfl
   have k2:=hb.cell (j:=2) rfl
   clear hb he hC hv hst;refine opwp_K (fun K2 hK2=> ?_)
   go_simp
   exact hK2 _ _ ⟨.inl ⟨rfl,by first|rfl| (simp [List.getD];done)⟩,by show TwST w W t3 t4 t5 #[.string nm,.slice (some ⟨cb0,0,none⟩) 2 2,.slice (some ⟨pb0,0,none⟩) 1 1,.slice none 0 0,.slice none 0 0,.slice none 0 0] #[.int .i64 p0,.slice (some ⟨p1,0,none⟩) p2 p2,.slice (some ⟨p3,0,none⟩) 1 1] #[.int .i64 r0,.slice (some ⟨r1,0,none⟩) r2 r2,.slice (some ⟨r3,0,none⟩) 1 1] (upd L 3 1) (upd L 3 5) (upd L 3 6) (upd L 3 7) _;rw [upd_ne (by decide),upd_ne (by decide),upd_ne (by decide),upd_ne (by decide)];exact HST.o⟩
  ·injection ho with ho
   subst ho;have hb:=HST.o.box B5.o h5;have k0:=hb.cell (j:=0) rfl
   have k1:=hb.cell (j:=1) rfl
   have k2:=hb.cell (j:=2) rfl
   clear hb he hC hv hst;refine opwp_K (fun K2 hK2=> ?_)
   go_simp
   exact hK2 _ _ ⟨.inl ⟨rfl,by first|rfl| (simp [List.getD];done)⟩,by show TwST w W t3 t4 t5 #[.string nm,.slice (some ⟨cb0,0,none⟩) 2 2,.slice (some ⟨pb0,0,none⟩) 1 1,.slice none 0 0,.slice none 0 0,.slice none 0 0] #[.int .i64 p0,.slice (some ⟨p1,0,none⟩) p2 p2,.slice (some ⟨p3,0,none⟩) 1 1] #[.int .i64 r0,.slice (some ⟨r1,0,none⟩) r2 r2,.slice (some ⟨r3,0,none⟩) 1 1] (upd L 4 1) (upd L 4 5) (upd L 4 6) (upd L 4 7) _;rw [upd_ne (by decide),upd_ne (by decide),upd_ne (by decide),upd_ne (by decide)];exact HST.o⟩
  ·injection ho with ho
   subst ho;have z2:s 33 = .agg #[.slice (some ⟨W.heap.size,0,none⟩) 1 1]:=hv 2 (by decide) (he ⟨2,.data⟩ (by simp) rfl)
   have HS:=ai (show TwST w W t3 t4 t5 #[.string nm,.slice (some ⟨cb0,0,none⟩) 2 2,.slice (some ⟨pb0,0,none⟩) 1 1,.slice none 0 0,.slice none 0 0,.slice none 0 0] #[.int .i64 p0,.slice (some ⟨p1,0,none⟩) p2 p2,.slice (some ⟨p3,0,none⟩) 1 1] #[.int .i64 r0,.slice (some ⟨r1,0,none⟩) r2 r2,.slice (some ⟨r3,0,none⟩) 1 1] (L 1) false (L 6) (L 7) x from by have h:=HST.o;rw [hL]at h;exact h)
   have hb:=HS.o.s0;rw [if_neg (by decide)]at hb
   have k0:=hb.cell (j:=0) rfl
   have f0:=hb.fr 0;have HB:=ai hb;have HG:=ai (show x.grownBy (x.setCell ⟨w.heap.size,0,none⟩ (.slice (some ⟨W.heap.size,0,none⟩) 1 1)) (some (w.heap.size))from gb_set _ _ _ _)
   have HZ:=ai (show(x.setCell ⟨w.heap.size,0,none⟩ (.slice (some ⟨W.heap.size,0,none⟩) 1 1)).heap.size=x.heap.size from by simp)
   clear hb he hC hv hst;refine opwp_K (fun K2 hK2=> ?_)
   go_simp
   obtain⟨q1,q2,q3,q4,q5⟩:=HS.o.set HG.o HZ.o (by omega) (by omega) hW
   have hs:=HB.o.set 0 (.slice (some ⟨W.heap.size,0,none⟩) 1 1);simp only [List.setIfInBounds_toArray,List.set_cons_zero,List.set_cons_succ]at hs;exact hK2 _ _ ⟨.inr ⟨rfl,by first|rfl| (simp [z2];done)⟩,by show TwST w W t3 t4 t5 #[.string nm,.slice (some ⟨cb0,0,none⟩) 2 2,.slice (some ⟨pb0,0,none⟩) 1 1,.slice none 0 0,.slice none 0 0,.slice none 0 0] #[.int .i64 p0,.slice (some ⟨p1,0,none⟩) p2 p2,.slice (some ⟨p3,0,none⟩) 1 1] #[.int .i64 r0,.slice (some ⟨r1,0,none⟩) r2 r2,.slice (some ⟨r3,0,none⟩) 1 1] (upd L 5 1) (upd L 5 5) (upd L 5 6) (upd L 5 7) _;rw [upd_ne (show 1≠5 by decide),upd_eq,upd_ne (show 6≠5 by decide),upd_ne (show 7≠5 by decide)];exact⟨q1,q2,q3,q4,hs,q5 _ _ _ HS.o.s1 (by omega),q5 _ _ _ HS.o.s2 (by omega)⟩⟩
  ·injection ho with ho
   subst ho;have z3:s 34 = .agg #[.int .i64 p0,.slice (some ⟨p1,0,none⟩) p2 p2,.slice (some ⟨p3,0,none⟩) 1 1]:=hv 3 (by decide) (he ⟨3,.data⟩ (by simp) rfl)
   have HS:=ai (show TwST w W t3 t4 t5 #[.string nm,.slice (some ⟨cb0,0,none⟩) 2 2,.slice (some ⟨pb0,0,none⟩) 1 1,.slice none 0 0,.slice none 0 0,.slice none 0 0] #[.int .i64 p0,.slice (some ⟨p1,0,none⟩) p2 p2,.slice (some ⟨p3,0,none⟩) 1 1] #[.int .i64 r0,.slice (some ⟨r1,0,none⟩) r2 r2,.slice (some ⟨r3,0,none⟩) 1 1] (L 1) (L 5) false (L 7) x from by have h:=HST.o;rw [hL]at h;exact h)
   have hb:=HS.o.s1;rw [if_neg (by decide)]at hb
   have k0:=hb.cell (j:=0) rfl
   have k1:=hb.cell (j:=1) rfl
   have k2:=hb.cell (j:=2) rfl
   have f0:=hb.fr 0;have f1:=hb.fr 1;have f2:=hb.fr 2;have HB:=ai hb;have HG:=ai (show x.grownBy (((x.setCell ⟨w.heap.size+1,0,none⟩ (.int .i64 p0)).setCell ⟨w.heap.size+1,1,none⟩ (.slice (some ⟨p1,0,none⟩) p2 p2)).setCell ⟨w.heap.size+1,2,none⟩ (.slice (some ⟨p3,0,none⟩) 1 1)) (some (w.heap.size+1))from set3 _ _ _ _ _)
   have HZ:=ai (show(((x.setCell ⟨w.heap.size+1,0,none⟩ (.int .i64 p0)).setCell ⟨w.heap.size+1,1,none⟩ (.slice (some ⟨p1,0,none⟩) p2 p2)).setCell ⟨w.heap.size+1,2,none⟩ (.slice (some ⟨p3,0,none⟩) 1 1)).heap.size=x.heap.size from by simp)
   clear hb he hC hv hst;refine opwp_K (fun K2 hK2=> ?_)
   go_simp
   obtain⟨q1,q2,q3,q4,q5⟩:=HS.o.set HG.o HZ.o (by omega) (by omega) hW
   have hs:=((HB.o.set 0 (.int .i64 p0)).set 1 (.slice (some ⟨p1,0,none⟩) p2 p2)).set 2 (.slice (some ⟨p3,0,none⟩) 1 1);simp only [List.setIfInBounds_toArray,List.set_cons_zero,List.set_cons_succ]at hs;exact hK2 _ _ ⟨.inr ⟨rfl,by first|rfl| (simp [z3];done)⟩,by show TwST w W t3 t4 t5 #[.string nm,.slice (some ⟨cb0,0,none⟩) 2 2,.slice (some ⟨pb0,0,none⟩) 1 1,.slice none 0 0,.slice none 0 0,.slice none 0 0] #[.int .i64 p0,.slice (some ⟨p1,0,none⟩) p2 p2,.slice (some ⟨p3,0,none⟩) 1 1] #[.int .i64 r0,.slice (some ⟨r1,0,none⟩) r2 r2,.slice (some ⟨r3,0,none⟩) 1 1] (upd L 6 1) (upd L 6 5) (upd L 6 6) (upd L 6 7) _;rw [upd_ne (show 1≠6 by decide),upd_ne (show 5≠6 by decide),upd_eq,upd_ne (show 7≠6 by decide)];exact⟨q1,q2,q3,q4,q5 _ _ _ HS.o.s0 (by omega),hs,q5 _ _ _ HS.o.s2 (by omega)⟩⟩
  ·injection ho with ho
   subst ho;have z4:s 35 = .agg #[.int .i64 r0,.slice (some ⟨r1,0,none⟩) r2 r2,.slice (some ⟨r3,0,none⟩) 1 1]:=hv 4 (by decide) (he ⟨4,.data⟩ (by simp) rfl)
   have HS:=ai (show TwST w W t3 t4 t5 #[.string nm,.slice (some ⟨cb0,0,none⟩) 2 2,.slice (some ⟨pb0,0,none⟩) 1 1,.slice none 0 0,.slice none 0 0,.slice none 0 0] #[.int .i64 p0,.slice (some ⟨p1,0,none⟩) p2 p2,.slice (some ⟨p3,0,none⟩) 1 1] #[.int .i64 r0,.slice (some ⟨r1,0,none⟩) r2 r2,.slice (some ⟨r3,0,none⟩) 1 1] (L 1) (L 5) (L 6) false x from by have h:=HST.o;rw [hL]at h;exact h)
   have hb:=HS.o.s2;rw [if_neg (by decide)]at hb
   have k0:=hb.cell (j:=0) rfl
   have k1:=hb.cell (j:=1) rfl
   have k2:=hb.cell (j:=2) rfl
   have f0:=hb.fr 0;have f1:=hb.fr 1;have f2:=hb.fr 2;have HB:=ai hb;have HG:=ai (show x.grownBy (((x.setCell ⟨w.heap.size+1+1,0,none⟩ (.int .i64 r0)).setCell ⟨w.heap.size+1+1,1,none⟩ (.slice (some ⟨r1,0,none⟩) r2 r2)).setCell ⟨w.heap.size+1+1,2,none⟩ (.slice (some ⟨r3,0,none⟩) 1 1)) (some (w.heap.size+1+1))from set3 _ _ _ _ _)
   have HZ:=ai (show(((x.setCell ⟨w.heap.size+1+1,0,none⟩ (.int .i64 r0)).setCell ⟨w.heap.size+1+1,1,none⟩ (.slice (some ⟨r1,0,none⟩) r2 r2)).setCell ⟨w.heap.size+1+1,2,none⟩ (.slice (some ⟨r3,0,none⟩) 1 1)).heap.size=x.heap.size from by simp)
   clear hb he hC hv hst;refine opwp_K (fun K2 hK2=> ?_)
   go_simp
   obtain⟨q1,q2,q3,q4,q5⟩:=HS.o.set HG.o HZ.o (by omega) (by omega) hW
   have hs:=((HB.o.set 0 (.int .i64 r0)).set 1 (.slice (some ⟨r1,0,none⟩) r2 r2)).set 2 (.slice (some ⟨r3,0,none⟩) 1 1);simp only [List.setIfInBounds_toArray,List.set_cons_zero,List.set_cons_succ]at hs;exact hK2 _ _ ⟨.inr ⟨rfl,by first|rfl| (simp [z4];done)⟩,by show TwST w W t3 t4 t5 #[.string nm,.slice (some ⟨cb0,0,none⟩) 2 2,.slice (some ⟨pb0,0,none⟩) 1 1,.slice none 0 0,.slice none 0 0,.slice none 0 0] #[.int .i64 p0,.slice (some ⟨p1,0,none⟩) p2 p2,.slice (some ⟨p3,0,none⟩) 1 1] #[.int .i64 r0,.slice (some ⟨r1,0,none⟩) r2 r2,.slice (some ⟨r3,0,none⟩) 1 1] (upd L 7 1) (upd L 7 5) (upd L 7 6) (upd L 7 7) _;rw [upd_ne (show 1≠7 by decide),upd_ne (show 5≠7 by decide),upd_ne (show 6≠7 by decide),upd_eq];exact⟨q1,q2,q3,q4,q5 _ _ _ HS.o.s0 (by omega),q5 _ _ _ HS.o.s1 (by omega),hs⟩⟩
end Go.Proofs.YtiijaaohphokcaaGreatDoor

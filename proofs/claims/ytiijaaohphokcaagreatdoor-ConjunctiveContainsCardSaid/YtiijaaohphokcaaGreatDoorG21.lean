/- ref03.Types, and that its list lies in a block of its own. -/
import Derived.Test.YtiijaaohphokcaaGreatDoorG01
import Derived.Test.YtiijaaohphokcaaGreatDoorG20
import Derived.Deep.DeepCutAuto
set_option maxRecDepth 100000
set_option maxHeartbeats 16000000
namespace Go.Proofs.YtiijaaohphokcaaGreatDoor
open Go.RowKit
theorem own_from {w:World} {base n m size:Nat} {h:Hd} {e:TypeId} {xs:List Value} (ho:w.ownsRow base e size (.slice h.ao m h.cap) n xs) (hp:0<m) :base≤h.b:=by
 rcases ho.2 with⟨h1,-⟩ | ⟨g,cap,_,h1,hb,-⟩
 ·injection h1 with _ h2;omega
 ·injection h1 with h2
  unfold Hd.b
  rw [h2];exact hb
end Go.Proofs.YtiijaaohphokcaaGreatDoor
/- conjunctive.numbered. -/
namespace Go.Proofs.YtiijaaohphokcaaGreatDoor
open Go.RowKit Go.Maps
def NumPost (q:Cq) (w:World) (e:Ending) (w':World) :Prop:=∃r:Cq,e = .returned (.agg #[.int .i64 (r.vars:Nat),.slice r.lh.ao r.lits.length r.lh.cap,.slice r.head.h.ao r.head.l.length r.head.h.cap])∧r.In w' w.heap.size∧r.cj=q.cj.num∧r.vars=q.cj.occ.length∧Below w.heap.size w w'
theorem nu_start (w:World) (q:Cq) :NuW w q (w.heap.size+1+1+1+1) (w.heap.size+1+1+1) (w.heap.size+1+1) 0 [] (.slice none 0 0) [] (((((w.alloc (.cells (qcells q) 32)).alloc (.cells #[.int .i64 0,.slice none 0 0,.slice none 0 0] 32)).alloc (.map #[] 0)).alloc (.cells #[.map (some (w.heap.size+1+1))] 137)).alloc (.cells #[.int .i64 0,.slice none 0 0,.slice none 0 0] 32)):=by
 have b1:=Box.new w (qcells q) 32;have l1:=belA (w:=w) (.cells (qcells q) 32)
 have s1:=World.size_alloc w (.cells (qcells q) 32);generalize w.alloc (.cells (qcells q) 32) =w1 at *;have b2:=Box.new w1 #[.int .i64 0,.slice none 0 0,.slice none 0 0] 32;have l2:=belA (w:=w1) (.cells #[.int .i64 0,.slice none 0 0,.slice none 0 0] 32)
 have s2:=World.size_alloc w1 (.cells #[.int .i64 0,.slice none 0 0,.slice none 0 0] 32);generalize w1.alloc (.cells #[.int .i64 0,.slice none 0 0,.slice none 0 0] 32) =w2 at *;have b3:=NM.new w2;have l3:=belA (w:=w2) (.map #[] 0)
 have s3:=World.size_alloc w2 (.map #[] 0);generalize w2.alloc (.map #[] 0) =w3 at *;have b4:=Box.new w3 #[.map (some (w.heap.size+1+1))] 137;have l4:=belA (w:=w3) (.cells #[.map (some (w.heap.size+1+1))] 137)
 have s4:=World.size_alloc w3 (.cells #[.map (some (w.heap.size+1+1))] 137);generalize w3.alloc (.cells #[.map (some (w.heap.size+1+1))] 137) =w4 at *;have b5:=Box.new w4 #[.int .i64 0,.slice none 0 0,.slice none 0 0] 32;have l5:=belA (w:=w4) (.cells #[.int .i64 0,.slice none 0 0,.slice none 0 0] 32)
 generalize w4.alloc (.cells #[.int .i64 0,.slice none 0 0,.slice none 0 0] 32) =w5 at *;rw [s4,s3,s2,s1]at b5;rw [s3,s2,s1]at b4;rw [s2,s1]at b3;rw [s1]at b2;exact⟨bT l1 (bT l2 (bT l3 (bT l4 l5))),((((b1.below l2).below l3).below l4).below l5),(((b2.below l3).below l4).below l5),b4.below l5,(b3.below l4).below l5,b5,World.ownsRow_nil _ _ _ _,fun l h=>absurd h List.not_mem_nil,by omega⟩
theorem occL_same {K:Type} : ∀(l:List (Tm K)) (o:List Nat),(∀x,Tm.v x∈l→x∈o)→occL o l=o
 | [],_,_=>rfl
 | .c _ :: l,o,h=>occL_same l o (fun x hx=>h x (List.mem_cons_of_mem _ hx))
 | .v y :: l,o,h=>by
  show occL (occT o (.v y)) l=o
  rw [occT_v,if_pos (h y List.mem_cons_self)];exact occL_same l o (fun x hx=>h x (List.mem_cons_of_mem _ hx))
theorem occ_take_len {q:Cq} (k:Nat) : (occQ [] (q.cj.lits.take k)).length≤q.cj.occ.length:=by
 have h:=occQ_pre (q.cj.lits.drop k) (occQ [] (q.cj.lits.take k));have e:occQ (occQ [] (q.cj.lits.take k)) (q.cj.lits.drop k) =q.cj.occ:=by
  unfold Cj.occ occQ
  rw [←List.foldl_append,List.take_append_drop]
 rw [e]at h;exact h.length_le
structure NuE (w:World) (q:Cq) (outs:List Li) (lv:Value) (h3:Hd) (x:World) :Prop where
 own:x.ownsRow (w.heap.size+2) 56 2 lv q.lits.length (outs.flatMap Li.cells)
 sl: ∀l∈outs,SlAt w x l.sl
 hd:SlAt w x ⟨h3,q.head.l.map (ren q.cj.occ)⟩
 bel:Below w.heap.size w x
theorem NuE.set {w x:World} {q:Cq} {outs:List Li} {lv:Value} {h3:Hd} (h:NuE w q outs lv h3 x) {b:Nat} (ht:TyAt x b 32) (hb:w.heap.size≤b) (j:Nat) (v:Value) :NuE w q outs lv h3 (x.setCell ⟨b,j,none⟩ v):=by
 have hg:=gb_set x b j v;have hne: ∀l,SlAt w x l→some l.h.b≠some b:=fun l hl e=>by injection e with e;exact hl.ty.ne ht (by decide) e
 exact⟨h.own.kept hg (.inr (fun e=>(TyAt.own h.own e).ne ht (by decide) rfl)),fun l hl=>(h.sl l hl).grown hg (hne _ (h.sl l hl)),h.hd.grown hg (hne _ h.hd),h.bel.grown hg h.bel.size (fun j e=>by injection e with e;omega)⟩
theorem nu_done {w x:World} {q:Cq} {B:Nat} {outs:List Li} {lv:Value} {h3:Hd} (hq:q.In w B) (hN:NuE w q outs lv h3 x) (hO:OutsOk q q.lits.length outs) (ho:q.cj.occ.length≤1000) :
  ∃r:Cq,lv = .slice r.lh.ao r.lits.length r.lh.cap∧h3=r.head.h∧r.head.l.length=q.head.l.length∧r.vars=q.cj.occ.length∧r.In x w.heap.size∧r.cj=q.cj.num∧Below w.heap.size w x:=by
 obtain⟨hd,hv,hr⟩:=own_row (cells:=Li.cells) (fun _=>rfl) (by decide) hN.own
 have hlk: (q.cj.lits.take q.lits.length) =q.cj.lits:=List.take_of_length_le (by rw [show q.cj.lits.length=q.lits.length from List.length_map _];exact Nat.le_refl _)
 have hwf: ∀l:List (Tm V),(∀t∈l,t.wf)→∀t∈l.map (ren q.cj.occ),t.wf:=fun l hl t ht=>by
  obtain⟨s,hs,rfl⟩:=List.mem_map.1 ht
  cases s with
  | c k=>exact hl _ hs
  | v n=>exact Nat.le_trans (List.idxOf_le_length) ho
 refine⟨⟨q.cj.occ.length,hd,outs,⟨h3,q.head.l.map (ren q.cj.occ)⟩⟩,hv,rfl,List.length_map _,rfl,⟨hr,fun hp=> ?_,fun l hl=> ?_,fun l hl=> ?_,⟨hN.hd.row,hwf _ hq.hd.wf,fun _=>hN.hd.ge⟩,ho⟩,?_,hN.bel⟩
 ·have:=own_from (h:=hd) (m:=outs.length) (by rw [←hv];exact hN.own) hp
  show w.heap.size≤hd.b
  omega
 ·have h1:=hN.sl l hl
  refine⟨h1.row,?_,fun _=>h1.ge⟩
  have hm:l.lt∈outs.map Li.lt:=List.mem_map_of_mem hl;rw [hO.2,hlk]at hm;obtain⟨a,ha,he⟩:=List.mem_map.1 hm;obtain⟨l0,hl0,rfl⟩:=List.mem_map.1 ha;have:l.sl.l=l0.sl.l.map (ren q.cj.occ):=(congrArg Prod.snd he).symm;rw [this];exact hwf _ (hq.sl l0 hl0).wf
 ·have hm:l.lt∈outs.map Li.lt:=List.mem_map_of_mem hl
  rw [hO.2,hlk]at hm;obtain⟨a,ha,he⟩:=List.mem_map.1 hm;obtain⟨l0,hl0,rfl⟩:=List.mem_map.1 ha;have:l.tab=l0.tab:=(congrArg Prod.fst he).symm;rw [this];exact hq.tb l0 hl0
 ·show Cj.mk (outs.map Li.lt) (q.head.l.map (ren q.cj.occ)) =q.cj.num
  rw [hO.2,hlk]
  rfl
theorem numbered_any (q:Cq) (B:Nat) (w:World) (hq:q.In w B) (hsl: ∀l∈q.lits,0<l.sl.l.length∧l.sl.l.length≤1000) (hh:0<q.head.l.length∧q.head.l.length≤1000) (hn:q.lits.length≤1000) (hc: ∀x,Tm.v x∈q.head.l→Occ q.cj x) (ho:q.cj.occ.length≤1000) :
  Calls Tryz.prog 48 #[.agg #[.int .i64 (q.vars:Nat),.slice q.lh.ao q.lits.length q.lh.cap,.slice q.head.h.ao q.head.l.length q.head.h.cap]] w (NumPost q w):=by
 have HQ:=ai hq;have HSL:=ai hsl;have HH:=ai hh;have HN:=ai hn;have HC:=ai hc;have HO:=ai ho;clear hq hsl hh hn hc ho
 go_enter Tryz.func48,Tryz.ntmps48;have hmm:=@run_makeMap Tryz.prog;go_upto_region 4 with fail
 clear hmm;have HN0:=ai (nu_start w q);generalize (((((w.alloc (.cells (qcells q) 32)).alloc (.cells #[.int .i64 0,.slice none 0 0,.slice none 0 0] 32)).alloc (.map #[] 0)).alloc (.cells #[.map (some (w.heap.size+1+1))] 137)).alloc (.cells #[.int .i64 0,.slice none 0 0,.slice none 0 0] 32)) =X at *;generalize w.heap.size+1+1+1+1=ob at *;generalize w.heap.size+1+1+1=nb at *;generalize w.heap.size+1+1=mb at *;have y1:X.cell? ⟨w.heap.size,1,none⟩ =some (.slice q.lh.ao q.lits.length q.lh.cap):=HN0.o.bq.cell (j:=1) rfl
 have hqn:=HQ.o.row.len;go_wp2;clear y1;go_loopw [13] (fun i wr=>∃k:Nat,k≤q.lits.length∧i = .int .i64 k∧∃(outs:List Li) (lv:Value),Hid (NuW w q ob nb mb k outs lv (occQ [] (q.cj.lits.take k)) wr∧OutsOk q k outs)) (fun i _=>q.lits.length - (intOf i).toNat)
 case atStart=>exact⟨0,Nat.zero_le _,rfl,[],_,HN0.o,⟨rfl,rfl⟩⟩
 clear HN0
 case round=>
  obtain⟨k,hk,rfl,outs,lv,HNO⟩:=hrel;by_cases hlt:k<q.lits.length
  ·have hrl:=(HQ.o.mono HNO.o.1.bel).row
   have hix:=hrl.ix hlt Tryz.underlying29 szlit;obtain⟨c0,c1⟩:=li_at hrl hlt;have hbk:=hrl.blk hlt;have HLS:=ai (fun x (hx:Below w.heap.size w x)=>(HQ.o.mono hx).sl _ (List.getElem_mem hlt))
   have HLP:=ai (HSL.o _ (List.getElem_mem hlt));have HOC:=ai (show occL (occQ [] (q.cj.lits.take k)) (q.lits[k]).sl.l=occQ [] (q.cj.lits.take (k+1))from(occQ_take hlt).symm)
   have HOU:=ai (fun hd=>HNO.o.2.snoc hlt (hd:=hd))
   have HOL:=ai (Nat.le_trans (occ_take_len (q:=q) k) (Nat.le_trans HO.o (by decide:1000≤100000)))
   have HKK:=ai (show k≤1000 from by have:=HN.o;omega)
   rw [HOC.o]at HOU;obtain⟨l,hl⟩ : ∃l,q.lits[k] =l:=⟨_,rfl⟩;rw [hl]at c0 c1;simp only [hl]at HLS HLP HOC HOU;clear hl hrl;have HLT:=ai hlt;obtain⟨VV,hV⟩ : ∃VV,wr.alloc (.cells #[.int .i64 (l.tab:Nat),.slice l.sl.h.ao l.sl.l.length l.sl.h.cap] 56) =VV:=⟨_,rfl⟩;have HG:=ai (show NuG w q ob nb mb k outs lv (occQ [] (q.cj.lits.take k)) (occQ [] (q.cj.lits.take (k+1))) wr.heap.size l false VV.drew from by
    rw [←hV];exact⟨(HNO.o.1.call (belA _)).call ((Below.refl _ _).drew),(Box.new _ _ _).below ((Below.refl _ _).drew)⟩)
   go_wp2
   try rw [hV]
   clear hV c0 c1 hix hbk;refine nu_reg7 (w:=w) (q:=q) (ob:=ob) (nb:=nb) (mb:=mb) (k:=k) (B:=B) (lb:=wr.heap.size) (outs:=outs) (lv:=lv) (o:=occQ [] (q.cj.lits.take k)) (o2:=occQ [] (q.cj.lits.take (k+1))) (l:=l) HKK.o HLS HLP HOL HOC HG ?hc ?hend
   case hc=>rfl
   case hend=>
    intro h7 h8 b9 h9 g4 cap4 x3 hx3;have HX:=ai hx3;clear hx3;go_wp2;go_roundw
    case rel=>exact⟨_,_,_,_,_,_,_,_,_,_,_,_,_,_,_,_,_,_,⟨k+1,HLT.o,by go_num,_,_,HX.o,HOU.o h9⟩,rfl⟩
    case measure=>have:=HLT.o;simp [intOf];omega
  ·obtain rfl:k=q.lits.length:=by omega
   have hlk: (q.cj.lits.take q.lits.length) =q.cj.lits:=List.take_of_length_le (by rw [show q.cj.lits.length=q.lits.length from List.length_map _];exact Nat.le_refl _)
   rw [hlk]at HNO;have HNO2:=ai (show NuW w q ob nb mb q.lits.length outs lv q.cj.occ wr∧OutsOk q q.lits.length outs from HNO.o)
   clear HNO hlk;have HOC:=ai (occL_same q.head.l q.cj.occ (fun x hx=>(occ_iff x).2 (HC.o x hx)))
   go_wp2;refine nu_reg9 (w:=w) (q:=q) (ob:=ob) (nb:=nb) (mb:=mb) (k:=q.lits.length) (B:=B) (outs:=outs) (lv:=lv) (o:=q.cj.occ) (ai (fun x hx=>(HQ.o.mono hx).hd)) HH (ai (Nat.le_trans HO.o (by decide))) HOC (ai ⟨HNO2.o.1.call ((Below.refl _ _).drew)⟩) ?hc ?hend
   case hc=>rfl
   case hend=>
    intro h3 x3 hx3 hs3;obtain⟨lvh,rfl,_⟩:=own_row (cells:=Li.cells) (fun _=>rfl) (by decide) hx3.own
    have HNE:=ai (show NuE w q outs (.slice lvh.ao outs.length lvh.cap) h3 x3 from⟨hx3.own,hx3.sl,hs3,hx3.bel⟩)
    have hE2:=(HNE.o.set (TyAt.box hx3.bo) (Nat.le_trans (by omega) hx3.lo.1) 2 (.slice h3.ao q.head.l.length h3.cap)).set ((TyAt.box hx3.bo).set 2 _) (Nat.le_trans (by omega) hx3.lo.1) 0 (.int .i64 (q.cj.occ.length:Nat))
    have HE2:=ai hE2;clear hE2 HNE;have k0:=hx3.bo.cell (j:=0) rfl
    have k1:=hx3.bo.cell (j:=1) rfl
    have k2:=hx3.bo.cell (j:=2) rfl
    have HG:=ai ((gb_set x3 ob 2 (.slice h3.ao q.head.l.length h3.cap)).trans (gb_set _ ob 0 (.int .i64 (q.cj.occ.length:Nat))));have HBO:=ai ((hx3.bo.set 2 (.slice h3.ao q.head.l.length h3.cap)).set 0 (.int .i64 (q.cj.occ.length:Nat)));have HLO:=ai hx3.lo;have HBR:=ai hx3.br;clear hx3 hs3 k0 k1 k2;generalize (x3.setCell ⟨ob,2,none⟩ (.slice h3.ao q.head.l.length h3.cap)).setCell ⟨ob,0,none⟩ (.int .i64 (q.cj.occ.length:Nat)) =Y at *;have HBY:=ai (show Box Y ob #[.int .i64 (q.cj.occ.length:Nat),.slice lvh.ao outs.length lvh.cap,.slice h3.ao q.head.l.length h3.cap] 32 from by
     have:=HBO.o
     simpa only [List.setIfInBounds_toArray,List.set_cons_zero,List.set_cons_succ]using this)
    have HRY:=ai (HBR.o.grown HG.o (by have:=HLO.o;intro e;injection e with e;omega))
    have y0:=HBY.o.cell (j:=0) rfl
    have y1:=HBY.o.cell (j:=1) rfl
    have y2:=HBY.o.cell (j:=2) rfl
    have r0:=HRY.o.cell (j:=0) rfl
    have r1:=HRY.o.cell (j:=1) rfl
    have r2:=HRY.o.cell (j:=2) rfl
    have f0:=HRY.o.fr 0;have f1:=HRY.o.fr 1;have f2:=HRY.o.fr 2;have HE5:=ai (((HE2.o.set (TyAt.box HRY.o) (by omega) 0 (.int .i64 (q.cj.occ.length:Nat))).set ((TyAt.box HRY.o).set 0 _) (by omega) 1 (.slice lvh.ao outs.length lvh.cap)).set (((TyAt.box HRY.o).set 0 _).set 1 _) (by omega) 2 (.slice h3.ao q.head.l.length h3.cap))
    go_wp2;obtain⟨r,hlv,hh3,hhl,hrv,hri,hrc,hbe⟩:=nu_done HQ.o HE5.o HNO2.o.2 HO.o;have HF:NumPost q w (.returned (.agg #[.int .i64 (q.cj.occ.length:Nat),.slice lvh.ao outs.length lvh.cap,.slice h3.ao q.head.l.length h3.cap])) _:=⟨r,by rw [hrv,hhl,←hh3,←hlv],hri,hrc,hrv,hbe⟩
    refine bodyPost_ret (v:=.agg #[.int .i64 (q.cj.occ.length:Nat),.slice lvh.ao outs.length lvh.cap,.slice h3.ao q.head.l.length h3.cap]) ?_ ?_ ?_
    case refine_3=>exact HF
    case refine_2=>rfl
    simp [results,Tryz.results48,go_sem,r0,r1,r2]
end Go.Proofs.YtiijaaohphokcaaGreatDoor

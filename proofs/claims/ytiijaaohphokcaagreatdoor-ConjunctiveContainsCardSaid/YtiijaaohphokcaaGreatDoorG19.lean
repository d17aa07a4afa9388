/- conjunctive.numbered's closure: the slots with their variables numbered. -/
import Derived.Test.YtiijaaohphokcaaGreatDoorG18
import Derived.Test.YtiijaaohphokcaaGreatDoorG09
set_option maxRecDepth 100000
set_option maxHeartbeats 16000000
namespace Go.Proofs.YtiijaaohphokcaaGreatDoor
open Go.RowKit Go.Maps
set_option maxRecDepth 10000
theorem NM.block {x:World} {b:Nat} {o:List Nat} (h:NM x b o) : ∃es clock,x.heap[b]? = some (.map es clock):=by
 obtain⟨D,⟨es,clock,hb,_⟩,_⟩:=h;exact⟨es,clock,hb⟩
theorem NM.cell_ne {x:World} {b:Nat} {o:List Nat} (h:NM x b o) {c j:Nat} {v:Value} (hc:x.cell? ⟨c,j,none⟩ =some v) :c≠b:=by
 intro e;subst e;obtain⟨es,clock,hb⟩:=h.block;simp [World.cell?,hb]at hc
theorem take_occ (o:List Nat) (l:List (Tm V)) {i:Nat} (hi:i<l.length) :occL o (l.take (i+1)) =occT (occL o (l.take i)) l[i]:=by
 unfold occL
 rw [List.take_succ_eq_append_getElem hi,List.foldl_append]
 rfl
theorem ren_one {o o':List Nat} (h:o <+: o') {t:Tm V} (ht: ∀x,t = .v x→x∈o) :ren o' t=ren o t:=by
 have:=ren_pre h (l:= [t]) (fun x hx=>ht x (List.mem_singleton.1 hx).symm)
 simpa using this
def TyAt (x:World) (b:Nat) (T:TypeId) :Prop:=∃cur,x.heap[b]? = some (.cells cur T (0,0))
theorem TyAt.lt {x:World} {b:Nat} {T:TypeId} (h:TyAt x b T) :b<x.heap.size:=by obtain⟨c,h⟩:=h;exact(Array.getElem?_eq_some_iff.1 h).1
theorem TyAt.grown {x y:World} {b:Nat} {T:TypeId} {row:Option Nat} (h:TyAt x b T) (hg:x.grownBy y row) (hne:some b≠row) :TyAt y b T:=by
 have hl:=h.lt;obtain⟨c,h⟩:=h;exact⟨c,by rw [hg.block b hl hne];exact h⟩
theorem TyAt.set {x:World} {b:Nat} {T:TypeId} (h:TyAt x b T) (j:Nat) (v:Value) :TyAt (x.setCell ⟨b,j,none⟩ v) b T:=by
 obtain⟨c,h⟩:=h;exact⟨_,heap_setCell_same x b j c T v h⟩
theorem TyAt.ne {x:World} {b c:Nat} {T U:TypeId} (h:TyAt x b T) (k:TyAt x c U) (hne:T≠U) :b≠c:=by
 intro e;subst e;obtain⟨c1,h⟩:=h;obtain⟨c2,k⟩:=k;rw [h]at k;injection k with k;injection k with _ k _;exact hne k
theorem TyAt.own {x:World} {base k size:Nat} {e:TypeId} {v:Value} {xs:List Value} (h:x.ownsRow base e size v k xs) {b:Nat} (hb:v.ownBlock=some b) :TyAt x b e:=by
 obtain⟨-,⟨rfl,-⟩ | ⟨g',cap,cur,rfl,-,hh,-⟩⟩:=h
 ·cases hb
 ·injection hb with hb
  subst hb;exact⟨cur,hh⟩
theorem TyAt.box {x:World} {b:Nat} {T:TypeId} {c:Array Value} (h:Box x b c T) :TyAt x b T:=⟨c,h⟩
theorem TyAt.map {x:World} {b m:Nat} {T:TypeId} {o:List Nat} (h:TyAt x b T) (k:NM x m o) :b≠m:=by
 intro e;subst e;obtain⟨es,clock,hb⟩:=k.block;obtain⟨c,h⟩:=h;rw [hb]at h
 cases h
structure NW (w:World) (g mb:Nat) (l:List (Tm V)) (o:List Nat) (i:Nat) (x:World) :Prop where
 gr:w.grownBy x (some mb)
 nm:NM x mb (occL o (l.take i))
 at': ∀j (hj:j<l.length) c v,(Tm.cells (if j<i then ren (occL o (l.take i)) l[j] else l[j]))[c]? = some v→x.cell? ⟨g,j*4+c,none⟩ =some v
 fr: ∀j,x.frozen? ⟨g,j,none⟩ =false
 lo:w.heap.size≤g
 hi:g<x.heap.size
 ty:TyAt x g 83
theorem NW.grown {w x y:World} {g mb:Nat} {l:List (Tm V)} {o:List Nat} {i:Nat} (h:NW w g mb l o i x) (hb:Below x.heap.size x y) :NW w g mb l o i y:=
 ⟨h.gr.trans ((only_below hb (some mb))),h.nm.below hb,fun j hj c v hv=>by rw [hb.cell (p:=⟨g,j*4+c,none⟩) h.hi];exact h.at' j hj c v hv,fun j=>by simp only [World.frozen?];rw [hb.block g h.hi];exact h.fr j,h.lo,Nat.lt_of_lt_of_le h.hi hb.size,h.ty.grown (only_below hb none) (by simp)⟩
theorem NW.mem {w x:World} {g mb:Nat} {l:List (Tm V)} {o:List Nat} {i:Nat} (_:NW w g mb l o i x) {j:Nat} (hj:j<l.length) (hji:j<i) (n:Nat) (e:l[j] = .v n) :n∈occL o (l.take i):=by
 refine occL_mem _ _ _ ?_
 rw [←e];rw [List.mem_take_iff_getElem];exact⟨j,by omega,rfl⟩
theorem NW.con {w x:World} {g mb:Nat} {l:List (Tm V)} {o:List Nat} {i:Nat} (h:NW w g mb l o i x) (hi:i<l.length) {k:V} (hk:l[i] = .c k) :NW w g mb l o (i+1) x:=by
 have e:occL o (l.take (i+1)) =occL o (l.take i):=by rw [take_occ o l hi,hk];rfl
 refine⟨h.gr,by rw [e];exact h.nm,fun j hj c v hv=>h.at' j hj c v ?_,h.fr,h.lo,h.hi,h.ty⟩
 rw [e]at hv;by_cases hji:j<i
 ·rw [if_pos (by omega)]at hv;rw [if_pos hji];exact hv
 ·rw [if_neg hji]
  by_cases hj2:j=i
  ·subst hj2
   rw [if_pos (by omega),hk]at hv
   rw [hk];exact hv
  ·rw [if_neg (by omega)]at hv;exact hv
theorem NW.var {w x y:World} {g mb:Nat} {l:List (Tm V)} {o:List Nat} {i:Nat} (h:NW w g mb l o i x) (hi:i<l.length) {n:Nat} (hk:l[i] = .v n) (hg:x.grownBy y (some mb)) (hm:NM y mb (occT (occL o (l.take i)) (.v n:Tm V))) (hmb:mb<w.heap.size) :NW w g mb l o (i+1) (y.setCell ⟨g,i*4,none⟩ (.int .i64 ((occT (occL o (l.take i)) (.v n:Tm V)).idxOf n:Nat))):=by
 have hgm:g≠mb:=by have:=h.lo;omega
 have hyg:y.heap[g]? = x.heap[g]? :=hg.block g h.hi (by intro e;injection e with e;exact hgm e)
 have hs:=gb_set y g (i*4) (.int .i64 ((occT (occL o (l.take i)) (.v n:Tm V)).idxOf n:Nat));have e:occL o (l.take (i+1)) =occT (occL o (l.take i)) (.v n:Tm V):=by rw [take_occ o l hi,hk]
 have hyc: ∀j (hj:j<l.length) c v,(Tm.cells (if j<i then ren (occL o (l.take i)) l[j] else l[j]))[c]? = some v→y.cell? ⟨g,j*4+c,none⟩ =some v:=fun j hj c v hv=>by
  rw [World.cell?_of_block (w:=x) (a:=⟨g,j*4+c,none⟩) hyg];exact h.at' j hj c v hv
 refine⟨gb_then (h.gr.trans hg) hs h.lo,by rw [e];exact hm.grown hs (by intro e;injection e with e;exact hgm e.symm),fun j hj c v hv=> ?_,fun j=>by rw [frozen_set];simp only [World.frozen?];rw [hyg];exact h.fr j,h.lo,by simpa using Nat.lt_of_lt_of_le h.hi hg.size,(h.ty.grown hg (by intro e;injection e with e;exact hgm e)).set _ _⟩
 rw [e]at hv;have hc:c<4:=by have:=(List.getElem?_eq_some_iff.1 hv).1;rwa [Tm.cells_len]at this
 by_cases hji:j=i
 ·subst hji
  rw [if_pos (by omega),hk]at hv
  have h0:=hyc j hj 0 (.int .i64 (n:Nat)) (by rw [if_neg (by omega),hk];rfl)
  by_cases hc0:c=0
  ·subst hc0
   rw [Nat.add_zero]at h0 ⊢;rw [World.cell?_setCell_same _ _ _ h0];exact hv
  ·rw [cell_set_ne (by omega)]
   refine hyc j hj c v ?_
   rw [if_neg (by omega),hk]
   have:c=1∨c=2∨c=3:=by omega
   rcases this with rfl|rfl|rfl<;>exact hv
 ·rw [cell_set_ne (by omega)]
  refine hyc j hj c v ?_
  by_cases hj2:j<i
  ·rw [if_pos (by omega),ren_one (occT_pre _ _) (fun m em=>h.mem hj hj2 m em)]at hv
   rw [if_pos hj2];exact hv
  ·rw [if_neg (by omega)]at hv
   rw [if_neg hj2];exact hv
theorem NW.row {w x:World} {g mb cap:Nat} {l:List (Tm V)} {o:List Nat} (h:NW w g mb l o l.length x) (hc:l.length≤cap) (hm:cap≤maxLen) :Row x 4 Tm.cells ⟨some ⟨g,0,none⟩,cap⟩ (l.map (ren (occL o l))):=by
 refine⟨by rw [List.length_map];exact hc,hm,fun _=>⟨rfl,h.hi⟩,fun i hi j v hv=> ?_⟩
 rw [List.length_map]at hi
 show x.cell? ⟨g,0+i*4+j,none⟩ =some v
 rw [Nat.zero_add];refine h.at' i hi j v ?_
 rw [if_pos hi,List.take_length]
 rwa [List.getElem_map]at hv
theorem NW.start {w x:World} {g mb cap:Nat} {l:List (Tm V)} {o:List Nat} (hb:Below w.heap.size w x) (hm:NM w mb o) (ho:x.ownsRow w.heap.size 83 4 (.slice (some ⟨g,0,none⟩) l.length cap) l.length (l.flatMap Tm.cells)) :NW w g mb l o 0 x:=by
 have l1:=ho.lt g rfl;refine⟨only_below hb _,hm.below hb,fun j hj c v hv=> ?_,fun j=>ho.frozenAt j,l1.1,l1.2,.own ho rfl⟩
 have hc:c<4:=by have:=(List.getElem?_eq_some_iff.1 hv).1;rwa [Tm.cells_len]at this
 rw [if_neg (by omega)]at hv
 rw [ho.cellAt (j*4+c) (by omega),flatMap_at (cells:=Tm.cells) (size:=4) Tm.cells_len l j c hj hc]
 exact hv
theorem occ_len (o:List Nat) : ∀l:List (Tm V),(occL o l).length≤o.length+l.length:=by
 intro l
 induction l generalizing o with
 | nil=>exact Nat.le_refl _
 | cons t l ih=>
  have h1:=ih (occT o t);have h2: (occT o t).length≤o.length+1:=by
   cases t with
   | c k=>exact Nat.le_succ _
   | v n=>rw [occT_v];split<;>simp
  show(occL (occT o t) l).length≤_
  simp only [List.length_cons];omega
end Go.Proofs.YtiijaaohphokcaaGreatDoor
/- conjunctive.numbered's closure: its walk. -/
namespace Go.Proofs.YtiijaaohphokcaaGreatDoor
open Go.RowKit Go.Maps
def NclPost (w:World) (mb:Nat) (l:TL) (o:List Nat) (e:Ending) (w':World) :Prop:=∃h:Hd,e = .returned (.slice h.ao l.l.length h.cap)∧Row w' 4 Tm.cells h (l.l.map (ren (occL o l.l)))∧w.heap.size≤h.b∧TyAt w' h.b 83∧NM w' mb (occL o l.l)∧w.grownBy w' (some mb)
theorem nclo_any (l:TL) (B nb mb:Nat) (o:List Nat) (w:World) (hl:l.In w B) (hp:0<l.l.length) (hs:l.l.length≤1000) (hos:o.length≤100000) (hnb:w.cell? ⟨nb,0,none⟩ =some (.map (some mb))) (hm:NM w mb o) :
  Calls Tryz.prog 88 #[.slice l.h.ao l.l.length l.h.cap,.pointer (some ⟨nb,0,none⟩)] w (NclPost w mb l o):=by
 have HCL:=ai (clone_slots l.h l.l w hl.row hp hs);have HM:=ai hm;have HWF:=ai hl.wf;have HNE:=ai (hm.cell_ne hnb);have HNB:=ai hnb;have hln:nb<w.heap.size:=World.block_lt_of_cell? w ⟨nb,0,none⟩ hnb;have HLM:=ai hm.lt;clear hl hm hnb
 go_enter Tryz.func88,Tryz.ntmps88;go_wp2_with (go_at_call 89;refine HCL.o.mono ?_;rintro e X ⟨g,cap,rfl,ho,hb⟩;have HN0:=ai (NW.start hb HM.o ho);have HCAP:=ai (show l.l.length≤cap∧cap≤maxLen from by rcases ho.2 with⟨h,_⟩ | ⟨g',cap',cur,hv,_,_,h1,h2,_⟩;(cases h);(cases hv;exact⟨h1,h2⟩));clear ho hb)
 clear HCL HM;go_loopw [13] (fun i wr=>∃k:Nat,k≤l.l.length∧i = .int .i64 k∧Hid (NW w g mb l.l o k wr)) (fun i _=>l.l.length - (intOf i).toNat)
 case atStart=>exact⟨0,Nat.zero_le _,rfl,HN0.o⟩
 clear HN0
 case round=>
  obtain⟨k,hk,rfl,HW⟩:=hrel;by_cases hlt:k<l.l.length
  ·have hnr:wr.cell? ⟨nb,0,none⟩ =some (.map (some mb)):=by
    rw [World.cell?_of_block (w:=w) (a:=⟨nb,0,none⟩) (HW.o.gr.block nb hln (by intro e;injection e with e;exact HNE.o e))]
    exact HNB.o
   have hln2:nb<wr.heap.size:=World.block_lt_of_cell? wr ⟨nb,0,none⟩ hnr;have hi2:=HW.o.hi;have hixg: ∀W,(Instr.indexAt 30 (.slice (some ⟨g,0,none⟩) l.l.length cap) (.int .i64 (k:Nat))).run Tryz.prog W = .ok (.pointer (some ⟨g,k*4,none⟩)) W:=fun W=>by
    obtain⟨j,hj,hsz⟩:=Option.map_eq_some_iff.1 szslot;have he:Tryz.prog.elem 30=83:=by simp [Program.elem,Tryz.underlying30]
    rw [run_indexAt_slice _ _ _ _ _ _ _ (by rw [he];exact Tryz.underlying30),he,if_pos ⟨by omega,by omega⟩]
    simp [sizeOf,typeInfo,hj,hsz,Addr.add_lit]
   have HCO:=ai (fun(kk:V) (e:l.l[k] = .c kk)=>HW.o.con hlt e)
   have HVA:=ai (fun(n:Nat) (e:l.l[k] = .v n) (x y:World) (hb:Below wr.heap.size wr x) (hg:x.grownBy y (some mb)) (hm:NM y mb (occT (occL o (l.l.take k)) (.v n:Tm V)))=>(HW.o.grown hb).var hlt e hg hm HLM.o)
   have hcs: ∀c v,(Tm.cells l.l[k])[c]? = some v→wr.cell? ⟨g,k*4+c,none⟩ =some v:=fun c v hv=>HW.o.at' k hlt c v (by rw [if_neg (by omega)];exact hv)
   have HWK:=ai (HWF.o _ (List.getElem_mem hlt));obtain⟨t,ht⟩ : ∃t,l.l[k] =t:=⟨_,rfl⟩;rw [ht]at hcs HWK;simp only [ht]at HCO HVA;clear ht;have HLT:=ai hlt;clear hlt;rw [Tm.cells_eq]at hcs;have c0:wr.cell? ⟨g,k*4,none⟩ =some (.int .i64 t.nr):=hcs 0 _ rfl;have c1:wr.cell? ⟨g,k*4+1,none⟩ =some (.int .i64 t.val.kind):=hcs 1 _ rfl;have c2:wr.cell? ⟨g,k*4+2,none⟩ =some (.int .i64 t.val.num):=hcs 2 _ rfl;have c3:wr.cell? ⟨g,k*4+3,none⟩ =some (.string t.val.text):=hcs 3 _ rfl;obtain⟨VV,hV⟩ : ∃VV,wr.alloc (.cells #[.int .i64 t.nr,.int .i64 t.val.kind,.int .i64 t.val.num,.string t.val.text] 83) =VV:=⟨_,rfl⟩;have HVB:=ai (box1X hV).2;have HVX:=ai (box1X hV).1;have HWV:=ai (HW.o.grown HVB.o);have v0:VV.cell? ⟨nb,0,none⟩ =some (.map (some mb)):=by rw [HVB.o.cell (p:=⟨nb,0,none⟩) hln2];exact hnr
   have v2:VV.cell? ⟨wr.heap.size,0,none⟩ =some (.int .i64 t.nr):=HVX.o.cell rfl;have v3:VV.cell? ⟨g,k*4,none⟩ =some (.int .i64 t.nr):=by rw [HVB.o.cell (p:=⟨g,k*4,none⟩) hi2];exact c0
   have HOL:=ai (Nat.le_trans (occ_len o (l.l.take k)) (show o.length+ (l.l.take k).length≤1000000 by rw [List.length_take];omega))
   go_upto_region 5 with fail
   try rw [hV]
   clear hV c0 c1 c2 c3 hcs HVX hnr
   cases t with
   | c kk=>
    have HY:=ai (HCO.o kk rfl);clear HCO HVA;simp only [Tm.nr]at *;go_wp2;go_roundw
    case rel=>exact⟨k+1,HLT.o,by go_num,HY.o.grown HVB.o⟩
    case measure=>have:=HLT.o;simp [intOf];omega
   | v n=>
    simp only [Tm.nr]at *;have hn0: ¬(n:Int) <0:=by omega
    have hn1:n≤1000000:=by have h:n≤1000:=HWK.o;omega
    have HMV:=ai HWV.o.nm;have HFR:=ai HWV.o.fr;have HGM:=ai HWV.o.lo;have HGH:=ai HWV.o.hi;clear HCO;generalize wr.heap.size=gt at *;obtain⟨ov,hok⟩:=HMV.o.ok hn1;by_cases hin:n∈occL o (l.l.take k)
    ·have HOT:=ai (show occT (occL o (l.l.take k)) (.v n:Tm V) =occL o (l.l.take k)from by rw [occT_v,if_pos hin])
     have hd:decide (n∈occL o (l.l.take k)) =true:=decide_eq_true hin;rw [hd]at hok;have hget:=HMV.o.get hn1 hin;have hfr:=HFR.o (k*4);have HY:=ai (HVA.o n rfl VV VV HVB.o ((only_below (Below.refl _ _) _)) (by rw [HOT.o];exact HMV.o))
     rw [HOT.o]at HY;clear hin hd HVA HFR;generalize (occL o (l.l.take k)).idxOf n=z at *;go_wp2;go_roundw
     case rel=>exact⟨k+1,HLT.o,by go_num,HY.o⟩
     case measure=>have:=HLT.o;simp [intOf];omega
    ·have HOT:=ai (show occT (occL o (l.l.take k)) (.v n:Tm V) =occL o (l.l.take k) ++ [n]from by rw [occT_v,if_neg hin])
     have hd:decide (n∈occL o (l.l.take k)) =false:=decide_eq_false hin;rw [hd]at hok;have hlen:=HMV.o.len;obtain⟨y,hput,hmy,hgy⟩:=HMV.o.put hn1 hin HOL.o;have HMY:=ai hmy;have HGY:=ai hgy;have hget:=hmy.get hn1 (by simp)
     have HIX:=ai (show(occL o (l.l.take k) ++ [n]).idxOf n= (occL o (l.l.take k)).length from by rw [List.idxOf_append,if_neg hin];simp)
     have HY:=ai (HVA.o n rfl VV y HVB.o hgy (by rw [HOT.o];exact hmy))
     rw [HOT.o,HIX.o]at HY;rw [HIX.o]at hget;have hgm:some g≠some mb:=by intro e;injection e with e;have:=HGM.o;have:=HLM.o;omega
     have hnm:some nb≠some mb:=by intro e;injection e with e;exact HNE.o e
     have hyg:y.heap[g]? = VV.heap[g]? :=hgy.block g HGH.o hgm;have y0:y.cell? ⟨nb,0,none⟩ =some (.map (some mb)):=by rw [World.cell?_of_block (w:=VV) (a:=⟨nb,0,none⟩) (hgy.block nb (World.block_lt_of_cell? VV ⟨nb,0,none⟩ v0) hnm)];exact v0
     have y2:y.cell? ⟨gt,0,none⟩ =some (.int .i64 (n:Nat)):=by rw [World.cell?_of_block (w:=VV) (a:=⟨gt,0,none⟩) (hgy.block gt (World.block_lt_of_cell? VV ⟨gt,0,none⟩ v2) (by intro e;injection e with e;exact(HMV.o.cell_ne v2) e))];exact v2
     have y3:y.cell? ⟨g,k*4,none⟩ =some (.int .i64 (n:Nat)):=by rw [World.cell?_of_block (w:=VV) (a:=⟨g,k*4,none⟩) hyg];exact v3
     have hfr:y.frozen? ⟨g,k*4,none⟩ =false:=by simp only [World.frozen?];rw [hyg];exact HFR.o (k*4)
     clear hin hd HVA HFR hmy hgy hgm hnm hyg;generalize (occL o (l.l.take k)).length=z at *;go_wp2;go_roundw
     case rel=>exact⟨k+1,HLT.o,by go_num,HY.o⟩
     case measure=>have:=HLT.o;simp [intOf];omega
  ·obtain rfl:k=l.l.length:=by omega
   have HROW:=ai (HW.o.row HCAP.o.1 HCAP.o.2);have HNM:=ai HW.o.nm;rw [List.take_length]at HNM;go_wp2;go_ret
   exact⟨⟨some ⟨g,0,none⟩,cap⟩,rfl,HROW.o,HW.o.lo,HW.o.ty,HNM.o,HW.o.gr⟩
end Go.Proofs.YtiijaaohphokcaaGreatDoor
/- A region that draws its order: operations in any order, of which one (m) may turn the world's state G; then some that stand one behind another and may do anything. -/
namespace Go
open Go.RowKit
section
variable {P:Program} {ops:Array Oper} {Q:Exit→Act→World→Prop}
theorem gIf_ne {G:Bool→World→Prop} {i m:Nat} {b:Bool} {y:World} (h:i≠m) (hg:G b y) :G (if i=m then true else b) y:=by rw [if_neg h];exact hg
theorem gIf_eq {G:Bool→World→Prop} {i:Nat} {b:Bool} {y:World} (hg:G true y) :G (if i=i then true else b) y:=by rw [if_pos rfl];exact hg
theorem wp_region_tailG {id:Nat} {a:Act} {w:World} (hm:P.follows .mixedOrders=true) (hok:regionOk2 ops=true) (n:Nat) (hn:n<ops.size) (hall:lastOk ops n=true) (hch:chainOk ops n=true) (mk: (Nat→Value)→Act) (s0:Nat→Value) (ha:a=mk s0)
  (m0:Nat) (hm0:m0<n) (R:World→World→Prop) (G:Bool→World→Prop) (hG0:G false w.drew)
  (Φ:Nat→Value→World→Prop) (hmono: ∀i v x y,Φ i v x→R x y→Φ i v y) (sl:Nat→Nat) (hinj: ∀i j,i<n→j<n→sl i=sl j→i=j)
  (hstep: ∀(i:Nat) (o:Oper) (s:Nat→Value) (x:World),i<n→ops[i]? = some o→(∀e∈o.after.toList,Region.binds .any e=true→Φ e.on (s (sl e.on)) x)→∀b,G b x→(i=m0→b=false)→((∃e∈o.after.toList,Region.binds .any e=true∧e.on=m0)→b=true)→
   o.wp P (mk s) x (fun a' y=>∃v,a'=mk (fun k=>if k=sl i then v else s k)∧R x y∧G (if i=m0 then true else b) y∧Φ i v y) Q)
  (hlast: ∀(s:Nat→Value) (x:World),(∀i,i<n→Φ i (s (sl i)) x)→G true x→tailWp P Q (ops.toList.drop n) (mk s) x) : (Code.region id ops true).wp P Q a w:=by
 have hchain: ∀j,n≤j→j+1<ops.size→onOk ops j (j+1) =true:=by
  intro j hj hs;have h:=List.all_eq_true.1 hch (j - n) (List.mem_range.2 (by omega))
  rw [show n+ (j - n) =j by omega]at h
  exact h
 refine wp_region_inv2 hm (fun _ _ ho=>(regionOk2_at hok ho).1) (fun _ _ ho=>(regionOk2_at hok ho).2) (fun L a x=>(∀(i:Nat) (o:Oper),ops[i]? = some o→L i=true→∀e∈o.after.toList,Region.binds .any e=true→L e.on=true)∧(L n=false→∃s,a=mk s∧G (L m0) x∧∀i,i<n→L i=true→Φ i (s (sl i)) x)∧
  (∀m,n≤m→m<ops.size→L m=true→(m+1<ops.size→L (m+1) =false)→tailWp P Q (ops.toList.drop (m+1)) a x)) ⟨fun _ _ _ h=>(by cases h),fun _=>⟨s0,ha,hG0,fun i _ h=>(by cases h)⟩,fun _ _ _ h=>(by cases h)⟩ ?_ ?_
 ·rintro i o L a x ho hL he ⟨hC,hI,hD⟩
  have hi:=(Array.getElem?_eq_some_iff.1 ho).1;have hC2: ∀(j:Nat) (o2:Oper),ops[j]? = some o2→upd L i j=true→∀e∈o2.after.toList,Region.binds .any e=true→upd L i e.on=true:=by
   intro j o2 ho2 hj e h1 h2;have hold:L e.on=true:=by
    by_cases hji:j=i
    ·subst hji;rw [ho]at ho2;injection ho2 with ho2;subst ho2;exact he e h1 h2
    ·unfold upd at hj;rw [if_neg hji]at hj;exact hC j o2 ho2 hj e h1 h2
   unfold upd;split;rfl;exact hold
  have hdown: ∀d,n+d<ops.size→L (n+d) =true→L n=true:=by
   intro d
   induction d with
   | zero=>intro _ h;exact h
   | succ d ih=>
    intro hs h;obtain⟨o2,ho2,e,he2,h3,h4⟩:=onOk_at (hchain (n+d) (by omega) (by omega))
    have:=hC _ o2 ho2 h e he2 h4;rw [h3]at this;exact ih (by omega) this
  have htl: ∀m (o2:Oper),ops[m]? = some o2→ops.toList.drop m=o2 :: ops.toList.drop (m+1):=by
   intro m o2 h2;obtain⟨h3,h4⟩:=Array.getElem?_eq_some_iff.1 h2;rw [List.drop_eq_getElem_cons (by simpa using h3)]
   simp [h4]
  by_cases hin:i<n
  ·have hLn:L n=false:=by
    cases h:L n with
    | false=>rfl
    | true=>
     have:=last_all hall L hC (fun o2 ho2 e h1 h2=>hC n o2 ho2 h e h1 h2) i hin
     rw [this]at hL;cases hL
   obtain⟨s,rfl,hb,hΦ⟩:=hI hLn;refine Oper.wp_mono ?_ (hstep i o s x hin ho (fun e h1 h2=>hΦ _ (Nat.lt_trans ((regionOk2_at hok ho).2 e h1 h2) hin) (he e h1 h2)) (L m0) hb (fun e=>by rw [←e];exact hL) (fun⟨e,h1,h2,h3⟩=>by rw [←h3];exact he e h1 h2))
   rintro a' y ⟨v,rfl,hb2,hg2,hv⟩;refine⟨hC2,fun _=>⟨_,rfl,by unfold upd;by_cases e:i=m0;(rw [if_pos e]at hg2;rw [if_pos e.symm];exact hg2);(rw [if_neg e]at hg2;rw [if_neg (fun h=>e h.symm)];exact hg2),fun j hj hLj=> ?_⟩,fun m hm1 hm2 hm3=> ?_⟩
   ·by_cases hji:j=i
    ·subst hji
     show Φ j (if sl j=sl j then v else s (sl j)) y
     rw [if_pos rfl];exact hv
    ·show Φ j (if sl j=sl i then v else s (sl j)) y
     rw [if_neg (fun h=>hji (hinj _ _ hj hin h))]
     exact hmono _ _ _ _ (hΦ j hj (by unfold upd at hLj;rwa [if_neg hji]at hLj)) hb2
   ·exfalso
    unfold upd at hm3
    rw [if_neg (by omega)]at hm3
    have h9:=hdown (m - n) (by omega) (by rw [show n+ (m - n) =m by omega];exact hm3)
    rw [hLn]at h9;cases h9
  ·have hT:tailWp P Q (o :: ops.toList.drop (i+1)) a x:=by
    by_cases hie:i=n
    ·subst hie
     obtain⟨s,rfl,hb,hΦ⟩:=hI hL;rw [←htl _ o ho];have hall2:=last_all hall L hC (fun o2 ho2=>by rw [ho]at ho2;injection ho2 with ho2;subst ho2;exact he)
     rw [hall2 m0 hm0]at hb;exact hlast s x (fun j hj=>hΦ j hj (hall2 j hj)) hb
    ·obtain⟨o2,ho2,e,he2,h3,h4⟩:=onOk_at (hchain (i - 1) (by omega) (by omega))
     rw [show i - 1+1=i by omega]at ho2
     rw [ho]at ho2;injection ho2 with ho2;subst ho2;have h5:=he e he2 h4;rw [h3]at h5;have h6:=hD (i - 1) (by omega) (by omega) h5 (fun _=>by rw [show i - 1+1=i by omega];exact hL)
     rw [show i - 1+1=i by omega,htl _ o ho]at h6
     exact h6
   refine Oper.wp_mono ?_ hT
   intro a' y hy;refine⟨hC2,fun h=> ?_,fun m hm1 hm2 hm3 hm4=> ?_⟩
   ·exfalso
    by_cases hie:i=n
    ·subst hie;unfold upd at h;rw [if_pos rfl]at h;cases h
    ·unfold upd at h
     rw [if_neg (by omega)]at h
     obtain⟨o2,ho2,e,he2,h3,h4⟩:=onOk_at (hchain (i - 1) (by omega) (by omega))
     rw [show i - 1+1=i by omega]at ho2
     rw [ho]at ho2;injection ho2 with ho2;subst ho2;have h5:=he e he2 h4;rw [h3]at h5;have h9:=hdown (i - 1 - n) (by omega) (by rw [show n+ (i - 1 - n) =i - 1 by omega];exact h5)
     rw [h]at h9;cases h9
   ·by_cases hmi:m=i
    ·subst hmi;exact hy
    ·exfalso
     unfold upd at hm3
     rw [if_neg hmi]at hm3;have hlt:m<i:=by
      rcases Nat.lt_or_ge m i with h|h
      ·exact h
      ·have key: ∀d,i+d<ops.size→L (i+d) =true→L i=true:=by
        intro d
        induction d with
        | zero=>intro _ h;exact h
        | succ d ih=>
         intro hs h;obtain⟨o2,ho2,e,he2,h3,h4⟩:=onOk_at (hchain (i+d) (by omega) (by omega))
         have:=hC _ o2 ho2 h e he2 h4;rw [h3]at this;exact ih (by omega) this
       have:=key (m - i) (by omega) (by rw [show i+ (m - i) =m by omega];exact hm3)
       rw [hL]at this;cases this
     have h7:=hm4 (by omega)
     have key: ∀d,i - d≥m+1→upd L i (i - d) =true:=by
      intro d
      induction d with
      | zero=>intro _;unfold upd;exact if_pos rfl
      | succ d ih=>
       intro hs;have h8:=ih (by omega)
       obtain⟨o2,ho2,e,he2,h3,h4⟩:=onOk_at (hchain (i - (d+1)) (by omega) (by omega))
       rw [show i - (d+1) +1=i - d by omega]at ho2
       have h9:=hC2 _ o2 ho2 h8 e he2 h4;rw [h3]at h9;exact h9
     have h8:=key (i - (m+1)) (by omega)
     rw [show i - (i - (m+1)) =m+1 by omega,h7]at h8
     cases h8
 ·rintro L a x hL ⟨_,_,hD⟩
  have h:=hD (ops.size - 1) (by omega) (by omega) (hL _ (by omega)) (fun h=>by omega)
  rw [show ops.size - 1+1=ops.size by omega,List.drop_of_length_le (by simp)]at h
  exact h
end
end Go

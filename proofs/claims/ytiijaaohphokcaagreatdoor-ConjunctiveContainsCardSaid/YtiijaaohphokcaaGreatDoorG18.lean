/- slices.Delete of one literal. -/
import Derived.Test.YtiijaaohphokcaaGreatDoorG17
import Derived.Deep.Upon
import Derived.Maps.OwnSet
set_option maxRecDepth 100000
set_option maxHeartbeats 16000000
namespace Go.Proofs.YtiijaaohphokcaaGreatDoor
open Go.RowKit Go.Shelf
theorem World.size_setCells' (b:Nat) : ∀(vs:List Value) (o:Nat) (w:World),(w.setCells b o vs).heap.size=w.heap.size
 | [],_,_=>rfl
 | v :: vs,o,w=>by
  show((w.setCell _ _).setCells b _ vs).heap.size=_
  rw [World.size_setCells' b vs];simp [World.setCell]
theorem World.tape_setCells' (b:Nat) : ∀(vs:List Value) (o:Nat) (w:World),(w.setCells b o vs).tape=w.tape
 | [],_,_=>rfl
 | v :: vs,o,w=>by
  show((w.setCell _ _).setCells b _ vs).tape=_
  rw [World.tape_setCells' b vs]
  rfl
theorem zc_lit: (Builtin.zeroCells (Value.agg #[.int .i64 0,.slice none 0 0]).cells 1).toList = [.int .i64 0,.slice none 0 0]:=by kernel_rfl
theorem delete_raw (g cap n i r:Nat) (w:World) (hn:n=i+1+r) (hcap:n≤cap) (hm:cap≤maxLen) (news:List Value) (hl:news.length=r*2) (hsrc: ∀t u,news[t]? = some u→w.cell? ⟨g,(i+1) *2+t,none⟩ =some u) (h1c: ∀u∈news,u.oneCell'=true)
  (hso: ∀j,j<n*2→(w.cell? ⟨g,j,none⟩).isSome=true) (hfr: ∀j,w.frozen? ⟨g,j,none⟩ =false) :
  Calls Tryz.prog 45 #[.slice (some ⟨g,0,none⟩) n cap,.int .i64 (i:Nat),.int .i64 ((i:Nat) +1:Int)] w fun e w'=>e = .returned (.slice (some ⟨g,0,none⟩) (i+r) cap)∧∃m,w'= ((w.drewN m).setCells g (i*2) news).setCells g ((i+r) *2) [.int .i64 0,.slice none 0 0]:=by
 obtain⟨i0,hi0,_,hz1,_⟩:=info_parts info_lit;have hm9:cap≤9223372036854775807:=by unfold maxLen at hm;omega
 obtain⟨A,hA,hsrc2⟩ : ∃A:Addr,(if cap=i+1 then some (⟨g,0,none⟩ :Addr) else some ⟨g,(i+1) *2,none⟩) =some A∧Hid (∀t u,news[t]? = some u→w.drew.cell? (A.add t) =some u):=by
  by_cases h:cap=i+1
  ·refine⟨⟨g,0,none⟩,by simp [h],fun t u hu=> ?_⟩
   have h0:news.length=0:=by rw [hl];omega
   rw [List.length_eq_zero_iff.1 h0]at hu;simp at hu
  ·exact⟨⟨g,(i+1) *2,none⟩,by simp [h],fun t u hu=>by rw [Addr.add_lit];exact hsrc t u hu⟩
 have s3:Hid (∀t,t<news.length→(w.drew.cell? ⟨g,0+i*2+t,none⟩).isSome=true∧w.drew.frozen? ⟨g,0+i*2+t,none⟩ =false):=fun t ht=>⟨hso _ (by omega),hfr _⟩
 have s1:=ai hl;have s2:=ai h1c;obtain⟨W1,hW1⟩ : ∃W1,W1=w.drew.setCells g (0+i*2) news:=⟨_,rfl⟩;have hcl: ∀ty,(Builtin.clear_ #[29] ty #[.slice (some ⟨g,(i+r) *2,none⟩) 1 (cap - (i+r))]).run Tryz.prog W1 = .ok (.tuple #[]) (W1.setCells g ((i+r) *2) [.int .i64 0,.slice none 0 0]):=
  fun ty=>run_clear_one W1 _ _ ty _ [.int .i64 0,.slice none 0 0] Tryz.underlying29 zero_lit zc_lit (by intro v hv;simp only [List.mem_cons,List.not_mem_nil,or_false]at hv;rcases hv with rfl|rfl<;>rfl) g ((i+r) *2) _ (fun t ht=>by
   have ht:t<2:=ht;rw [hW1];exact World.isSome_setCells _ _ _ _ _ (hso _ (by omega))) (fun t ht=>by rw [hW1,World.frozen?_setCells];exact hfr _)
 have hW:=ai hW1;have hic:i≤cap:=by omega
 have hjc:i+1≤cap:=by omega
 have hne: ¬(i:Int) = (i:Int) +1:=by omega
 have hlt:n - (i+r) =1:=by omega
 have hne2: ¬cap=i+r:=by omega
 clear hW1 hsrc h1c hso hfr hl;have hmx:=mixed;have hb0: (0:Int)≤(i:Int) +1:=by omega
 have hb1: (i:Int) +1≤(i:Int) +1+ (r:Int):=by omega
 have hb2: (0:Int)≤(i:Int) + (r:Int):=by omega
 have hb3: (i:Int) + (r:Int)≤(i:Int) +1+ (r:Int):=by omega
 have hb4: (i:Int) +1+ (r:Int)≤(cap:Int):=by omega
 subst hn
 go_enter Tryz.func45,Tryz.ntmps45;go_wp2_with fail
 go_region_law_o (refine step_append_room rfl (.tmp 22) (.tmp 25) 29 rfl 56 i0 2 Tryz.underlying29 hi0 hz1 g 0 i cap (by simp [Act.eval,Act.put]) A r (cap - (i+1)) news (by simp [Act.eval,Act.put]) s1.o hsrc2.o s2.o (by omega) s3.o ?_;rw [←hW.o])
 go_wp2;go_ret
 exact⟨rfl,1,by rw [hW.o,Nat.zero_add];rfl⟩
theorem drewN_cell (w:World) (m:Nat) (a:Addr) : (w.drewN m).cell? a=w.cell? a:=rfl
theorem delete_lits (g cap base:Nat) (xs:List Li) (i:Nat) (w:World) (hi:i<xs.length) (ho:w.ownsRow base 56 2 (.slice (some ⟨g,0,none⟩) xs.length cap) xs.length (xs.flatMap Li.cells)) :
  Calls Tryz.prog 45 #[.slice (some ⟨g,0,none⟩) xs.length cap,.int .i64 (i:Nat),.int .i64 ((i:Nat) +1:Int)] w fun e w'=>e = .returned (.slice (some ⟨g,0,none⟩) (xs.eraseIdx i).length cap)∧Row w' 2 Li.cells ⟨some ⟨g,0,none⟩,cap⟩ (xs.eraseIdx i)∧w.grownBy w' (some g):=by
 obtain⟨r,hr⟩ : ∃r,xs.length=i+1+r:=⟨xs.length - (i+1),by omega⟩
 have hlen: (xs.flatMap Li.cells).length=xs.length*2:=flatMap_len (cells:=Li.cells) (size:=2) (fun _=>rfl) xs
 have hcell: ∀k (hk:k<xs.length) j,j<2→w.cell? ⟨g,k*2+j,none⟩ = (Li.cells xs[k])[j]? :=fun k hk j hj=>by
  rw [ho.cellAt (k*2+j) (by omega)]
  exact flatMap_at (cells:=Li.cells) (size:=2) (fun _=>rfl) xs k j hk hj
 have hform:xs.length≤cap∧cap≤maxLen:=by
  rcases ho.2 with⟨h,_⟩ | ⟨g',cap',cur,hv,_,_,h1,h2,_⟩
  ·cases h
  ·cases hv;exact⟨h1,h2⟩
 have hdl: ((xs.drop (i+1)).flatMap Li.cells).length=r*2:=by rw [flatMap_len (cells:=Li.cells) (size:=2) (fun _=>rfl),List.length_drop,hr,Nat.add_sub_cancel_left]
 have hnews: ∀k (hk:k<r) j,j<2→((xs.drop (i+1)).flatMap Li.cells)[k*2+j]? = (Li.cells (xs[i+1+k]'(by omega)))[j]? :=fun k hk j hj=>by
  have hk2:k< (xs.drop (i+1)).length:=by rw [List.length_drop];omega
  rw [flatMap_at (cells:=Li.cells) (size:=2) (fun _=>rfl) _ k j hk2 hj,List.getElem_drop]
 have hsrc: ∀t u,((xs.drop (i+1)).flatMap Li.cells)[t]? = some u→w.cell? ⟨g,(i+1) *2+t,none⟩ =some u:=fun t u hu=>by
  have ht:=(List.getElem?_eq_some_iff.1 hu).1;rw [hdl]at ht;have h1:=hnews (t / 2) (by omega) (t % 2) (by omega)
  rw [show t / 2*2+t % 2=t by omega,hu]at h1
  have h2:=hcell (i+1+t / 2) (by omega) (t % 2) (by omega)
  rw [show(i+1+t / 2) *2+t % 2= (i+1) *2+t by omega]at h2
  rw [h2,←h1]
 have hone: ∀u∈(xs.drop (i+1)).flatMap Li.cells,u.oneCell'=true:=fun u hu=>by
  obtain⟨l,_,hul⟩:=List.mem_flatMap.1 hu;rcases List.mem_cons.1 hul with rfl|hul
  ·rfl
  ·rw [List.mem_singleton.1 hul];rfl
 have hso: ∀j,j<xs.length*2→(w.cell? ⟨g,j,none⟩).isSome=true:=fun j hj=>by
  rw [ho.cellAt j (by omega),List.getElem?_eq_getElem (by omega)];rfl
 refine(delete_raw g cap xs.length i r w hr hform.1 hform.2 _ hdl hsrc hone hso (fun j=>ho.frozenAt j)).mono ?_
 rintro e w' ⟨rfl,m,rfl⟩;have hel: (xs.eraseIdx i).length=i+r:=by rw [List.length_eraseIdx_of_lt hi];omega
 have hlt:=(ho.lt g rfl).2;refine⟨by rw [hel],⟨by rw [hel];show i+r≤cap;omega,hform.2,fun _=>⟨rfl,?_⟩,fun k hk j u hu=> ?_⟩,?_⟩
 ·show g<_
  rw [World.size_setCells',World.size_setCells'];exact hlt
 ·rw [hel]at hk
  have hj:j<2:=(List.getElem?_eq_some_iff.1 hu).1
  show World.cell? _ ⟨g,0+k*2+j,none⟩ =some u
  rw [Nat.zero_add,World.cell?_setCells_out _ _ _ _ _ (fun _ _=>.inl (by show k*2+j< (i+r) *2;omega))]
  by_cases hki:k<i
  ·rw [World.cell?_setCells_out _ _ _ _ _ (fun _ _=>.inl (by show k*2+j<i*2;omega)),drewN_cell,hcell k (by omega) j hj,←hu,List.getElem_eraseIdx_of_lt _ hki]
  ·obtain⟨q,rfl⟩ : ∃q,k=i+q:=⟨k - i,by omega⟩
   have hin:=World.cell?_setCells_in g ((xs.drop (i+1)).flatMap Li.cells) (i*2) (w.drewN m) (fun t ht=>by rw [drewN_cell];exact hso _ (by omega)) (q*2+j) (by omega)
   rw [show i*2+ (q*2+j) = (i+q) *2+j by omega]at hin
   rw [hin,←List.getElem?_eq_getElem,hnews q (by omega) j hj,←hu,List.getElem_eraseIdx_of_ge _ (by omega)]
   congr 3
   omega
 ·refine⟨?_,?_,?_,?_,fun k hkk hne=> ?_⟩
  ·rw [World.os_setCells,World.os_setCells];rfl
  ·rw [World.tape_setCells',World.tape_setCells'];rfl
  ·rw [World.output_setCells,World.output_setCells];rfl
  ·rw [World.size_setCells',World.size_setCells'];exact Nat.le_refl _
  ·have hkg:k≠g:=fun e=>hne (by rw [e])
   rw [World.heap_setCells_other _ _ _ _ (by rw [World.size_setCells'];exact hkk) hkg]
   exact World.heap_setCells_other (w.drewN m) _ _ _ hkk hkg
end Go.Proofs.YtiijaaohphokcaaGreatDoor
/- conjunctive.covered: whether each variable of the head stands in a literal. -/
namespace Go.Proofs.YtiijaaohphokcaaGreatDoor
open Go.RowKit
theorem sclo_any (x:Int) (y:Tm V) (c:Nat) (w:World) (hc:w.cell? ⟨c,0,none⟩ =some (.int .i64 x)) :
  Calls Tryz.prog 85 #[.agg #[.int .i64 y.nr,.int .i64 y.val.kind,.int .i64 y.val.num,.string y.val.text],.pointer (some ⟨c,0,none⟩)] w fun e w'=>e = .returned (.bool (y.nr == x))∧Below w.heap.size w w':=by
 have hlc:c<w.heap.size:=World.block_lt_of_cell? w ⟨c,0,none⟩ hc
 go_enter Tryz.func85,Tryz.ntmps85;go_wp2;go_ret
 exact⟨rfl,belA _⟩
theorem lclo_any (x:Int) (l:Li) (B c:Nat) (w:World) (hl:l.sl.In w B) (hc:w.cell? ⟨c,0,none⟩ =some (.int .i64 x)) :
  Calls Tryz.prog 83 #[.agg #[.int .i64 (l.tab:Nat),.slice l.sl.h.ao l.sl.l.length l.sl.h.cap],.pointer (some ⟨c,0,none⟩)] w fun e w'=>e = .returned (.bool (l.sl.l.any (fun y=>y.nr == x)))∧Below w.heap.size w w':=by
 have hlc:c<w.heap.size:=World.block_lt_of_cell? w ⟨c,0,none⟩ hc;have HB0:=ai (belA (w:=w) (.cells #[.int .i64 (l.tab:Nat),.slice l.sl.h.ao l.sl.l.length l.sl.h.cap] 56))
 have HC:=ai (csl_cont (fun y=>y.nr == x) l.sl.h l.sl.l c _ (hl.mono HB0.o).row (fun W hW y _=>sclo_any x y c W (by rw [hW.cell (p:=⟨c,0,none⟩) (Nat.lt_of_lt_of_le hlc HB0.o.size),HB0.o.cell (p:=⟨c,0,none⟩) hlc];exact hc)))
 clear hl hc
 go_enter Tryz.func83,Tryz.ntmps83;go_wp2_with (go_at_call 84;refine HC.o.mono ?_;rintro e w1 ⟨rfl,hb1⟩;have HB1:=ai hb1;clear hb1)
 go_ret
 exact⟨rfl,bel1 HB1.o⟩
theorem nr_v {y:Tm V} {n:Nat} (h: (y.nr == (n:Int)) =true) :y = .v n:=by
 have h:=eq_of_beq h
 cases y with
 | v m=>have h: (m:Int) =n:=h;rw [Int.ofNat.inj h]
 | c k=>have h: (-1:Int) =n:=h;omega
theorem occ_any (q:Cq) (n:Nat) :q.lits.any (fun l=>l.sl.l.any (fun y=>y.nr == (n:Int))) =true↔Occ q.cj n:=by
 rw [List.any_eq_true]
 constructor
 ·rintro ⟨l,hl,h⟩
  obtain⟨y,hy,e⟩:=List.any_eq_true.1 h;exact⟨l.lt,List.mem_map_of_mem hl,by rw [←nr_v e];exact hy⟩
 ·rintro ⟨a,ha,hx⟩
  obtain⟨l,hl,rfl⟩:=List.mem_map.1 ha;exact⟨l,hl,List.any_eq_true.2 ⟨_,hx,by simp [Tm.nr]⟩⟩
def CovPost (q:Cq) (w:World) (e:Ending) (w':World) :Prop:=∃b:Bool,e = .returned (.bool b)∧(b=true↔Cov q.cj)∧Below w.heap.size w w'
theorem covered_any (q:Cq) (B:Nat) (w:World) (hq:q.In w B) :Calls Tryz.prog 46 #[.agg #[.int .i64 (q.vars:Nat),.slice q.lh.ao q.lits.length q.lh.cap,.slice q.head.h.ao q.head.l.length q.head.h.cap]] w (CovPost q w):=by
 obtain⟨X,hX⟩ : ∃X,w.alloc (.cells #[.int .i64 (q.vars:Nat),.slice q.lh.ao q.lits.length q.lh.cap,.slice q.head.h.ao q.head.l.length q.head.h.cap] 32) =X:=⟨_,rfl⟩;have HB0:=ai (box1X hX).2;have HBX:=ai (box1X hX).1;have HQ:=ai (hq.mono HB0.o);have q2:X.cell? ⟨w.heap.size,2,none⟩ =some (.slice q.head.h.ao q.head.l.length q.head.h.cap):=HBX.o.cell rfl;have hn:=hq.hd.row.len;have hln:=hq.row.len;clear hq
 go_enter Tryz.func46,Tryz.ntmps46;go_upto_region 1 with fail
 try rw [hX]
 clear hX;go_wp2;clear q2;go_loopw [8] (fun i wr=>∃k:Nat,k≤q.head.l.length∧i = .int .i64 k∧Hid (∀j (hj:j<q.head.l.length),j<k→∀n,q.head.l[j] = .v n→Occ q.cj n)∧Hid (Below X.heap.size X wr)) (fun i _=>q.head.l.length - (intOf i).toNat)
 case atStart=>exact⟨0,Nat.zero_le _,rfl,fun j _ h=>absurd h (by omega),Below.refl _ _⟩
 case round=>
  obtain⟨k,hk,rfl,HN,HBW⟩:=hrel;have HQR:=ai (HQ.o.mono HBW.o);by_cases hlt:k<q.head.l.length
  ·have hrh:=HQR.o.hd.row
   have hix:=hrh.ix hlt Tryz.underlying30 szslot;obtain⟨c0,c1,c2,c3⟩:=tm_at hrh hlt;have hbk:=hrh.blk hlt;have HBR:=ai (HBX.o.below HBW.o);have q1:wr.cell? ⟨w.heap.size,1,none⟩ =some (.slice q.lh.ao q.lits.length q.lh.cap):=HBR.o.cell rfl;have hlw:w.heap.size<wr.heap.size:=HBR.o.lt;have HBA:=ai (fun v0 v1 v2 v3=>belA (w:=wr) (.cells #[v0,v1,v2,v3] 83))
   have HNX:=ai (fun(h: ∀n,q.head.l[k] = .v n→Occ q.cj n)=>show∀j (hj:j<q.head.l.length),j<k+1→∀n,q.head.l[j] = .v n→Occ q.cj n from fun j hj hjk n e=>by
    by_cases e2:j=k
    ·subst e2;exact h n e
    ·exact HN.o j hj (by omega) n e)
   have HNO:=ai (fun n (e:q.head.l[k] = .v n) (h: ¬Occ q.cj n)=>show¬Cov q.cj from fun hc=>h (hc.1 n (by show Tm.v n∈q.head.l;rw [←e];exact List.getElem_mem hlt)))
   obtain⟨t,ht⟩ : ∃t,q.head.l[k] =t:=⟨_,rfl⟩;rw [ht]at c0 c1 c2 c3;simp only [ht]at HNX HNO;clear ht hrh
   cases t with
   | c kk=>
    simp only [Tm.nr,Tm.val]at *;have HY:=ai (HNX.o (fun n e=>by cases e))
    go_wp2;go_roundw
    case rel=>exact⟨k+1,by omega,by go_num,HY.o,bT HBW.o (belA _)⟩
    case measure=>simp [intOf];omega
   | v n=>
    simp only [Tm.nr,Tm.val,nulV]at *;have h0: (0:Int)≤(n:Int):=by omega
    have HCC:=ai (fun(Z:World) (hZ:Below wr.heap.size wr Z) (hc:Z.cell? ⟨wr.heap.size,0,none⟩ =some (.int .i64 (n:Nat)))=>cli_cont (fun l=>l.sl.l.any (fun y=>y.nr == (n:Int))) q.lh q.lits wr.heap.size Z (HQR.o.mono hZ).row (fun W hW l hl=>lclo_any (n:Int) l B wr.heap.size W ((HQR.o.sl l hl).mono (bT hZ hW)) (by rw [hW.cell (p:=⟨wr.heap.size,0,none⟩) (World.block_lt_of_cell? Z ⟨wr.heap.size,0,none⟩ hc)];exact hc)))
    have HOA:=ai (occ_any q n);generalize q.lits.any (fun l=>l.sl.l.any (fun y=>y.nr == (n:Int))) =r at *
    cases r with
    | true=>
     have HY:=ai (HNX.o (fun m e=>by injection e with e;rw [←e];exact HOA.o.1 rfl))
     go_wp2_with (go_at_call 82;refine(HCC.o _ (HBA.o _ _ _ _) ((Box.new _ _ _).cell rfl)).mono ?_;rintro e w1 ⟨rfl,hb1⟩;have HB1:=ai (bT HBW.o (bT (belA _) hb1));clear hb1)
     go_roundw
     case rel=>exact⟨k+1,by omega,by go_num,HY.o,HB1.o⟩
     case measure=>simp [intOf];omega
    | false=>
     have HY:=ai (HNO.o n rfl (fun h=>by have:=HOA.o.2 h;cases this))
     go_wp2_with (go_at_call 82;refine(HCC.o _ (HBA.o _ _ _ _) ((Box.new _ _ _).cell rfl)).mono ?_;rintro e w1 ⟨rfl,hb1⟩;have HB1:=ai (bT HBW.o (bT (belA _) hb1));clear hb1)
     go_ret
     exact⟨false,rfl,⟨fun h=>(by cases h),fun h=>absurd h HY.o⟩,bT HB0.o HB1.o⟩
  ·have q1:wr.cell? ⟨w.heap.size,1,none⟩ =some (.slice q.lh.ao q.lits.length q.lh.cap):=(HBX.o.below HBW.o).cell rfl
   have HY:=ai (show Cov q.cj↔0<q.lits.length from⟨fun h=>by have:=h.2;rwa [show q.cj.lits.length=q.lits.length from List.length_map _]at this,fun h=>⟨fun x hx=>by
    obtain⟨j,hj,e⟩:=List.getElem_of_mem hx;have hj2:j<q.head.l.length:=hj;exact HN.o j hj2 (by omega) x e,by rw [show q.cj.lits.length=q.lits.length from List.length_map _];exact h⟩⟩)
   go_wp2;go_ret
   exact⟨_,rfl,by rw [HY.o];simp,bT HB0.o HBW.o⟩
end Go.Proofs.YtiijaaohphokcaaGreatDoor
/- The numbers of the variables: a map of ints that the call makes. -/
namespace Go.Proofs.YtiijaaohphokcaaGreatDoor
open Go.RowKit Go.Maps
set_option maxRecDepth 10000
abbrev IK:Keyed Tryz.prog 3:=int_keyed Tryz.underlying3
def NM (x:World) (b:Nat) (o:List Nat) :Prop:=∃D:DataW Unit,x.ownsMap Tryz.prog 3 (plainElem (H:=Unit) Tryz.prog 3) b o.length D∧Maps.size D=o.length∧(∀k:Nat,Maps.has D (key k) =decide (k∈o))∧(∀k:Nat,k∈o→D.atKey (key k) (.lit (.int .i64 0)) = .lit (.int .i64 (o.idxOf k:Nat)))
theorem NM.lt {x:World} {b:Nat} {o:List Nat} (h:NM x b o) :b<x.heap.size:=by obtain⟨D,h,_⟩:=h;exact h.lt
theorem NM.grown {x y:World} {b:Nat} {o:List Nat} {row:Option Nat} (h:NM x b o) (hg:x.grownBy y row) (hne:some b≠row) :NM y b o:=by
 obtain⟨D,h1,h2⟩:=h;exact⟨D,h1.kept hg hne,h2⟩
theorem NM.below {x y:World} {b:Nat} {o:List Nat} (h:NM x b o) (hb:Below x.heap.size x y) :NM y b o:=h.grown (only_below hb none) (by simp)
theorem NM.new (w:World) :NM (w.alloc (.map #[] 0)) w.heap.size []:=⟨.map [],World.ownsMap_made _ _ _ _,by simp [Maps.size],fun k=>by simp [Maps.has_eq],fun k h=>by cases h⟩
theorem zeroI (w:World) : (zeroValue 3).run Tryz.prog w = .ok (.int .i64 0) w:=by kernel_rfl
theorem kwf {k:Nat} (h:k≤1000000) : (Lit.int .i64 (k:Int)).wf=true:=WalkArith.wf_i64 (by omega)
theorem NM.ok {x:World} {b:Nat} {o:List Nat} (h:NM x b o) {k:Nat} (hk:k≤1000000) : ∃v,(Instr.lookup 137 (.map (some b)) (.int .i64 (k:Nat)) true).run Tryz.prog x = .ok (.tuple #[v,.bool (decide (k∈o))]) x:=by
 obtain⟨D,h1,_,h3,_⟩:=h;obtain⟨v,ps,hrun,_⟩:=h1.look_ok IK Tryz.underlying137 (zeroI x) (plainElem_int Tryz.underlying3 (by decide)) (keyOf_int_mk Tryz.underlying3 (kwf hk))
 exact⟨v,by rw [hrun,←h3]⟩
theorem NM.get {x:World} {b:Nat} {o:List Nat} (h:NM x b o) {k:Nat} (hk:k≤1000000) (hm:k∈o) : (Instr.lookup 137 (.map (some b)) (.int .i64 (k:Nat)) false).run Tryz.prog x = .ok (.int .i64 (o.idxOf k:Nat)) x:=by
 obtain⟨D,h1,_,_,h4⟩:=h;obtain⟨c,hrun,hat,_⟩:=h1.lookup_int IK Tryz.underlying137 Tryz.underlying3 (zeroI x) (keyOf_int_mk Tryz.underlying3 (kwf hk));have h4:=h4 k hm
 unfold key at h4
 rw [hat]at h4;injection h4 with h4;injection h4 with _ h4;rw [hrun,h4]
theorem NM.len {x:World} {b:Nat} {o:List Nat} (h:NM x b o) (ty:TypeId) : (Builtin.len_ #[137] ty #[.map (some b)]).run Tryz.prog x = .ok (.int .i64 (o.length:Nat)) x:=by
 obtain⟨D,h1,h2,_⟩:=h;rw [h1.len Tryz.underlying137 ty,h2]
theorem NM.put {x:World} {b:Nat} {o:List Nat} (h:NM x b o) {k:Nat} (hk:k≤1000000) (hm:k ∉ o) (hl:o.length≤1000000) :
  ∃y,(Instr.mapUpdate 137 (.map (some b)) (.int .i64 (k:Nat)) (.int .i64 (o.length:Nat))).run Tryz.prog x = .ok () y∧NM y b (o ++ [k])∧x.grownBy y (some b):=by
 obtain⟨D,h1,h2,h3,h4⟩:=h;have hkey:=keyOf_int_mk Tryz.underlying3 (kwf hk);obtain⟨y,hrun,hown,hg⟩:=h1.update IK Tryz.underlying137 (by unfold maxLen;omega) hkey (plainElem_int Tryz.underlying3 (kwf hl))
 have hno:Maps.has D (key k) =false:=by rw [h3];simp [hm]
 refine⟨y,hrun,⟨_,by rw [List.length_append];exact hown,?_,fun j=> ?_,fun j hj=> ?_⟩,hg⟩
 ·have:=Maps.size_put (k:=key k) (h1.tidy IK) (.lit (.int .i64 (o.length:Nat)))
  rw [hno]at this;rw [List.length_append]
  show Maps.size (D.put (key k) _) =_
  rw [this,h2];rfl
 ·show Maps.has (D.put (key k) _) (key j) =_
  by_cases e:j=k
  ·subst e
   rw [Maps.has_put_same h1.isMap (keylit _)];simp
  ·rw [Maps.has_put_other (fun h=>e (key_inj h)),h3]
   simp [e]
 ·show(D.put (key k) _).atKey (key j) _=_
  by_cases e:j=k
  ·subst e
   rw [Maps.atKey_put_same h1.isMap (keylit _),List.idxOf_append,if_neg hm];simp
  ·rw [Maps.atKey_put_other (fun h=>e (key_inj h))]
   have hjo:j∈o:=by simpa [e]using hj
   rw [h4 j hjo,List.idxOf_append,if_pos hjo]
end Go.Proofs.YtiijaaohphokcaaGreatDoor

/- The matcher in a world. -/
import Derived.Test.YtiijaaohphokcaaGreatDoorG05
import Derived.Test.YtiijaaohphokcaaGreatDoorG06
import Derived.Deep.RegionHeld3
set_option maxRecDepth 100000
set_option maxHeartbeats 16000000
namespace Go.Proofs.YtiijaaohphokcaaGreatDoor
open Go.RowKit
def TmAt (w:World) (b o:Nat) (t:Tm V) :Prop:=w.cell? ⟨b,o,none⟩ =some (.int .i64 t.nr)∧w.cell? ⟨b,o+1,none⟩ =some (.int .i64 t.val.kind)∧w.cell? ⟨b,o+2,none⟩ =some (.int .i64 t.val.num)∧w.cell? ⟨b,o+3,none⟩ =some (.string t.val.text)
theorem TmAt.keep {w w':World} {b o D:Nat} {t:Tm V} (h:TmAt w b o t) (hb:Below D w w') (hl:b<D) :TmAt w' b o t:=
 ⟨by rw [hb.cell (p:=⟨b,o,none⟩) hl];exact h.1,by rw [hb.cell (p:=⟨b,o+1,none⟩) hl];exact h.2.1,by rw [hb.cell (p:=⟨b,o+2,none⟩) hl];exact h.2.2.1,by rw [hb.cell (p:=⟨b,o+3,none⟩) hl];exact h.2.2.2⟩
def PtrAt (w0 x:World) (g n:Nat) (σ:Sb V) :Prop:=∀y,y<n→(σ y=none→x.cell? ⟨g,y,none⟩ =some (.pointer none))∧∀t,σ y=some t→∃b o,b<w0.heap.size∧TmAt w0 b o t∧x.cell? ⟨g,y,none⟩ =some (.pointer (some ⟨b,o,none⟩))
abbrev mcells (q r:Cq) (single:Bool) (gs gu:Nat) (lv:Value) :Array Value:=#[.int .i64 (q.vars:Nat),.slice q.lh.ao q.lits.length q.lh.cap,.slice q.head.h.ao q.head.l.length q.head.h.cap,.int .i64 (r.vars:Nat),.slice r.lh.ao r.lits.length r.lh.cap,.slice r.head.h.ao r.head.l.length r.head.h.cap,.bool single,.slice (some ⟨gs,0,none⟩) q.vars q.vars,.slice (some ⟨gu,0,none⟩) r.lits.length r.lits.length,lv]
structure MW (w0:World) (gm gs gu:Nat) (q r:Cq) (single:Bool) (σ:Sb V) (us:Nat→Bool) (n:Nat) (lv:Value) (x:World) :Prop where
 bel:Below w0.heap.size w0 x
 box:Box x gm (mcells q r single gs gu lv) 135
 own: ∃xs,x.ownsRow w0.heap.size 3 1 lv n xs
 ptr:PtrAt w0 x gs q.vars σ
 dom: ∀y t,σ y=some t→y<q.vars
 sf: ∀j,x.frozen? ⟨gs,j,none⟩ =false
 usd: ∀j,j<r.lits.length→x.cell? ⟨gu,j,none⟩ =some (.bool (us j))
 uf: ∀j,x.frozen? ⟨gu,j,none⟩ =false
 lo:w0.heap.size≤gm∧w0.heap.size≤gs∧w0.heap.size≤gu
 hi:gm<x.heap.size∧gs<x.heap.size∧gu<x.heap.size
 ne:gm≠gs∧gm≠gu∧gs≠gu∧lv.ownBlock≠some gm∧lv.ownBlock≠some gs∧lv.ownBlock≠some gu
section
variable {w0 x y:World} {gm gs gu n:Nat} {q r:Cq} {single:Bool} {σ σ':Sb V} {us:Nat→Bool} {lv:Value}
theorem MW.grown {row:Option Nat} (h:MW w0 gm gs gu q r single σ us n lv x) (hg:x.grownBy y row) (hr: ∀j,row=some j→w0.heap.size≤j∧j≠gm∧j≠gs∧j≠gu∧lv.ownBlock≠some j) :MW w0 gm gs gu q r single σ us n lv y:=by
 have hc: ∀b o,b<x.heap.size→some b≠row→y.cell? ⟨b,o,none⟩ =x.cell? ⟨b,o,none⟩:=fun b o hb hne=>World.cell?_of_block (w:=x) (a:=⟨b,o,none⟩) (hg.block b hb hne)
 have hf: ∀b o,b<x.heap.size→some b≠row→y.frozen? ⟨b,o,none⟩ =x.frozen? ⟨b,o,none⟩:=fun b o hb hne=>by simp only [World.frozen?];rw [hg.block b hb hne]
 have nm:some gm≠row:=fun e=>(hr gm e.symm).2.1 rfl
 have ns:some gs≠row:=fun e=>(hr gs e.symm).2.2.1 rfl
 have nu:some gu≠row:=fun e=>(hr gu e.symm).2.2.2.1 rfl
 obtain⟨xs,hx⟩:=h.own;refine⟨h.bel.grown hg h.bel.size (fun j e=>(hr j e).1),h.box.grown hg nm,⟨xs,hx.kept hg ?_⟩,fun v hv=> ?_,h.dom,fun j=> ?_,fun j hj=> ?_,fun j=> ?_,h.lo,⟨Nat.lt_of_lt_of_le h.hi.1 hg.size,Nat.lt_of_lt_of_le h.hi.2.1 hg.size,Nat.lt_of_lt_of_le h.hi.2.2 hg.size⟩,h.ne⟩
 ·cases hl:lv.ownBlock with
  | none=>exact .inl rfl
  | some j=>exact .inr (fun e=>(hr j e.symm).2.2.2.2 hl)
 ·obtain⟨h1,h2⟩:=h.ptr v hv
  exact⟨fun e=>by rw [hc gs v h.hi.2.1 ns];exact h1 e,fun t e=>by obtain⟨b,o,p1,p2,p3⟩:=h2 t e;exact⟨b,o,p1,p2,by rw [hc gs v h.hi.2.1 ns];exact p3⟩⟩
 ·rw [hf gs j h.hi.2.1 ns];exact h.sf j
 ·rw [hc gu j h.hi.2.2 nu];exact h.usd j hj
 ·rw [hf gu j h.hi.2.2 nu];exact h.uf j
theorem MW.call (h:MW w0 gm gs gu q r single σ us n lv x) (hb:Below x.heap.size x y) :MW w0 gm gs gu q r single σ us n lv y:=h.grown (only_below hb none) (fun _ e=>by cases e)
theorem cell_set_ne {x:World} {g i j:Nat} {v:Value} (h:j≠i) : (x.setCell ⟨g,i,none⟩ v).cell? ⟨g,j,none⟩ =x.cell? ⟨g,j,none⟩:=World.cell?_setCell_other _ _ _ _ (by intro e;injection e with _ e;exact h e.symm)
theorem cell_set_far {x:World} {g i g' j:Nat} {v:Value} (h:g'≠g) : (x.setCell ⟨g,i,none⟩ v).cell? ⟨g',j,none⟩ =x.cell? ⟨g',j,none⟩:=World.cell?_setCell_other _ _ _ _ (by intro e;injection e with e _;exact h e.symm)
theorem frozen_set (x:World) (p a:Addr) (v:Value) : (x.setCell p v).frozen? a=x.frozen? a:=by simp [go_sem]
theorem MW.setS (h:MW w0 gm gs gu q r single σ us n lv x) {v:Nat} (hv:v<q.vars) (o:Option (Tm V)) (pv:Value) (hp:match o with|none=>pv = .pointer none|some t=>∃b o,b<w0.heap.size∧TmAt w0 b o t∧pv = .pointer (some ⟨b,o,none⟩)) :
  MW w0 gm gs gu q r single (fun y=>if y=v then o else σ y) us n lv (x.setCell ⟨gs,v,none⟩ pv):=by
 have hg:=gb_set x gs v pv;obtain⟨xs,hx⟩:=h.own;have hsome: ∃u,x.cell? ⟨gs,v,none⟩ =some u:=by
  obtain⟨h1,h2⟩:=h.ptr v hv
  cases hs:σ v with
  | none=>exact⟨_,h1 hs⟩
  | some t=>obtain⟨b,o,_,_,p3⟩:=h2 t hs;exact⟨_,p3⟩
 obtain⟨u,hu⟩:=hsome;refine⟨h.bel.grown hg h.bel.size (fun j e=>by injection e with e;rw [←e];exact h.lo.2.1),h.box.grown hg (by intro e;injection e with e;exact h.ne.1 e),⟨xs,hx.kept hg (.inr (fun e=>h.ne.2.2.2.2.1 e))⟩,fun y hy=> ?_,fun y t e=> ?_,fun j=>by rw [frozen_set];exact h.sf j,fun j hj=>by rw [cell_set_far (fun e=>h.ne.2.2.1 e.symm)];exact h.usd j hj,fun j=>by rw [frozen_set];exact h.uf j,h.lo,?_,h.ne⟩
 ·by_cases e:y=v
  ·subst e
   rw [if_pos rfl];have hc: (x.setCell ⟨gs,y,none⟩ pv).cell? ⟨gs,y,none⟩ =some pv:=World.cell?_setCell_same _ _ _ hu;refine⟨fun e=> ?_,fun t e=> ?_⟩
   ·rw [hc];subst e;rw [hp]
   ·subst e
    obtain⟨b,o,p1,p2,p3⟩:=hp;exact⟨b,o,p1,p2,by rw [hc,p3]⟩
  ·rw [if_neg e,cell_set_ne e]
   exact h.ptr y hy
 ·by_cases e2:y=v
  ·rw [e2];exact hv
  ·rw [if_neg e2]at e;exact h.dom y t e
 ·exact⟨by simpa using h.hi.1,by simpa using h.hi.2.1,by simpa using h.hi.2.2⟩
theorem MW.congr (h:MW w0 gm gs gu q r single σ us n lv x) (e: ∀y,σ y=σ' y) :MW w0 gm gs gu q r single σ' us n lv x:=by
 have:σ=σ':=funext e;exact this▸h
theorem MW.setU (h:MW w0 gm gs gu q r single σ us n lv x) {k:Nat} (hk:k<r.lits.length) (b:Bool) :
  MW w0 gm gs gu q r single σ (fun j=>if j=k then b else us j) n lv (x.setCell ⟨gu,k,none⟩ (.bool b)):=by
 have hg:=gb_set x gu k (.bool b);obtain⟨xs,hx⟩:=h.own;refine⟨h.bel.grown hg h.bel.size (fun j e=>by injection e with e;rw [←e];exact h.lo.2.2),h.box.grown hg (by intro e;injection e with e;exact h.ne.2.1 e),⟨xs,hx.kept hg (.inr (fun e=>h.ne.2.2.2.2.2 e))⟩,fun y hy=> ?_,h.dom,fun j=>by rw [frozen_set];exact h.sf j,fun j hj=> ?_,fun j=>by rw [frozen_set];exact h.uf j,h.lo,⟨by simpa using h.hi.1,by simpa using h.hi.2.1,by simpa using h.hi.2.2⟩,h.ne⟩
 ·rw [cell_set_far h.ne.2.2.1];exact h.ptr y hy
 ·by_cases e:j=k
  ·subst e;rw [if_pos rfl];exact World.cell?_setCell_same _ _ _ (h.usd j hj)
  ·rw [if_neg e,cell_set_ne e];exact h.usd j hj
theorem box_set9 {g:Nat} {v:Value} (h:Box x g (mcells q r single gs gu lv) 135) :Box (x.setCell ⟨g,9,none⟩ v) g (mcells q r single gs gu v) 135:=by
 have:=h.set 9 v
 simpa only [List.setIfInBounds_toArray,List.set_cons_zero,List.set_cons_succ]using this
theorem MW.setL (h:MW w0 gm gs gu q r single σ us n lv x) {n':Nat} {lv':Value} {xs:List Value} (hg:x.grownBy y lv.ownBlock) (hx:y.ownsRow w0.heap.size 3 1 lv' n' xs) (hne: ∀j,lv'.ownBlock=some j→lv.ownBlock=some j∨x.heap.size≤j) :
  MW w0 gm gs gu q r single σ us n' lv' (y.setCell ⟨gm,9,none⟩ lv'):=by
 obtain⟨ys,hy⟩:=h.own;have nm:some gm≠lv.ownBlock:=fun e=>h.ne.2.2.2.1 e.symm
 have ns:some gs≠lv.ownBlock:=fun e=>h.ne.2.2.2.2.1 e.symm
 have nu:some gu≠lv.ownBlock:=fun e=>h.ne.2.2.2.2.2 e.symm
 have hd: ∀b,b<x.heap.size→lv.ownBlock≠some b→lv'.ownBlock≠some b:=fun b hb hn e=>by
  rcases hne b e with h1|h1
  ·exact hn h1
  ·omega
 have hlo: ∀j,lv.ownBlock=some j→w0.heap.size≤j:=fun j e=>(hy.lt j e).1
 have hs:=gb_set y gm 9 lv';have hc: ∀b o,b<x.heap.size→some b≠lv.ownBlock→b≠gm→(y.setCell ⟨gm,9,none⟩ lv').cell? ⟨b,o,none⟩ =x.cell? ⟨b,o,none⟩:=fun b o hb hn hm=>by
  rw [cell_set_far hm];exact World.cell?_of_block (w:=x) (a:=⟨b,o,none⟩) (hg.block b hb hn)
 have hf: ∀b o,b<x.heap.size→some b≠lv.ownBlock→(y.setCell ⟨gm,9,none⟩ lv').frozen? ⟨b,o,none⟩ =x.frozen? ⟨b,o,none⟩:=fun b o hb hn=>by
  rw [frozen_set];simp only [World.frozen?];rw [hg.block b hb hn]
 have hsz:=hg.size;refine⟨(h.bel.grown hg h.bel.size (fun j e=>hlo j e)).grown hs (Nat.le_trans h.bel.size hsz) (fun j e=>by injection e with e;rw [←e];exact h.lo.1),box_set9 (h.box.grown hg nm),⟨xs,hx.kept hs (.inr (fun e=>hd gm h.hi.1 h.ne.2.2.2.1 e))⟩,fun v hv=> ?_,h.dom,fun j=> ?_,fun j hj=> ?_,fun j=> ?_,h.lo,⟨by have:=h.hi.1;simp;omega,by have:=h.hi.2.1;simp;omega,by have:=h.hi.2.2;simp;omega⟩,h.ne.1,h.ne.2.1,h.ne.2.2.1,hd gm h.hi.1 h.ne.2.2.2.1,hd gs h.hi.2.1 h.ne.2.2.2.2.1,hd gu h.hi.2.2 h.ne.2.2.2.2.2⟩
 ·obtain⟨h1,h2⟩:=h.ptr v hv
  exact⟨fun e=>by rw [hc gs v h.hi.2.1 ns (fun e=>h.ne.1 e.symm)];exact h1 e,fun t e=>by obtain⟨b,o,p1,p2,p3⟩:=h2 t e;exact⟨b,o,p1,p2,by rw [hc gs v h.hi.2.1 ns (fun e=>h.ne.1 e.symm)];exact p3⟩⟩
 ·rw [hf gs j h.hi.2.1 ns];exact h.sf j
 ·rw [hc gu j h.hi.2.2 nu (fun e=>h.ne.2.1 e.symm)];exact h.usd j hj
 ·rw [hf gu j h.hi.2.2 nu];exact h.uf j
end
def Back (σ σ':Sb V) (now:List Nat) :Prop:=∀y,σ y=if y∈now then none else σ' y
theorem Back.refl (σ:Sb V) :Back σ σ []:=fun _=>rfl
theorem Back.bind {σ σ':Sb V} {now:List Nat} (h:Back σ σ' now) {v:Nat} {t:Tm V} (hv:σ' v=none) :Back σ (fun y=>if y=v then some t else σ' y) (now ++ [v]):=by
 intro y;rw [h y];by_cases e:y=v
 ·subst e
  rw [if_pos (show y∈now ++ [y] by simp)]
  split
  ·rfl
  ·exact hv
 ·have:y∈now ++ [v]↔y∈now:=by simp [e]
  simp only [this,if_neg e]
end Go.Proofs.YtiijaaohphokcaaGreatDoor
/- conjunctive.(*matcher).becomes: its closure; which slots are bound to one. -/
namespace Go.Proofs.YtiijaaohphokcaaGreatDoor
open Go.RowKit
theorem szptr: (Tryz.prog.info? 172).map (·.size) =some 1:=by kernel_rfl
theorem szslot: (Tryz.prog.info? 83).map (·.size) =some 4:=by kernel_rfl
def ptrV:Option (Nat×Nat)→Value
 | none=>.pointer none
 | some p=>.pointer (some ⟨p.1,p.2,none⟩)
theorem bclo_none (kb ib:Nat) (w:World) :Calls Tryz.prog 127 #[.pointer none,.pointer (some ⟨kb,0,none⟩),.pointer (some ⟨ib,0,none⟩)] w fun e w'=>e = .returned (.bool false)∧Below w.heap.size w w':=by
 go_enter Tryz.func127,Tryz.ntmps127;go_wp2
 go_quiet (fail)
 go_wp2;go_ret
 exact⟨rfl,below_drewN (Below.refl _ _) _⟩
theorem bclo_some (kb ib b o i:Nat) (k:TL) (t:Tm V) (w:World) (hi:i<k.l.length) (hk:Row w 4 Tm.cells k.h k.l) (hkb:w.cell? ⟨kb,0,none⟩ =some (.slice k.h.ao k.l.length k.h.cap)) (hib:w.cell? ⟨ib,0,none⟩ =some (.int .i64 i)) (ht:TmAt w b o t) :
  Calls Tryz.prog 127 #[.pointer (some ⟨b,o,none⟩),.pointer (some ⟨kb,0,none⟩),.pointer (some ⟨ib,0,none⟩)] w fun e w'=>e = .returned (.bool (tmEq t k.l[i]))∧Below w.heap.size w w':=by
 have hix:=hk.ix hi Tryz.underlying30 szslot;obtain⟨c0,c1,c2,c3⟩:=tm_at hk hi;obtain⟨a0,a1,a2,a3⟩:=ht;have l1:kb<w.heap.size:=World.block_lt_of_cell? w ⟨kb,0,none⟩ hkb;have l2:ib<w.heap.size:=World.block_lt_of_cell? w ⟨ib,0,none⟩ hib;have l3:b<w.heap.size:=World.block_lt_of_cell? w ⟨b,o,none⟩ a0;have l4:k.h.b<w.heap.size:=hk.blk hi;obtain⟨s,hs⟩ : ∃s,k.l[i] =s:=⟨_,rfl⟩;rw [hs]at c0 c1 c2 c3 ⊢;generalize k.h.o+i*4=p at *;have hE:=ai (fun W=>equal_any t s W)
 have y0: ∀w',Below w.heap.size w w'→w'.cell? ⟨kb,0,none⟩ =some (.slice k.h.ao k.l.length k.h.cap):=fun w' h=>by rw [h.cell (p:=⟨kb,0,none⟩) l1];exact hkb
 have y1: ∀w',Below w.heap.size w w'→w'.cell? ⟨ib,0,none⟩ =some (.int .i64 i):=fun w' h=>by rw [h.cell (p:=⟨ib,0,none⟩) l2];exact hib
 have y2: ∀w',Below w.heap.size w w'→w'.cell? ⟨b,o,none⟩ =some (.int .i64 t.nr):=fun w' h=>by rw [h.cell (p:=⟨b,o,none⟩) l3];exact a0
 have y3: ∀w',Below w.heap.size w w'→w'.cell? ⟨b,o+1,none⟩ =some (.int .i64 t.val.kind):=fun w' h=>by rw [h.cell (p:=⟨b,o+1,none⟩) l3];exact a1
 have y4: ∀w',Below w.heap.size w w'→w'.cell? ⟨b,o+2,none⟩ =some (.int .i64 t.val.num):=fun w' h=>by rw [h.cell (p:=⟨b,o+2,none⟩) l3];exact a2
 have y5: ∀w',Below w.heap.size w w'→w'.cell? ⟨b,o+3,none⟩ =some (.string t.val.text):=fun w' h=>by rw [h.cell (p:=⟨b,o+3,none⟩) l3];exact a3
 have y6: ∀w',Below w.heap.size w w'→w'.cell? ⟨k.h.b,p,none⟩ =some (.int .i64 s.nr):=fun w' h=>by rw [h.cell (p:=⟨k.h.b,p,none⟩) l4];exact c0
 have y7: ∀w',Below w.heap.size w w'→w'.cell? ⟨k.h.b,p+1,none⟩ =some (.int .i64 s.val.kind):=fun w' h=>by rw [h.cell (p:=⟨k.h.b,p+1,none⟩) l4];exact c1
 have y8: ∀w',Below w.heap.size w w'→w'.cell? ⟨k.h.b,p+2,none⟩ =some (.int .i64 s.val.num):=fun w' h=>by rw [h.cell (p:=⟨k.h.b,p+2,none⟩) l4];exact c2
 have y9: ∀w',Below w.heap.size w w'→w'.cell? ⟨k.h.b,p+3,none⟩ =some (.string s.val.text):=fun w' h=>by rw [h.cell (p:=⟨k.h.b,p+3,none⟩) l4];exact c3
 clear hkb hib a0 a1 a2 a3 c0 c1 c2 c3 hk hs l1 l2 l3 l4
 go_enter Tryz.func127,Tryz.ntmps127;go_wp2
 go_region_held3 (fun w'=>Below w.heap.size w w') ((first|exact(Below.refl _ _).drew|exact bT (by assumption) (by assumption))) (first
  | (go_at_call 125;refine(hE.o _).mono ?_;rintro e x ⟨rfl,hb⟩))
 go_wp2;go_ret
 exact⟨rfl,by assumption⟩
end Go.Proofs.YtiijaaohphokcaaGreatDoor
/- slices.ContainsFunc with becomes's closure: whether a slot is bound already. -/
namespace Go.Proofs.YtiijaaohphokcaaGreatDoor
open Go.RowKit
theorem index_ptr {P:Program} {t e:TypeId} (ht:P.underlying t=some (.slice e)) (hs: (P.info? e).map (·.size) =some 1) (g n c y:Nat) (hy:y<n) : ∀W,(Instr.indexAt t (.slice (some ⟨g,0,none⟩) n c) (.int .i64 (y:Nat))).run P W = .ok (.pointer (some ⟨g,y,none⟩)) W:=by
 intro W;obtain⟨j,hj,hsz⟩:=Option.map_eq_some_iff.1 hs;have he:P.elem t=e:=by simp [Program.elem,ht]
 rw [run_indexAt_slice _ _ _ _ _ _ _ (by rw [he];exact ht),he,if_pos ⟨by omega,by omega⟩]
 simp [sizeOf,typeInfo,hj,hsz,Addr.add_lit]
def hitP (σ:Sb V) (t:Tm V) (y:Nat) :Bool:=match σ y with|some s=>tmEq s t|none=>false
def bndP (σ:Sb V) (n:Nat) (t:Tm V) :Bool:=(List.range n).any (hitP σ t)
theorem bndP_yes {σ:Sb V} {n:Nat} {t:Tm V} {y:Nat} (hy:y<n) (h:hitP σ t y=true) :bndP σ n t=true:=List.any_eq_true.2 ⟨y,List.mem_range.2 hy,h⟩
theorem bndP_no {σ:Sb V} {n:Nat} {t:Tm V} (h: ∀y,y<n→hitP σ t y=false) :bndP σ n t=false:=by
 unfold bndP
 rw [List.any_eq_false];intro y hy;rw [h y (List.mem_range.1 hy)]
 decide
theorem hitP_iff {σ:Sb V} {t:Tm V} {y:Nat} : hitP σ t y=true↔σ y=some t:=by
 unfold hitP
 cases h:σ y with
 | none=>simp
 | some s=>simp [tmEq_iff]
theorem PtrAt.keep {w0 x y:World} {g n:Nat} {σ:Sb V} (h:PtrAt w0 x g n σ) (hg:g<x.heap.size) (hb:Below x.heap.size x y) :PtrAt w0 y g n σ:=fun v hv=>by
 have e:y.cell? ⟨g,v,none⟩ =x.cell? ⟨g,v,none⟩:=hb.cell (p:=⟨g,v,none⟩) hg
 obtain⟨h1,h2⟩:=h v hv;exact⟨fun q=>by rw [e];exact h1 q,fun t q=>by obtain⟨b,o,p1,p2,p3⟩:=h2 t q;exact⟨b,o,p1,p2,by rw [e];exact p3⟩⟩
theorem bidx_any (w0:World) (gs n kb ib i:Nat) (k:TL) (σ:Sb V) (w:World) (hn:n≤1000) (hp:PtrAt w0 w gs n σ) (hgs:gs<w.heap.size) (hb0:Below w0.heap.size w0 w) (hi:i<k.l.length) (hk:Row w 4 Tm.cells k.h k.l) (hkb:w.cell? ⟨kb,0,none⟩ =some (.slice k.h.ao k.l.length k.h.cap)) (hib:w.cell? ⟨ib,0,none⟩ =some (.int .i64 i)) :
  Calls Tryz.prog 166 #[.slice (some ⟨gs,0,none⟩) n n,.func (.func 127) #[] #[.pointer (some ⟨kb,0,none⟩),.pointer (some ⟨ib,0,none⟩)]] w
   fun e w'=>(∃z:Int,e = .returned (.int .i64 z)∧decide (0≤z) =bndP σ n k.l[i])∧Below w.heap.size w w':=by
 have l1:kb<w.heap.size:=World.block_lt_of_cell? w ⟨kb,0,none⟩ hkb;have l2:ib<w.heap.size:=World.block_lt_of_cell? w ⟨ib,0,none⟩ hib;have HP:=ai hp;have HB0:=ai hb0;have HK:=ai (fun(W:World) (h:Below w.heap.size w W)=>And.intro (hk.mono h) (And.intro (by rw [h.cell (p:=⟨kb,0,none⟩) l1];exact hkb:W.cell? ⟨kb,0,none⟩ =some (.slice k.h.ao k.l.length k.h.cap)) (by rw [h.cell (p:=⟨ib,0,none⟩) l2];exact hib:W.cell? ⟨ib,0,none⟩ =some (.int .i64 i))))
 have hixs: ∀(y:Nat),y<n→∀U,(Instr.indexAt 133 (.slice (some ⟨gs,0,none⟩) n n) (.int .i64 y)).run Tryz.prog U = .ok (.pointer (some ⟨gs,y,none⟩)) U:=fun y hy=>index_ptr Tryz.underlying133 szptr gs n n y hy
 have HIX:=ai hixs;clear hk hkb hib hp hb0 hixs
 go_enter Tryz.func166,Tryz.ntmps166;go_wp2;go_loopw [5,8] (fun _ j wr=>∃m:Nat,m≤n∧j = .int .i64 m∧Hid (∀y,y<m→hitP σ k.l[i] y=false)∧Hid (Below w.heap.size w wr)) (fun _ j _=>n - (intOf j).toNat)
 case atStart=>exact⟨0,Nat.zero_le _,rfl,ai (fun y h=>absurd h (by omega)),ai (Below.refl _ _)⟩
 case round=>
  obtain⟨m,hm,rfl,HN,HB⟩:=hrel;by_cases hlt:m<n
  ·have hlti: (m:Int) <n:=by omega
   have hix:=HIX.o m hlt;have hPT:=(HP.o.keep hgs HB.o) m hlt
   cases hs:σ m with
   | none=>
    have c0:=hPT.1 hs;have HS:=ai (show hitP σ k.l[i] m=false from by unfold hitP;rw [hs])
    clear hPT hs;go_wp2_with (go_at_call 127;refine(bclo_none kb ib _).mono ?_;rintro e x ⟨rfl,hb⟩)
    go_roundw
    case rel=>exact⟨m+1,by omega,by go_num,ai (fun y hy=>by
     by_cases e:y=m
     ·rw [e];exact HS.o
     ·exact HN.o y (by omega)),ai (bT HB.o hb)⟩
    case measure=>simp [intOf];omega
   | some t=>
    obtain⟨b,o,p1,p2,c0⟩:=hPT.2 t hs;have hTM:=p2.keep (HB0.o.trans (HB.o.mono HB0.o.size)) p1;obtain⟨hk1,hk2,hk3⟩:=HK.o _ HB.o;have HC:=ai (bclo_some kb ib b o i k t wr hi hk1 hk2 hk3 hTM);have HS:=ai (show hitP σ k.l[i] m=tmEq t k.l[i]from by unfold hitP;rw [hs])
    clear hPT hs hTM hk1 hk2 hk3 p2;generalize tmEq t k.l[i] =r at *
    cases r
    all_goals go_wp2_with (go_at_call 127;refine HC.o.mono ?_;rintro e x ⟨rfl,hb⟩)
    ·go_roundw
     case rel=>exact⟨m+1,by omega,by go_num,ai (fun y hy=>by
      by_cases e:y=m
      ·rw [e];exact HS.o
      ·exact HN.o y (by omega)),ai (bT HB.o hb)⟩
     case measure=>simp [intOf];omega
    ·go_ret
     exact⟨⟨m,rfl,by rw [bndP_yes hlt HS.o];simp⟩,bT HB.o hb⟩
  ·have hlti: ¬(m:Int) <n:=by omega
   have hme:m=n:=by omega
   go_wp2;go_ret
   exact⟨⟨-1,rfl,by rw [bndP_no (fun y hy=>HN.o y (by omega))];rfl⟩,HB.o⟩
theorem bcont_any (w0:World) (gs n kb ib i:Nat) (k:TL) (σ:Sb V) (w:World) (hn:n≤1000) (hp:PtrAt w0 w gs n σ) (hgs:gs<w.heap.size) (hb0:Below w0.heap.size w0 w) (hi:i<k.l.length) (hk:Row w 4 Tm.cells k.h k.l) (hkb:w.cell? ⟨kb,0,none⟩ =some (.slice k.h.ao k.l.length k.h.cap)) (hib:w.cell? ⟨ib,0,none⟩ =some (.int .i64 i)) :
  Calls Tryz.prog 126 #[.slice (some ⟨gs,0,none⟩) n n,.func (.func 127) #[] #[.pointer (some ⟨kb,0,none⟩),.pointer (some ⟨ib,0,none⟩)]] w
   fun e w'=>e = .returned (.bool (bndP σ n k.l[i]))∧Below w.heap.size w w':=by
 have HC:=ai (bidx_any w0 gs n kb ib i k σ w hn hp hgs hb0 hi hk hkb hib);clear hp hb0 hk hkb hib;generalize bndP σ n k.l[i] =r at *
 go_enter Tryz.func126,Tryz.ntmps126;go_wp2_with (go_at_call 166;refine HC.o.mono ?_;rintro e x ⟨⟨z,rfl,hz⟩,hb⟩)
 all_goals go_ret
 all_goals exact⟨by rw [←hz];simp [*],hb⟩
end Go.Proofs.YtiijaaohphokcaaGreatDoor

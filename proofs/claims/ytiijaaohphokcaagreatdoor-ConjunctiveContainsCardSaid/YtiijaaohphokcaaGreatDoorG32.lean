/- Rows, instances; the solver in a world. -/
import Derived.Test.YtiijaaohphokcaaGreatDoorG31
import Derived.Test.YtiijaaohphokcaaGreatDoorG07
import Derived.Deep.DeepCutAuto
set_option maxRecDepth 100000
set_option maxHeartbeats 16000000
namespace Go.Proofs.YtiijaaohphokcaaGreatDoor
open Go.RowKit
structure RL where
 h:Hd
 l:List VL
abbrev RL.cells (x:RL) :List Value:= [.slice x.h.ao x.l.length x.h.cap]
def RL.In (w:World) (x:RL) :Prop:=Row w 1 VL.cells x.h x.l∧∀r∈x.l,r.In w
structure Ins where
 h:Hd
 l:List RL
abbrev Ins.cells (x:Ins) :List Value:= [.slice x.h.ao x.l.length x.h.cap]
def Ins.In (w:World) (x:Ins) :Prop:=Row w 1 RL.cells x.h x.l∧∀r∈x.l,r.In w
def RL.rows (x:RL) :List (List V):=x.l.map VL.l
def Ins.D (x:Ins) (t:Nat) :List (List V):=match x.l[t]? with|some r=>r.rows|none=> []
section
variable {w w':World}
theorem RL.In.mono {x:RL} (h:x.In w) (hb:Below w.heap.size w w') :x.In w':=⟨h.1.mono hb,fun r hr=>(h.2 r hr).mono hb⟩
theorem Ins.In.mono {x:Ins} (h:x.In w) (hb:Below w.heap.size w w') :x.In w':=⟨h.1.mono hb,fun r hr=>(h.2 r hr).mono hb⟩
theorem rl_at {h:Hd} {i:Nat} {xs:List RL} (hr:Row w 1 RL.cells h xs) (hi:i<xs.length) :w.cell? ⟨h.b,h.o+i,none⟩ =some (.slice xs[i].h.ao xs[i].l.length xs[i].h.cap):=by
 have:=hr.2.2.2 i hi 0 _ rfl
 simpa using this
end
def ValOk (v:V) (c:Int) :Prop:=v.wf∧validV v=true∧v.kind=c
def RowOk (ty:List Int) (r:List V) :Prop:=r.length=ty.length∧∀(i:Nat) (v:V) (c:Int),r[i]? = some v→ty[i]? = some c→ValOk v c
structure FitI (T:List (List Int)) (x:Ins) (n:Nat) :Prop where
 len:x.l.length=T.length
 few: ∀r∈x.l,r.l.length≤n
 row: ∀(k:Nat) (r:RL) (ty:List Int),x.l[k]? = some r→T[k]? = some ty→∀v∈r.l,RowOk ty v.l
theorem FitI.D_len {T:List (List Int)} {x:Ins} {n:Nat} (h:FitI T x n) (t:Nat) : (x.D t).length≤n:=by
 unfold Ins.D
 cases ht:x.l[t]? with
 | none=>exact Nat.zero_le _
 | some r=>
  show(r.l.map VL.l).length≤n
  rw [List.length_map];exact h.few r (List.mem_of_getElem? ht)
theorem FitI.D_ok {T:List (List Int)} {x:Ins} {n:Nat} (h:FitI T x n) {t:Nat} {ty:List Int} (ht:T[t]? = some ty) : ∀r∈x.D t,RowOk ty r:=by
 intro r hr
 unfold Ins.D at hr
 cases hx:x.l[t]? with
 | none=>rw [hx]at hr;cases hr
 | some R=>
  rw [hx]at hr;obtain⟨v,hv,rfl⟩:=List.mem_map.1 hr;exact h.row t R ty hx ht v hv
theorem FitI.wide {T:List (List Int)} {x:Ins} {n vars:Nat} {q:Cj V} {τ:Nat→Int} (h:FitI T x n) (hq:Right T vars q τ) : ∀l∈q.lits,∀row∈x.D l.1,l.2.length=row.length:=by
 intro l hl row hrow;obtain⟨ty,h1,h2,_⟩:=hq.lit l hl;rw [h2,(h.D_ok h1 row hrow).1]
theorem row_any {α:Type} {w w':World} {size:Nat} {row:Option Nat} {cells:α→List Value} {h:Hd} {xs:List α} (hr:Row w size cells h xs) (hg:w.grownBy w' row) (hne:0<xs.length→some h.b≠row) :Row w' size cells h xs:=by
 obtain⟨h1,h2,h3,h4⟩:=hr;refine⟨h1,h2,fun hp=>⟨(h3 hp).1,Nat.lt_of_lt_of_le (h3 hp).2 hg.size⟩,fun i hi j v hv=> ?_⟩
 have hp:0<xs.length:=by omega
 rw [World.cell?_of_block (w:=w) (a:=⟨h.b,_,none⟩) (hg.block h.b (h3 hp).2 (hne hp))]
 exact h4 i hi j v hv
abbrev ecells (q:Cq) (x:Ins) (gb gv:Nat) (lv:Value) :Array Value:=#[.int .i64 (q.vars:Nat),.slice q.lh.ao q.lits.length q.lh.cap,.slice q.head.h.ao q.head.l.length q.head.h.cap,.slice x.h.ao x.l.length x.h.cap,.slice (some ⟨gb,0,none⟩) q.vars q.vars,.slice (some ⟨gv,0,none⟩) q.vars q.vars,lv]
def VaAt (w:World) (b o:Nat) (u:V) :Prop:=w.cell? ⟨b,o,none⟩ =some (.int .i64 u.kind)∧w.cell? ⟨b,o+1,none⟩ =some (.int .i64 u.num)∧w.cell? ⟨b,o+2,none⟩ =some (.string u.text)
structure EW (w0:World) (gs gb gv:Nat) (q:Cq) (x:Ins) (σ:Vb V) (lv:Value) (rows:List VL) (y:World) :Prop where
 bel:Below w0.heap.size w0 y
 box:Box y gs (ecells q x gb gv lv) 104
 own:y.ownsRow w0.heap.size 96 1 lv rows.length (rows.flatMap VL.cells)
 rin: ∀r∈rows,r.In y
 rne: ∀r∈rows,0<r.l.length→r.h.b≠gs∧r.h.b≠gb∧r.h.b≠gv∧lv.ownBlock≠some r.h.b
 bnd: ∀v,v<q.vars→y.cell? ⟨gb,v,none⟩ =some (.bool (σ v).isSome)
 val: ∀v,v<q.vars→∃u:V,(σ v=none∨σ v=some u)∧u.wf∧VaAt y gv (v*3) u
 dom: ∀v u,σ v=some u→v<q.vars
 bf: ∀j,y.frozen? ⟨gb,j,none⟩ =false
 vf: ∀j,y.frozen? ⟨gv,j,none⟩ =false
 lo:w0.heap.size≤gs∧w0.heap.size≤gb∧w0.heap.size≤gv
 hi:gs<y.heap.size∧gb<y.heap.size∧gv<y.heap.size
 ne:gs≠gb∧gs≠gv∧gb≠gv∧lv.ownBlock≠some gs∧lv.ownBlock≠some gb∧lv.ownBlock≠some gv
section
variable {w0 y z:World} {gs gb gv:Nat} {q:Cq} {x:Ins} {σ σ':Vb V} {lv:Value} {rows:List VL}
theorem VaAt.eq {w w':World} {b o:Nat} {u:V} (h:VaAt w b o u) (e: ∀j,w'.cell? ⟨b,j,none⟩ =w.cell? ⟨b,j,none⟩) :VaAt w' b o u:=⟨by rw [e];exact h.1,by rw [e];exact h.2.1,by rw [e];exact h.2.2⟩
theorem EW.grown {row:Option Nat} (h:EW w0 gs gb gv q x σ lv rows y) (hg:y.grownBy z row) (hr: ∀j,row=some j→w0.heap.size≤j∧j≠gs∧j≠gb∧j≠gv∧lv.ownBlock≠some j∧∀r∈rows,0<r.l.length→r.h.b≠j) :EW w0 gs gb gv q x σ lv rows z:=by
 have hc: ∀b o,b<y.heap.size→some b≠row→z.cell? ⟨b,o,none⟩ =y.cell? ⟨b,o,none⟩:=fun b o hb hne=>World.cell?_of_block (w:=y) (a:=⟨b,o,none⟩) (hg.block b hb hne)
 have hf: ∀b o,b<y.heap.size→some b≠row→z.frozen? ⟨b,o,none⟩ =y.frozen? ⟨b,o,none⟩:=fun b o hb hne=>by simp only [World.frozen?];rw [hg.block b hb hne]
 have ns:some gs≠row:=fun e=>(hr gs e.symm).2.1 rfl
 have nb:some gb≠row:=fun e=>(hr gb e.symm).2.2.1 rfl
 have nv:some gv≠row:=fun e=>(hr gv e.symm).2.2.2.1 rfl
 refine⟨h.bel.grown hg h.bel.size (fun j e=>(hr j e).1),h.box.grown hg ns,h.own.kept hg ?_,fun r hrm=> ?_,h.rne,fun v hv=>by rw [hc gb v h.hi.2.1 nb];exact h.bnd v hv,fun v hv=> ?_,h.dom,fun j=>by rw [hf gb j h.hi.2.1 nb];exact h.bf j,fun j=>by rw [hf gv j h.hi.2.2 nv];exact h.vf j,h.lo,⟨Nat.lt_of_lt_of_le h.hi.1 hg.size,Nat.lt_of_lt_of_le h.hi.2.1 hg.size,Nat.lt_of_lt_of_le h.hi.2.2 hg.size⟩,h.ne⟩
 ·cases hl:lv.ownBlock with
  | none=>exact .inl rfl
  | some j=>exact .inr (fun e=>(hr j e.symm).2.2.2.2.1 hl)
 ·refine⟨row_any (h.rin r hrm).1 hg (fun hp e=>(hr _ e.symm).2.2.2.2.2 r hrm hp rfl),(h.rin r hrm).2⟩
 ·obtain⟨u,h1,h2,h3⟩:=h.val v hv
  exact⟨u,h1,h2,h3.eq (fun j=>hc gv j h.hi.2.2 nv)⟩
theorem EW.call (h:EW w0 gs gb gv q x σ lv rows y) (hb:Below y.heap.size y z) :EW w0 gs gb gv q x σ lv rows z:=h.grown (only_below hb none) (fun _ e=>by cases e)
theorem EW.congr (h:EW w0 gs gb gv q x σ lv rows y) (e: ∀v,σ v=σ' v) :EW w0 gs gb gv q x σ' lv rows y:=by
 have:σ=σ':=funext e;exact this▸h
theorem EW.free (h:EW w0 gs gb gv q x σ lv rows y) {v:Nat} (hv:v<q.vars) :EW w0 gs gb gv q x (fun n=>if n=v then none else σ n) lv rows (y.setCell ⟨gb,v,none⟩ (.bool false)):=by
 have hg:=gb_set y gb v (.bool false);have far: ∀b o,b≠gb→(y.setCell ⟨gb,v,none⟩ (.bool false)).cell? ⟨b,o,none⟩ =y.cell? ⟨b,o,none⟩:=fun b o hb=>cell_set_far hb
 refine⟨h.bel.grown hg h.bel.size (fun j e=>by injection e with e;rw [←e];exact h.lo.2.1),h.box.grown hg (by intro e;injection e with e;exact h.ne.1 e),h.own.kept hg (.inr (fun e=>h.ne.2.2.2.2.1 e)),fun r hr=>⟨row_any (h.rin r hr).1 hg (fun hp e=>(h.rne r hr hp).2.1 (by injection e)),(h.rin r hr).2⟩,h.rne,fun n hn=> ?_,fun n hn=> ?_,fun n u e=> ?_,fun j=>by rw [frozen_set];exact h.bf j,fun j=>by rw [frozen_set];exact h.vf j,h.lo,⟨by simpa using h.hi.1,by simpa using h.hi.2.1,by simpa using h.hi.2.2⟩,h.ne⟩
 ·by_cases e:n=v
  ·subst e;rw [if_pos rfl];exact World.cell?_setCell_same _ _ _ (h.bnd n hn)
  ·rw [if_neg e,cell_set_ne e];exact h.bnd n hn
 ·obtain⟨u,h1,h2,h3⟩:=h.val n hn
  refine⟨u,?_,h2,h3.eq (fun j=>far gv j (fun e=>h.ne.2.2.1 e.symm))⟩
  by_cases e:n=v
  ·rw [if_pos e];exact .inl rfl
  ·rw [if_neg e];exact h1
 ·by_cases e2:n=v
  ·rw [e2];exact hv
  ·rw [if_neg e2]at e;exact h.dom n u e
theorem EW.bind (h:EW w0 gs gb gv q x σ lv rows y) {v:Nat} (hv:v<q.vars) {u:V} (hu:u.wf) :EW w0 gs gb gv q x (fun n=>if n=v then some u else σ n) lv rows ((((y.setCell ⟨gb,v,none⟩ (.bool true)).setCell ⟨gv,v*3,none⟩ (.int .i64 u.kind)).setCell ⟨gv,v*3+1,none⟩ (.int .i64 u.num)).setCell ⟨gv,v*3+2,none⟩ (.string u.text)):=by
 obtain⟨X,hX⟩ : ∃X,(((y.setCell ⟨gb,v,none⟩ (.bool true)).setCell ⟨gv,v*3,none⟩ (.int .i64 u.kind)).setCell ⟨gv,v*3+1,none⟩ (.int .i64 u.num)).setCell ⟨gv,v*3+2,none⟩ (.string u.text) =X:=⟨_,rfl⟩;have hblk: ∀b,b≠gb→b≠gv→X.heap[b]? = y.heap[b]? :=fun b h1 h2=>by
  rw [←hX];rw [Below.heap_setCell _ _ _ _ h2,Below.heap_setCell _ _ _ _ h2,Below.heap_setCell _ _ _ _ h2,Below.heap_setCell _ _ _ _ h1]
 have hsz:X.heap.size=y.heap.size:=by rw [←hX];simp
 have hfz: ∀a,X.frozen? a=y.frozen? a:=fun a=>by rw [←hX];simp only [frozen_set]
 have hbl:Below w0.heap.size w0 X:=by
  rw [←hX];have l:=h.lo;have s:=h.bel.size;exact(((h.bel.grown (gb_set _ _ _ _) s (fun j e=>by injection e with e;omega)).grown (gb_set _ _ _ _) (by simpa using s) (fun j e=>by injection e with e;omega)).grown (gb_set _ _ _ _) (by simpa using s) (fun j e=>by injection e with e;omega)).grown (gb_set _ _ _ _) (by simpa using s) (fun j e=>by injection e with e;omega)
 have hown:X.ownsRow w0.heap.size 96 1 lv rows.length (rows.flatMap VL.cells):=by
  rw [←hX];exact(((h.own.kept (gb_set _ _ _ _) (.inr (fun e=>h.ne.2.2.2.2.1 e))).kept (gb_set _ _ _ _) (.inr (fun e=>h.ne.2.2.2.2.2 e))).kept (gb_set _ _ _ _) (.inr (fun e=>h.ne.2.2.2.2.2 e))).kept (gb_set _ _ _ _) (.inr (fun e=>h.ne.2.2.2.2.2 e))
 have hgb: ∀n,X.cell? ⟨gb,n,none⟩ = (y.setCell ⟨gb,v,none⟩ (.bool true)).cell? ⟨gb,n,none⟩:=fun n=>by
  rw [←hX,cell_set_far h.ne.2.2.1,cell_set_far h.ne.2.2.1,cell_set_far h.ne.2.2.1]
 have hgv: ∀n,n<v*3∨v*3+2<n→X.cell? ⟨gv,n,none⟩ =y.cell? ⟨gv,n,none⟩:=fun n hn=>by
  rw [←hX,cell_set_ne (by omega),cell_set_ne (by omega),cell_set_ne (by omega),cell_set_far (fun e=>h.ne.2.2.1 e.symm)]
 obtain⟨u0,_,_,o1,o2,o3⟩:=h.val v hv;have hnew:VaAt X gv (v*3) u:=by
  have far: ∀o,(y.setCell ⟨gb,v,none⟩ (.bool true)).cell? ⟨gv,o,none⟩ =y.cell? ⟨gv,o,none⟩:=fun o=>cell_set_far (fun e=>h.ne.2.2.1 e.symm)
  rw [←hX];refine⟨?_,?_,?_⟩
  ·rw [cell_set_ne (by omega),cell_set_ne (by omega)];exact World.cell?_setCell_same _ _ _ ((far _).trans o1)
  ·rw [cell_set_ne (by omega)];exact World.cell?_setCell_same _ _ _ ((cell_set_ne (by omega)).trans ((far _).trans o2))
  ·exact World.cell?_setCell_same _ _ _ ((cell_set_ne (by omega)).trans ((cell_set_ne (by omega)).trans ((far _).trans o3)))
 rw [hX];clear hX;refine⟨hbl,(hblk gs h.ne.1 h.ne.2.1).trans h.box,hown,fun r hr=>⟨?_,(h.rin r hr).2⟩,h.rne,fun n hn=> ?_,fun n hn=> ?_,fun n t e=> ?_,fun j=>by rw [hfz];exact h.bf j,fun j=>by rw [hfz];exact h.vf j,h.lo,by rw [hsz];exact h.hi,h.ne⟩
 ·obtain⟨r1,r2,r3,r4⟩:=(h.rin r hr).1
  refine⟨r1,r2,fun hp=>⟨(r3 hp).1,by rw [hsz];exact(r3 hp).2⟩,fun i hi j v' hv'=> ?_⟩
  obtain⟨_,n2,n3,_⟩:=h.rne r hr (by omega)
  rw [World.cell?_of_block (w:=y) (a:=⟨r.h.b,_,none⟩) (hblk r.h.b n2 n3)]
  exact r4 i hi j v' hv'
 ·rw [hgb]
  by_cases e:n=v
  ·subst e;rw [if_pos rfl];exact World.cell?_setCell_same _ _ _ (h.bnd n hn)
  ·rw [if_neg e,cell_set_ne e];exact h.bnd n hn
 ·by_cases e:n=v
  ·subst e;rw [if_pos rfl];exact⟨u,.inr rfl,hu,hnew⟩
  ·rw [if_neg e]
   obtain⟨t,h1,h2,h3,h4,h5⟩:=h.val n hn;exact⟨t,h1,h2,by rw [hgv _ (by omega)];exact h3,by rw [hgv _ (by omega)];exact h4,by rw [hgv _ (by omega)];exact h5⟩
 ·by_cases e2:n=v
  ·rw [e2];exact hv
  ·rw [if_neg e2]at e;exact h.dom n t e
theorem ebox_set6 {g:Nat} {v:Value} (h:Box y g (ecells q x gb gv lv) 104) :Box (y.setCell ⟨g,6,none⟩ v) g (ecells q x gb gv v) 104:=by
 have:=h.set 6 v
 simpa only [List.setIfInBounds_toArray,List.set_cons_zero,List.set_cons_succ]using this
theorem EW.o (h:EW w0 gs gb gv q x σ lv rows y) {lv':Value} {r:VL} (hg:y.grownBy z lv.ownBlock) (hx:z.ownsRow w0.heap.size 96 1 lv' (rows ++ [r]).length ((rows ++ [r]).flatMap VL.cells)) (hne: ∀j,lv'.ownBlock=some j→lv.ownBlock=some j∨y.heap.size≤j)
  (hr:r.In y) (hrn:0<r.l.length→r.h.b≠gs∧r.h.b≠gb∧r.h.b≠gv∧lv.ownBlock≠some r.h.b) :EW w0 gs gb gv q x σ lv' (rows ++ [r]) (z.setCell ⟨gs,6,none⟩ lv'):=by
 have ns:some gs≠lv.ownBlock:=fun e=>h.ne.2.2.2.1 e.symm
 have nb:some gb≠lv.ownBlock:=fun e=>h.ne.2.2.2.2.1 e.symm
 have nv:some gv≠lv.ownBlock:=fun e=>h.ne.2.2.2.2.2 e.symm
 have hd: ∀b,b<y.heap.size→lv.ownBlock≠some b→lv'.ownBlock≠some b:=fun b hb hn e=>by
  rcases hne b e with h1|h1
  ·exact hn h1
  ·omega
 have hlo: ∀j,lv.ownBlock=some j→w0.heap.size≤j:=fun j e=>(h.own.lt j e).1
 have hs:=gb_set z gs 6 lv';have hc: ∀b o,b<y.heap.size→some b≠lv.ownBlock→b≠gs→(z.setCell ⟨gs,6,none⟩ lv').cell? ⟨b,o,none⟩ =y.cell? ⟨b,o,none⟩:=fun b o hb hn hm=>by
  rw [cell_set_far hm];exact World.cell?_of_block (w:=y) (a:=⟨b,o,none⟩) (hg.block b hb hn)
 have hf: ∀b o,b<y.heap.size→some b≠lv.ownBlock→(z.setCell ⟨gs,6,none⟩ lv').frozen? ⟨b,o,none⟩ =y.frozen? ⟨b,o,none⟩:=fun b o hb hn=>by
  rw [frozen_set];simp only [World.frozen?];rw [hg.block b hb hn]
 have hsz:=hg.size;have hall: ∀t∈rows ++ [r],t.In y∧(0<t.l.length→t.h.b≠gs∧t.h.b≠gb∧t.h.b≠gv∧lv.ownBlock≠some t.h.b):=fun t ht=>by
  rcases List.mem_append.1 ht with ht|ht
  ·exact⟨h.rin t ht,h.rne t ht⟩
  ·rw [List.mem_singleton.1 ht];exact⟨hr,hrn⟩
 refine⟨(h.bel.grown hg h.bel.size (fun j e=>hlo j e)).grown hs (Nat.le_trans h.bel.size hsz) (fun j e=>by injection e with e;rw [←e];exact h.lo.1),ebox_set6 (h.box.grown hg ns),hx.kept hs (.inr (fun e=>hd gs h.hi.1 h.ne.2.2.2.1 e)),fun t ht=> ?_,fun t ht hp=> ?_,fun v hv=>by rw [hc gb v h.hi.2.1 nb (fun e=>h.ne.1 e.symm)];exact h.bnd v hv,fun v hv=> ?_,h.dom,fun j=>by rw [hf gb j h.hi.2.1 nb];exact h.bf j,fun j=>by rw [hf gv j h.hi.2.2 nv];exact h.vf j,h.lo,⟨by have:=h.hi.1;simp;omega,by have:=h.hi.2.1;simp;omega,by have:=h.hi.2.2;simp;omega⟩,h.ne.1,h.ne.2.1,h.ne.2.2.1,hd gs h.hi.1 h.ne.2.2.2.1,hd gb h.hi.2.1 h.ne.2.2.2.2.1,hd gv h.hi.2.2 h.ne.2.2.2.2.2⟩
 ·obtain⟨t1,t2⟩:=hall t ht
  refine⟨row_any (row_any t1.1 hg (fun hp e=>(t2 hp).2.2.2 e.symm)) hs (fun hp e=>(t2 hp).1 (by injection e)),t1.2⟩
 ·obtain⟨t1,t2⟩:=hall t ht
  obtain⟨a1,a2,a3,a4⟩:=t2 hp;exact⟨a1,a2,a3,hd _ (t1.1.2.2.1 hp).2 a4⟩
 ·obtain⟨u,h1,h2,h3⟩:=h.val v hv
  exact⟨u,h1,h2,h3.eq (fun j=>hc gv j h.hi.2.2 nv (fun e=>h.ne.2.1 e.symm))⟩
end
def BackE (σ σ':Vb V) (now:List Nat) :Prop:=∀y,σ y=if y∈now then none else σ' y
theorem BackE.refl (σ:Vb V) :BackE σ σ []:=fun _=>rfl
theorem BackE.bind {σ σ':Vb V} {now:List Nat} (h:BackE σ σ' now) {v:Nat} {t:V} (hv:σ' v=none) :BackE σ (fun y=>if y=v then some t else σ' y) (now ++ [v]):=by
 intro y;rw [h y];by_cases e:y=v
 ·subst e
  rw [if_pos (show y∈now ++ [y] by simp)]
  split
  ·rfl
  ·exact hv
 ·have:y∈now ++ [v]↔y∈now:=by simp [e]
  simp only [this,if_neg e]
end Go.Proofs.YtiijaaohphokcaaGreatDoor
/- slices.CompareFunc with value.Compare, value.CompareRows: the order of rows. -/
namespace Go.Proofs.YtiijaaohphokcaaGreatDoor
open Go.RowKit
theorem szv3: (Tryz.prog.info? 81).map (·.size) =some 3:=by kernel_rfl
theorem szbool2: (Tryz.prog.info? 4).map (·.size) =some 1:=by kernel_rfl
theorem cmpR_step {l m:List V} {k:Nat} (h1:k<l.length) (h2:k<m.length) :cmpR (l.drop k) (m.drop k) =thenC (cmpV l[k] m[k]) (cmpR (l.drop (k+1)) (m.drop (k+1))):=by
 rw [List.drop_eq_getElem_cons h1,List.drop_eq_getElem_cons h2];rfl
theorem gr2 (w:World) (x y:Obj) :Gr w ((w.alloc x).alloc y):=(grA w x).alloc y
theorem cmpf_any (a b:VL) (w:World) (ha:a.In w) (hb:b.In w) :Calls Tryz.prog 97 #[.slice a.h.ao a.l.length a.h.cap,.slice b.h.ao b.l.length b.h.cap,.func (.func 98) #[] #[]] w fun e w'=>e = .returned (.int .i64 (cmpR a.l b.l))∧Gr w w':=by
 have han:=ha.1.len;have hbn:=hb.1.len;have HA:=ai ha;have HB:=ai hb;clear ha hb
 go_enter Tryz.func97,Tryz.ntmps97;go_wp2;go_loopw [13] (fun i wr=>∃k:Nat,k≤a.l.length∧k≤b.l.length∧i = .int .i64 k∧Hid (cmpR a.l b.l=cmpR (a.l.drop k) (b.l.drop k))∧Hid (Gr w wr)) (fun i _=>a.l.length - (intOf i).toNat)
 case atStart=>exact⟨0,Nat.zero_le _,Nat.zero_le _,rfl,ai rfl,ai (Gr.refl _)⟩
 case round=>
  obtain⟨k,hk,hkb,rfl,HC,HG⟩:=hrel;by_cases hlt:k<a.l.length
  ·have hlti: (k:Int) <a.l.length:=by omega
   have hra:=HA.o.1.mono HG.o.bel;have hixa:=hra.ix hlt Tryz.underlying96 szv3;obtain⟨c0,c1,c2⟩:=val_at hra hlt;have hbka:=hra.blk hlt;by_cases hlb:k<b.l.length
   ·have hnb: ¬(b.l.length:Int)≤(k:Int):=by omega
    have hrb:=HB.o.1.mono HG.o.bel;have hixb:=hrb.ix hlb Tryz.underlying96 szv3;obtain⟨d0,d1,d2⟩:=val_at hrb hlb;have hbkb:=hrb.blk hlb;have HST:=ai (HC.o.trans (cmpR_step hlt hlb));obtain⟨x,hx⟩ : ∃x,a.l[k] =x:=⟨_,rfl⟩;obtain⟨y,hy⟩ : ∃y,b.l[k] =y:=⟨_,rfl⟩;rw [hx]at c0 c1 c2 HST;rw [hy]at d0 d1 d2 HST;have HV:=ai (fun W=>vcmp_any x y W)
    obtain⟨c,hc⟩ : ∃c,cmpV x y=c:=⟨_,rfl⟩;rw [hc]at HV HST;obtain⟨xk,xn,xt⟩:=x;obtain⟨yk,yn,yt⟩:=y
    dsimp only at c0 c1 c2 d0 d1 d2 HV
    clear hc hx hy hra hrb HC;generalize a.h.o+k*3=pa at *;generalize b.h.o+k*3=pb at *;by_cases h0:c=0
    ·have hcb: (c != 0) =false:=by rw [h0];rfl
     have HN:=ai (show cmpR a.l b.l=cmpR (a.l.drop (k+1)) (b.l.drop (k+1))from by rw [HST.o,h0];exact if_neg (fun h=>h rfl))
     clear h0;go_wp2_with (go_at_call 98;refine(HV.o _).mono ?_;rintro e z ⟨rfl,hz⟩;have HZ:=ai ((HG.o.trans (gr2 _ _ _)).trans hz);clear hz)
     go_roundw
     case rel=>exact⟨k+1,by omega,by omega,by go_num,HN,HZ⟩
     case measure=>simp [intOf];omega
    ·have hcb: (c != 0) =true:=bne_iff_ne.2 h0
     have HN:=ai (show cmpR a.l b.l=c from by rw [HST.o];exact if_pos h0)
     clear h0;go_wp2_with (go_at_call 98;refine(HV.o _).mono ?_;rintro e z ⟨rfl,hz⟩;have HZ:=ai ((HG.o.trans (gr2 _ _ _)).trans hz);clear hz)
     go_ret
     exact⟨by rw [HN.o];rfl,HZ.o⟩
   ·have hnb: (b.l.length:Int)≤(k:Int):=by omega
    have HN:=ai (show cmpR a.l b.l=1 from by rw [HC.o,List.drop_eq_getElem_cons hlt,show b.l.drop k = []from List.drop_of_length_le (by omega)];rfl)
    have HG2:=ai (HG.o.trans (grA wr (.cells #[.int .i64 (a.l[k]).kind,.int .i64 (a.l[k]).num,.string (a.l[k]).text] 81)));go_wp2;go_ret
    exact⟨by rw [HN.o];rfl,HG2.o⟩
  ·have hlti: ¬(k:Int) <a.l.length:=by omega
   have hka:k=a.l.length:=by omega
   by_cases hlb:k<b.l.length
   ·have hab: (a.l.length:Int) <b.l.length:=by omega
    have HN:=ai (show cmpR a.l b.l = -1 from by rw [HC.o,show a.l.drop k = []from List.drop_of_length_le (by omega),List.drop_eq_getElem_cons hlb];rfl)
    clear hka;go_wp2;go_ret
    exact⟨by rw [HN.o];rfl,HG.o⟩
   ·have hab: ¬(a.l.length:Int) <b.l.length:=by omega
    have HN:=ai (show cmpR a.l b.l=0 from by rw [HC.o,show a.l.drop k = []from List.drop_of_length_le (by omega),show b.l.drop k = []from List.drop_of_length_le (by omega)];rfl)
    clear hka;go_wp2;go_ret
    exact⟨by rw [HN.o];rfl,HG.o⟩
theorem cmprows_any (a b:VL) (w:World) (ha:a.In w) (hb:b.In w) :Calls Tryz.prog 59 #[.slice a.h.ao a.l.length a.h.cap,.slice b.h.ao b.l.length b.h.cap] w fun e w'=>e = .returned (.int .i64 (cmpR a.l b.l))∧Gr w w':=by
 have HC:=ai (cmpf_any a b w ha hb);clear ha hb;generalize cmpR a.l b.l=r at *
 go_enter Tryz.func59,Tryz.ntmps59;go_wp2_with (go_at_call 97;refine HC.o.mono ?_;rintro e z ⟨rfl,hz⟩)
 go_ret
 exact⟨rfl,hz⟩
end Go.Proofs.YtiijaaohphokcaaGreatDoor

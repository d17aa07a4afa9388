/- A part of the proof of AlgebraMade. -/
import Derived.Test.YtogalchclmmfgaaDoorP21
import Derived.Deep.AppendLies
set_option maxRecDepth 100000
set_option maxHeartbeats 16000000
namespace Go.Proofs.YtogalchclmmfgaaDoor
open Go.RowKit
theorem fe_zero: ∀ {l:List Int},firstE l=0→∀e∈l,e=0
 | [],_,_,h=>absurd h List.not_mem_nil
 | a :: l,h,e,he=>by
  by_cases ha:a=0
  ·subst ha
   rw [firstE_cons0]at h;rcases List.mem_cons.1 he with rfl|he
   ·rfl
   ·exact fe_zero h e he
  ·rw [firstE_cons ha]at h
   exact absurd h ha
theorem fe_all {l:List Int} (h: ∀e∈l,e=0) :firstE l=0:=by
 have:=firstE_app0 (a:=l) [] h
 rw [List.append_nil]at this;rw [this]
 rfl
theorem tq_zero {s:Sch} {q:Qu} (h: (q.tq s).1=0) : (∀x∈q.kids,(x.tq s).1=0)∧q.tq s=opK s q (q.kids.map fun x=>(x.tq s).2):=by
 rw [Qu.tq_eq]at h ⊢
 unfold topQ at h ⊢
 by_cases h1:firstE ((q.kids.map fun x=>x.tq s).map Prod.fst)≠0
 ·rw [if_pos h1]at h;exact absurd h h1
 rw [if_neg h1]at h ⊢;by_cases h2:plainB q=false
 ·rw [if_pos h2]at h;exact absurd h (by decide)
 rw [if_neg h2]at h ⊢;by_cases h3: (q.kids.map fun x=>x.tq s).length≠kidsN q.op
 ·rw [if_pos h3]at h;exact absurd h (by decide)
 rw [if_neg h3];refine⟨fun x hx=> ?_,by rw [List.map_map];rfl⟩
 refine fe_zero (Decidable.not_not.1 h1) _ ?_
 rw [List.map_map];exact List.mem_map.2 ⟨x,hx,rfl⟩
def ColsAre (ts:List Int) (xs:List Ex) (ks:List Int) :Prop:=colsE ts xs=0→colsT ts xs=ks
theorem ColsAre.nil (ts:List Int) :ColsAre ts [] []:=fun _=>rfl
theorem ColsAre.snoc {ts:List Int} {xs:List Ex} {ks:List Int} {e:Ex} {k:Int} (h:ColsAre ts xs ks) (he:TyK ts k e) :ColsAre ts (xs ++ [e]) (ks ++ [k]):=fun h0=>by
 have ha:=fe_zero h0;have h1:colsE ts xs=0:=fe_all fun x hx=>ha x (by rw [List.map_append];exact List.mem_append_left _ hx)
 have h2: (e.typ2 ts).2=0:=ha _ (by rw [List.map_append];exact List.mem_append_right _ (by simp))
 have h3:=h h1
 unfold colsT at h3 ⊢
 rw [List.map_append,h3,List.map_cons,List.map_nil,he.typ2 h2]
def AggsAre (ts:List Int) (gs:List Agg) (ks:List Int) :Prop:=aggsE ts gs=0→aggsT ts gs=ks
theorem AggsAre.nil (ts:List Int) :AggsAre ts [] []:=fun _=>rfl
theorem AggsAre.snoc {ts:List Int} {gs:List Agg} {ks:List Int} {x:Agg} {k:Int} (h:AggsAre ts gs ks) (hx: (aggTy ts x).1=0→(aggTy ts x).2=k) :AggsAre ts (gs ++ [x]) (ks ++ [k]):=fun h0=>by
 have ha:=fe_zero h0;have h1:aggsE ts gs=0:=fe_all fun x hx=>ha x (by rw [List.map_append];exact List.mem_append_left _ hx)
 have h2: (aggTy ts x).1=0:=ha _ (by rw [List.map_append];exact List.mem_append_right _ (by simp))
 have h3:=h h1
 unfold aggsT at h3 ⊢
 rw [List.map_append,h3,List.map_cons,List.map_nil,hx h2]
theorem agg_mm {ts:List Int} {x:Agg} {k:Int} (h:x.fn=5∨x.fn=6) (hk:TyK ts k x.arg) : (aggTy ts x).1=0→(aggTy ts x).2=k:=by
 unfold aggTy
 split
 ·intro h2;exact absurd h2 (by decide)
 rw [if_neg (by omega)]
 split
 ·rename_i h3;intro h2;exact absurd h2 h3
 ·rename_i h3
  first|exact fun _=>hk.typ2 (Decidable.not_not.1 h3) | (rw [if_pos h];exact fun _=>hk.typ2 (Decidable.not_not.1 h3))
theorem agg_int {ts:List Int} {x:Agg} (h:x.fn≠5∧x.fn≠6) : (aggTy ts x).1=0→(aggTy ts x).2=1:=by
 unfold aggTy
 split
 ·intro h2;exact absurd h2 (by decide)
 split
 ·exact fun _=>rfl
 split
 ·rename_i h3;intro h2;exact absurd h2 h3
 rw [if_neg (by omega)]
 split
 ·intro h2;exact absurd h2 (by decide)
 ·exact fun _=>rfl
theorem mq_scan {s:Sch} {q:Qu} {i:Nat} (hop:q.op=1) (hi:i<s.tabs.length) (ht:q.table=s.tabs[i].name) (hn:fok (named s.tabs[i].name) s.tabs=true∧fi (named s.tabs[i].name) s.tabs= (i:Int)) : (q.tq s).1=0→(q.tq s).2=s.tabs[i].cols.map Col.typ:=fun h=>by
 rw [(tq_zero h).2]
 unfold opK
 rw [if_pos hop,ht,if_pos hn.1];exact scan_ty hi _ hn.2
theorem mq_vals {s:Sch} {q:Qu} (hop:q.op=2) : (q.tq s).1=0→(q.tq s).2=q.types.l:=fun h=>by
 have h2:=(tq_zero h).2;rw [h2]at h ⊢
 unfold opK at h ⊢
 rw [if_neg (by omega),if_pos hop]at h ⊢
 exact if_pos h
theorem kid1 {s:Sch} {q x:Qu} {ts:List Int} (hk:q.kids = [x]) (hx: (x.tq s).1=0→(x.tq s).2=ts) (h: (q.tq s).1=0) :q.tq s=opK s q [ts]:=by
 obtain⟨h1,h2⟩:=tq_zero h;rw [hk]at h1 h2;rw [h2,List.map_cons,List.map_nil,hx (h1 x (by simp))]
theorem kid2 {s:Sch} {q x y:Qu} {ts us:List Int} (hk:q.kids = [x,y]) (hx: (x.tq s).1=0→(x.tq s).2=ts) (hy: (y.tq s).1=0→(y.tq s).2=us) (h: (q.tq s).1=0) :q.tq s=opK s q [ts,us]:=by
 obtain⟨h1,h2⟩:=tq_zero h;rw [hk]at h1 h2;rw [h2,List.map_cons,List.map_cons,List.map_nil,hx (h1 x (by simp)),hy (h1 y (by simp))]
theorem kid2a {s:Sch} {q x y:Qu} {ts:List Int} (hk:q.kids = [x,y]) (hx: (x.tq s).1=0→(x.tq s).2=ts) (h: (q.tq s).1=0) :q.tq s=opK s q [ts,(y.tq s).2]:=by
 obtain⟨h1,h2⟩:=tq_zero h;rw [hk]at h1 h2;rw [h2,List.map_cons,List.map_cons,List.map_nil,hx (h1 x (by simp))]
theorem mq_sel {s:Sch} {q x:Qu} {ts:List Int} (hop:q.op=3) (hk:q.kids = [x]) (hx: (x.tq s).1=0→(x.tq s).2=ts) : (q.tq s).1=0→(q.tq s).2=ts:=fun h=>by
 have h2:=kid1 hk hx h;rw [h2]at h ⊢
 unfold opK at h ⊢
 rw [if_neg (by omega),if_neg (by omega),if_pos hop]at h ⊢
 exact if_pos h
theorem mq_proj {s:Sch} {q x:Qu} {ts ks:List Int} (hop:q.op=4) (hk:q.kids = [x]) (hx: (x.tq s).1=0→(x.tq s).2=ts) (hc:ColsAre ts q.exprs ks) : (q.tq s).1=0→(q.tq s).2=ks:=fun h=>by
 have h2:=kid1 hk hx h;rw [h2]at h ⊢
 unfold opK at h ⊢
 rw [if_neg (by omega),if_neg (by omega),if_neg (by omega),if_pos hop]at h ⊢
 by_cases h3:q.exprs.length=0∨24<q.exprs.length
 ·rw [if_pos h3]at h;exact absurd h (by decide)
 rw [if_neg h3]at h ⊢;by_cases h4:colsE ts q.exprs≠0
 ·rw [if_pos (show colsE (List.getD [ts] 0 []) q.exprs≠0 from h4)]at h
  exact absurd h h4
 ·rw [if_neg (show¬colsE (List.getD [ts] 0 []) q.exprs≠0 from h4)]
  exact hc (Decidable.not_not.1 h4)
theorem mq_dist {s:Sch} {q x:Qu} {ts:List Int} (hop:q.op=9) (hk:q.kids = [x]) (hx: (x.tq s).1=0→(x.tq s).2=ts) : (q.tq s).1=0→(q.tq s).2=ts:=fun h=>by
 rw [kid1 hk hx h]
 unfold opK
 rw [if_neg (by omega),if_neg (by omega),if_neg (by omega),if_neg (by omega),if_neg (by omega),if_neg (by omega),if_pos hop]
 rfl
theorem mq_group {s:Sch} {q x:Qu} {ts ks ka:List Int} (hop:q.op=10) (hk:q.kids = [x]) (hx: (x.tq s).1=0→(x.tq s).2=ts) (hc:ColsAre ts q.exprs ks) (ha:AggsAre ts q.aggs ka) : (q.tq s).1=0→(q.tq s).2=ks ++ ka:=fun h=>by
 have h2:=kid1 hk hx h;rw [h2]at h ⊢
 unfold opK at h ⊢
 rw [if_neg (by omega),if_neg (by omega),if_neg (by omega),if_neg (by omega),if_neg (by omega),if_pos hop]at h ⊢
 change (groupTy ts q).1=0 at h
 change (groupTy ts q).2=_
 unfold groupTy at h ⊢
 by_cases h3:q.exprs.length+q.aggs.length<1∨24<q.exprs.length+q.aggs.length
 ·rw [if_pos h3]at h;exact absurd h (by decide)
 rw [if_neg h3]at h ⊢;by_cases h4:colsE ts q.exprs≠0
 ·rw [if_pos h4]at h;exact absurd h h4
 rw [if_neg h4]at h ⊢;by_cases h5:aggsE ts q.aggs≠0
 ·rw [if_pos h5]at h;exact absurd h h5
 rw [if_neg h5,hc (Decidable.not_not.1 h4),ha (Decidable.not_not.1 h5)]
theorem mq_sets {s:Sch} {q x y:Qu} {ts:List Int} (hop:6≤q.op∧q.op≤8) (hk:q.kids = [x,y]) (hx: (x.tq s).1=0→(x.tq s).2=ts) : (q.tq s).1=0→(q.tq s).2=ts:=fun h=>by
 have h2:=kid2a hk hx h;rw [h2]at h ⊢
 unfold opK at h ⊢
 rw [if_neg (by omega),if_neg (by omega),if_neg (by omega),if_neg (by omega),if_neg (by omega),if_neg (by omega),if_neg (by omega)]at h ⊢
 by_cases h3:eqb (List.getD [ts,(y.tq s).2] 0 []) (List.getD [ts,(y.tq s).2] 1 []) =true
 ·rw [if_pos h3];rfl
 ·rw [if_neg h3]at h;exact absurd h (by decide)
theorem mq_join {s:Sch} {q x y:Qu} {ts us:List Int} (hop:q.op=5) (hk:q.kids = [x,y]) (hx: (x.tq s).1=0→(x.tq s).2=ts) (hy: (y.tq s).1=0→(y.tq s).2=us) :
  (q.tq s).1=0→(q.tq s).2=if q.kind=5∨q.kind=6 then ts else ts ++ us:=fun h=>by
 have h2:=kid2 hk hx hy h;rw [h2]at h ⊢
 unfold opK at h ⊢
 rw [if_neg (by omega),if_neg (by omega),if_neg (by omega),if_neg (by omega),if_pos hop]at h ⊢
 change (joinTy ts us q).1=0 at h
 change (joinTy ts us q).2=_
 unfold joinTy at h ⊢
 by_cases h3:q.kind<1∨6<q.kind
 ·rw [if_pos h3]at h;exact absurd h (by decide)
 rw [if_neg h3]at h ⊢;by_cases h4:24<ts.length+us.length
 ·rw [if_pos h4]at h;exact absurd h (by decide)
 rw [if_neg h4]at h ⊢;by_cases h5:condE (ts ++ us) q.cond≠0
 ·rw [if_pos h5]at h;exact absurd h h5
 rw [if_neg h5]
 split<;>rfl
end Go.Proofs.YtogalchclmmfgaaDoor
namespace Go.Proofs.YtogalchclmmfgaaDoor
open Go.RowKit
def X4 (eh ah vh:Hd) (xb:Option Nat) (k:Nat) :Prop:=eh.ob=some k∨ah.ob=some k∨vh.ob=some k∨xb=some k
abbrev qbox (op:Int) (be ba kd:Value) :Array Value:=#[.int .i64 op,.string ⟨#[]⟩,.int .i64 0,.bool false,.int .i64 0,.int .i64 0,.int .i64 0,.string ⟨#[]⟩,.int .i64 0,.slice none 0 0,be,ba,.slice none 0 0,.slice none 0 0,kd]
abbrev ExI (e:Ex) (x:World) :Prop:=e.In x
abbrev AgI (a:Agg) (x:World) :Prop:=int64 a.fn∧a.arg.In x
structure GS (w z0 z:World) (b bp:Nat) (L:IL) (a:Nat) (op:Int) (kd be ba:Value) (eh:Hd) (xs:List Ex) (ah:Hd) (gs:List Agg) (vh:Hd) (ks:List Int) (pend:List Ex) (xb:Option Nat) (lits:List (Nat×Array Value×TypeId)) :Prop where
 gb:w.grownBy z (some b)
 lw:w.heap.size≤bp∧bp<z0.heap.size
 ll:b<w.heap.size∧(0<L.l.length→L.h.b<w.heap.size)
 tp:TapeIn z b L a
 kp:Kept b bp z0 z
 bx:Box z bp (qbox op be ba kd) 57
 oe:z.ownsRow z0.heap.size 45 6 (.slice eh.ao xs.length eh.cap) xs.length (xs.flatMap Ex.cells)
 oa:z.ownsRow z0.heap.size 63 7 (.slice ah.ao gs.length ah.cap) gs.length (gs.flatMap Agg.cells)
 ov:z.ownsRow z0.heap.size 3 1 (.slice vh.ao ks.length vh.cap) ks.length (ks.flatMap icells)
 ie:Els ExI z0.heap.size (X4 eh ah vh xb) z xs
 ia:Els AgI z0.heap.size (X4 eh ah vh xb) z gs
 ip:Els ExI z0.heap.size (X4 eh ah vh xb) z pend
 xn: ∀g,xb=some g→z0.heap.size≤g∧g<z.heap.size∧eh.ob≠some g∧ah.ob≠some g∧vh.ob≠some g
 bl: ∀x∈lits,Box z x.1 x.2.1 x.2.2∧z0.heap.size≤x.1∧¬X4 eh ah vh xb x.1
section
variable {w z0 z z':World} {b bp a a' g cap:Nat} {L:IL} {op:Int} {kd be ba:Value} {eh ah vh:Hd} {xs pend:List Ex} {gs:List Agg} {ks:List Int} {xb:Option Nat} {lits:List (Nat×Array Value×TypeId)}
theorem GS.szz (h:GS w z0 z b bp L a op kd be ba eh xs ah gs vh ks pend xb lits) :z0.heap.size≤z.heap.size:=h.kp.2
theorem GS.move {r:Option Nat} (h:GS w z0 z b bp L a op kd be ba eh xs ah gs vh ks pend xb lits) (hg:z.grownBy z' r) (hr: ∀g,r=some g→g=b∨xb=some g) (ht:TapeIn z' b L a') :GS w z0 z' b bp L a' op kd be ba eh xs ah gs vh ks pend xb lits:=by
 have hl:=h.lw;have hll:=h.ll;have hsz:=h.szz;have hne: ∀g,r=some g→g≠bp∧eh.ob≠some g∧ah.ob≠some g∧vh.ob≠some g:=fun g e=>by
  rcases hr g e with rfl|h1
  ·exact⟨by omega,fun e=>by have:=(own_ob h.oe e).1;omega,fun e=>by have:=(own_ob h.oa e).1;omega,fun e=>by have:=(own_ob h.ov e).1;omega⟩
  ·have:=h.xn g h1
   exact⟨by omega,this.2.2.1,this.2.2.2.1,this.2.2.2.2⟩
 have hrr: ∀g,r=some g→g<z0.heap.size∨z.heap.size≤g∨X4 eh ah vh xb g:=fun g e=>by
  rcases hr g e with rfl|h1
  ·exact .inl (by omega)
  ·exact .inr (.inr (.inr (.inr (.inr h1))))
 refine⟨?_,hl,hll,ht,?_,?_,?_,?_,?_,h.ie.step hg hrr (fun k hk=>.inl hk),h.ia.step hg hrr (fun k hk=>.inl hk),h.ip.step hg hrr (fun k hk=>.inl hk),?_,?_⟩
 ·refine h.gb.andThen hg fun j e=> ?_
  rcases hr j e with rfl|h1
  ·exact .inr rfl
  ·exact .inl (by have:=h.xn j h1;omega)
 ·refine⟨fun k hk h1 h2=> ?_,Nat.le_trans h.kp.2 hg.size⟩
  rw [hg.block k (Nat.lt_of_lt_of_le hk hsz) (fun e=>by
   rcases hr k e.symm with e|e
   ·exact h1 e
   ·have:=h.xn k e;omega)]
  exact h.kp.1 k hk h1 h2
 ·exact h.bx.grown hg (fun e=>(hne bp e.symm).1 rfl)
 ·exact own_keep h.oe hg fun g e=>(hne g e).2.1
 ·exact own_keep h.oa hg fun g e=>(hne g e).2.2.1
 ·exact own_keep h.ov hg fun g e=>(hne g e).2.2.2
 ·exact fun g e=>⟨(h.xn g e).1,Nat.lt_of_lt_of_le (h.xn g e).2.1 hg.size,(h.xn g e).2.2⟩
 ·exact fun x hx=>⟨(h.bl x hx).1.grown hg (fun e=>by
   rcases hr x.1 e.symm with e|e
   ·have:=(h.bl x hx).2.1;omega
   ·exact(h.bl x hx).2.2 (.inr (.inr (.inr e)))),(h.bl x hx).2⟩
theorem GS.tape (h:GS w z0 z b bp L a op kd be ba eh xs ah gs vh ks pend xb lits) (hg:z.grownBy z' (some b)) (ht:TapeIn z' b L a') :GS w z0 z' b bp L a' op kd be ba eh xs ah gs vh ks pend xb lits:=h.move hg (fun g e=>by injection e with e;exact .inl e.symm) ht
theorem GS.below (h:GS w z0 z b bp L a op kd be ba eh xs ah gs vh ks pend xb lits) (hb:Below z.heap.size z z') :GS w z0 z' b bp L a op kd be ba eh xs ah gs vh ks pend xb lits:=h.move (r:=none) (only_below hb none) (fun g e=>by cases e) (h.tp.mono hb)
theorem GS.drew (h:GS w z0 z b bp L a op kd be ba eh xs ah gs vh ks pend xb lits) :GS w z0 z.drew b bp L a op kd be ba eh xs ah gs vh ks pend xb lits:=h.below (bel_self z)
theorem GS.alloc (h:GS w z0 z b bp L a op kd be ba eh xs ah gs vh ks pend xb lits) (o:Obj) :GS w z0 (z.alloc o) b bp L a op kd be ba eh xs ah gs vh ks pend xb lits:=h.below (belA o)
theorem GS.x4lt (h:GS w z0 z b bp L a op kd be ba eh xs ah gs vh ks pend xb lits) {k:Nat} (hk:X4 eh ah vh xb k) :z0.heap.size≤k∧k<z.heap.size:=by
 rcases hk with e|e|e|e
 ·exact⟨(own_ob h.oe e).1,(own_ob h.oe e).2.1⟩
 ·exact⟨(own_ob h.oa e).1,(own_ob h.oa e).2.1⟩
 ·exact⟨(own_ob h.ov e).1,(own_ob h.ov e).2.1⟩
 ·exact⟨(h.xn k e).1,(h.xn k e).2.1⟩
theorem GS.push (h:GS w z0 z b bp L a op kd be ba eh xs ah gs vh ks [] xb lits) (hg:z.grownBy z' (some b)) (ht:TapeIn z' b L a') {e:Ex} (hi:e.In z') (hf:e.Fresh z.heap.size) :GS w z0 z' b bp L a' op kd be ba eh xs ah gs vh ks [e] xb lits:=by
 have h1:=h.tape hg ht;refine { h1 with ip:=?_ }
 exact Els.nil.snoc (xs:= []) (ex_dep hi hf) (fun k hk=>⟨Nat.le_trans h.szz hk.1,fun hx=>by have:=h.x4lt hx;have:=hk.1;omega⟩)
theorem GS.rows {r:Option Nat} (h:GS w z0 z b bp L a op kd be ba eh xs ah gs vh ks pend xb lits) (hg:z.grownBy z' r) (hr: ∀g,r=some g→X4 eh ah vh xb g) :
  w.grownBy z' (some b)∧TapeIn z' b L a∧Kept b bp z0 z'∧Box z' bp (qbox op be ba kd) 57:=by
 have hl:=h.lw;have hll:=h.ll;have hsz:=h.szz;have hge: ∀g,r=some g→z0.heap.size≤g:=fun g e=>(h.x4lt (hr g e)).1
 refine⟨gbo h.gb hg (fun g e=>by have:=hge g e;omega),tzo h.tp hg hll (fun g e=>by have:=hge g e;omega),⟨fun k hk h1 h2=> ?_,Nat.le_trans h.kp.2 hg.size⟩,h.bx.grown hg (fun e=>by have:=hge bp e.symm;omega)⟩
 rw [hg.block k (Nat.lt_of_lt_of_le hk hsz) (fun e=>by have:=hge k e.symm;omega)]
 exact h.kp.1 k hk h1 h2
theorem GS.appE {e:Ex} (h:GS w z0 z b bp L a op kd be ba eh xs ah gs vh ks [e] xb lits)
  (ho:z'.ownsRow z0.heap.size 45 6 (.slice (some ⟨g,0,none⟩) (xs.length+1) cap) (xs.length+1) (xs.flatMap Ex.cells ++ Ex.cells e)) (hg:z.grownBy z' (Value.slice eh.ao xs.length eh.cap).ownBlock) (hat: (Value.slice eh.ao xs.length eh.cap).ownBlock=some g∨g=z.heap.size) :
  GS w z0 z' b bp L a op kd be ba ⟨some ⟨g,0,none⟩,cap⟩ (xs ++ [e]) ah gs vh ks [] xb lits:=by
 rw [Hd.ob_eq]at hg hat;obtain⟨h1,h2,h3,h4⟩:=h.rows hg (fun g e=>.inl e)
 have hX: ∀k,X4 ⟨some ⟨g,0,none⟩,cap⟩ ah vh xb k→X4 eh ah vh xb k∨z.heap.size≤k:=fun k hk=>by
  rcases hk with e|e|e|e
  ·have e:g=k:=by simpa [Hd.ob]using e
   subst e;rcases hat with e|e
   ·exact .inl (.inl e)
   ·exact .inr (by omega)
  ·exact .inl (.inr (.inl e))
  ·exact .inl (.inr (.inr (.inl e)))
  ·exact .inl (.inr (.inr (.inr e)))
 have hr: ∀g,eh.ob=some g→g<z0.heap.size∨z.heap.size≤g∨X4 eh ah vh xb g:=fun g e=>.inr (.inr (.inl e))
 refine⟨h1,h.lw,h.ll,h2,h3,h4,?_,own_keep h.oa hg fun g e=>own_ob_ne h.oa h.oe (by decide) e,own_keep h.ov hg fun g e=>own_ob_ne h.ov h.oe (by decide) e,?_,h.ia.step hg hr hX,Els.nil,?_,?_⟩
 ·rw [fm_snoc,List.length_append]
  exact ho
 ·intro x hx
  rcases List.mem_append.1 hx with hx|hx
  ·exact h.ie.step hg hr hX x hx
  ·exact h.ip.step hg hr hX x hx
 ·intro k hk
  have hx:=h.xn k hk;refine⟨hx.1,Nat.lt_of_lt_of_le hx.2.1 hg.size,fun e=> ?_,hx.2.2.2⟩
  have e:g=k:=by simpa [Hd.ob]using e
  rcases hat with e'|e'
  ·exact hx.2.2.1 (by rw [e',e])
  ·omega
 ·exact fun x hx=>⟨(h.bl x hx).1.grown hg (fun e=>(h.bl x hx).2.2 (.inl e.symm)),(h.bl x hx).2.1,fun hk=>by
   rcases hX x.1 hk with h5|h5
   ·exact(h.bl x hx).2.2 h5
   ·have:=(h.bl x hx).1.lt;omega⟩
theorem GS.appA {x:Agg} (h:GS w z0 z b bp L a op kd be ba eh xs ah gs vh ks [x.arg] xb lits) (hfn:int64 x.fn)
  (ho:z'.ownsRow z0.heap.size 63 7 (.slice (some ⟨g,0,none⟩) (gs.length+1) cap) (gs.length+1) (gs.flatMap Agg.cells ++ Agg.cells x)) (hg:z.grownBy z' (Value.slice ah.ao gs.length ah.cap).ownBlock) (hat: (Value.slice ah.ao gs.length ah.cap).ownBlock=some g∨g=z.heap.size) :
  GS w z0 z' b bp L a op kd be ba eh xs ⟨some ⟨g,0,none⟩,cap⟩ (gs ++ [x]) vh ks [] xb lits:=by
 rw [Hd.ob_eq]at hg hat;obtain⟨h1,h2,h3,h4⟩:=h.rows hg (fun g e=>.inr (.inl e))
 have hX: ∀k,X4 eh ⟨some ⟨g,0,none⟩,cap⟩ vh xb k→X4 eh ah vh xb k∨z.heap.size≤k:=fun k hk=>by
  rcases hk with e|e|e|e
  ·exact .inl (.inl e)
  ·have e:g=k:=by simpa [Hd.ob]using e
   subst e;rcases hat with e|e
   ·exact .inl (.inr (.inl e))
   ·exact .inr (by omega)
  ·exact .inl (.inr (.inr (.inl e)))
  ·exact .inl (.inr (.inr (.inr e)))
 have hr: ∀g,ah.ob=some g→g<z0.heap.size∨z.heap.size≤g∨X4 eh ah vh xb g:=fun g e=>.inr (.inr (.inr (.inl e)))
 refine⟨h1,h.lw,h.ll,h2,h3,h4,own_keep h.oe hg fun g e=>own_ob_ne h.oe h.oa (by decide) e,?_,own_keep h.ov hg fun g e=>own_ob_ne h.ov h.oa (by decide) e,h.ie.step hg hr hX,?_,Els.nil,?_,?_⟩
 ·rw [fm_snoc,List.length_append]
  exact ho
 ·intro y hy
  rcases List.mem_append.1 hy with hy|hy
  ·exact h.ia.step hg hr hX y hy
  ·rw [List.mem_singleton.1 hy]
   exact(h.ip.step hg hr hX x.arg (by simp)).imp fun u hu=>⟨hfn,hu⟩
 ·intro k hk
  have hx:=h.xn k hk;refine⟨hx.1,Nat.lt_of_lt_of_le hx.2.1 hg.size,hx.2.2.1,fun e=> ?_,hx.2.2.2.2⟩
  have e:g=k:=by simpa [Hd.ob]using e
  rcases hat with e'|e'
  ·exact hx.2.2.2.1 (by rw [e',e])
  ·omega
 ·exact fun x hx=>⟨(h.bl x hx).1.grown hg (fun e=>(h.bl x hx).2.2 (.inr (.inl e.symm))),(h.bl x hx).2.1,fun hk=>by
   rcases hX x.1 hk with h5|h5
   ·exact(h.bl x hx).2.2 h5
   ·have:=(h.bl x hx).1.lt;omega⟩
theorem GS.appT {k:Int} (h:GS w z0 z b bp L a op kd be ba eh xs ah gs vh ks pend xb lits)
  (ho:z'.ownsRow z0.heap.size 3 1 (.slice (some ⟨g,0,none⟩) (ks.length+1) cap) (ks.length+1) (ks.flatMap icells ++ icells k)) (hg:z.grownBy z' (Value.slice vh.ao ks.length vh.cap).ownBlock) (hat: (Value.slice vh.ao ks.length vh.cap).ownBlock=some g∨g=z.heap.size) :
  GS w z0 z' b bp L a op kd be ba eh xs ah gs ⟨some ⟨g,0,none⟩,cap⟩ (ks ++ [k]) pend xb lits:=by
 rw [Hd.ob_eq]at hg hat;obtain⟨h1,h2,h3,h4⟩:=h.rows hg (fun g e=>.inr (.inr (.inl e)))
 have hX: ∀k,X4 eh ah ⟨some ⟨g,0,none⟩,cap⟩ xb k→X4 eh ah vh xb k∨z.heap.size≤k:=fun k hk=>by
  rcases hk with e|e|e|e
  ·exact .inl (.inl e)
  ·exact .inl (.inr (.inl e))
  ·have e:g=k:=by simpa [Hd.ob]using e
   subst e;rcases hat with e|e
   ·exact .inl (.inr (.inr (.inl e)))
   ·exact .inr (by omega)
  ·exact .inl (.inr (.inr (.inr e)))
 have hr: ∀g,vh.ob=some g→g<z0.heap.size∨z.heap.size≤g∨X4 eh ah vh xb g:=fun g e=>.inr (.inr (.inr (.inr (.inl e))))
 refine⟨h1,h.lw,h.ll,h2,h3,h4,own_keep h.oe hg fun g e=>own_ob_ne h.oe h.ov (by decide) e,own_keep h.oa hg fun g e=>own_ob_ne h.oa h.ov (by decide) e,?_,h.ie.step hg hr hX,h.ia.step hg hr hX,h.ip.step hg hr hX,?_,?_⟩
 ·rw [fm_snoc,List.length_append]
  exact ho
 ·intro k hk
  have hx:=h.xn k hk;refine⟨hx.1,Nat.lt_of_lt_of_le hx.2.1 hg.size,hx.2.2.1,hx.2.2.2.1,fun e=> ?_⟩
  have e:g=k:=by simpa [Hd.ob]using e
  rcases hat with e'|e'
  ·exact hx.2.2.2.2 (by rw [e',e])
  ·omega
 ·exact fun x hx=>⟨(h.bl x hx).1.grown hg (fun e=>(h.bl x hx).2.2 (.inr (.inr (.inl e.symm)))),(h.bl x hx).2.1,fun hk=>by
   rcases hX x.1 hk with h5|h5
   ·exact(h.bl x hx).2.2 h5
   ·have:=(h.bl x hx).1.lt;omega⟩
theorem GS.store (h:GS w z0 z b bp L a op kd be ba eh xs ah gs vh ks pend xb lits) (j:Nat) (u:Value) {be' ba':Value} (hc: (qbox op be ba kd).setIfInBounds j u=qbox op be' ba' kd) :GS w z0 (z.setCell ⟨bp,j,none⟩ u) b bp L a op kd be' ba' eh xs ah gs vh ks pend xb lits:=by
 have hl:=h.lw;have hll:=h.ll;have hsz:=h.szz;have hg:=gb_set z bp j u;have hr: ∀g,some bp=some g→g<z0.heap.size∨z.heap.size≤g∨X4 eh ah vh xb g:=fun g e=>.inl (by injection e with e;omega)
 refine⟨gb_then h.gb hg hl.1,hl,hll,tz2 h.tp hg hll hl.1,h.kp.set j u,?_,own_keep h.oe hg fun g e e'=>by have:=(own_ob h.oe e').1;injection e with e;omega,own_keep h.oa hg fun g e e'=>by have:=(own_ob h.oa e').1;injection e with e;omega,own_keep h.ov hg fun g e e'=>by have:=(own_ob h.ov e').1;injection e with e;omega,h.ie.step hg hr (fun k hk=>.inl hk),h.ia.step hg hr (fun k hk=>.inl hk),h.ip.step hg hr (fun k hk=>.inl hk),fun g e=>⟨(h.xn g e).1,Nat.lt_of_lt_of_le (h.xn g e).2.1 hg.size,(h.xn g e).2.2⟩,fun x hx=>⟨(h.bl x hx).1.grown hg (fun e=>by have:=(h.bl x hx).2.1;injection e with e;omega),(h.bl x hx).2⟩⟩
 rw [←hc];exact h.bx.set j u
theorem GS.storeE (h:GS w z0 z b bp L a op kd be ba eh xs ah gs vh ks pend xb lits) (u:Value) :GS w z0 (z.setCell ⟨bp,10,none⟩ u) b bp L a op kd u ba eh xs ah gs vh ks pend xb lits:=h.store 10 u rfl
theorem GS.storeE1 (h:GS w z0 z b bp L a op kd be ba eh xs ah gs vh ks pend xb lits) {n:Nat} (hn:xs.length=n) :GS w z0 (z.setCell ⟨bp,10,none⟩ (.slice eh.ao n eh.cap)) b bp L a op kd (.slice eh.ao xs.length eh.cap) ba eh xs ah gs vh ks pend xb lits:=by
 subst hn;exact h.storeE _
theorem GS.storeA (h:GS w z0 z b bp L a op kd be ba eh xs ah gs vh ks pend xb lits) (u:Value) :GS w z0 (z.setCell ⟨bp,11,none⟩ u) b bp L a op kd be u eh xs ah gs vh ks pend xb lits:=h.store 11 u rfl
theorem GS.storeA1 (h:GS w z0 z b bp L a op kd be ba eh xs ah gs vh ks pend xb lits) {n:Nat} (hn:gs.length=n) :GS w z0 (z.setCell ⟨bp,11,none⟩ (.slice ah.ao n ah.cap)) b bp L a op kd be (.slice ah.ao gs.length ah.cap) eh xs ah gs vh ks pend xb lits:=by
 subst hn;exact h.storeA _
theorem GS.box (h:GS w z0 z b bp L a op kd be ba eh xs ah gs vh ks pend none lits) (o:Obj) :GS w z0 (z.alloc o) b bp L a op kd be ba eh xs ah gs vh ks pend (some z.heap.size) lits:=by
 have h1:=h.alloc o;have hX: ∀k,X4 eh ah vh (some z.heap.size) k→X4 eh ah vh none k∨z.heap.size≤k:=fun k hk=>by
  rcases hk with e|e|e|e
  ·exact .inl (.inl e)
  ·exact .inl (.inr (.inl e))
  ·exact .inl (.inr (.inr (.inl e)))
  ·injection e with e;exact .inr (by omega)
 have hg:=only_below (belA (w:=z) o) none
 refine { h1 with ie:=h.ie.step hg (fun g e=>by cases e) hX,ia:=h.ia.step hg (fun g e=>by cases e) hX,ip:=h.ip.step hg (fun g e=>by cases e) hX,xn:=fun g e=> ?_,bl:=fun x hx=>⟨(h1.bl x hx).1,(h1.bl x hx).2.1,fun hk=>(by
  rcases hX x.1 hk with h5|h5
  ·exact(h.bl x hx).2.2 h5
  ·have:=(h.bl x hx).1.lt;omega)⟩ }
 injection e with e;subst e;exact⟨h.szz,by simp,fun e=>by have:=(own_ob h.oe e).2.1;omega,fun e=>by have:=(own_ob h.oa e).2.1;omega,fun e=>by have:=(own_ob h.ov e).2.1;omega⟩
theorem GS.unbox {x:Option Nat} (h:GS w z0 z b bp L a op kd be ba eh xs ah gs vh ks pend x lits) :GS w z0 z b bp L a op kd be ba eh xs ah gs vh ks pend none lits:=by
 have hX: ∀k,X4 eh ah vh none k→X4 eh ah vh x k∨z.heap.size≤k:=fun k hk=>by
  rcases hk with e|e|e|e
  ·exact .inl (.inl e)
  ·exact .inl (.inr (.inl e))
  ·exact .inl (.inr (.inr (.inl e)))
  ·cases e
 have hg:=World.grownBy.refl z none;exact { h with ie:=h.ie.step hg (fun g e=>by cases e) hX,ia:=h.ia.step hg (fun g e=>by cases e) hX,ip:=h.ip.step hg (fun g e=>by cases e) hX,xn:=fun g e=>(by cases e),bl:=fun x hx=>⟨(h.bl x hx).1,(h.bl x hx).2.1,fun hk=>(h.bl x hx).2.2 (by
  rcases hk with e|e|e|e
  ·exact .inl e
  ·exact .inr (.inl e)
  ·exact .inr (.inr (.inl e))
  ·cases e)⟩ }
theorem GS.storeX {gx:Nat} (h:GS w z0 z b bp L a op kd be ba eh xs ah gs vh ks pend (some gx) lits) (hg:z.grownBy z' (some gx)) :GS w z0 z' b bp L a op kd be ba eh xs ah gs vh ks pend (some gx) lits:=
 h.move hg (fun g e=>.inr e) (tz2 h.tp hg h.ll (by have:=h.xn gx rfl;have:=h.lw;omega))
theorem GS.zero_pend (h:GS w z0 z b bp L a op kd be ba eh xs ah gs vh ks pend xb lits) :GS w z0 z b bp L a op kd be ba eh xs ah gs vh ks [leafEx 0 0 0 ⟨#[]⟩ 0] xb lits:=
 { h with ip:=fun x hx=>by rw [List.mem_singleton.1 hx];exact zero_dep (fun k hk=>hk.1.2) }
theorem GS.cell (h:GS w z0 z b bp L a op kd be ba eh xs ah gs vh ks pend xb lits) {j:Nat} {v:Value} (hv: (qbox op be ba kd)[j]? = some v) :z.cell? ⟨bp,j,none⟩ =some v:=h.bx.cell hv
theorem GS.lit (h:GS w z0 z b bp L a op kd be ba eh xs ah gs vh ks pend xb lits) (cs:Array Value) (T:TypeId) :GS w z0 (z.alloc (.cells cs T)) b bp L a op kd be ba eh xs ah gs vh ks pend xb ((z.heap.size,cs,T) :: lits):=by
 have h1:=h.alloc (.cells cs T);refine { h1 with bl:=fun x hx=> ?_ }
 rcases List.mem_cons.1 hx with rfl|hx
 ·exact⟨Box.new z cs T,h.szz,fun hk=>by have h2:=(h.x4lt hk).2;dsimp only at h2;omega⟩
 ·exact h1.bl x hx
theorem GS.addlit {gx:Nat} {cs:Array Value} {T:TypeId} (h:GS w z0 z b bp L a op kd be ba eh xs ah gs vh ks pend (some gx) lits) (hb:Box z gx cs T) :GS w z0 z b bp L a op kd be ba eh xs ah gs vh ks pend none ((gx,cs,T) :: lits):=by
 have h1:=h.unbox;have hx:=h.xn gx rfl;refine { h1 with bl:=fun x hx'=> ?_ }
 rcases List.mem_cons.1 hx' with rfl|hx'
 ·refine⟨hb,hx.1,fun hk=> ?_⟩
  rcases hk with e|e|e|e
  ·exact hx.2.2.1 e
  ·exact hx.2.2.2.1 e
  ·exact hx.2.2.2.2 e
  ·cases e
 ·exact h1.bl x hx'
end
theorem GS.start {w z0:World} {b bp a:Nat} {L:IL} {op:Int} {kd:Value} (gb:w.grownBy z0 (some b)) (lw:w.heap.size≤bp) (ll:b<w.heap.size∧(0<L.l.length→L.h.b<w.heap.size)) (tp:TapeIn z0 b L a) (bx:Box z0 bp (qbox op (.slice none 0 0) (.slice none 0 0) kd) 57) :
  GS w z0 z0 b bp L a op kd (.slice none 0 0) (.slice none 0 0) nilHd [] nilHd [] nilHd [] [] none []:=
 ⟨gb,⟨lw,bx.lt⟩,ll,tp,Kept.refl _ _ _,bx,World.ownsRow_nil _ _ _ _,World.ownsRow_nil _ _ _ _,World.ownsRow_nil _ _ _ _,Els.nil,Els.nil,Els.nil,(fun g e=>by cases e),(fun x hx=>by cases hx)⟩
theorem box_news {z:World} {g:Nat} {l:List Value} {T:TypeId} (h:Box z g l.toArray T) : ∀j u,l[j]? = some u→z.cell? ((⟨g,0,none⟩ :Addr).add j) =some u:=World.news_of_block h
section
variable {w0 z0 w:World} {b bp p:Nat} {L:IL} {op:Int} {kd be ba:Value} {eh ah vh:Hd} {xs pend:List Ex} {gs:List Agg} {ks:List Int} {xb:Option Nat} {lits:List (Nat×Array Value×TypeId)}
variable {ops:Array Oper} {o:Oper} {a:Act} {K:Act→World→Prop} {Q:Exit→Act→World→Prop} {E:Prop}
theorem box15 {x:World} {g:Nat} {T:TypeId} {c0 c1 c2 c3 c4 c5 c6 c7 c8 c9 c10 c11 c12 c13 c14:Value} (h:Box x g #[c0,c1,c2,c3,c4,c5,c6,c7,c8,c9,c10,c11,c12,c13,c14] T) (v0 v1 v2 v3 v4 v5 v6 v7 v8 v9 v10 v11 v12 v13 v14:Value) :Box (((((((((((((((x.setCell ⟨g,0,none⟩ v0).setCell ⟨g,1,none⟩ v1).setCell ⟨g,2,none⟩ v2).setCell ⟨g,3,none⟩ v3).setCell ⟨g,4,none⟩ v4).setCell ⟨g,5,none⟩ v5).setCell ⟨g,6,none⟩ v6).setCell ⟨g,7,none⟩ v7).setCell ⟨g,8,none⟩ v8).setCell ⟨g,9,none⟩ v9).setCell ⟨g,10,none⟩ v10).setCell ⟨g,11,none⟩ v11).setCell ⟨g,12,none⟩ v12).setCell ⟨g,13,none⟩ v13).setCell ⟨g,14,none⟩ v14) g #[v0,v1,v2,v3,v4,v5,v6,v7,v8,v9,v10,v11,v12,v13,v14] T:=by
 have h0:=h.set 0 v0;rw [show(#[c0,c1,c2,c3,c4,c5,c6,c7,c8,c9,c10,c11,c12,c13,c14] :Array Value).setIfInBounds 0 v0 = #[v0,c1,c2,c3,c4,c5,c6,c7,c8,c9,c10,c11,c12,c13,c14]from rfl]at h0
 have h1:=h0.set 1 v1;rw [show(#[v0,c1,c2,c3,c4,c5,c6,c7,c8,c9,c10,c11,c12,c13,c14] :Array Value).setIfInBounds 1 v1 = #[v0,v1,c2,c3,c4,c5,c6,c7,c8,c9,c10,c11,c12,c13,c14]from rfl]at h1
 have h2:=h1.set 2 v2;rw [show(#[v0,v1,c2,c3,c4,c5,c6,c7,c8,c9,c10,c11,c12,c13,c14] :Array Value).setIfInBounds 2 v2 = #[v0,v1,v2,c3,c4,c5,c6,c7,c8,c9,c10,c11,c12,c13,c14]from rfl]at h2
 have h3:=h2.set 3 v3;rw [show(#[v0,v1,v2,c3,c4,c5,c6,c7,c8,c9,c10,c11,c12,c13,c14] :Array Value).setIfInBounds 3 v3 = #[v0,v1,v2,v3,c4,c5,c6,c7,c8,c9,c10,c11,c12,c13,c14]from rfl]at h3
 have h4:=h3.set 4 v4;rw [show(#[v0,v1,v2,v3,c4,c5,c6,c7,c8,c9,c10,c11,c12,c13,c14] :Array Value).setIfInBounds 4 v4 = #[v0,v1,v2,v3,v4,c5,c6,c7,c8,c9,c10,c11,c12,c13,c14]from rfl]at h4
 have h5:=h4.set 5 v5;rw [show(#[v0,v1,v2,v3,v4,c5,c6,c7,c8,c9,c10,c11,c12,c13,c14] :Array Value).setIfInBounds 5 v5 = #[v0,v1,v2,v3,v4,v5,c6,c7,c8,c9,c10,c11,c12,c13,c14]from rfl]at h5
 have h6:=h5.set 6 v6;rw [show(#[v0,v1,v2,v3,v4,v5,c6,c7,c8,c9,c10,c11,c12,c13,c14] :Array Value).setIfInBounds 6 v6 = #[v0,v1,v2,v3,v4,v5,v6,c7,c8,c9,c10,c11,c12,c13,c14]from rfl]at h6
 have h7:=h6.set 7 v7;rw [show(#[v0,v1,v2,v3,v4,v5,v6,c7,c8,c9,c10,c11,c12,c13,c14] :Array Value).setIfInBounds 7 v7 = #[v0,v1,v2,v3,v4,v5,v6,v7,c8,c9,c10,c11,c12,c13,c14]from rfl]at h7
 have h8:=h7.set 8 v8;rw [show(#[v0,v1,v2,v3,v4,v5,v6,v7,c8,c9,c10,c11,c12,c13,c14] :Array Value).setIfInBounds 8 v8 = #[v0,v1,v2,v3,v4,v5,v6,v7,v8,c9,c10,c11,c12,c13,c14]from rfl]at h8
 have h9:=h8.set 9 v9;rw [show(#[v0,v1,v2,v3,v4,v5,v6,v7,v8,c9,c10,c11,c12,c13,c14] :Array Value).setIfInBounds 9 v9 = #[v0,v1,v2,v3,v4,v5,v6,v7,v8,v9,c10,c11,c12,c13,c14]from rfl]at h9
 have h10:=h9.set 10 v10;rw [show(#[v0,v1,v2,v3,v4,v5,v6,v7,v8,v9,c10,c11,c12,c13,c14] :Array Value).setIfInBounds 10 v10 = #[v0,v1,v2,v3,v4,v5,v6,v7,v8,v9,v10,c11,c12,c13,c14]from rfl]at h10
 have h11:=h10.set 11 v11;rw [show(#[v0,v1,v2,v3,v4,v5,v6,v7,v8,v9,v10,c11,c12,c13,c14] :Array Value).setIfInBounds 11 v11 = #[v0,v1,v2,v3,v4,v5,v6,v7,v8,v9,v10,v11,c12,c13,c14]from rfl]at h11
 have h12:=h11.set 12 v12;rw [show(#[v0,v1,v2,v3,v4,v5,v6,v7,v8,v9,v10,v11,c12,c13,c14] :Array Value).setIfInBounds 12 v12 = #[v0,v1,v2,v3,v4,v5,v6,v7,v8,v9,v10,v11,v12,c13,c14]from rfl]at h12
 have h13:=h12.set 13 v13;rw [show(#[v0,v1,v2,v3,v4,v5,v6,v7,v8,v9,v10,v11,v12,c13,c14] :Array Value).setIfInBounds 13 v13 = #[v0,v1,v2,v3,v4,v5,v6,v7,v8,v9,v10,v11,v12,v13,c14]from rfl]at h13
 have h14:=h13.set 14 v14;rw [show(#[v0,v1,v2,v3,v4,v5,v6,v7,v8,v9,v10,v11,v12,v13,c14] :Array Value).setIfInBounds 14 v14 = #[v0,v1,v2,v3,v4,v5,v6,v7,v8,v9,v10,v11,v12,v13,v14]from rfl]at h14
 exact h14
theorem set6x (w:World) (g:Nat) (v1 v2 v3 v4 v5 v6:Value) :w.grownBy ((((((w.setCell ⟨g,1,none⟩ v1).setCell ⟨g,2,none⟩ v2).setCell ⟨g,3,none⟩ v3).setCell ⟨g,4,none⟩ v4).setCell ⟨g,5,none⟩ v5).setCell ⟨g,6,none⟩ v6) (some g):=(((((gb_set _ _ _ _).trans (gb_set _ _ _ _)).trans (gb_set _ _ _ _)).trans (gb_set _ _ _ _)).trans (gb_set _ _ _ _)).trans (gb_set _ _ _ _)
theorem info_agg: (Tryd.prog.info? 63).map (fun i=>(i.zero,i.size,i.bytes)) =some (some (.agg #[.int .i64 0,.int .i64 0,.int .i64 0,.int .i64 0,.string ⟨#[]⟩,.int .i64 0,.slice none 0 0]),7,80):=by kernel_rfl
theorem step_gs_E {e:Ex} {ge:Nat} (h:GS w0 z0 w b bp L p op kd be ba eh xs ah gs vh ks [e] xb lits) (hgd:o.guard=none) (s x:Operand) (ho:o.op = .call { callee:=.builtin .append,args:=#[s,x],argTypes:=#[37,37] })
  (hs:a.eval s = .slice eh.ao xs.length eh.cap) (hx:a.eval x = .slice (some ⟨ge,0,none⟩) 1 1) (hl: (ge,e.cells.toArray,45)∈lits) (hn:xs.length≤1000)
  (hK: ∀g cap w',GS w0 z0 w' b bp L p op kd be ba ⟨some ⟨g,0,none⟩,cap⟩ (xs ++ [e]) ah gs vh ks [] xb lits→K (a.put o.dst (.slice (some ⟨g,0,none⟩) (xs.length+1) cap)) w') :
  if Region.wanted o (yielded ops a.tmps) =true then Oper.wp Tryd.prog o a w K Q else E:=by
 obtain⟨i0,hi,hz0,hz1,hz2⟩:=info_parts info_exp;exact step_append_lies w hgd s x 37 ho z0.heap.size 45 i0 _ 6 72 Tryd.underlying37 hi hz0 hz1 hz2 rfl (by decide) _ _ _ hs h.oe ⟨ge,0,none⟩ 1 1 e.cells hx rfl (box_news (h.bl _ hl).1) (six_one e) (by decide) (by unfold maxLen;omega) (by omega) h.szz w.heap.size rfl (fun g cap w' h1 h2 h3 _=>hK g cap w' (h.appE h1 h2 h3))
theorem step_gs_T {k:Int} {ge:Nat} (h:GS w0 z0 w b bp L p op kd be ba eh xs ah gs vh ks pend xb lits) (hgd:o.guard=none) (s x:Operand) (ho:o.op = .call { callee:=.builtin .append,args:=#[s,x],argTypes:=#[22,22] })
  (hs:a.eval s = .slice vh.ao ks.length vh.cap) (hx:a.eval x = .slice (some ⟨ge,0,none⟩) 1 1) (hl: (ge,#[.int .i64 k],3)∈lits) (hn:ks.length≤1000)
  (hK: ∀g cap w',GS w0 z0 w' b bp L p op kd be ba eh xs ah gs ⟨some ⟨g,0,none⟩,cap⟩ (ks ++ [k]) pend xb lits→K (a.put o.dst (.slice (some ⟨g,0,none⟩) (ks.length+1) cap)) w') :
  if Region.wanted o (yielded ops a.tmps) =true then Oper.wp Tryd.prog o a w K Q else E:=by
 obtain⟨i0,hi,hz0,hz1,hz2⟩:=info_parts info3;exact step_append_lies w hgd s x 22 ho z0.heap.size 3 i0 (.int .i64 0) 1 8 Tryd.underlying22 hi hz0 hz1 hz2 rfl (by decide) _ _ _ hs h.ov ⟨ge,0,none⟩ 1 1 [.int .i64 k] hx rfl (box_news (h.bl _ hl).1) one_int (by decide) (by unfold maxLen;omega) (by omega) h.szz w.heap.size rfl (fun g cap w' h1 h2 h3 _=>hK g cap w' (h.appT h1 h2 h3))
theorem wpl_gs_A {rest:List Oper} {x0:Agg} {ge:Nat} (h:GS w0 z0 w b bp L p op kd be ba eh xs ah gs vh ks [x0.arg] xb lits) (hfn:int64 x0.fn) (hgd:o.guard=none) (s x:Operand) (ho:o.op = .call { callee:=.builtin .append,args:=#[s,x],argTypes:=#[53,53] })
  (hs:a.eval s = .slice ah.ao gs.length ah.cap) (hx:a.eval x = .slice (some ⟨ge,0,none⟩) 1 1) (hl: (ge,x0.cells.toArray,63)∈lits) (hn:gs.length≤1000)
  (hK: ∀g cap w',GS w0 z0 w' b bp L p op kd be ba eh xs ⟨some ⟨g,0,none⟩,cap⟩ (gs ++ [x0]) vh ks [] xb lits→wpList Tryd.prog ops Q rest (a.put o.dst (.slice (some ⟨g,0,none⟩) (gs.length+1) cap)) w') :
  wpList Tryd.prog ops Q (o :: rest) a w:=by
 obtain⟨i0,hi,hz0,hz1,hz2⟩:=info_parts info_agg;exact wpList_append_lies w hgd s x 53 ho z0.heap.size 63 i0 _ 7 80 Tryd.underlying53 hi hz0 hz1 hz2 rfl (by decide) _ _ _ hs h.oa ⟨ge,0,none⟩ 1 1 x0.cells hx rfl (box_news (h.bl _ hl).1) (fun u hu=>by simp only [List.mem_cons,List.not_mem_nil,or_false]at hu;rcases hu with rfl|rfl|rfl|rfl|rfl|rfl|rfl<;>rfl) (by decide) (by unfold maxLen;omega) (by omega) h.szz w.heap.size rfl (fun g cap w' h1 h2 h3 _=>hK g cap w' (h.appA hfn h1 h2 h3))
theorem wpl_gs_T {rest:List Oper} {k:Int} {ge:Nat} (h:GS w0 z0 w b bp L p op kd be ba eh xs ah gs vh ks pend xb lits) (hgd:o.guard=none) (s x:Operand) (ho:o.op = .call { callee:=.builtin .append,args:=#[s,x],argTypes:=#[22,22] })
  (hs:a.eval s = .slice vh.ao ks.length vh.cap) (hx:a.eval x = .slice (some ⟨ge,0,none⟩) 1 1) (hl: (ge,#[.int .i64 k],3)∈lits) (hn:ks.length≤1000)
  (hK: ∀g cap w',GS w0 z0 w' b bp L p op kd be ba eh xs ah gs ⟨some ⟨g,0,none⟩,cap⟩ (ks ++ [k]) pend xb lits→wpList Tryd.prog ops Q rest (a.put o.dst (.slice (some ⟨g,0,none⟩) (ks.length+1) cap)) w') :
  wpList Tryd.prog ops Q (o :: rest) a w:=by
 obtain⟨i0,hi,hz0,hz1,hz2⟩:=info_parts info3;exact wpList_append_lies w hgd s x 22 ho z0.heap.size 3 i0 (.int .i64 0) 1 8 Tryd.underlying22 hi hz0 hz1 hz2 rfl (by decide) _ _ _ hs h.ov ⟨ge,0,none⟩ 1 1 [.int .i64 k] hx rfl (box_news (h.bl _ hl).1) one_int (by decide) (by unfold maxLen;omega) (by omega) h.szz w.heap.size rfl (fun g cap w' h1 h2 h3 _=>hK g cap w' (h.appT h1 h2 h3))
theorem gs_expr {n N:Nat} {d:Int} (hE:Hid (ExprAt n N d)) (h:GS w0 z0 w b bp L p op kd be ba eh xs ah gs vh ks [] xb lits) {ts:IL} (hts:Hid (∀x,Kept b bp z0 x→ts.In x)) (hl:ts.l.length≤1000) (hb:0<ts.l.length→ts.h.b≠b) {k:Int} (hk:isT k=true) (hp:p+n≤4611686018427370000) :
  Calls Tryd.prog 19 #[.pointer (some ⟨b,0,none⟩),.slice ts.h.ao ts.l.length ts.h.cap,.int .i64 k,.int .i64 d] w fun r x=>∃(e:Ex) (p':Nat),r = .returned (.agg #[.int .i64 e.op,.int .i64 e.typ,.int .i64 e.num,.string e.text,.int .i64 e.col,.slice e.kh.ao e.kids.length e.kh.cap])∧GS w0 z0 x b bp L p' op kd be ba eh xs ah gs vh ks [e] xb lits∧(p≤p'∧p'≤p+n)∧e.size≤N∧TyK ts.l k e∧w.grownBy x (some b):=
 (hE.o w b p L ts k hk h.tp hp (hts.o w h.kp) hl hb).mono fun _ _ ⟨⟨e,h1,h2,h3,h4,h5⟩,⟨p',h6,h7,h8⟩,h9⟩=>⟨e,p',h1,h.push h9 h8 h2 h3,⟨h6,h7⟩,h4,h5,h9⟩
theorem gs_pick (h:GS w0 z0 w b bp L p op kd be ba eh xs ah gs vh ks [] xb lits) {ts:IL} (hts:Hid (∀x,Kept b bp z0 x→ts.In x)) (hl:ts.l.length≤1000) {k:Int} (hk:isT k=true) (hp:p≤4611686018427370000) :
  Calls Tryd.prog 41 #[.pointer (some ⟨b,0,none⟩),.slice ts.h.ao ts.l.length ts.h.cap,.int .i64 k] w fun r x=>∃(e:Ex) (p':Nat),r = .returned (.agg #[.int .i64 e.op,.int .i64 e.typ,.int .i64 e.num,.string e.text,.int .i64 e.col,.slice e.kh.ao e.kids.length e.kh.cap])∧GS w0 z0 x b bp L p' op kd be ba eh xs ah gs vh ks [e] xb lits∧(p≤p'∧p'≤p+2)∧e.size≤1∧TyK ts.l k e∧w.grownBy x (some b):=
 (pick_any w b p L ts k hk h.tp (by omega) (hts.o w h.kp) hl).mono fun _ _ ⟨⟨e,h1,h2,h3,h4,h5⟩,⟨p',h6,h7,h8⟩,h9⟩=>⟨e,p',h1,h.push h9 h8 h2 h3,⟨h6,h7⟩,h4,h5,h9⟩
theorem gs_next (h:GS w0 z0 w b bp L p op kd be ba eh xs ah gs vh ks pend xb lits) {n:Int} (hn:1≤n∧n≤100) (hp:p≤4611686018427370000) :
  Calls Tryd.prog 10 #[.pointer (some ⟨b,0,none⟩),.int .i64 n] w fun r x=>r = .returned (.int .i64 (L.next p n))∧GS w0 z0 x b bp L (p+1) op kd be ba eh xs ah gs vh ks pend xb lits∧w.grownBy x (some b):=
 (next_any w b p L n h.tp (by omega) hn.1 ⟨by omega,by omega⟩).mono fun _ _ ⟨h1,h2,h3⟩=>⟨h1,h.tape h3 h2,h3⟩
end
end Go.Proofs.YtogalchclmmfgaaDoor

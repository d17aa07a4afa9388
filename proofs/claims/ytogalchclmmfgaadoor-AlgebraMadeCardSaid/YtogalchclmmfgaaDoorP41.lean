/- A part of the proof of AlgebraMade. -/
import Derived.Test.YtogalchclmmfgaaDoorP40
import Derived.Test.YtogalchclmmfgaaDoorP23
set_option maxRecDepth 100000
set_option maxHeartbeats 16000000
namespace Go.Proofs.YtogalchclmmfgaaDoor
open Go.RowKit
theorem Dep.kept {D:Nat→Prop} {P:World→Prop} {b g:Nat} {w w':World} (h:Dep D P w) (hk:Kept b g w w') (hb: ¬D b) (hg: ¬D g) :Dep D P w':=h.step fun k hd=>hk.1 k (h.lt k hd) (fun e=>hb (e▸hd)) (fun e=>hg (e▸hd))
theorem QO.kept {s:Sch} {B E b g:Nat} {w w':World} {q:Qu} {o:IL} {N:Nat} (h:QO s B E w q o N) (hk:Kept b g w w') (hb: ¬Seg B E b) (hg: ¬Seg B E g) :QO s B E w' q o N:=
 { h with qd:=h.qd.step (fun k hd=>hk.1 k (Nat.lt_of_lt_of_le hd.2 h.qd.le) (fun e=>hb (e▸hd)) (fun e=>hg (e▸hd))) (Nat.le_trans h.qd.le hk.2),od:=h.od.kept hk hb hg }
theorem SKd.kept {b g E:Nat} {s:Sch} {w w':World} (h:SKd b s E w) (hk:Kept b g w w') (hg:E≤g) :SKd b s E w':=⟨h.dep.kept hk (fun hd=>hd.2 rfl) (fun hd=>by have:=hd.1;omega),h.nt,h.nc,h.ct,h.nm⟩
structure QP (w x:World) (b p:Nat) (L:IL) (s:Sch) (E:Nat) (qa:Qu) (oa:IL) (g N:Nat) :Prop where
 gb:w.grownBy x (some b)
 ll:b<w.heap.size∧(0<L.l.length→L.h.b<w.heap.size)
 tp:TapeIn x b L p
 sk:SKd b s E x
 hE:E≤w.heap.size
 qo:QO s (w.heap.size+2) g x qa oa N
 b4:Box x w.heap.size #[.slice s.th.ao s.tabs.length s.th.cap] 28
 br:Box x (w.heap.size+1) #[.int .i64 0,.string ⟨#[]⟩,.int .i64 0,.bool false,.int .i64 0,.int .i64 0,.int .i64 0,.string ⟨#[]⟩,.int .i64 0,.slice none 0 0,.slice none 0 0,.slice none 0 0,.slice none 0 0,.slice none 0 0,.slice none 0 0] 57
 b12:Box x g qa.lit 57
 bk:Box x (g+1) qa.lit 57
 hg:w.heap.size+2≤g
section
variable {w x x' z:World} {b p p' bp g E N:Nat} {L:IL} {s:Sch} {qa:Qu} {oa:IL}
theorem QP.lt (h:QP w x b p L s E qa oa g N) :g+1<x.heap.size:=h.bk.lt
theorem QP.tape (h:QP w x b p L s E qa oa g N) (hg:x.grownBy x' (some b)) (ht:TapeIn x' b L p') :QP w x' b p' L s E qa oa g N:=by
 have h1:=h.ll;have h2:=h.hg;exact⟨h.gb.trans hg,h.ll,ht,h.sk.tape hg,h.hE,h.qo.tape hg (by omega),h.b4.grown hg (by simp;omega),h.br.grown hg (by simp;omega),h.b12.grown hg (by simp;omega),h.bk.grown hg (by simp;omega),h.hg⟩
theorem QP.below (h:QP w x b p L s E qa oa g N) (hb:Below x.heap.size x x') :QP w x' b p L s E qa oa g N:=h.tape (only_below hb _) (h.tp.mono hb)
theorem QP.kept (h:QP w x b p L s E qa oa g N) (hk:Kept b bp x z) (hbp:g+1<bp) (hg:w.grownBy z (some b)) (ht:TapeIn z b L p') :QP w z b p' L s E qa oa g N:=by
 have h1:=h.ll;have h2:=h.hg;have h3:=h.hE;exact⟨hg,h.ll,ht,h.sk.kept hk (by omega),h.hE,h.qo.kept hk (fun hd=>by have:=hd.1;omega) (fun hd=>by have:=hd.2;omega),hk.box h.b4 (by omega) (by omega),hk.box h.br (by omega) (by omega),hk.box h.b12 (by omega) (by omega),hk.box h.bk (by omega) (by omega),h.hg⟩
theorem QP.row (h:QP w x b p L s E qa oa g N) :Dep (Seg (w.heap.size+2) x.heap.size) (fun u=>Row u 15 Qu.cells ⟨some ⟨g+1,0,none⟩,1⟩ [qa]) x:=
 row_dep (row_of_box (xs:= [qa]) (fun _=>rfl) (by show(1:Nat)≤maxLen;unfold maxLen;omega) (show Box x (g+1) ([qa].flatMap Qu.cells).toArray 57 from h.bk)) (fun _=>⟨by show w.heap.size+2≤g+1;have:=h.hg;omega,h.lt⟩) (fun k hk=>hk.2)
theorem QP.kid (h:QP w x b p L s E qa oa g N) :Dep (Seg (w.heap.size+2) x.heap.size) (fun u=>qa.In u) x:=h.qo.qd.dep.wider (fun k hk=>⟨hk.1,by have:=hk.2;have:=h.lt;omega⟩) (fun k hk=>hk.2)
theorem QP.ot (h:QP w x b p L s E qa oa g N) :Dep (Seg (w.heap.size+2) x.heap.size) (fun u=>oa.In u) x:=h.qo.od.wider (fun k hk=>⟨hk.1,by have:=hk.2;have:=h.lt;omega⟩) (fun k hk=>hk.2)
theorem QP.ob (h:QP w x b p L s E qa oa g N) :0<oa.l.length→oa.h.b≠b:=fun hp=>by have:=h.qo.ofr hp;have:=h.ll;omega
abbrev oneQ (op:Int) (e:Ex) (g:Nat) (qa:Qu) :Qu:=⟨op,⟨#[]⟩,0,false,e,nilHd,[],nilHd,[],⟨nilHd,[]⟩,nilHd,[],⟨some ⟨g+1,0,none⟩,1⟩,[qa]⟩
theorem QP.one (h:QP w x b p L s E qa oa g N) {op:Int} {e:Ex} (hop:int64 op) (he:Dep (Seg (w.heap.size+2) x.heap.size) (fun u=>e.In u) x) :QD (w.heap.size+2) x.heap.size x (oneQ op e g qa):=
 QD.mk0 (Nat.le_refl _) ⟨hop,by show(0:Nat)≤maxLen;omega,z64⟩ ⟨rfl,rfl⟩ ⟨rfl,rfl⟩ rfl ⟨rfl,rfl⟩ he h.row (fun k hk=>by rw [List.mem_singleton.1 hk];exact h.kid)
theorem QP.sel (h:QP w x b p L s E qa oa g N) {e:Ex} {y:Nat} (he:Dep (Seg y x.heap.size) (fun u=>e.In u) x) (hy:w.heap.size+2≤y) (hs:e.size≤21) :QO s (w.heap.size+2) x.heap.size x (oneQ 3 e g qa) oa (N+22) where
 qd:=h.one (by constructor<;>decide) (he.wider (fun k hk=>⟨Nat.le_trans hy hk.1,hk.2⟩) (fun k hk=>hk.2))
 od:=h.ot
 ofr:=h.qo.ofr
 ole:=h.qo.ole
 oty:=h.qo.oty
 sz:=by have:=h.qo.sz;simp [Qu.size,Qu.sizes];omega
 wt:=by have:=h.qo.wt;simp [Qu.wt,Qu.wts];omega
 sc:=fun h0=>absurd (show(3:Int) =1 from h0) (by decide)
 mq:=mq_sel rfl rfl h.qo.mq
 bg:=by show e.size+0+0≤100;omega
 tl:=by show(0:Nat)≤100;omega
theorem QP.dist (h:QP w x b p L s E qa oa g N) :QO s (w.heap.size+2) x.heap.size x (oneQ 9 (leafEx 0 0 0 ⟨#[]⟩ 0) g qa) oa (N+22) where
 qd:=h.one (by constructor<;>decide) (zero_dep fun k hk=>hk.2)
 od:=h.ot
 ofr:=h.qo.ofr
 ole:=h.qo.ole
 oty:=h.qo.oty
 sz:=by have:=h.qo.sz;simp [Qu.size,Qu.sizes];omega
 wt:=by have:=h.qo.wt;simp [Qu.wt,Qu.wts];omega
 sc:=fun h0=>absurd (show(9:Int) =1 from h0) (by decide)
 mq:=mq_dist rfl rfl h.qo.mq
 bg:=by have h5:=leaf_size 0 0 0 ⟨#[]⟩ 0;show(leafEx 0 0 0 ⟨#[]⟩ 0).size+0+0≤100;omega
 tl:=by show(0:Nat)≤100;omega
end
theorem QP.fin {w x x0:World} {b p a n g E N N0 N1 p0:Nat} {L:IL} {s:Sch} {qa q:Qu} {oa o:IL} (h:QP w x0 b p0 L s E qa oa g N0) (hg:w.grownBy x (some b)) (ht:TapeIn x b L p) (hq:QO s (w.heap.size+2) x.heap.size x q o N1) (hN:N1≤N) (hp:a≤p∧p≤a+n) :
  QOut s w (((((((((((((((x.setCell ⟨w.heap.size+1,0,none⟩ (.int .i64 q.op)).setCell ⟨w.heap.size+1,1,none⟩ (.string q.table)).setCell ⟨w.heap.size+1,2,none⟩ (.int .i64 q.kind)).setCell ⟨w.heap.size+1,3,none⟩ (.bool q.all)).setCell ⟨w.heap.size+1,4,none⟩ (.int .i64 q.cond.op)).setCell ⟨w.heap.size+1,5,none⟩ (.int .i64 q.cond.typ)).setCell ⟨w.heap.size+1,6,none⟩ (.int .i64 q.cond.num)).setCell ⟨w.heap.size+1,7,none⟩ (.string q.cond.text)).setCell ⟨w.heap.size+1,8,none⟩ (.int .i64 q.cond.col)).setCell ⟨w.heap.size+1,9,none⟩ (.slice q.cond.kh.ao q.cond.kids.length q.cond.kh.cap)).setCell ⟨w.heap.size+1,10,none⟩ (.slice q.eh.ao q.exprs.length q.eh.cap)).setCell ⟨w.heap.size+1,11,none⟩ (.slice q.ah.ao q.aggs.length q.ah.cap)).setCell ⟨w.heap.size+1,12,none⟩ (.slice q.types.h.ao q.types.l.length q.types.h.cap)).setCell ⟨w.heap.size+1,13,none⟩ (.slice q.rh.ao q.rows.length q.rh.cap)).setCell ⟨w.heap.size+1,14,none⟩ (.slice q.qh.ao q.kids.length q.qh.cap)) b a n N L
   (.returned (.tuple #[.agg #[.int .i64 q.op,.string q.table,.int .i64 q.kind,.bool q.all,.int .i64 q.cond.op,.int .i64 q.cond.typ,.int .i64 q.cond.num,.string q.cond.text,.int .i64 q.cond.col,.slice q.cond.kh.ao q.cond.kids.length q.cond.kh.cap,.slice q.eh.ao q.exprs.length q.eh.cap,.slice q.ah.ao q.aggs.length q.ah.cap,.slice q.types.h.ao q.types.l.length q.types.h.cap,.slice q.rh.ao q.rows.length q.rh.cap,.slice q.qh.ao q.kids.length q.qh.cap],.slice o.h.ao o.l.length o.h.cap])):=
 q_done hq hN (by omega) (by omega) hp.1 hp.2 ht hg h.ll
theorem proj_qo {w z0 z:World} {b bp p p0 g E N:Nat} {L:IL} {s:Sch} {qa:Qu} {oa o:IL} {be ba:Value} {eh:Hd} {xs:List Ex} {lits:List (Nat×Array Value×TypeId)} (h:QP w z0 b p0 L s E qa oa g N) (hG:GS w z0 z b bp L p 4 (.slice (some ⟨g+1,0,none⟩) 1 1) be ba eh xs nilHd [] nilHd [] [] none lits) (hbp:g+1<bp)
  (ho:o.In z) (hof:0<o.l.length→w.heap.size+2≤o.h.b) (hol:o.l.length≤8) (hot: ∀t∈o.l,isT t=true) (hxl:xs.length≤8) (hxs:Ex.sizes xs≤40) (hc:ColsAre oa.l xs o.l) :
  QO s (w.heap.size+2) z.heap.size z (gq 4 eh xs nilHd [] ⟨some ⟨g+1,0,none⟩,1⟩ [qa]) o (N+50):=by
 have hz:=hG.szz;have h1:=h.qo.kept hG.kp (fun hd=>by have:=hd.1;have:=h.ll;omega) (fun hd=>by have:=hd.2;omega)
 have h2:=h.lt;have h3:=h.hg;have h4:=h.ll;have hk:=hG.kp.box h.bk (by omega) (by omega)
 refine⟨?_,il_dep ho hof,hof,hol,hot,?_,?_,fun h0=>absurd (show(4:Int) =1 from h0) (by decide),mq_proj rfl rfl h.qo.mq hc,(by have h5:=leaf_size 0 0 0 ⟨#[]⟩ 0;show(leafEx 0 0 0 ⟨#[]⟩ 0).size+Ex.sizes xs+0≤100;omega),by show(0:Nat)≤100;omega⟩
 ·refine gs_qd (r:=b) hG (World.grownBy.refl z (some b)) (by omega) (by omega) (by constructor<;>decide) ?_ (fun k hk=> ?_)
  ·exact row_dep (row_of_box (xs:= [qa]) (fun _=>rfl) (by show(1:Nat)≤maxLen;unfold maxLen;omega) (show Box z (g+1) ([qa].flatMap Qu.cells).toArray 57 from hk)) (fun _=>⟨by show w.heap.size+2≤g+1;omega,by show g+1<_;omega⟩) (fun k hk=>by have:=hk.2;omega)
  ·rw [List.mem_singleton.1 hk]
   exact h1.qd.dep.wider (fun k hk=>⟨hk.1,by have:=hk.2;omega⟩) (fun k hk=>by have:=hk.2;omega)
 ·have:=h.qo.sz
  simp [Qu.size,Qu.sizes];omega
 ·have:=h.qo.wt
  simp [Qu.wt,Qu.wts];omega
abbrev joinQ (k:Int) (e:Ex) (gl:Nat) (x y:Qu) :Qu:=⟨5,⟨#[]⟩,k,false,e,nilHd,[],nilHd,[],⟨nilHd,[]⟩,nilHd,[],⟨some ⟨gl,0,none⟩,2⟩,[x,y]⟩
theorem join_qo {w z:World} {b p g E N Nb gl Bb Eb y:Nat} {L:IL} {s:Sch} {qa qb:Qu} {oa ob o:IL} {e:Ex} {k:Int} (h:QP w z b p L s E qa oa g N) (hb:QO s Bb Eb z qb ob Nb) (hBb:w.heap.size+2≤Bb) (he:Dep (Seg y z.heap.size) (fun u=>e.In u) z) (hy:w.heap.size+2≤y) (hs:e.size≤21) (hk:int64 k)
  (hl:Box z gl #[.int .i64 qa.op,.string qa.table,.int .i64 qa.kind,.bool qa.all,.int .i64 qa.cond.op,.int .i64 qa.cond.typ,.int .i64 qa.cond.num,.string qa.cond.text,.int .i64 qa.cond.col,.slice qa.cond.kh.ao qa.cond.kids.length qa.cond.kh.cap,.slice qa.eh.ao qa.exprs.length qa.eh.cap,.slice qa.ah.ao qa.aggs.length qa.ah.cap,.slice qa.types.h.ao qa.types.l.length qa.types.h.cap,.slice qa.rh.ao qa.rows.length qa.rh.cap,.slice qa.qh.ao qa.kids.length qa.qh.cap,.int .i64 qb.op,.string qb.table,.int .i64 qb.kind,.bool qb.all,.int .i64 qb.cond.op,.int .i64 qb.cond.typ,.int .i64 qb.cond.num,.string qb.cond.text,.int .i64 qb.cond.col,.slice qb.cond.kh.ao qb.cond.kids.length qb.cond.kh.cap,.slice qb.eh.ao qb.exprs.length qb.eh.cap,.slice qb.ah.ao qb.aggs.length qb.ah.cap,.slice qb.types.h.ao qb.types.l.length qb.types.h.cap,.slice qb.rh.ao qb.rows.length qb.rh.cap,.slice qb.qh.ao qb.kids.length qb.qh.cap] 57) (hgl:w.heap.size+2≤gl) (ho:Dep (Seg (w.heap.size+2) z.heap.size) (fun u=>o.In u) z) (hof:0<o.l.length→w.heap.size+2≤o.h.b) (hol:o.l.length≤8) (hot: ∀t∈o.l,isT t=true) (hoq:o.l=if k=5∨k=6 then oa.l else oa.l ++ ob.l) :
  QO s (w.heap.size+2) z.heap.size z (joinQ k e gl qa qb) o (N+Nb+22) where
 qd:=QD.mk0 (Nat.le_refl _) ⟨(show int64 5 by constructor<;>decide),by show(0:Nat)≤maxLen;omega,hk⟩ ⟨rfl,rfl⟩ ⟨rfl,rfl⟩ rfl ⟨rfl,rfl⟩ (he.wider (fun k hk=>⟨Nat.le_trans hy hk.1,hk.2⟩) (fun k hk=>hk.2))
  (row_dep (row_of_box (xs:= [qa,qb]) (fun _=>rfl) (by show(2:Nat)≤maxLen;unfold maxLen;omega) (show Box z gl ([qa,qb].flatMap Qu.cells).toArray 57 from hl)) (fun _=>⟨hgl,hl.lt⟩) (fun k hk=>hk.2))
  (fun k hk=>by
   simp only [List.mem_cons,List.not_mem_nil,or_false]at hk;rcases hk with rfl|rfl
   ·exact h.kid
   ·exact hb.qd.dep.wider (fun k hk=>⟨by have:=hk.1;omega,by have:=hk.2;have:=hb.qd.le;omega⟩) (fun k hk=>hk.2))
 od:=ho
 ofr:=hof
 ole:=hol
 oty:=hot
 sz:=by have:=h.qo.sz;have:=hb.sz;simp [Qu.size,Qu.sizes];omega
 wt:=by have:=h.qo.wt;have:=hb.wt;simp [Qu.wt,Qu.wts];omega
 sc:=fun h0=>absurd (show(5:Int) =1 from h0) (by decide)
 mq:=fun h0=>by rw [hoq];exact mq_join rfl rfl h.qo.mq hb.mq h0
 bg:=by show e.size+0+0≤100;omega
 tl:=by show(0:Nat)≤100;omega
end Go.Proofs.YtogalchclmmfgaaDoor
namespace Go.Proofs.YtogalchclmmfgaaDoor
open Go.RowKit
structure BL (z0 z:World) (b p:Nat) (L:IL) (pend:List Ex) (lits:List (Nat×Array Value×TypeId)) :Prop where
 gb:z0.grownBy z (some b)
 ll:b<z0.heap.size∧(0<L.l.length→L.h.b<z0.heap.size)
 tp:TapeIn z b L p
 bl: ∀x∈lits,Box z x.1 x.2.1 x.2.2∧z0.heap.size≤x.1
 pe: ∀e∈pend,∃y E,z0.heap.size≤y∧E≤z.heap.size∧Dep (Seg y E) (fun u=>e.In u) z∧∀x∈lits,x.1<y∨E≤x.1
section
variable {z0 z z':World} {b p p':Nat} {L:IL} {pend:List Ex} {lits:List (Nat×Array Value×TypeId)}
theorem BL.start (ll:b<z0.heap.size∧(0<L.l.length→L.h.b<z0.heap.size)) (tp:TapeIn z0 b L p) :BL z0 z0 b p L [] []:=⟨World.grownBy.refl _ _,ll,tp,(fun x h=>by cases h),(fun x h=>by cases h)⟩
theorem BL.tape (h:BL z0 z b p L pend lits) (hg:z.grownBy z' (some b)) (ht:TapeIn z' b L p') :BL z0 z' b p' L pend lits:=by
 have hl:=h.ll;refine⟨h.gb.trans hg,hl,ht,fun x hx=>⟨(h.bl x hx).1.grown hg (by have:=(h.bl x hx).2;simp;omega),(h.bl x hx).2⟩,fun e he=> ?_⟩
 obtain⟨y,E,h1,h2,h3,h4⟩:=h.pe e he;exact⟨y,E,h1,Nat.le_trans h2 hg.size,h3.grown hg (fun g e hd=>by injection e with e;have:=hd.1;omega),h4⟩
theorem BL.drew (h:BL z0 z b p L pend lits) :BL z0 z.drew b p L pend lits:=h.tape (only_below (bel_self z) _) (h.tp.mono (bel_self z))
theorem BL.lit (h:BL z0 z b p L pend lits) (cs:Array Value) (T:TypeId) :BL z0 (z.alloc (.cells cs T)) b p L pend ((z.heap.size,cs,T) :: lits):=by
 have h1:=h.tape (only_below (belA (w:=z) (.cells cs T)) _) (h.tp.mono (belA _))
 refine { h1 with bl:=fun x hx=> ?_,pe:=fun e he=> ?_ }
 ·rcases List.mem_cons.1 hx with rfl|hx
  ·exact⟨Box.new z cs T,h.gb.size⟩
  ·exact h1.bl x hx
 ·obtain⟨y,E,h2,h3,h4,h5⟩:=h.pe e he
  refine⟨y,E,h2,Nat.le_trans h3 (by simp),h4.below (belA _),fun x hx=> ?_⟩
  rcases List.mem_cons.1 hx with rfl|hx
  ·exact .inr h3
  ·exact h5 x hx
theorem BL.push (h:BL z0 z b p L [] lits) (hg:z.grownBy z' (some b)) (ht:TapeIn z' b L p') {e:Ex} (hi:e.In z') (hf:e.Fresh z.heap.size) :BL z0 z' b p' L [e] lits:=by
 have h1:=h.tape hg ht;refine { h1 with pe:=fun e' he'=> ?_ }
 rw [List.mem_singleton.1 he'];exact⟨z.heap.size,z'.heap.size,h.gb.size,Nat.le_refl _,ex_dep hi hf,fun x hx=>.inl (h.bl x hx).1.lt⟩
end
theorem bl_next {z0 w:World} {b p:Nat} {L:IL} {pend:List Ex} {lits:List (Nat×Array Value×TypeId)} (h:BL z0 w b p L pend lits) {n:Int} (hn:1≤n∧n≤100) (hp:p≤4611686018427370000) :
  Calls Tryd.prog 10 #[.pointer (some ⟨b,0,none⟩),.int .i64 n] w fun r x=>r = .returned (.int .i64 (L.next p n))∧BL z0 x b (p+1) L pend lits∧w.grownBy x (some b):=
 (next_any w b p L n h.tp (by omega) hn.1 ⟨by omega,by omega⟩).mono fun _ _ ⟨h1,h2,h3⟩=>⟨h1,h.tape h3 h2,h3⟩
theorem bl_expr {z0 w:World} {b p:Nat} {L:IL} {lits:List (Nat×Array Value×TypeId)} {n N:Nat} {d:Int} (hE:Hid (ExprAt n N d)) (h:BL z0 w b p L [] lits) {ts:IL} (hts:Hid (∀x,Kept b b z0 x→ts.In x)) (hl:ts.l.length≤1000) (hb:0<ts.l.length→ts.h.b≠b) {k:Int} (hk:isT k=true) (hp:p+n≤4611686018427370000) :
  Calls Tryd.prog 19 #[.pointer (some ⟨b,0,none⟩),.slice ts.h.ao ts.l.length ts.h.cap,.int .i64 k,.int .i64 d] w fun r x=>∃(e:Ex) (p':Nat),r = .returned (.agg #[.int .i64 e.op,.int .i64 e.typ,.int .i64 e.num,.string e.text,.int .i64 e.col,.slice e.kh.ao e.kids.length e.kh.cap])∧BL z0 x b p' L [e] lits∧(p≤p'∧p'≤p+n)∧e.size≤N∧w.grownBy x (some b):=
 (hE.o w b p L ts k hk h.tp hp (hts.o w ((Kept.refl b b z0).grown h.gb)) hl hb).mono fun _ _ ⟨⟨e,h1,h2,h3,h4,_⟩,⟨p',h6,h7,h8⟩,h9⟩=>⟨e,p',h1,h.push h9 h8 h2 h3,⟨h6,h7⟩,h4,h9⟩
def JR (z0:World) (b p:Nat) (L:IL) (lit:Array Value) (pv:Value) (wx:World) :Prop:=
 ∃(g gl:Nat) (k:Int) (e:Ex) (p':Nat),pv = .pointer (some ⟨g,0,none⟩)∧(1≤k∧k≤6)∧(p≤p'∧p'≤p+111)∧e.size≤21∧z0.heap.size≤g∧z0.heap.size≤gl∧Box wx g #[.int .i64 5,.string ⟨#[]⟩,.int .i64 k,.bool false,.int .i64 e.op,.int .i64 e.typ,.int .i64 e.num,.string e.text,.int .i64 e.col,.slice e.kh.ao e.kids.length e.kh.cap,.slice none 0 0,.slice none 0 0,.slice none 0 0,.slice none 0 0,.slice (some ⟨gl,0,none⟩) 2 2] 57∧Box wx gl lit 57∧z0.grownBy wx (some b)∧TapeIn wx b L p'∧∃y E,z0.heap.size≤y∧E≤wx.heap.size∧Dep (Seg y E) (fun u=>e.In u) wx
theorem jr_set {z0 z:World} {b p p' g gl:Nat} {L:IL} {k:Int} {e:Ex} {lit:Array Value} {lits:List (Nat×Array Value×TypeId)} (h:BL z0 z b p' L [e] lits) (hk:1≤k∧k≤6) (hp:p≤p'∧p'≤p+111) (he:e.size≤21) (hA: (gl,lit,57)∈lits) (hB: (g,#[.int .i64 0,.string ⟨#[]⟩,.int .i64 0,.bool false,.int .i64 0,.int .i64 0,.int .i64 0,.string ⟨#[]⟩,.int .i64 0,.slice none 0 0,.slice none 0 0,.slice none 0 0,.slice none 0 0,.slice none 0 0,.slice none 0 0],57)∈lits) (hls:lit.size=30) :
  JR z0 b p L lit (.pointer (some ⟨g,0,none⟩)) (((((((((((((((z.setCell ⟨g,0,none⟩ (.int .i64 5)).setCell ⟨g,1,none⟩ (.string ⟨#[]⟩)).setCell ⟨g,2,none⟩ (.int .i64 k)).setCell ⟨g,3,none⟩ (.bool false)).setCell ⟨g,4,none⟩ (.int .i64 e.op)).setCell ⟨g,5,none⟩ (.int .i64 e.typ)).setCell ⟨g,6,none⟩ (.int .i64 e.num)).setCell ⟨g,7,none⟩ (.string e.text)).setCell ⟨g,8,none⟩ (.int .i64 e.col)).setCell ⟨g,9,none⟩ (.slice e.kh.ao e.kids.length e.kh.cap)).setCell ⟨g,10,none⟩ (.slice none 0 0)).setCell ⟨g,11,none⟩ (.slice none 0 0)).setCell ⟨g,12,none⟩ (.slice none 0 0)).setCell ⟨g,13,none⟩ (.slice none 0 0)).setCell ⟨g,14,none⟩ (.slice (some ⟨gl,0,none⟩) 2 2)):=by
 have hs:=set15 z g (.int .i64 5) (.string ⟨#[]⟩) (.int .i64 k) (.bool false) (.int .i64 e.op) (.int .i64 e.typ) (.int .i64 e.num) (.string e.text) (.int .i64 e.col) (.slice e.kh.ao e.kids.length e.kh.cap) (.slice none 0 0) (.slice none 0 0) (.slice none 0 0) (.slice none 0 0) (.slice (some ⟨gl,0,none⟩) 2 2);have hg:=(h.bl _ hB).2;have hne:gl≠g:=fun hh=>by
  have h1:=(h.bl _ hA).1;have h2:=(h.bl _ hB).1;subst hh
  unfold Box at h1 h2
  dsimp only at h1 h2
  rw [h1]at h2;injection h2 with h3;injection h3 with h4;rw [h4]at hls;exact absurd hls (by decide)
 obtain⟨y,E,h1,h2,h3,h4⟩:=h.pe e (by simp)
 have h5:=h4 _ hB;have hl:=h.ll;exact⟨g,gl,k,e,p',rfl,hk,hp,he,hg,(h.bl _ hA).2,box15 (h.bl _ hB).1 (.int .i64 5) (.string ⟨#[]⟩) (.int .i64 k) (.bool false) (.int .i64 e.op) (.int .i64 e.typ) (.int .i64 e.num) (.string e.text) (.int .i64 e.col) (.slice e.kh.ao e.kids.length e.kh.cap) (.slice none 0 0) (.slice none 0 0) (.slice none 0 0) (.slice none 0 0) (.slice (some ⟨gl,0,none⟩) 2 2),(h.bl _ hA).1.grown hs (by simp;exact hne),gb_then h.gb hs hg,tz2 h.tp hs hl hg,y,E,h1,Nat.le_trans h2 hs.size,h3.grown hs (fun g' e hd=>by injection e with e;subst e;rcases h5 with h6|h6<;>(have:=hd.1;have:=hd.2;dsimp only at h6;omega))⟩
end Go.Proofs.YtogalchclmmfgaaDoor
namespace Go.Proofs.YtogalchclmmfgaaDoor
open Go.RowKit
def codeAt:List Nat→Code→Code
 | [],c=>c
 | 0 :: l,.seq x _=>codeAt l x
 | 1 :: l,.seq _ y=>codeAt l y
 | 2 :: l,.cond _ x _=>codeAt l x
 | 3 :: l,.cond _ _ y=>codeAt l y
 | 4 :: l,.block _ x=>codeAt l x
 | _,c=>c
noncomputable def qbody:Code:=Tryd.f13.body.getD .skip
end Go.Proofs.YtogalchclmmfgaaDoor

/- A part of the proof of AlgebraMade. -/
import Derived.Test.YtogalchclmmfgaaDoorP38
import Derived.Deep.RegionLaw
import Derived.Deep.DeepCutAuto
set_option maxRecDepth 100000
set_option maxHeartbeats 16000000
namespace Go.Proofs.YtogalchclmmfgaaDoor
open Go.RowKit
abbrev gq (op:Int) (eh:Hd) (xs:List Ex) (ah:Hd) (gs:List Agg) (qh:Hd) (kids:List Qu) :Qu:=⟨op,⟨#[]⟩,0,false,leafEx 0 0 0 ⟨#[]⟩ 0,eh,xs,ah,gs,⟨nilHd,[]⟩,nilHd,[],qh,kids⟩
theorem gs_qd {w z0 z zf:World} {b bp p r B:Nat} {L:IL} {op:Int} {kd be ba:Value} {eh ah vh qh:Hd} {xs pend:List Ex} {gs:List Agg} {ks:List Int} {xb:Option Nat} {lits:List (Nat×Array Value×TypeId)} {kids:List Qu} (h:GS w z0 z b bp L p op kd be ba eh xs ah gs vh ks pend xb lits) (hs:z.grownBy zf (some r)) (hr:r<z0.heap.size) (hB:B≤z0.heap.size) (hop:int64 op)
  (hrk:Dep (Seg B z0.heap.size) (fun x=>Row x 15 Qu.cells qh kids) zf) (hks: ∀k∈kids,Dep (Seg B z0.heap.size) (fun x=>k.In x) zf) :QD B zf.heap.size zf (gq op eh xs ah gs qh kids):=by
 have hrr: ∀g,some r=some g→g<z0.heap.size∨z.heap.size≤g∨X4 eh ah vh xb g:=fun g e=>.inl (by injection e with e;omega)
 have hie:=h.ie.step hs hrr (fun k hk=>.inl hk)
 have hia:=h.ia.step hs hrr (fun k hk=>.inl hk)
 have hoe:=own_keep h.oe hs fun g e e'=>by have:=(own_ob h.oe e').1;injection e with e;omega
 have hoa:=own_keep h.oa hs fun g e e'=>by have:=(own_ob h.oa e').1;injection e with e;omega
 have hx: ∀g,(gq op eh xs ah gs qh kids).rb g→X4 eh ah vh xb g∧z0.heap.size≤g∧g<zf.heap.size:=by
  rintro g (e|e|e)
  ·exact⟨.inl e,(own_ob h.oe e).1,(own_ob hoe e).2.1⟩
  ·exact⟨.inr (.inl e),(own_ob h.oa e).1,(own_ob hoa e).2.1⟩
  ·cases e
 have hd: ∀ {P:World→Prop},Dep (fun k=>(z0.heap.size≤k∧k<zf.heap.size)∧¬X4 eh ah vh xb k) P zf→∀u:World,(∀k,((B≤k∧k<zf.heap.size)∧¬(gq op eh xs ah gs qh kids).rb k)→u.heap[k]? = zf.heap[k]?)→P u:=fun hp u hu=>
  hp.hold u fun k hk=>hu k ⟨⟨by omega,hk.1.2⟩,fun hb=>hk.2 (hx k hb).1⟩
 have hd2: ∀ {P:World→Prop},Dep (Seg B z0.heap.size) P zf→∀u:World,(∀k,((B≤k∧k<zf.heap.size)∧¬(gq op eh xs ah gs qh kids).rb k)→u.heap[k]? = zf.heap[k]?)→P u:=fun hp u hu=>
  hp.hold u fun k hk=>hu k ⟨⟨hk.1,hp.lt k hk⟩,fun hb=>by have:=(hx k hb).2.1;have:=hk.2;omega⟩
 refine⟨⟨hop,by show(0:Nat)≤maxLen;omega,z64,fun t h=>by cases h⟩,Nat.le_refl _,⟨base_own hoe hB,base_own hoa hB,World.ownsRow_nil _ _ _ _⟩,fun g hg=>(hx g hg).2.2,⟨fun k hk=>hk.1.2,fun u hu=> ?_⟩⟩
 exact⟨leaf_in z64 z64 z64 (by show(0:Nat)≤maxLen;omega) z64 u,fun e he=>hd (hie e he) u hu,fun a ha=>hd (hia a ha) u hu,Row.nil _ _ _,(fun e h=>by cases h),hd2 hrk u hu,fun k hk=>hd2 (hks k hk) u hu⟩
theorem gs_od {w z0 z zf:World} {b bp p r:Nat} {L:IL} {op:Int} {kd be ba:Value} {eh ah vh:Hd} {xs pend:List Ex} {gs:List Agg} {ks:List Int} {xb:Option Nat} {lits:List (Nat×Array Value×TypeId)} (h:GS w z0 z b bp L p op kd be ba eh xs ah gs vh ks pend xb lits) (hs:z.grownBy zf (some r)) (hr:r<z0.heap.size) (hks: ∀t∈ks,isT t=true) :
  (⟨vh,ks⟩ :IL).In zf∧(0<ks.length→z0.heap.size≤vh.b):=by
 have hov:=own_keep h.ov hs fun g e e'=>by have:=(own_ob h.ov e').1;injection e with e;omega
 exact⟨⟨row_of_own (fun _=>rfl) (by decide) hov,fun t ht=>isT_64 (hks t ht)⟩,fun hp=>own_from (h:=vh) h.ov hp⟩
theorem exs_snoc (xs:List Ex) (e:Ex) :Ex.sizes (xs ++ [e]) =Ex.sizes xs+e.size:=by
 induction xs with
 | nil=>simp [Ex.sizes]
 | cons a l ih=>simp only [List.cons_append,Ex.sizes,ih];omega
structure GA (ts:IL) (xs:List Ex) (ks:List Int) (m n:Nat) :Prop where
 len:xs.length+m=n
 kl:ks.length=xs.length
 sz:Ex.sizes xs≤5*xs.length
 ca:ColsAre ts.l xs ks
 ty: ∀t∈ks,isT t=true
theorem GA.snoc {ts:IL} {xs:List Ex} {ks:List Int} {m n:Nat} (h:GA ts xs ks m n) (hm:0<m) {e:Ex} {k:Int} (hk:isT k=true) (hs:e.size≤5) (ht:TyK ts.l k e) :GA ts (xs ++ [e]) (ks ++ [k]) (m - 1) n where
 len:=by have:=h.len;rw [List.length_append];show xs.length+1+ (m - 1) =n;omega
 kl:=by rw [List.length_append,List.length_append,h.kl];rfl
 sz:=by have:=h.sz;rw [exs_snoc,List.length_append];show _≤5* (xs.length+1);omega
 ca:=h.ca.snoc ht
 ty:=fun t hh=>by
  rcases List.mem_append.1 hh with hh|hh
  ·exact h.ty t hh
  ·rw [List.mem_singleton.1 hh];exact hk
structure GB (ts:IL) (xs:List Ex) (gs:List Agg) (ks:List Int) (m n:Nat) :Prop where
 len:gs.length+m=n
 kl:ks.length=xs.length+gs.length
 xl:xs.length≤2
 sz:Ex.sizes xs≤10
 az: (gs.map asize).sum≤5*gs.length
 az2: (gs.map fun a=>a.arg.size).sum≤5*gs.length
 ca: ∃k1 k2,ks=k1 ++ k2∧ColsAre ts.l xs k1∧AggsAre ts.l gs k2
 ty: ∀t∈ks,isT t=true
theorem GA.done {ts:IL} {xs:List Ex} {ks:List Int} {n:Nat} (h:GA ts xs ks 0 n) (hn:n≤2) (m:Nat) :GB ts xs [] ks m m where
 len:=by simp
 kl:=by simp [h.kl]
 xl:=by have:=h.len;omega
 sz:=by have:=h.len;have:=h.sz;omega
 az:=by simp
 az2:=by simp
 ca:=⟨ks,[],by simp,h.ca,AggsAre.nil _⟩
 ty:=h.ty
theorem asz5 {fn:Int} {e:Ex} (h:e.size≤5) :asize ⟨fn,e⟩≤5:=by unfold asize;split<;>omega
theorem GB.start {ts:IL} {xs:List Ex} {ks:List Int} (h:GB ts xs [] ks 0 0) (m:Nat) :GB ts xs [] ks m m:= { h with len:=by simp }
theorem GB.snoc {ts:IL} {xs:List Ex} {gs:List Agg} {ks:List Int} {m n:Nat} (h:GB ts xs gs ks m n) (hm:0<m) {x:Agg} {k:Int} (hk:isT k=true) (hs:asize x≤5) (hs2:x.arg.size≤5) (ht: (aggTy ts.l x).1=0→(aggTy ts.l x).2=k) :GB ts xs (gs ++ [x]) (ks ++ [k]) (m - 1) n where
 len:=by have:=h.len;rw [List.length_append];show gs.length+1+ (m - 1) =n;omega
 kl:=by rw [List.length_append,List.length_append,h.kl];show _+1=xs.length+ (gs.length+1);omega
 xl:=h.xl
 sz:=h.sz
 az:=by have:=h.az;rw [List.map_append,List.sum_append,List.length_append];show _+ (asize x+0)≤5* (gs.length+1);omega
 az2:=by have:=h.az2;rw [List.map_append,List.sum_append,List.length_append];show _+ (x.arg.size+0)≤5* (gs.length+1);omega
 ca:=by
  obtain⟨k1,k2,h1,h2,h3⟩:=h.ca;exact⟨k1,k2 ++ [k],by rw [h1,List.append_assoc],h2,h3.snoc ht⟩
 ty:=fun t hh=>by
  rcases List.mem_append.1 hh with hh|hh
  ·exact h.ty t hh
  ·rw [List.mem_singleton.1 hh];exact hk
def GrpAt (w:World) (b a Ba Na:Nat) (L:IL) (s:Sch) (r:Ending) (w':World) :Prop:=
 ∃(q:Qu) (o:IL),r = .returned (.tuple #[.agg #[.int .i64 q.op,.string q.table,.int .i64 q.kind,.bool q.all,.int .i64 q.cond.op,.int .i64 q.cond.typ,.int .i64 q.cond.num,.string q.cond.text,.int .i64 q.cond.col,.slice q.cond.kh.ao q.cond.kids.length q.cond.kh.cap,.slice q.eh.ao q.exprs.length q.eh.cap,.slice q.ah.ao q.aggs.length q.ah.cap,.slice q.types.h.ao q.types.l.length q.types.h.cap,.slice q.rh.ao q.rows.length q.rh.cap,.slice q.qh.ao q.kids.length q.qh.cap],.slice o.h.ao o.l.length o.h.cap])∧QO s Ba w'.heap.size w' q o (Na+40)∧(∃a',a≤a'∧a'≤a+100∧TapeIn w' b L a')∧w.grownBy w' (some b)
theorem group_done {w W z zf:World} {b a p Ba Ea gk Na:Nat} {L ts:IL} {s:Sch} {qa:Qu} {be ba:Value} {eh ah vh:Hd} {xs:List Ex} {gs:List Agg} {ks:List Int} {lits:List (Nat×Array Value×TypeId)} {n:Nat}
  (h:GS w W z b (w.heap.size+1) L p 10 (.slice (some ⟨gk,0,none⟩) 1 1) be ba eh xs ah gs vh ks [] none lits) (hs:z.grownBy zf (some w.heap.size)) (hW:W.heap.size=w.heap.size+2) (hq:QO s Ba Ea w qa ts Na) (hb:b<Ba) (hk:Box w gk qa.cells.toArray 57) (hgk:Ba≤gk) (hB:GB ts xs gs ks 0 n) (hn:n≤2) (hp:a≤p∧p≤a+100) :
  GrpAt w b a Ba Na L s (.returned (.tuple #[.agg #[.int .i64 10,.string ⟨#[]⟩,.int .i64 0,.bool false,.int .i64 0,.int .i64 0,.int .i64 0,.string ⟨#[]⟩,.int .i64 0,.slice none 0 0,.slice eh.ao xs.length eh.cap,.slice ah.ao gs.length ah.cap,.slice none 0 0,.slice none 0 0,.slice (some ⟨gk,0,none⟩) 1 1],.slice vh.ao ks.length vh.cap])) zf:=by
 have hE:=hq.qd.le;have hgw:w.grownBy zf (some b):=gb_then h.gb hs (Nat.le_refl _);have hqf:=hq.tape hgw hb;have hkf:Box zf gk qa.cells.toArray 57:=hk.grown hgw (by simp;omega)
 have hgl:=hk.lt;have hzf:W.heap.size≤zf.heap.size:=Nat.le_trans h.szz hs.size;have hQD:=gs_qd (B:=Ba) (qh:=⟨some ⟨gk,0,none⟩,1⟩) (kids:= [qa]) h hs (by omega) (by omega) (by constructor<;>decide)
  (row_dep (row_of_box (xs:= [qa]) (fun _=>rfl) (by show(1:Nat)≤maxLen;unfold maxLen;omega) (by simpa using hkf)) (fun _=>⟨hgk,by show gk<_;omega⟩) (fun k hk=>by have:=hk.2;omega))
  (fun k hk=>by rw [List.mem_singleton.1 hk];exact hqf.qd.dep.wider (fun k hk=>⟨hk.1,by have:=hk.2;omega⟩) (fun k hk=>by have:=hk.2;omega))
 obtain⟨ho1,ho2⟩:=gs_od h hs (by omega) hB.ty
 obtain⟨k1,k2,hk12,hc,hag⟩:=hB.ca;refine⟨gq 10 eh xs ah gs ⟨some ⟨gk,0,none⟩,1⟩ [qa],⟨vh,ks⟩,rfl,⟨hQD,(il_dep ho1 ho2).wider (fun k hk=>⟨by have:=hk.1;omega,hk.2⟩) (fun k hk=>hk.2),fun hp=>by have:=ho2 hp;show Ba≤vh.b;omega,by have:=hB.kl;have:=hB.len;have:=hB.xl;show ks.length≤8;omega,hB.ty,?_,?_,fun h0=>absurd (show(10:Int) =1 from h0) (by decide),?_,?_,by show(0:Nat)≤100;omega⟩,⟨p,hp.1,hp.2,tz2 h.tp hs h.ll (Nat.le_refl _)⟩,hgw⟩
 ·have h1:=hq.sz
  have h2:=hB.az;have h3:=hB.len;have h4:=hB.sz;simp [Qu.size,Qu.sizes];omega
 ·have h1:=hq.wt
  have h3:=hB.len;have h4:=hB.xl;simp [Qu.wt,Qu.wts];omega
 ·rw [hk12]
  exact mq_group rfl rfl hq.mq hc hag
 ·have h2:=hB.az2
  have h3:=hB.len;have h4:=hB.sz;have h5:=leaf_size 0 0 0 ⟨#[]⟩ 0
  show(leafEx 0 0 0 ⟨#[]⟩ 0).size+Ex.sizes xs+ (gs.map fun a=>a.arg.size).sum≤100
  omega
theorem group_any (HE2:Hid (ExprAt 20 5 2)) (w:World) (b a:Nat) (L:IL) (s:Sch) (qa:Qu) (ts:IL) (Ba Ea gk Na:Nat) (hq:QO s Ba Ea w qa ts Na) (hb:b<Ba) (hk:Box w gk qa.cells.toArray 57) (hgk:Ba≤gk) (ht:TapeIn w b L a) (ha:a+100≤4611686018427370000) :
  Calls Tryd.prog 34 #[.pointer (some ⟨b,0,none⟩),.slice ts.h.ao ts.l.length ts.h.cap,.slice (some ⟨gk,0,none⟩) 1 1] w fun r w'=>GrpAt w b a Ba Na L s r w':=by
 have HBW:=ai (belAA (w:=w) (.cells #[.int .i64 0,.string ⟨#[]⟩,.int .i64 0,.bool false,.int .i64 0,.int .i64 0,.int .i64 0,.string ⟨#[]⟩,.int .i64 0,.slice none 0 0,.slice none 0 0,.slice none 0 0,.slice none 0 0,.slice none 0 0,.slice none 0 0] 57) (.cells #[.int .i64 10,.string ⟨#[]⟩,.int .i64 0,.bool false,.int .i64 0,.int .i64 0,.int .i64 0,.string ⟨#[]⟩,.int .i64 0,.slice none 0 0,.slice none 0 0,.slice none 0 0,.slice none 0 0,.slice none 0 0,.slice (some ⟨gk,0,none⟩) 1 1] 57))
 have B0:=ai ((Box.new w #[.int .i64 0,.string ⟨#[]⟩,.int .i64 0,.bool false,.int .i64 0,.int .i64 0,.int .i64 0,.string ⟨#[]⟩,.int .i64 0,.slice none 0 0,.slice none 0 0,.slice none 0 0,.slice none 0 0,.slice none 0 0,.slice none 0 0] 57).below (belA (.cells #[.int .i64 10,.string ⟨#[]⟩,.int .i64 0,.bool false,.int .i64 0,.int .i64 0,.int .i64 0,.string ⟨#[]⟩,.int .i64 0,.slice none 0 0,.slice none 0 0,.slice none 0 0,.slice none 0 0,.slice none 0 0,.slice (some ⟨gk,0,none⟩) 1 1] 57)));have B1:=ai (Box.new (w.alloc (.cells #[.int .i64 0,.string ⟨#[]⟩,.int .i64 0,.bool false,.int .i64 0,.int .i64 0,.int .i64 0,.string ⟨#[]⟩,.int .i64 0,.slice none 0 0,.slice none 0 0,.slice none 0 0,.slice none 0 0,.slice none 0 0,.slice none 0 0] 57)) #[.int .i64 10,.string ⟨#[]⟩,.int .i64 0,.bool false,.int .i64 0,.int .i64 0,.int .i64 0,.string ⟨#[]⟩,.int .i64 0,.slice none 0 0,.slice none 0 0,.slice none 0 0,.slice none 0 0,.slice none 0 0,.slice (some ⟨gk,0,none⟩) 1 1] 57);simp only [World.size_alloc]at B1;have HGS:=ai (GS.start (kd:=.slice (some ⟨gk,0,none⟩) 1 1) (op:=10) (only_below HBW.o _) (by omega) ht.low (ht.mono HBW.o) B1.o)
 have HTS0:=ai (show∀x,Kept b (w.heap.size+1) ((w.alloc (.cells #[.int .i64 0,.string ⟨#[]⟩,.int .i64 0,.bool false,.int .i64 0,.int .i64 0,.int .i64 0,.string ⟨#[]⟩,.int .i64 0,.slice none 0 0,.slice none 0 0,.slice none 0 0,.slice none 0 0,.slice none 0 0,.slice none 0 0] 57)).alloc (.cells #[.int .i64 10,.string ⟨#[]⟩,.int .i64 0,.bool false,.int .i64 0,.int .i64 0,.int .i64 0,.string ⟨#[]⟩,.int .i64 0,.slice none 0 0,.slice none 0 0,.slice none 0 0,.slice none 0 0,.slice none 0 0,.slice (some ⟨gk,0,none⟩) 1 1] 57)) x→ts.In x from fun x hx=>hq.od.hold x fun k hk=>by
  have h1:=hq.od.lt k hk;have h2:=hk.1;rw [hx.1 k (by simp only [World.size_alloc];omega) (by omega) (by omega)]
  exact HBW.o.block k h1)
 have hsl:=hq.ole;have htb:0<ts.l.length→ts.h.b≠b:=fun hp=>by have:=hq.ofr hp;omega
 have HQ:=ai hq;have HK:=ai hk;clear HBW B1 ht hq hk
 go_enter Tryd.func34,Tryd.ntmps34;go_upto_region 3 with(fail)
 have HSW:=ai (show((w.alloc (.cells #[.int .i64 0,.string ⟨#[]⟩,.int .i64 0,.bool false,.int .i64 0,.int .i64 0,.int .i64 0,.string ⟨#[]⟩,.int .i64 0,.slice none 0 0,.slice none 0 0,.slice none 0 0,.slice none 0 0,.slice none 0 0,.slice none 0 0] 57)).alloc (.cells #[.int .i64 10,.string ⟨#[]⟩,.int .i64 0,.bool false,.int .i64 0,.int .i64 0,.int .i64 0,.string ⟨#[]⟩,.int .i64 0,.slice none 0 0,.slice none 0 0,.slice none 0 0,.slice none 0 0,.slice none 0 0,.slice (some ⟨gk,0,none⟩) 1 1] 57)).heap.size=w.heap.size+2 from by simp)
 generalize (w.alloc (.cells #[.int .i64 0,.string ⟨#[]⟩,.int .i64 0,.bool false,.int .i64 0,.int .i64 0,.int .i64 0,.string ⟨#[]⟩,.int .i64 0,.slice none 0 0,.slice none 0 0,.slice none 0 0,.slice none 0 0,.slice none 0 0,.slice none 0 0] 57)).alloc (.cells #[.int .i64 10,.string ⟨#[]⟩,.int .i64 0,.bool false,.int .i64 0,.int .i64 0,.int .i64 0,.string ⟨#[]⟩,.int .i64 0,.slice none 0 0,.slice none 0 0,.slice none 0 0,.slice none 0 0,.slice none 0 0,.slice (some ⟨gk,0,none⟩) 1 1] 57) =W at *;have HZ:=ai (show∀x,Kept b (w.heap.size+1) W x→Box x w.heap.size #[.int .i64 0,.string ⟨#[]⟩,.int .i64 0,.bool false,.int .i64 0,.int .i64 0,.int .i64 0,.string ⟨#[]⟩,.int .i64 0,.slice none 0 0,.slice none 0 0,.slice none 0 0,.slice none 0 0,.slice none 0 0,.slice none 0 0] 57 from fun x hx=>hx.box B0.o (by have:=HGS.o.ll;omega) (by omega))
 obtain⟨n,hn,hn3⟩:=nat_next L a (n:=3) (by decide)
 have HN:=ai hn;clear hn B0;go_wp2_with (go_at_call 10;refine(gs_next HGS.o ⟨by decide,by decide⟩ (by omega)).mono ?_;rintro e w1 ⟨rfl,hg,-⟩;rw [HN.o];have HG0:=ai hg;clear hg)
 go_loopw [9,10] (fun v i z=>∃(m:Nat) (eh vh:Hd) (xs:List Ex) (ks:List Int) (p:Nat) (lits:List (Nat×Array Value×TypeId)),v = .slice vh.ao ks.length vh.cap∧i = .int .i64 m∧m≤n∧p+21*m≤a+1+21*n∧a≤p∧Hid (GA ts xs ks m n)∧Hid (GS w W z b (w.heap.size+1) L p 10 (.slice (some ⟨gk,0,none⟩) 1 1) (.slice eh.ao xs.length eh.cap) (.slice none 0 0) eh xs nilHd [] vh ks [] none lits)) (fun _ i _=>(intOf i).toNat)
 case atStart=>exact⟨n,nilHd,nilHd,[],[],a+1,[],rfl,rfl,Nat.le_refl _,Nat.le_refl _,by omega,⟨by simp,rfl,by simp [Ex.sizes],ColsAre.nil _,fun t h=>by cases h⟩,HG0.o⟩
 case round=>
  obtain⟨m,eh,vh,xs,ks,p,lits,rfl,rfl,hm,hp,hap,HA,HG⟩:=hrel;clear HG0 HGS;have hxl:xs.length≤2:=by have:=HA.o.len;omega
  have hkl:ks.length≤2:=by have:=HA.o.kl;omega
  by_cases hm0: (m:Int) > 0
  ·obtain⟨q,hq,hq3⟩:=nat_next L p (n:=3) (by decide)
   have HNQ:=ai hq;clear hq;have hwq:IntKind.i64.wrap (1+ (q:Int)) =1+q:=by rw [IntKind.wrap_i64];omega
   have hwm:IntKind.i64.wrap ((m:Int) - 1) = ((m - 1:Nat) :Int):=by rw [IntKind.wrap_i64];omega
   have hk3:isT (1+ (q:Int)) =true:=decide_eq_true (by omega)
   have HK3:=ai hk3;clear hk3;go_upto_region 7 with(go_at_call 10;refine(gs_next HG.o ⟨by decide,by decide⟩ (by omega)).mono ?_;rintro e v1 ⟨rfl,hg,-⟩;rw [HNQ.o];have HGI:=ai hg;clear hg;have k0:=HGI.o.cell (j:=10) rfl;have k1: ∀o,(v1.alloc o).cell? ⟨w.heap.size+1,10,none⟩ =some (.slice eh.ao xs.length eh.cap):=fun o=>(HGI.o.alloc o).cell (j:=10) rfl;have k2: ∀o o',((v1.alloc o).alloc o').cell? ⟨w.heap.size+1,10,none⟩ =some (.slice eh.ao xs.length eh.cap):=fun o o'=>((HGI.o.alloc o).alloc o').cell (j:=10) rfl;have f0:=HGI.o.bx.fr 10)
   clear HG
   go_region_law (first
    | (refine step_gs_E (by first|exact HGI.o|exact HGI.o.lit _ _|exact(HGI.o.lit _ _).lit _ _|exact HGI.o.drew|exact(HGI.o.lit _ _).drew|exact((HGI.o.lit _ _).lit _ _).drew) (by rfl) _ _ (by rfl) rfl rfl (by simp) (by omega) ?_;intro g cap z3 hg3;have HGI:=ai hg3;clear hg3;have k0:=HGI.o.cell (j:=10) rfl;have k1: ∀o,(z3.alloc o).cell? ⟨w.heap.size+1,10,none⟩ =some (.slice eh.ao xs.length eh.cap):=fun o=>(HGI.o.alloc o).cell (j:=10) rfl;have k2: ∀o o',((z3.alloc o).alloc o').cell? ⟨w.heap.size+1,10,none⟩ =some (.slice eh.ao xs.length eh.cap):=fun o o'=>((HGI.o.alloc o).alloc o').cell (j:=10) rfl;have f0:=HGI.o.bx.fr 10)
    | (refine step_gs_T (k:=1+ (q:Int)) (by first|exact HGI.o|exact HGI.o.lit _ _|exact(HGI.o.lit _ _).lit _ _|exact HGI.o.drew|exact(HGI.o.lit _ _).drew|exact((HGI.o.lit _ _).lit _ _).drew) (by rfl) _ _ (by rfl) rfl rfl (by simp) (by omega) ?_;intro g cap z3 hg3;have HGI:=ai hg3;clear hg3;have k0:=HGI.o.cell (j:=10) rfl;have k1: ∀o,(z3.alloc o).cell? ⟨w.heap.size+1,10,none⟩ =some (.slice eh.ao xs.length eh.cap):=fun o=>(HGI.o.alloc o).cell (j:=10) rfl;have k2: ∀o o',((z3.alloc o).alloc o').cell? ⟨w.heap.size+1,10,none⟩ =some (.slice eh.ao xs.length eh.cap):=fun o o'=>((HGI.o.alloc o).alloc o').cell (j:=10) rfl;have f0:=HGI.o.bx.fr 10)
    | (go_simp;go_at_call 19;refine(gs_expr HE2 (by first|exact HGI.o|exact HGI.o.lit _ _|exact(HGI.o.lit _ _).lit _ _|exact HGI.o.drew|exact(HGI.o.lit _ _).drew|exact((HGI.o.lit _ _).lit _ _).drew) HTS0 (by omega) htb HK3.o (by omega)).mono ?_;rintro _ x2 ⟨e,p2,rfl,hg3,hpp,hes,hety,-⟩;have HGI:=ai hg3;have HES:=ai hes;have HETY:=ai hety;clear hg3 hes hety;have k0:=HGI.o.cell (j:=10) rfl;have k1: ∀o,(x2.alloc o).cell? ⟨w.heap.size+1,10,none⟩ =some (.slice eh.ao xs.length eh.cap):=fun o=>(HGI.o.alloc o).cell (j:=10) rfl;have k2: ∀o o',((x2.alloc o).alloc o').cell? ⟨w.heap.size+1,10,none⟩ =some (.slice eh.ao xs.length eh.cap):=fun o o'=>((HGI.o.alloc o).alloc o').cell (j:=10) rfl;have f0:=HGI.o.bx.fr 10))
   all_goals
    have HGF:=ai (HGI.o.storeE1 (n:=xs.length+1) (by simp))
    go_wp2_with fail
    go_roundw
   all_goals first
    | (case rel=>exact⟨m - 1,_,_,_,_,p2,_,by rw [List.length_append];rfl,by go_num,by omega,by omega,by omega,HA.o.snoc (by omega) HK3.o HES.o HETY.o,HGF.o⟩)
    | (case measure=>simp [intOf];omega)
    | trace_state
  ·have hm1:m=0:=by omega
   subst hm1;have HB0:=ai (HA.o.done (by omega) 0)
   have hkx:xs.length≤2:=hxl;have hpm:p≤a+43:=by omega
   clear hp HA hm hm0;obtain⟨n2,hn2,hn23⟩:=nat_next L p (n:=2) (by decide)
   have HN2:=ai hn2;clear hn2;have hwn2:IntKind.i64.wrap (1+ (n2:Int)) = ((1+n2:Nat) :Int):=by rw [IntKind.wrap_i64];omega
   go_wp2_with (go_at_call 10;refine(gs_next HG.o ⟨by decide,by decide⟩ (by omega)).mono ?_;rintro e w2 ⟨rfl,hg,-⟩;rw [HN2.o];have HG2:=ai hg;clear hg)
   go_loopw [9,12] (fun v i z=>∃(m:Nat) (ah vh:Hd) (gs:List Agg) (ks:List Int) (p2:Nat) (lits:List (Nat×Array Value×TypeId)),v = .slice vh.ao ks.length vh.cap∧i = .int .i64 m∧m≤1+n2∧p2+22*m≤p+1+22* (1+n2)∧p≤p2∧Hid (GB ts xs gs ks m (1+n2))∧Hid (GS w W z b (w.heap.size+1) L p2 10 (.slice (some ⟨gk,0,none⟩) 1 1) (.slice eh.ao xs.length eh.cap) (.slice ah.ao gs.length ah.cap) eh xs ah gs vh ks [] none lits)) (fun _ i _=>(intOf i).toNat)
   case atStart=>exact⟨1+n2,nilHd,vh,[],ks,p+1,lits,rfl,rfl,Nat.le_refl _,Nat.le_refl _,by omega,HB0.o.start _,HG2.o⟩
   case round=>
    clear HG HG2 HB0;obtain⟨m,ah,vh,gs,ks,p2,lits,rfl,rfl,hm,hp2,hpp2,HB,HG⟩:=hrel;have hgl:gs.length≤2:=by have:=HB.o.len;omega
    have hkl2:ks.length≤4:=by have:=HB.o.kl;omega
    by_cases hm0: (m:Int) > 0
    ·obtain⟨q6,hq6,hq63⟩:=nat_next L p2 (n:=6) (by decide)
     have HN6:=ai hq6;obtain⟨q,hq,hq3⟩:=nat_next L (p2+1) (n:=3) (by decide)
     have HNQ:=ai hq;clear hq hq6;have hwq6:IntKind.i64.wrap (1+ (q6:Int)) =1+q6:=by rw [IntKind.wrap_i64];omega
     have hwq:IntKind.i64.wrap (1+ (q:Int)) =1+q:=by rw [IntKind.wrap_i64];omega
     have hwm:IntKind.i64.wrap ((m:Int) - 1) = ((m - 1:Nat) :Int):=by rw [IntKind.wrap_i64];omega
     go_upto_region 12 with(go_at_call 10;refine(gs_next HG.o ⟨by decide,by decide⟩ (by omega)).mono ?_;rintro e v1 ⟨rfl,hg,-⟩;rw [HN6.o];have HG1:=ai hg;clear hg)
     have HGB:=ai (HG1.o.box (.cells #[.int .i64 (1+ (q6:Int)),.int .i64 0,.int .i64 0,.int .i64 0,.string ⟨#[]⟩,.int .i64 0,.slice none 0 0] 63));have HBX:=ai (Box.new v1 #[.int .i64 (1+ (q6:Int)),.int .i64 0,.int .i64 0,.int .i64 0,.string ⟨#[]⟩,.int .i64 0,.slice none 0 0] 63);clear HG HG1;generalize v1.alloc (.cells #[.int .i64 (1+ (q6:Int)),.int .i64 0,.int .i64 0,.int .i64 0,.string ⟨#[]⟩,.int .i64 0,.slice none 0 0] 63) =V1 at *;generalize v1.heap.size=gx at *;generalize hfn:1+ (q6:Int) =fn at *;have hf64:int64 fn:=by constructor<;>omega
     have HF64:=ai hf64;clear hf64 HN6
     go_upto_if 55 with(go_at_call 10;refine(gs_next HGB.o ⟨by decide,by decide⟩ (by omega)).mono ?_;rintro e v2 ⟨rfl,hg,hgr⟩;rw [HNQ.o];have HG2:=ai hg;have HBX2:=ai (HBX.o.grown hgr (by have:=HGB.o.xn gx rfl;have:=HGB.o.ll;have:=HGB.o.lw;simp;omega));have k0:=HBX2.o.cell (j:=0) rfl;clear hg hgr)
     clear HGB HBX;go_cut [14] (fun kv wx=>∃k:Int,kv = .int .i64 k∧Hid (isT k=true)∧Hid (GS w W wx b (w.heap.size+1) L (p2+1+1) 10 (.slice (some ⟨gk,0,none⟩) 1 1) (.slice eh.ao xs.length eh.cap) (.slice ah.ao gs.length ah.cap) eh xs ah gs vh ks [] (some gx) lits)∧Hid (Box wx gx #[.int .i64 fn,.int .i64 0,.int .i64 0,.int .i64 0,.string ⟨#[]⟩,.int .i64 0,.slice none 0 0] 63))
     case first=>
      by_cases h4:fn=4
      ·have hb4: (fn == 4) =true:=by rw [h4];rfl
       go_wp2_with fail
       go_meet
       exact⟨1,rfl,rfl,HG2.o,HBX2.o⟩
      ·have hb4: (fn == 4) =false:=beq_eq_false_iff_ne.2 h4
       go_wp2_with fail
       go_meet
       exact⟨1+ (q:Int),rfl,decide_eq_true (by omega),HG2.o,HBX2.o⟩
     case rest=>
      clear HG2 HBX2 k0;obtain⟨k,rfl,HKT,HG3,HBX3⟩:=hcut;have hkk:1≤k∧k≤3:=of_decide_eq_true HKT.o;have k0:=HBX3.o.cell (j:=0) rfl
      go_upto_if 58 with fail
      go_cut [] (fun wx=>∃(e:Ex) (p3:Nat),(p2+2≤p3∧p3≤p2+22)∧Hid (GS w W wx b (w.heap.size+1) L p3 10 (.slice (some ⟨gk,0,none⟩) 1 1) (.slice eh.ao xs.length eh.cap) (.slice ah.ao gs.length ah.cap) eh xs ah gs vh ks [e] (some gx) lits)∧Hid (Box wx gx #[.int .i64 fn,.int .i64 e.op,.int .i64 e.typ,.int .i64 e.num,.string e.text,.int .i64 e.col,.slice e.kh.ao e.kids.length e.kh.cap] 63)∧Hid (e.size≤5)∧Hid (fn≠1→TyK ts.l k e))
      case first=>
       by_cases h1:fn=1
       ·have hb1: (fn != 1) =false:=by rw [h1];rfl
        go_wp2_with fail
        go_meet
        exact⟨leafEx 0 0 0 ⟨#[]⟩ 0,p2+1+1,by omega,HG3.o.zero_pend,HBX3.o,(show(leafEx 0 0 0 ⟨#[]⟩ 0).size≤5 by rw [leaf_size];omega),fun h=>absurd h1 h⟩
       ·have hb1: (fn != 1) =true:=bne_iff_ne.2 h1
        go_wp2_with (go_at_call 19;refine(gs_expr HE2 HG3.o HTS0 (by omega) htb HKT.o (by omega)).mono ?_;rintro _ x2 ⟨e,p3,rfl,hg3,hpp,hes,hety,hgr⟩;have HG4:=ai hg3;have HES:=ai hes;have HETY:=ai hety;have HBX4:=ai (HBX3.o.grown hgr (by have:=HG3.o.xn gx rfl;have:=HG3.o.ll;have:=HG3.o.lw;simp;omega));have c1:=HBX4.o.cell (j:=1) rfl;have f1:=HBX4.o.fr 1;have c2:=HBX4.o.cell (j:=2) rfl;have f2:=HBX4.o.fr 2;have c3:=HBX4.o.cell (j:=3) rfl;have f3:=HBX4.o.fr 3;have c4:=HBX4.o.cell (j:=4) rfl;have f4:=HBX4.o.fr 4;have c5:=HBX4.o.cell (j:=5) rfl;have f5:=HBX4.o.fr 5;have c6:=HBX4.o.cell (j:=6) rfl;have f6:=HBX4.o.fr 6;clear hg3 hes hety hgr)
        go_meet
        exact⟨e,p3,by omega,HG4.o.storeX (set6x _ _ _ _ _ _ _ _),((((((HBX4.o.set 1 _).set 2 _).set 3 _).set 4 _).set 5 _).set 6 _),HES.o,fun _=>HETY.o⟩
      case rest=>
       clear HG3 HBX3 k0;obtain⟨e,p3,hp3,HG4,HBX4,HES,HETY⟩:=hcut;have k0:=HBX4.o.cell (j:=0) rfl
       go_upto_region 17 with fail
       go_cut [71] (fun cv wx=>cv = .bool (decide (fn≠5∧fn≠6))∧Hid (GS w W wx b (w.heap.size+1) L p3 10 (.slice (some ⟨gk,0,none⟩) 1 1) (.slice eh.ao xs.length eh.cap) (.slice ah.ao gs.length ah.cap) eh xs ah gs vh ks [e] (some gx) lits)∧Hid (Box wx gx #[.int .i64 fn,.int .i64 e.op,.int .i64 e.typ,.int .i64 e.num,.string e.text,.int .i64 e.col,.slice e.kh.ao e.kids.length e.kh.cap] 63))
       case first=>
        by_cases h5:fn=5
        ·have hb5: (fn != 5) =false:=by rw [h5];rfl
         go_wp2_with fail
         go_meet
         exact⟨congrArg Value.bool (decide_eq_false (p:=fn≠5∧fn≠6) (by omega)).symm,HG4.o,HBX4.o⟩
        ·have hb5: (fn != 5) =true:=bne_iff_ne.2 h5
         by_cases h6:fn=6
         ·have hb6: (fn != 6) =false:=by rw [h6];rfl
          go_wp2_with fail
          go_meet
          exact⟨congrArg Value.bool (decide_eq_false (p:=fn≠5∧fn≠6) (by omega)).symm,HG4.o,HBX4.o⟩
         ·have hb6: (fn != 6) =true:=bne_iff_ne.2 h6
          go_wp2_with fail
          go_meet
          exact⟨congrArg Value.bool (decide_eq_true (p:=fn≠5∧fn≠6) ⟨h5,h6⟩).symm,HG4.o,HBX4.o⟩
       case rest=>
       clear HG4 HBX4 k0;obtain⟨rfl,HG4,HBX4⟩:=hcut
       go_upto_if 71 with fail
       go_cut [14] (fun kv wx=>∃k2:Int,kv = .int .i64 k2∧Hid (isT k2=true)∧Hid ((aggTy ts.l ⟨fn,e⟩).1=0→(aggTy ts.l ⟨fn,e⟩).2=k2)∧Hid (GS w W wx b (w.heap.size+1) L p3 10 (.slice (some ⟨gk,0,none⟩) 1 1) (.slice eh.ao xs.length eh.cap) (.slice ah.ao gs.length ah.cap) eh xs ah gs vh ks [e] (some gx) lits)∧Hid (Box wx gx #[.int .i64 fn,.int .i64 e.op,.int .i64 e.typ,.int .i64 e.num,.string e.text,.int .i64 e.col,.slice e.kh.ao e.kids.length e.kh.cap] 63))
       case first=>
        by_cases h56:fn≠5∧fn≠6
        ·have hd:decide (fn≠5∧fn≠6) =true:=decide_eq_true h56
         go_wp2_with fail
         go_meet
         exact⟨1,rfl,rfl,agg_int h56,HG4.o,HBX4.o⟩
        ·have hd:decide (fn≠5∧fn≠6) =false:=decide_eq_false h56
         go_wp2_with fail
         go_meet
         exact⟨k,rfl,HKT.o,agg_mm (show fn=5∨fn=6 by omega) (HETY.o (by omega)),HG4.o,HBX4.o⟩
       case rest=>
        clear HG4 HBX4;obtain⟨kt,rfl,HK2,HAT,HG5,HBX5⟩:=hcut;have HGI:=ai (HG5.o.addlit HBX5.o);have k0:=HGI.o.cell (j:=11) rfl;have k1: ∀o,(wc.alloc o).cell? ⟨w.heap.size+1,11,none⟩ =some (.slice ah.ao gs.length ah.cap):=fun o=>(HGI.o.alloc o).cell (j:=11) rfl;have k2: ∀o o',((wc.alloc o).alloc o').cell? ⟨w.heap.size+1,11,none⟩ =some (.slice ah.ao gs.length ah.cap):=fun o o'=>((HGI.o.alloc o).alloc o').cell (j:=11) rfl;have f0:=HGI.o.bx.fr 11;have a00:=HBX5.o.cell (j:=0) rfl;have a01: ∀o,(wc.alloc o).cell? ⟨gx,0,none⟩ =some (.int .i64 fn):=fun o=>(HBX5.o.below (belA o)).cell (j:=0) rfl;have a02: ∀o o',((wc.alloc o).alloc o').cell? ⟨gx,0,none⟩ =some (.int .i64 fn):=fun o o'=>(HBX5.o.below (belAA o o')).cell (j:=0) rfl;have a10:=HBX5.o.cell (j:=1) rfl;have a11: ∀o,(wc.alloc o).cell? ⟨gx,1,none⟩ =some (.int .i64 e.op):=fun o=>(HBX5.o.below (belA o)).cell (j:=1) rfl;have a12: ∀o o',((wc.alloc o).alloc o').cell? ⟨gx,1,none⟩ =some (.int .i64 e.op):=fun o o'=>(HBX5.o.below (belAA o o')).cell (j:=1) rfl;have a20:=HBX5.o.cell (j:=2) rfl;have a21: ∀o,(wc.alloc o).cell? ⟨gx,2,none⟩ =some (.int .i64 e.typ):=fun o=>(HBX5.o.below (belA o)).cell (j:=2) rfl;have a22: ∀o o',((wc.alloc o).alloc o').cell? ⟨gx,2,none⟩ =some (.int .i64 e.typ):=fun o o'=>(HBX5.o.below (belAA o o')).cell (j:=2) rfl;have a30:=HBX5.o.cell (j:=3) rfl;have a31: ∀o,(wc.alloc o).cell? ⟨gx,3,none⟩ =some (.int .i64 e.num):=fun o=>(HBX5.o.below (belA o)).cell (j:=3) rfl;have a32: ∀o o',((wc.alloc o).alloc o').cell? ⟨gx,3,none⟩ =some (.int .i64 e.num):=fun o o'=>(HBX5.o.below (belAA o o')).cell (j:=3) rfl;have a40:=HBX5.o.cell (j:=4) rfl;have a41: ∀o,(wc.alloc o).cell? ⟨gx,4,none⟩ =some (.string e.text):=fun o=>(HBX5.o.below (belA o)).cell (j:=4) rfl;have a42: ∀o o',((wc.alloc o).alloc o').cell? ⟨gx,4,none⟩ =some (.string e.text):=fun o o'=>(HBX5.o.below (belAA o o')).cell (j:=4) rfl;have a50:=HBX5.o.cell (j:=5) rfl;have a51: ∀o,(wc.alloc o).cell? ⟨gx,5,none⟩ =some (.int .i64 e.col):=fun o=>(HBX5.o.below (belA o)).cell (j:=5) rfl;have a52: ∀o o',((wc.alloc o).alloc o').cell? ⟨gx,5,none⟩ =some (.int .i64 e.col):=fun o o'=>(HBX5.o.below (belAA o o')).cell (j:=5) rfl;have a60:=HBX5.o.cell (j:=6) rfl;have a61: ∀o,(wc.alloc o).cell? ⟨gx,6,none⟩ =some (.slice e.kh.ao e.kids.length e.kh.cap):=fun o=>(HBX5.o.below (belA o)).cell (j:=6) rfl;have a62: ∀o o',((wc.alloc o).alloc o').cell? ⟨gx,6,none⟩ =some (.slice e.kh.ao e.kids.length e.kh.cap):=fun o o'=>(HBX5.o.below (belAA o o')).cell (j:=6) rfl
        clear HG5;go_wp2_with (first
         | (at_builtin;refine wpl_gs_A (x0:=⟨fn,e⟩) (HGI.o.lit _ _) HF64.o rfl _ _ rfl rfl rfl (by simp) (by omega) ?_;intro g cap z3 hg3;have HGI:=ai hg3;clear hg3;have k0:=HGI.o.cell (j:=11) rfl;have k1: ∀o,(z3.alloc o).cell? ⟨w.heap.size+1,11,none⟩ =some (.slice ah.ao gs.length ah.cap):=fun o=>(HGI.o.alloc o).cell (j:=11) rfl;have k2: ∀o o',((z3.alloc o).alloc o').cell? ⟨w.heap.size+1,11,none⟩ =some (.slice ah.ao gs.length ah.cap):=fun o o'=>((HGI.o.alloc o).alloc o').cell (j:=11) rfl;have f0:=HGI.o.bx.fr 11)
         | (at_builtin;refine wpl_gs_T (k:=kt) (HGI.o.lit _ _) rfl _ _ rfl rfl rfl (by simp) (by omega) ?_;intro g cap z3 hg3;have HGI:=ai hg3;clear hg3;have k0:=HGI.o.cell (j:=11) rfl;have k1: ∀o,(z3.alloc o).cell? ⟨w.heap.size+1,11,none⟩ =some (.slice ah.ao gs.length ah.cap):=fun o=>(HGI.o.alloc o).cell (j:=11) rfl;have k2: ∀o o',((z3.alloc o).alloc o').cell? ⟨w.heap.size+1,11,none⟩ =some (.slice ah.ao gs.length ah.cap):=fun o o'=>((HGI.o.alloc o).alloc o').cell (j:=11) rfl;have f0:=HGI.o.bx.fr 11))
        have HGF:=ai (HGI.o.storeA1 (n:=gs.length+1) (by simp))
        go_roundw
        case rel=>exact⟨m - 1,_,_,_,_,p3,_,by rw [List.length_append];rfl,by go_num,by omega,by omega,by omega,HB.o.snoc (by omega) HK2.o (asz5 HES.o) HES.o HAT.o,HGF.o⟩
        case measure=>simp [intOf];omega
    ·have hm1:m=0:=by omega
     subst hm1;have HZB:=ai (HZ.o _ HG.o.kp);obtain⟨z0,z1,z2,z3,z4,z5,z6,z7,z8,z9,z10,z11,z12,z13,z14⟩:=HZB.o.c15;obtain⟨f0,f1,f2,f3,f4,f5,f6,f7,f8,f9,f10,f11,f12,f13,f14⟩:=HZB.o.f15
     obtain⟨y0,y1,y2,y3,y4,y5,y6,y7,y8,y9,y10,y11,y12,y13,y14⟩:=HG.o.bx.c15;have HR:=ai (box15 HZB.o (.int .i64 10) (.string ⟨#[]⟩) (.int .i64 0) (.bool false) (.int .i64 0) (.int .i64 0) (.int .i64 0) (.string ⟨#[]⟩) (.int .i64 0) (.slice none 0 0) (.slice eh.ao xs.length eh.cap) (.slice ah.ao gs.length ah.cap) (.slice none 0 0) (.slice none 0 0) (.slice (some ⟨gk,0,none⟩) 1 1));obtain⟨r0,r1,r2,r3,r4,r5,r6,r7,r8,r9,r10,r11,r12,r13,r14⟩:=HR.o.c15;have HD:=ai (group_done HG.o (set15 wr w.heap.size (.int .i64 10) (.string ⟨#[]⟩) (.int .i64 0) (.bool false) (.int .i64 0) (.int .i64 0) (.int .i64 0) (.string ⟨#[]⟩) (.int .i64 0) (.slice none 0 0) (.slice eh.ao xs.length eh.cap) (.slice ah.ao gs.length ah.cap) (.slice none 0 0) (.slice none 0 0) (.slice (some ⟨gk,0,none⟩) 1 1)) HSW.o HQ.o hb HK.o hgk HB.o (by omega) (show a≤p2∧p2≤a+100 from⟨by omega,by omega⟩))
     go_wp2_with fail
     exact bodyPost_ret (v:=.tuple #[.agg #[.int .i64 10,.string ⟨#[]⟩,.int .i64 0,.bool false,.int .i64 0,.int .i64 0,.int .i64 0,.string ⟨#[]⟩,.int .i64 0,.slice none 0 0,.slice eh.ao xs.length eh.cap,.slice ah.ao gs.length ah.cap,.slice none 0 0,.slice none 0 0,.slice (some ⟨gk,0,none⟩) 1 1],.slice vh.ao ks.length vh.cap]) (by simp [results,Tryd.results34,go_sem,r0,r1,r2,r3,r4,r5,r6,r7,r8,r9,r10,r11,r12,r13,r14]) rfl HD.o
end Go.Proofs.YtogalchclmmfgaaDoor

/- slices.SortFunc at rows: the contract of the kit shelf at this dump (written by lay-plain.mjs; the numbers are those of this seat). -/
import Derived.Test.YtiijaaohphokcaaGreatDoorProg
import Derived.Test.YtiijaaohphokcaaGreatDoorG34
import Derived.Test.YtiijaaohphokcaaGreatDoorG35
import Derived.Shelf.SlSortCmp.Whole1
import Derived.Shelf.SlSortCmp.NoneTotal
import Derived.KernelRfl
set_option maxRecDepth 100000
set_option maxHeartbeats 16000000
namespace Go.Proofs
open Go.Shelf
def Tryz.sortRows_ren:Go.Shelf.Ren:=⟨fun|6=>58|15=>96|14=>95|28=>139|29=>140|20=>131|21=>132|22=>133|23=>134|24=>135|25=>136|26=>137|27=>138|46=>169|47=>170|48=>171|49=>172|50=>173|57=>191|n=>n,fun|22=>49|24=>96|25=>107|3=>3|39=>148|0=>0|53=>185|55=>187|4=>4|46=>179|45=>178|50=>139|5=>5|9=>9|66=>213|70=>217|76=>226|77=>227|n=>n,fun|n=>n⟩
theorem Tryz.sortRows:Go.Proofs.SlLaysF.n6 Tryz.prog Tryz.sortRows_ren:= {
 mixed:=by kernel_rfl
 f6:=⟨Tryz.f58.name,by decide,Tryz.func58.trans (congrArg some (by kernel_rfl))⟩
 f14:=⟨Tryz.f95.name,by decide,Tryz.func95.trans (congrArg some (by kernel_rfl))⟩
 f15:=Tryz.func96.trans (congrArg some (by kernel_rfl))
 f20:=⟨Tryz.f131.name,by decide,Tryz.func131.trans (congrArg some (by kernel_rfl))⟩
 f21:=⟨Tryz.f132.name,by decide,Tryz.func132.trans (congrArg some (by kernel_rfl))⟩
 f22:=⟨Tryz.f133.name,by decide,Tryz.func133.trans (congrArg some (by kernel_rfl))⟩
 f23:=⟨Tryz.f134.name,by decide,Tryz.func134.trans (congrArg some (by kernel_rfl))⟩
 f24:=⟨Tryz.f135.name,by decide,Tryz.func135.trans (congrArg some (by kernel_rfl))⟩
 f25:=⟨Tryz.f136.name,by decide,Tryz.func136.trans (congrArg some (by kernel_rfl))⟩
 f26:=⟨Tryz.f137.name,by decide,Tryz.func137.trans (congrArg some (by kernel_rfl))⟩
 f27:=⟨Tryz.f138.name,by decide,Tryz.func138.trans (congrArg some (by kernel_rfl))⟩
 f28:=Tryz.func139.trans (congrArg some (by kernel_rfl))
 f29:=Tryz.func140.trans (congrArg some (by kernel_rfl))
 f46:=⟨Tryz.f169.name,by decide,Tryz.func169.trans (congrArg some (by kernel_rfl))⟩
 f47:=Tryz.func170.trans (congrArg some (by kernel_rfl))
 f48:=Tryz.func171.trans (congrArg some (by kernel_rfl))
 f49:=⟨Tryz.f172.name,by decide,Tryz.func172.trans (congrArg some (by kernel_rfl))⟩
 f50:=⟨Tryz.f173.name,by decide,Tryz.func173.trans (congrArg some (by kernel_rfl))⟩
 f57:=⟨Tryz.f191.name,by decide,Tryz.func191.trans (congrArg some (by kernel_rfl))⟩
 t0:=Tryz.underlying0
 a0:=Tryz.isAgg0
 z0:=Tryz.sizeOf0
 v0:=Tryz.zeroValue0
 t3:=Tryz.underlying3
 a3:=Tryz.isAgg3
 z3:=Tryz.sizeOf3
 v3:=Tryz.zeroValue3
 t4:=Tryz.underlying4
 a4:=Tryz.isAgg4
 z4:=Tryz.sizeOf4
 v4:=Tryz.zeroValue4
 t5:=Tryz.underlying5
 a5:=Tryz.isAgg5
 z5:=Tryz.sizeOf5
 v5:=Tryz.zeroValue5
 t9:=Tryz.underlying9
 a9:=Tryz.isAgg9
 z9:=Tryz.sizeOf9
 v9:=Tryz.zeroValue9
 t22:=Tryz.underlying49
 a22:=Tryz.isAgg49
 z22:=Tryz.sizeOf49
 v22:=Tryz.zeroValue49
 a24:=Tryz.isAgg96
 z24:=Tryz.sizeOf96
 t25:=Tryz.underlying107
 a25:=Tryz.isAgg107
 z25:=Tryz.sizeOf107
 v25:=Tryz.zeroValue107
 t39:=Tryz.underlying148
 a39:=Tryz.isAgg148
 z39:=Tryz.sizeOf148
 v39:=Tryz.zeroValue148
 t45:=Tryz.underlying178
 a45:=Tryz.isAgg178
 z45:=Tryz.sizeOf178
 v45:=Tryz.zeroValue178
 t46:=Tryz.underlying179
 a46:=Tryz.isAgg179
 z46:=Tryz.sizeOf179
 v46:=Tryz.zeroValue179
 t50:=Tryz.underlying139
 a50:=Tryz.isAgg139
 z50:=Tryz.sizeOf139
 v50:=Tryz.zeroValue139
 t53:=Tryz.underlying185
 a53:=Tryz.isAgg185
 z53:=Tryz.sizeOf185
 v53:=Tryz.zeroValue185
 t55:=Tryz.underlying187
 a55:=Tryz.isAgg187
 z55:=Tryz.sizeOf187
 v55:=Tryz.zeroValue187
 t66:=Tryz.underlying213
 a66:=Tryz.isAgg213
 z66:=Tryz.sizeOf213
 v66:=Tryz.zeroValue213
 t70:=Tryz.underlying217
 a70:=Tryz.isAgg217
 z70:=Tryz.sizeOf217
 v70:=Tryz.zeroValue217
 t76:=Tryz.underlying226
 a76:=Tryz.isAgg226
 z76:=Tryz.sizeOf226
 v76:=Tryz.zeroValue226
 t77:=Tryz.underlying227
 a77:=Tryz.isAgg227
 z77:=Tryz.sizeOf227
 v77:=Tryz.zeroValue227 }
end Go.Proofs
/- slices.SortFunc with value.CompareRows: the rows in order. -/
namespace Go.Proofs.YtiijaaohphokcaaGreatDoor
open Go.RowKit
def nilV:VL:=⟨nilHd,[]⟩
theorem nilV_in (w:World) :nilV.In w:=⟨Row.nil _ _ _,fun _ h=>by cases h⟩
def rowAt (rows:List VL) (i:Nat) :VL:=rows.getD i nilV
def encR (rows:List VL) (i:Nat) :Value:=.slice (rowAt rows i).h.ao (rowAt rows i).l.length (rowAt rows i).h.cap
theorem rowAt_get {rows:List VL} {i:Nat} (h:i<rows.length) :rowAt rows i=rows[i]:=by
 unfold rowAt;rw [List.getD_eq_getElem?_getD,List.getElem?_eq_getElem h];rfl
theorem rowAt_in {rows:List VL} {w:World} (h: ∀r∈rows,r.In w) (i:Nat) : (rowAt rows i).In w:=by
 by_cases hi:i<rows.length
 ·rw [rowAt_get hi];exact h _ (List.getElem_mem hi)
 ·unfold rowAt;rw [List.getD_eq_getElem?_getD,List.getElem?_eq_none (by omega)];exact nilV_in w
theorem rowAt_ne {rows:List VL} {g:Nat} (h: ∀r∈rows,0<r.l.length→r.h.b≠g) (i:Nat) :0< (rowAt rows i).l.length→(rowAt rows i).h.b≠g:=by
 by_cases hi:i<rows.length
 ·rw [rowAt_get hi];exact h _ (List.getElem_mem hi)
 ·unfold rowAt;rw [List.getD_eq_getElem?_getD,List.getElem?_eq_none (by omega)];exact fun hp=>absurd hp (by show¬0< ([] :List V).length;decide)
theorem sw_grown (enc:Nat→Value) (w:World) (g off m:Nat) (dk:Array Nat) (os:Array Obj) :w.grownBy (sortWorld enc w g off m dk os) (some g):=by
 refine⟨rfl,rfl,rfl,?_,fun k hk hne=> ?_⟩
 ·unfold sortWorld;rw [Sort.size_grow,size_putRow];show w.heap.size≤w.heap.size+_;omega
 ·unfold sortWorld
  rw [Sort.heap_grow_old _ _ (by rw [size_putRow];exact hk)]
  unfold Sort.putRow Sort.mapBlock
  show((Sort.ahead w m).heap.modify g _)[k]? = _
  rw [Array.getElem?_modify,if_neg (fun e=>hne (by rw [e]))]
  rfl
theorem vl_grown {w w':World} {g:Nat} {r:VL} (h:r.In w) (hg:w.grownBy w' (some g)) (hne:0<r.l.length→r.h.b≠g) :r.In w':=⟨row_any h.1 hg (fun hp e=>hne hp (by injection e)),h.2⟩
def SortPost (rows:List VL) (g:Nat) (cap:Nat) (w:World) (e:Ending) (w':World) :Prop:=
 ∃rows':List VL,e = .returned (.tuple #[])∧rows'.length=rows.length∧(rows'.map VL.l).Perm (rows.map VL.l)∧(rows'.map VL.l).Pairwise (fun x y=>¬cmpR y x<0)∧Row w' 1 VL.cells ⟨some ⟨g,0,none⟩,cap⟩ rows'∧(∀r∈rows',r.In w')∧w.grownBy w' (some g)
theorem map_range (rows:List VL) : (List.range rows.length).map (rowAt rows) =rows:=by
 apply List.ext_getElem
 ·rw [List.length_map,List.length_range]
 ·intro i h1 h2
  rw [List.getElem_map,List.getElem_range,rowAt_get h2]
theorem sort_any (rows:List VL) (base g cap:Nat) (w:World) (ho:w.ownsRow base 96 1 (.slice (some ⟨g,0,none⟩) rows.length cap) rows.length (rows.flatMap VL.cells)) (hin: ∀r∈rows,r.In w) (hne: ∀r∈rows,0<r.l.length→r.h.b≠g) (hn:rows.length≤1000) :
  Calls Tryz.prog 58 #[.slice (some ⟨g,0,none⟩) rows.length cap,.func (.func 59) #[] #[]] w (SortPost rows g cap w):=by
 have hsz: (Array.range rows.length).size=rows.length:=Array.size_range;have hget: ∀j,j<rows.length→(Array.range rows.length)[j]! = j:=fun j hj=>by
  rw [getElem!_pos _ j (by rw [hsz];exact hj),Array.getElem_range]
 have hH:Sort.Holds (encR rows) w g 0 (Array.range rows.length):=fun j hj=>by
  rw [hsz]at hj;rw [hget j hj,Nat.zero_add];refine⟨?_,ho.frozenAt j⟩
  rw [ho.cellAt j (by omega)]
  have h:=flatMap_at (size:=1) (cells:=VL.cells) (fun _=>rfl) rows j 0 hj (by decide)
  rw [Nat.mul_one,Nat.add_zero]at h;rw [h]
  unfold encR
  rw [rowAt_get hj]
  rfl
 have eg: ∀args w,(callFunc 59 args).run Tryz.prog w = .ok (.enter 59 args) w:=enters_of Tryz.func59 (by kernel_rfl) rfl
 have hcmp:CmpLays1 Tryz.prog 59 #[] (encR rows) (fun i j=>cmpR (rowAt rows i).l (rowAt rows j).l) g 0 (Array.range rows.length).size w:=fun m os dk hs x y=>by
  have hg:=sw_grown (encR rows) w g 0 m dk os;exact(cmprows_any (rowAt rows x) (rowAt rows y) _ (vl_grown (rowAt_in hin x) hg (rowAt_ne hne x)) (vl_grown (rowAt_in hin y) hg (rowAt_ne hne y))).mono fun e w' ⟨h1,h2⟩=>⟨h1,h2.grow⟩
 have hblk:g<w.heap.size:=(ho.lt g rfl).2;have hcon:=Any.slices_SortFunc Tryz.sortRows (encR rows) (fun _=>rfl) (fun i j=>cmpR (rowAt rows i).l (rowAt rows j).l) (isCmp_row.swo fun i=>(rowAt rows i).l) 59 #[] g 0 cap (Array.range rows.length) w eg hcmp hH hblk (by rw [hsz];omega)
 rw [hsz]at hcon
 change Calls Tryz.prog 58 _ _ _ at hcon
 refine hcon.mono ?_
 rintro e w' ⟨rfl,d,m,os,⟨hds,_,hdp⟩,hso,rfl⟩;rw [hsz]at hds;have hperm:d.toList.Perm (List.range rows.length):=by
  have h1: (d.extract 0 rows.length).toList=d.toList:=by rw [Array.extract_eq_self_of_le (by omega)]
  have h2: ((Array.range rows.length).extract 0 rows.length).toList=List.range rows.length:=by rw [Array.extract_eq_self_of_le (by rw [hsz];exact Nat.le_refl _),Array.toList_range]
  rwa [h1,h2]at hdp
 have hg:=sw_grown (encR rows) w g 0 m d os;have hh:=holds_sortWorld (encR rows) w g 0 m (Array.range rows.length) d os hblk hH (by rw [hds,hsz])
 have hlen: (d.toList.map (rowAt rows)).length=rows.length:=by rw [List.length_map,Array.length_toList];exact hds
 have hpm: (d.toList.map (rowAt rows)).Perm rows:=by
  have h:=hperm.map (rowAt rows)
  rwa [map_range]at h
 refine⟨d.toList.map (rowAt rows),rfl,hlen,hpm.map _,?_,⟨?_,?_,fun _=>⟨rfl,Nat.lt_of_lt_of_le hblk hg.size⟩,fun i hi j v hv=> ?_⟩,fun r hr=> ?_,hg⟩
 ·rw [List.pairwise_iff_getElem]
  intro i j hi hj hij;simp only [List.length_map,Array.length_toList]at hi hj;simp only [List.getElem_map,Array.getElem_toList];have h:=hso i j (Nat.zero_le _) hij (by omega)
  rw [getElem!_pos _ j hj,getElem!_pos _ i hi]at h;have h:decide (cmpR (rowAt rows d[j]).l (rowAt rows d[i]).l<0) =false:=h;exact of_decide_eq_false h
 ·rw [hlen];exact own_cap ho
 ·rcases ho.2 with⟨h2,_⟩ | ⟨g',cap',cur,hv,hb,hgx,hnn,hc,hs,ht⟩
  ·cases h2
  ·injection hv with _ _ e3
   show cap≤maxLen
   omega
 ·rw [hlen]at hi
  have hid:i<d.size:=by omega
  obtain⟨hc,_⟩:=hh i hid;have hj:j=0:=by
   have:=(List.getElem?_eq_some_iff.1 hv).1;simp only [List.length_cons,List.length_nil]at this;omega
  subst hj;rw [List.getElem_map,Array.getElem_toList]at hv;injection hv with hv
  show(sortWorld _ _ _ _ _ _ _).cell? ⟨g,0+i*1+0,none⟩ =some v
  rw [Nat.mul_one,Nat.add_zero,hc,←hv,getElem!_pos _ i hid]
  rfl
 ·obtain⟨i,_,rfl⟩:=List.mem_map.1 hr
  exact vl_grown (rowAt_in hin i) hg (rowAt_ne hne i)
end Go.Proofs.YtiijaaohphokcaaGreatDoor
/- conjunctive.Eval of a valid query on an instance that fits. -/
namespace Go.Proofs.YtiijaaohphokcaaGreatDoor
open Go.RowKit
def SortedAt (rows:List VL) (p:Option Addr) (cap:Nat) (own:Option Nat) (w:World) (e:Ending) (w':World) :Prop:=
 ∃rows':List VL,e = .returned (.tuple #[])∧rows'.length=rows.length∧(rows'.map VL.l).Perm (rows.map VL.l)∧(rows'.map VL.l).Pairwise (fun x y=>¬cmpR y x<0)∧RL.In w' ⟨⟨p,cap⟩,rows'⟩∧w.grownBy w' own
theorem sort_all (rows:List VL) (base:Nat) (lv:Value) (w:World) (ho:w.ownsRow base 96 1 lv rows.length (rows.flatMap VL.cells)) (hin: ∀r∈rows,r.In w) (hne: ∀r∈rows,0<r.l.length→lv.ownBlock≠some r.h.b) (hn:rows.length≤1000) :
  ∃p cap,lv = .slice p rows.length cap∧Calls Tryz.prog 58 #[.slice p rows.length cap,.func (.func 59) #[] #[]] w (SortedAt rows p cap lv.ownBlock w):=by
 rcases id ho with⟨_,h2⟩;rcases h2 with⟨hl,h0⟩ | ⟨g,cap,cur,hv,hb,hg,hnn,hc,hs,ht⟩
 ·have hr:rows = []:=List.eq_nil_of_length_eq_zero h0
  subst hr;refine⟨none,0,hl,?_⟩
  have hcon:=AnyF.slices_SortFunc_none { Tryz.sortRows with } none 0 (.func (.func 59) #[] #[]) w
  change Calls Tryz.prog 58 _ _ _ at hcon
  exact hcon.mono (by rintro e w' ⟨rfl,rfl⟩;exact⟨[],rfl,rfl,.refl _,.nil,⟨Row.nil _ _ _,fun _ h=>(by cases h)⟩,World.grownBy.refl _ _⟩)
 ·subst hv
  refine⟨some ⟨g,0,none⟩,cap,rfl,?_⟩
  exact(sort_any rows base g cap w ho hin (fun r hr hp e=>hne r hr hp (by rw [e];rfl)) hn).mono (by
   rintro e w' ⟨rows',rfl,h1,h2,h3,h4,h5,h6⟩;exact⟨rows',rfl,h1,h2,h3,⟨h4,h5⟩,h6⟩)
theorem fit_nonull {s:Sch} {x:Ins} {n:Nat} (hp:PSch s) (hf:FitI (colT s) x n) {k:Nat} (hk:k<x.l.length) : ∀r∈x.l[k].l,∀v∈r.l,v.kind≠0:=by
 have hk2:k<s.tabs.length:=by have:=hf.len;rw [this]at hk;have e: (colT s).length=s.tabs.length:=List.length_map _;omega
 obtain⟨_,nm,ch,cols,ph,e,hpc,_,hrw⟩:=fit_row hp hf hk2;intro r hr v hv;obtain⟨h1,h2⟩:=hrw r hr;obtain⟨i,hi,rfl⟩:=List.getElem_of_mem hv;have hic:i<cols.length:=by omega
 obtain⟨_,_,h3⟩:=h2 i hi hic;rw [h3];rcases hpc.ty _ (List.getElem_mem hic)with h|h<;>omega
theorem eok_of {w:World} {s:Sch} {q:Cq} {x:Ins} {n B:Nat} (rq:RightQ w (colT s) q B) (hx:x.In w) (hf:FitI (colT s) x n) (hn:n≤200) :EOk w q x:=by
 have hq:=rq.ok rq;refine⟨rq.qi.le (Nat.zero_le _),hx,hq.vq,rq.hv,hq.ql,by have:=rq.hl;omega,hq.qs,fun l hl=> ?_⟩
 obtain⟨τ,hr⟩:=rq.ri;obtain⟨ty,h1,h2,_⟩:=hr.lit l.lt (List.mem_map_of_mem hl);have h1: (colT s)[l.tab]? = some ty:=h1;have hlt:l.tab<x.l.length:=by rw [hf.len];exact(List.getElem?_eq_some_iff.1 h1).1
 refine⟨hlt,by have:=hf.few _ (List.getElem_mem hlt);omega,fun v hv=> ?_⟩
 have h3:=(hf.row l.tab _ ty (List.getElem?_eq_getElem hlt) h1 v hv).1;have h2:l.sl.l.length=ty.length:=h2;omega
def EvalPost (q:Cq) (x:Ins) (w:World) (e:Ending) (w':World) :Prop:=
 ∃r:RL,e = .returned (.tuple #[.slice r.h.ao r.l.length r.h.cap,.int .i64 0])∧r.In w'∧r.rows.Perm (q.cj.rows x.D nulV)∧r.rows.Pairwise (fun a b=>¬cmpR b a<0)∧Below w.heap.size w w'
theorem eval_any (s:Sch) (q:Cq) (x:Ins) (B n:Nat) (w:World) (hf:Fine w s q) (rq:RightQ w (colT s) q B) (hs:s.In w) (hp:PSch s) (hx:x.In w) (hfi:FitI (colT s) x n) (hn:n≤200) (hsh:w.ShapedOpen Tryz.prog) (hlen: (q.cj.rows x.D nulV).length≤1000) :
  Calls Tryz.prog 19 #[.agg #[.slice s.th.ao s.tabs.length s.th.cap],.agg #[.slice x.h.ao x.l.length x.h.cap],.agg #[.int .i64 (q.vars:Nat),.slice q.lh.ao q.lits.length q.lh.cap,.slice q.head.h.ao q.head.l.length q.head.h.cap]] w (EvalPost q x w):=by
 obtain⟨X,hX⟩ : ∃X,((w.alloc (.cells #[.slice s.th.ao s.tabs.length s.th.cap] 27)).alloc (.cells #[.slice x.h.ao x.l.length x.h.cap] 46)).alloc (.cells #[.int .i64 (q.vars:Nat),.slice q.lh.ao q.lits.length q.lh.cap,.slice q.head.h.ao q.head.l.length q.head.h.cap] 32) =X:=⟨_,rfl⟩;have HBX:=ai (show Below w.heap.size w X from by rw [←hX];exact bT (belAA _ _) (belA _))
 have HBS:=ai (show Box X w.heap.size #[.slice s.th.ao s.tabs.length s.th.cap] 27 from by rw [←hX];exact((Box.new _ _ _).below (belA _)).below (belA _))
 have HBI:=ai (show Box X (w.heap.size+1) #[.slice x.h.ao x.l.length x.h.cap] 46 from by
  rw [←hX];have h:=(Box.new (w.alloc (.cells #[.slice s.th.ao s.tabs.length s.th.cap] 27)) #[.slice x.h.ao x.l.length x.h.cap] 46).below (belA (.cells #[.int .i64 (q.vars:Nat),.slice q.lh.ao q.lits.length q.lh.cap,.slice q.head.h.ao q.head.l.length q.head.h.cap] 32))
  rwa [World.size_alloc]at h)
 have HBQ:=ai (show Box X (w.heap.size+1+1) #[.int .i64 (q.vars:Nat),.slice q.lh.ao q.lits.length q.lh.cap,.slice q.head.h.ao q.head.l.length q.head.h.cap] 32 from by
  rw [←hX];have h:=Box.new ((w.alloc (.cells #[.slice s.th.ao s.tabs.length s.th.cap] 27)).alloc (.cells #[.slice x.h.ao x.l.length x.h.cap] 46)) #[.int .i64 (q.vars:Nat),.slice q.lh.ao q.lits.length q.lh.cap,.slice q.head.h.ao q.head.l.length q.head.h.cap] 32
  rwa [World.size_alloc,World.size_alloc]at h)
 have HEO:=ai (eok_of rq hx hfi hn);have hqv:=rq.qi.vr;have HVQ:=ai (hf X HBX.o);have HFI:=ai (fun W (hW:Below w.heap.size w W)=>fitsI_yes s x n W (hs.mono hW) hp (hx.mono hW) hfi hn (ShX hsh hW))
 have HXI:=ai hx;have HNN:=ai (fun(k:Nat) (hk:k<x.l.length)=>fit_nonull hp hfi hk)
 have HCV:=ai (show∀y,Tm.v y∈q.head.l→(none:Option V)≠none∨∃l∈q.cj.lits.drop 0,Tm.v y∈l.2 from fun y hy=>.inr (rq.hc y hy))
 have HLN:=ai (show([] :List VL).length+ (evalL x.D (headL nulV q.head.l) (q.cj.lits.drop 0) (fun _=>none)).length≤1000 from by
  show 0+ (q.cj.rows x.D nulV).length≤1000
  omega)
 have hql:q.lits.length≤1000:=HEO.o.ql;have s0:X.cell? ⟨w.heap.size,0,none⟩ =some (.slice s.th.ao s.tabs.length s.th.cap):=HBS.o.cell rfl;have q0:X.cell? ⟨w.heap.size+1+1,0,none⟩ =some (.int .i64 (q.vars:Nat)):=HBQ.o.cell rfl;have q1:X.cell? ⟨w.heap.size+1+1,1,none⟩ =some (.slice q.lh.ao q.lits.length q.lh.cap):=HBQ.o.cell rfl;have q2:X.cell? ⟨w.heap.size+1+1,2,none⟩ =some (.slice q.head.h.ao q.head.l.length q.head.h.cap):=HBQ.o.cell rfl;clear hf rq hs hp hx hfi hsh hlen hn
 go_enter Tryz.func19,Tryz.ntmps19;go_upto_region 1 with fail
 try rw [hX]
 clear hX;go_upto_region 2 with(go_at_call 31;refine HVQ.o.mono ?_;rintro e Y ⟨rfl,hb⟩;have HY:=ai (bT HBX.o hb);have HSY:=ai (HBS.o.below hb);have HIY:=ai (HBI.o.below hb);have HQY:=ai (HBQ.o.below hb);clear hb s0 q0 q1 q2)
 have s0:Y.cell? ⟨w.heap.size,0,none⟩ =some (.slice s.th.ao s.tabs.length s.th.cap):=HSY.o.cell rfl;have i0:Y.cell? ⟨w.heap.size+1,0,none⟩ =some (.slice x.h.ao x.l.length x.h.cap):=HIY.o.cell rfl;go_upto_region 5 with(go_at_call 54;refine(HFI.o _ HY.o).mono ?_;rintro e Z ⟨rfl,hb⟩;have HZ:=ai (bT HY.o hb);have HIZ:=ai (HIY.o.below hb);have HQZ:=ai (HQY.o.below hb);clear hb s0 i0)
 have q1:Z.cell? ⟨w.heap.size+1+1,1,none⟩ =some (.slice q.lh.ao q.lits.length q.lh.cap):=HQZ.o.cell rfl;clear HVQ HFI HBS HBI HBQ HSY HIY HQY HY;go_wp2;clear q1;go_loopw [30] (fun i wr=>∃k:Nat,k≤q.lits.length∧i = .int .i64 k∧Hid (Below Z.heap.size Z wr)) (fun i _=>q.lits.length - (intOf i).toNat)
 case atStart=>exact⟨0,Nat.zero_le _,rfl,ai (Below.refl _ _)⟩
 case round=>
 obtain⟨k,hk,rfl,HW⟩:=hrel;by_cases hlt:k<q.lits.length
 ·have HBW:=ai (bT HZ.o HW.o)
  have hqr:=HEO.o.qi.row.mono HBW.o;have hix:=hqr.ix hlt Tryz.underlying29 szlit;obtain⟨c0,c1⟩:=li_at hqr hlt;have hbk:=hqr.blk hlt;obtain⟨a,ha⟩ : ∃a,q.lits[k] =a:=⟨_,rfl⟩;have HAM:=ai (show a∈q.lits from ha▸List.getElem_mem hlt)
  rw [ha]at c0 c1;obtain⟨htb,hfew,_⟩:=HEO.o.tb a HAM.o;have HN0:=ai (HNN.o a.tab htb);obtain⟨R,hR⟩ : ∃R,x.l[a.tab] =R:=⟨_,rfl⟩;rw [hR]at hfew HN0;have HRI:=ai (show R.In w from hR▸HXI.o.2 _ (List.getElem_mem htb))
  obtain⟨V,hV⟩ : ∃V,wr.alloc (.cells #[.int .i64 (a.tab:Nat),.slice a.sl.h.ao a.sl.l.length a.sl.h.cap] 56) =V:=⟨_,rfl⟩;have HVB:=ai (box1X hV).2;have HVX:=ai (box1X hV).1;have HVW:=ai (bT HBW.o HVB.o);have hixt:=(HXI.o.1.mono HVW.o).ix htb Tryz.underlying44 szrl;have t0:=rl_at (HXI.o.1.mono HVW.o) htb;have hbt:=(HXI.o.1.mono HVW.o).blk htb;rw [hR]at t0;have i0:V.cell? ⟨w.heap.size+1,0,none⟩ =some (.slice x.h.ao x.l.length x.h.cap):=((HIZ.o.below HW.o).below HVB.o).cell rfl;have a0:=HVX.o.cell (j:=0) rfl
  have hrl:R.l.length≤9223372036854775807:=by omega
  have HVE:=ai hV;clear ha hR hV hqr;go_upto_region 10 with fail
  try rw [HVE.o]
  clear HVE c0 c1 hix;go_wp2;clear t0 hixt i0 a0;go_loopw [41] (fun i wr=>∃j:Nat,j≤R.l.length∧i = .int .i64 j∧Hid (Below V.heap.size V wr)) (fun i _=>R.l.length - (intOf i).toNat)
  case atStart=>exact⟨0,Nat.zero_le _,rfl,ai (Below.refl _ _)⟩
  case round=>
  obtain⟨j,hj,rfl,HW2⟩:=hrel;by_cases hlj:j<R.l.length
  ·have HBW2:=ai (bT HVW.o HW2.o)
   have hrr:=(HRI.o.mono HBW2.o).1;have hixr:=hrr.ix hlj Tryz.underlying49 szrv;have v0:=vl_at hrr hlj;have hbr:=hrr.blk hlj;obtain⟨r,hr⟩ : ∃r,R.l[j] =r:=⟨_,rfl⟩;have HRM:=ai (show r∈R.l from hr▸List.getElem_mem hlj)
   rw [hr]at v0;have HC:=ai (nulls_any r wr ((HRI.o.2 r HRM.o).mono HBW2.o) (HN0.o r HRM.o));clear hr hrr;go_wp2_with (go_at_call 55;refine HC.o.mono ?_;rintro e y ⟨rfl,hb⟩;have HY2:=ai (bT HW2.o hb);clear hb)
   go_roundw
   case rel=>exact⟨j+1,by omega,by go_num,HY2⟩
   case measure=>simp [intOf];omega
  ·go_wp2
   go_roundw
   case rel=>exact⟨k+1,by omega,by go_num,ai (bT (bT HW.o HVB.o) HW2.o)⟩
   case measure=>simp [intOf];omega
 ·have HBW:=ai (bT HZ.o HW.o)
  have HQW:=ai (HQZ.o.below HW.o);have HIW:=ai (HIZ.o.below HW.o);go_upto_region 17 with fail
  refine ev_reg (g4:=w.heap.size+1) (g5:=w.heap.size+1+1) (q:=q) (ia:=x) (W:=wr) hqv HQW HIW ?hc ?hend
  case hc=>rfl
  case hend=>
  intro b5 c8 gb gv gs xx hb hbox hr1 hr2 hne h11;have hg:=set7 xx gs (.int .i64 (q.vars:Nat)) (.slice q.lh.ao q.lits.length q.lh.cap) (.slice q.head.h.ao q.head.l.length q.head.h.cap) (.slice x.h.ao x.l.length x.h.cap) (.slice (some ⟨gb,0,none⟩) q.vars q.vars) (.slice (some ⟨gv,0,none⟩) q.vars q.vars) (.slice none 0 0);have hbx:=boxset7 hbox (.int .i64 (q.vars:Nat)) (.slice q.lh.ao q.lits.length q.lh.cap) (.slice q.head.h.ao q.head.l.length q.head.h.cap) (.slice x.h.ao x.l.length x.h.cap) (.slice (some ⟨gb,0,none⟩) q.vars q.vars) (.slice (some ⟨gv,0,none⟩) q.vars q.vars) (.slice none 0 0);generalize ((((((xx.setCell ⟨gs,0,none⟩ (.int .i64 (q.vars:Nat))).setCell ⟨gs,1,none⟩ (.slice q.lh.ao q.lits.length q.lh.cap)).setCell ⟨gs,2,none⟩ (.slice q.head.h.ao q.head.l.length q.head.h.cap)).setCell ⟨gs,3,none⟩ (.slice x.h.ao x.l.length x.h.cap)).setCell ⟨gs,4,none⟩ (.slice (some ⟨gb,0,none⟩) q.vars q.vars)).setCell ⟨gs,5,none⟩ (.slice (some ⟨gv,0,none⟩) q.vars q.vars)).setCell ⟨gs,6,none⟩ (.slice none 0 0) =Y at *;have HM:=ai (ew_start HBW.o hb hr1 hr2 hne h11 hg hbx);have HFR:=ai (from_any w gs gb gv q x HEO.o q.lits.length 0 (fun _=>none) (.slice none 0 0) [] Y (by omega) HM.o HCV.o HLN.o)
  clear hb hbox hr1 hr2 hne h11 hg hbx;go_upto_region 20 with(go_at_call 57;refine HFR.o.mono ?_;rintro e Y1 ⟨rows,lv,rfl,h1,h2,h3,h4⟩;have HM1:=ai h1;have HR1:=ai h2;clear h1 h2 h3 h4)
  have HRR:=ai (show rows.map VL.l=q.cj.rows x.D nulV from HR1.o)
  have hrn:rows.length≤1000:=by
   have h:=congrArg List.length HRR.o;rw [List.length_map]at h;have h2:0+ (q.cj.rows x.D nulV).length≤1000:=HLN.o;omega
  obtain⟨p,cap,hlv,hsort⟩:=sort_all rows w.heap.size lv Y1 HM1.o.own HM1.o.rin (fun r hr hp=>(HM1.o.rne r hr hp).2.2.2) hrn
  have HSO:=ai hsort;have m6:=HM1.o.box.cell (j:=6) rfl
  have HNE:=ai HM1.o.ne.2.2.2.1;have HOW:=ai HM1.o.own.lt;subst hlv;clear hsort;go_upto_region 21 with(go_at_call 58;refine HSO.o.mono ?_;rintro e Y2 ⟨rows',rfl,h1,h2,h3,h4,h5⟩;have HL2:=ai h1;have HP2:=ai h2;have HS2:=ai h3;have HI2:=ai h4;have HB2:=ai (HM1.o.box.grown h5 (fun e=>HNE.o e.symm));have HG2:=ai h5;clear h1 h2 h3 h4 h5 m6)
  have m6:=HB2.o.cell (j:=6) rfl
  have HFB:=ai (HM1.o.bel.grown HG2.o HM1.o.bel.size (fun j e=>(HOW.o j e).1))
  have HRF:=ai (show(rows'.map VL.l).Perm (q.cj.rows x.D nulV)from by rw [←HRR.o];exact HP2.o)
  have hl2:=HL2.o;have HI3:=HI2;go_wp2
  go_ret2
  exact⟨⟨⟨p,cap⟩,rows'⟩,by show _=Ending.returned (.tuple #[.slice p rows'.length cap,.int .i64 0]);rw [hl2];rfl,HI3.o,HRF.o,HS2.o.imp (fun h=>by omega),HFB.o⟩
end Go.Proofs.YtiijaaohphokcaaGreatDoor

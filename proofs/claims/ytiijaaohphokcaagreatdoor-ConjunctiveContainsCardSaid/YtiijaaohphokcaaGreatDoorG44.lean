/- law27.facts: an instance of a plain schema. -/
import Derived.Test.YtiijaaohphokcaaGreatDoorG36
import Derived.Test.YtiijaaohphokcaaGreatDoorG26
import Derived.Test.YtiijaaohphokcaaGreatDoorG37
import Derived.Test.YtiijaaohphokcaaGreatDoorCjL1K
import Derived.Laws.CopyOwn
set_option maxRecDepth 100000
set_option maxHeartbeats 16000000
namespace Go.Proofs.YtiijaaohphokcaaGreatDoor
open Go.RowKit
def RL.Off (R:RL) (g:Nat) :Prop:=(0<R.l.length→R.h.b≠g)∧∀r∈R.l,0<r.l.length→r.h.b≠g
def RL.Hi (R:RL) (B:Nat) :Prop:=(0<R.l.length→B≤R.h.b)∧∀r∈R.l,0<r.l.length→B≤r.h.b
theorem RL.Hi.off {R:RL} {B g:Nat} (h:R.Hi B) (hg:g<B) :R.Off g:=⟨fun hp e=>by have:=h.1 hp;omega,fun r hr hp e=>by have:=h.2 r hr hp;omega⟩
theorem RL.In.any {w w':World} {R:RL} {row:Option Nat} (h:R.In w) (hg:w.grownBy w' row) (ho: ∀j,row=some j→R.Off j) :R.In w':=
 ⟨row_any h.1 hg (fun hp e=>(ho _ e.symm).1 hp rfl),fun r hr=>⟨row_any (h.2 r hr).1 hg (fun hp e=>(ho _ e.symm).2 r hr hp rfl),(h.2 r hr).2⟩⟩
theorem RL.In.lt {w:World} {R:RL} (h:R.In w) : (0<R.l.length→R.h.b<w.heap.size)∧∀r∈R.l,0<r.l.length→r.h.b<w.heap.size:=⟨fun hp=>h.1.blk hp,fun r hr hp=>(h.2 r hr).1.blk hp⟩
theorem info_rl: (Tryz.prog.info? 49).map (fun i=>(i.zero,i.size,i.bytes)) =some (some (.slice none 0 0),1,24):=by kernel_rfl
theorem rows_snoc {α:Type} {cells:α→List Value} (l:List α) (u:α) : (l ++ [u]).flatMap cells=l.flatMap cells ++ cells u:=by rw [List.flatMap_append,List.flatMap_cons,List.flatMap_nil,List.append_nil]
theorem tape_far {w w':World} {b a:Nat} {L:IL} {row:Option Nat} (h:TapeIn w b L a) (hg:w.grownBy w' row) (hr: ∀j,row=some j→j≠b∧(0<L.l.length→L.h.b≠j)) :TapeIn w' b L a:=
 ⟨by rw [World.cell?_of_block (hg.block b h.lt (fun e=>(hr b e.symm).1 rfl))];exact h.lst,by rw [World.cell?_of_block (hg.block b h.lt (fun e=>(hr b e.symm).1 rfl))];exact h.pos,by rw [World.frozen?_of_block (hg.block b h.lt (fun e=>(hr b e.symm).1 rfl))];exact h.fr,⟨row_any h.row.1 hg (fun hp e=>(hr _ e.symm).2 hp rfl),h.row.2⟩,h.ne⟩
def FactPost (w:World) (b:Nat) (L:IL) (T:List (List Int)) (n:Nat) (e:Ending) (w':World) :Prop:=
 ∃(x:Ins) (a':Nat),e = .returned (.agg #[.slice x.h.ao x.l.length x.h.cap])∧x.In w'∧FitI T x n∧TapeIn w' b L a'∧w.grownBy w' (some b)
theorem rowOk_snoc {ty:List Int} {vs:List V} {u:V} {c:Int} (h: ∀(i:Nat) (v:V) (c:Int),vs[i]? = some v→ty[i]? = some c→ValOk v c) (hc:ty[vs.length]? = some c) (hu:ValOk u c) : ∀(i:Nat) (v:V) (c:Int),(vs ++ [u])[i]? = some v→ty[i]? = some c→ValOk v c:=fun i v c2 hv hc2=>by
 by_cases hi:i<vs.length
 ·rw [List.getElem?_append_left hi]at hv
  exact h i v c2 hv hc2
 ·have h1:=(List.getElem?_eq_some_iff.1 hv).1
  rw [List.length_append]at h1;simp only [List.length_cons,List.length_nil]at h1;have hi2:i=vs.length:=by omega
  subst hi2;rw [List.getElem?_append_right (Nat.le_refl _),Nat.sub_self]at hv;injection hv with hv;rw [hc]at hc2;injection hc2 with hc2;rw [←hv,←hc2];exact hu
theorem facts_any (s:Sch) (w:World) (b:Nat) (L:IL) (a n:Nat) (ht:TapeIn w b L a) (ha:a≤4611686018427360000) (hsi: ∀z,w.grownBy z (some b)→s.In z) (hp:PSch s) (hn:n≤200) :
  Calls Tryz.prog 17 #[.pointer (some ⟨b,0,none⟩),.agg #[.slice s.th.ao s.tabs.length s.th.cap],.int .i64 (n:Nat)] w (FactPost w b L (colT s) n):=by
 have HT:=ai ht;have HSI:=ai hsi;have HP:=ai hp;have hbw:=ht.lt;have HLW:=ai ht.low;have hn6:s.tabs.length≤6:=hp.n6;obtain⟨X,hX⟩ : ∃X,((w.alloc (.cells #[.slice s.th.ao s.tabs.length s.th.cap] 27)).alloc (.cells #[.slice none 0 0] 46)).alloc (.cells #[.slice none 0 0] 46) =X:=⟨_,rfl⟩;have HBX:=ai (show Below w.heap.size w X from by rw [←hX];exact bT (belAA _ _) (belA _))
 have HBS:=ai (show Box X w.heap.size #[.slice s.th.ao s.tabs.length s.th.cap] 27 from by rw [←hX];exact((Box.new _ _ _).below (belA _)).below (belA _))
 have HB6:=ai (show Box X (w.heap.size+1) #[.slice none 0 0] 46 from by
  rw [←hX];have h:=(Box.new (w.alloc (.cells #[.slice s.th.ao s.tabs.length s.th.cap] 27)) #[.slice none 0 0] 46).below (belA (.cells #[.slice none 0 0] 46))
  rwa [World.size_alloc]at h)
 have HB7:=ai (show Box X (w.heap.size+1+1) #[.slice none 0 0] 46 from by
  rw [←hX];have h:=Box.new ((w.alloc (.cells #[.slice s.th.ao s.tabs.length s.th.cap] 27)).alloc (.cells #[.slice none 0 0] 46)) #[.slice none 0 0] 46
  rwa [World.size_alloc,World.size_alloc]at h)
 have HTX:=ai (ht.mono HBX.o);have HXE:=ai hX;have s0:X.cell? ⟨w.heap.size,0,none⟩ =some (.slice s.th.ao s.tabs.length s.th.cap):=HBS.o.cell rfl;obtain⟨i3,hi3,hz30,hz31,hz32⟩:=info_parts info_v3;have HI3:=ai (And.intro hi3 (And.intro hz30 (And.intro hz31 hz32)));obtain⟨ir,hir,hzr0,hzr1,hzr2⟩:=info_parts info_rv;have HIR:=ai (And.intro hir (And.intro hzr0 (And.intro hzr1 hzr2)));obtain⟨it,hit,hzt0,hzt1,hzt2⟩:=info_parts info_rl;have HIT:=ai (And.intro hit (And.intro hzt0 (And.intro hzt1 hzt2)));clear ht hsi hp hX hi3 hz30 hz31 hz32 hir hzr0 hzr1 hzr2 hit hzt0 hzt1 hzt2
 go_enter Tryz.func17,Tryz.ntmps17;go_upto_region 2 with fail
 rw [HXE.o];go_wp2;clear s0;go_loopw [18] (fun i wr=>∃(k ak:Nat) (tv:Value) (tabs:List RL),k≤s.tabs.length∧tabs.length=k∧i = .int .i64 k∧Hid (w.grownBy wr (some b))∧Hid (TapeIn wr b L ak)∧Hid (ak≤a+k*2000)∧Hid (Box wr w.heap.size #[.slice s.th.ao s.tabs.length s.th.cap] 27)∧Hid (Box wr (w.heap.size+1) #[.slice none 0 0] 46)∧Hid (Box wr (w.heap.size+1+1) #[tv] 46)∧
  Hid (wr.ownsRow (w.heap.size+3) 49 1 tv tabs.length (tabs.flatMap RL.cells))∧Hid (∀R∈tabs,R.In wr∧R.Hi (w.heap.size+3)∧∀j,tv.ownBlock=some j→R.Off j)∧Hid (∀(m:Nat) (R:RL) (ty:List Int),tabs[m]? = some R→(colT s)[m]? = some ty→R.l.length≤n∧∀v∈R.l,RowOk ty v.l)) (fun i _=>s.tabs.length - (intOf i).toNat)
 case atStart=>exact⟨0,a,.slice none 0 0,[],Nat.zero_le _,rfl,rfl,ai (only_below HBX.o _),HTX,ai (by omega),HBS,HB6,HB7,ai (World.ownsRow_nil _ _ _ _),ai (fun _ h=>by cases h),ai (fun _ _ _ h=>by cases h)⟩
 case round=>
 obtain⟨k,ak,tv,tabs,hk,htl,rfl,HG,HTP,HAK,HBS,HB6,HB7,HOT,HTB,HFI⟩:=hrel;have HTL:=ai htl;clear htl;by_cases hlt:k<s.tabs.length
 ·have HSW:=ai (HSI.o _ HG.o)
  have hsr:=HSW.o.rt;have hix:=hsr.ix hlt Tryz.underlying25 sz22;have htab:=tab_at hsr hlt;have hbk:=hsr.blk hlt;obtain⟨nm,ch,cols,ph,e,_,hpc⟩:=HP.o.pl _ (List.getElem_mem hlt);have HCR:=ai (fun z (hz:w.grownBy z (some b))=>(show(pt nm ch cols ph).In z from e▸(HSI.o z hz).ts _ (List.getElem_mem hlt)))
  have HTY:=ai (show(colT s)[k]? = some (cols.map Col.typ)from by rw [colT_at hlt,e])
  rw [e]at htab;obtain⟨t0,t1,t2,t3,t4,t5⟩:=htab
  change wr.cell? ⟨s.th.b,s.th.o+k*6+2,none⟩ =some (.slice ph.ao 1 ph.cap)at t2
  change wr.cell? ⟨s.th.b,s.th.o+k*6+3,none⟩ =some (.slice none 0 0)at t3
  change wr.cell? ⟨s.th.b,s.th.o+k*6+4,none⟩ =some (.slice none 0 0)at t4
  change wr.cell? ⟨s.th.b,s.th.o+k*6+5,none⟩ =some (.slice none 0 0)at t5
  have HPC:=ai hpc;have hc8:cols.length≤8:=hpc.l8;obtain⟨Z,hZ⟩ : ∃Z,wr.alloc (.cells #[.string nm,.slice ch.ao cols.length ch.cap,.slice ph.ao 1 ph.cap,.slice none 0 0,.slice none 0 0,.slice none 0 0] 78) =Z:=⟨_,rfl⟩;have HZB:=ai (box1X hZ).2;have HZT:=ai (box1X hZ).1;have HTZ:=ai (HTP.o.mono HZB.o);have HGZ:=ai (HG.o.trans (only_below HZB.o (some b)));have hbz:b<wr.heap.size:=HTP.o.lt;have hwr:w.heap.size≤wr.heap.size:=HG.o.size;have hwz:wr.heap.size<Z.heap.size:=HZT.o.lt;have HWZ:=ai (And.intro hwr hwz);have HZE:=ai hZ;clear e hpc hZ hsr;go_upto_region 5 with fail
  rw [HZE.o];clear HZE hix t0 t1 t2 t3 t4 t5;have hn1:IntKind.i64.wrap ((n:Int) +1) = ((n+1:Nat) :Int):=by rw [IntKind.wrap_i64];omega
  have hfm:=fmod_ok (x:=rawAt L ak) (n:=((n+1:Nat) :Int)) (by omega)
  obtain⟨k0,hk0,hkn⟩ : ∃k0:Nat,k0≤n∧nAt L ak ((n+1:Nat) :Int) =k0:=⟨(nAt L ak ((n+1:Nat) :Int)).toNat,by unfold nAt;omega,by unfold nAt;omega⟩
  have HKN:=ai hkn;have HNC:=ai (n_any Z b ak L ((n+1:Nat) :Int) HTZ.o (by have:=HAK.o;omega) (by constructor<;>omega))
  rw [HKN.o]at HNC;clear hfm hkn;go_wp2_with (go_at_call 10;refine HNC.o.mono ?_;rintro e y ⟨rfl,h1,h2⟩;have HTY1:=ai h1;have HGY:=ai h2;clear h1 h2 HNC)
  have hpl:=pos_le L ak;have HAY:=ai (show posAt L ak≤ak+1+0*8 from by omega)
  clear hpl hn1;go_loopw [10,11] (fun rv i wr=>∃(c am:Nat) (rows:List VL) (u:Value),u=rv∧i = .int .i64 c∧c+rows.length=k0∧Hid (Z.grownBy wr (some b))∧Hid (TapeIn wr b L am)∧Hid (am≤ak+1+rows.length*8)∧Hid (wr.ownsRow Z.heap.size 96 1 rv rows.length (rows.flatMap VL.cells))∧Hid (∀r∈rows,r.In wr∧RowOk (cols.map Col.typ) r.l∧(0<r.l.length→Z.heap.size≤r.h.b∧rv.ownBlock≠some r.h.b))) (fun _ i _=>(intOf i).toNat)
  case atStart=>exact⟨k0,_,[],_,rfl,rfl,by simp,HGY,HTY1,HAY,ai (World.ownsRow_nil _ _ _ _),ai (fun _ h=>by cases h)⟩
  clear HGY HTY1 HAY
  case round=>
  obtain⟨c,am,rows,u,rfl,rfl,hck,HGM,HTM,HAM,HOM,HRM⟩:=hrel;obtain⟨M,rfl⟩ : ∃M,M=wr:=⟨_,rfl⟩;have hzm:Z.heap.size≤M.heap.size:=HGM.o.size;have HBZ:=ai (show b<Z.heap.size from by omega)
  have HOB:=ai (show∀j,u.ownBlock=some j→Z.heap.size≤j∧j<M.heap.size from fun j e=>HOM.o.lt j e)
  by_cases hc:0<c
  ·have hci: (0:Int) <c:=by omega
   have y1:=(HZT.o.grown HGM.o (by intro e;injection e with e;omega)).cell (j:=1) rfl
   have HGW:=ai (HGZ.o.trans HGM.o);go_wp2;clear y1;go_loopw [12,33] (fun cv i wr=>∃(j aj:Nat) (vs:List V) (u2:Value),u2=cv∧j≤cols.length∧vs.length=j∧i = .int .i64 j∧Hid (M.grownBy wr (some b))∧Hid (TapeIn wr b L aj)∧Hid (aj≤am+j)∧Hid (wr.ownsRow M.heap.size 81 3 cv vs.length (vs.flatMap V.cells))∧Hid (∀v∈vs,v.wf)∧Hid (∀(i:Nat) (v:V) (c:Int),vs[i]? = some v→(cols.map Col.typ)[i]? = some c→ValOk v c)) (fun _ i _=>cols.length - (intOf i).toNat)
   case atStart=>exact⟨0,am,[],_,rfl,Nat.zero_le _,rfl,rfl,ai (World.grownBy.refl _ _),HTM,ai (by omega),ai (World.ownsRow_nil _ _ _ _),ai (fun _ h=>by cases h),ai (fun i v c h=>by simp at h)⟩
   case round=>
   obtain⟨j,aj,vs,u2,rfl,hj,hvl,rfl,HGJ,HTJ,HAJ,HOJ,HVW,HVK⟩:=hrel;have hmw:M.heap.size≤wr.heap.size:=HGJ.o.size;by_cases hlj:j<cols.length
   ·have HTI:=ai (HCR.o _ (HGW.o.trans HGJ.o))
    have hcr:=HTI.o.rc;have hixc:=hcr.ix hlj Tryz.underlying73 sz30;obtain⟨c0,c1,c2⟩:=col_at hcr hlj;have hbc:=hcr.blk hlj;obtain⟨co,hco⟩ : ∃co,cols[j] =co:=⟨_,rfl⟩;have hty:=HPC.o.ty _ (List.getElem_mem hlj);have HTC:=ai (show(cols.map Col.typ)[vs.length]? = some co.typ from by rw [hvl,List.getElem?_map,List.getElem?_eq_getElem hlj,hco];rfl)
    rw [hco]at c0 c1 c2 hty;obtain⟨V1,hV⟩ : ∃V1,wr.alloc (.cells #[.string co.name,.int .i64 co.typ,.bool co.nul] 72) =V1:=⟨_,rfl⟩;have HVB:=ai (box1X hV).2;have HVX:=ai (box1X hV).1;have v1:=HVX.o.cell (j:=1) rfl
    have HVC:=ai (value_any co.typ hty V1 b aj L (HTJ.o.mono HVB.o) (by have h1:=HAJ.o;have h2:=HAM.o;have h3:=HAK.o;omega))
    have HOV:=ai (HOJ.o.kept (only_below HVB.o none) (Classical.em _));have HGV:=ai (HGJ.o.trans (only_below HVB.o (some b)));have HVE:=ai hV;clear hco hV hcr hty;go_upto_region 13 with fail
    rw [HVE.o];clear HVE c0 c1 c2 hixc;go_wp2_with (first
     | (have hq:=HVC;clear hq;go_at_call 52;refine HVC.o.mono ?_;rintro e Y1 ⟨kv,rfl,h1,⟨a3,h2,h3⟩,h4⟩;have HKV:=ai h1;have HTV:=ai h3;have HAV:=ai h2;have HGY1:=ai (HGV.o.trans h4);have HOY:=ai (HOV.o.kept h4 (.inr (fun e=>by have:=(HOV.o.lt _ e).1;have:=HBZ.o;omega)));clear h1 h2 h3 h4 HVC v1)
     | (at_builtin;refine wpList_append_own _ rfl _ _ 96 rfl M.heap.size 81 i3 (.agg #[.int .i64 0,.int .i64 0,.string ByteArray.empty]) 3 32 Tryz.underlying96 HI3.o.1 HI3.o.2.1 HI3.o.2.2.1 HI3.o.2.2.2 rfl (by decide) _ _ _ rfl (HOY.o.alloc _) ⟨Y1.heap.size,0,none⟩ 1 1 (V.cells kv) rfl rfl (new_cells (l:=V.cells kv)) (va_one kv) (by unfold maxLen;omega) (by omega) (by have:=HGY1.o.size;simp;omega) ?_;intro nv2 Y4 hown4 hgr4 _))
    have HO4:=ai (show Y4.ownsRow M.heap.size 81 3 nv2 (vs ++ [kv]).length ((vs ++ [kv]).flatMap V.cells)from by rw [vals_snoc,List.length_append];exact hown4)
    have hol:=HOY.o.lt;have hlw:=HLW.o;have HG4:=ai ((HGY1.o.trans (only_below (belA _) (some b))).andThen hgr4 (fun j e=>.inl (hol j e).1))
    have HT4:=ai (tape_far (HTV.o.mono (belA _)) hgr4 (fun j e=>by have:=(hol j e).1;exact⟨by have:=HBZ.o;omega,fun hp=>by have:=hlw.2 hp;omega⟩))
    have hnv:=HKV.o;have HW4:=ai (show∀v∈vs ++ [kv],v.wf from fun v hv=>by rcases List.mem_append.1 hv with h|h;exact HVW.o v h;rw [List.mem_singleton.1 h];exact hnv.2.2)
    have HK4:=ai (rowOk_snoc HVK.o HTC.o ⟨hnv.2.2,hnv.2.1.1,hnv.1⟩);clear hown4 hgr4 hol hlw hnv;go_roundw
    case rel=>exact⟨j+1,a3,vs ++ [kv],nv2,rfl,by omega,by rw [List.length_append];simp only [List.length_cons,List.length_nil];omega,by go_num,HG4,HT4,ai (by have:=HAJ.o;have:=HAV.o;omega),HO4,HW4,HK4⟩
    case measure=>simp [intOf];omega
   ·have hje:j=cols.length:=by omega
    obtain⟨hd,hu2,hvin,hvb⟩:=own_vals HOJ.o HVW.o;subst hu2;have HVI:=ai hvin;have HVB:=ai hvb;have HROK:=ai (show RowOk (cols.map Col.typ) vs from⟨by rw [List.length_map];omega,HVK.o⟩)
    have HOW:=ai (HOM.o.kept HGJ.o (.inr (fun e=>by have:=(HOB.o _ e).1;have:=HBZ.o;omega)))
    have HRW:=ai (show∀r∈rows,r.In wr from fun r hr=>⟨row_any (HRM.o r hr).1.1 HGJ.o (fun hp e=>by injection e with e;have:=((HRM.o r hr).2.2 hp).1;have:=HBZ.o;omega),(HRM.o r hr).1.2⟩)
    clear hvin hvb HOJ hvl hje;have hrn:rows.length≤1000:=by omega
    go_wp2_with (at_builtin;refine wpList_append_own_at _ rfl _ _ 49 rfl Z.heap.size 96 ir (.slice none 0 0) 1 24 Tryz.underlying49 HIR.o.1 HIR.o.2.1 HIR.o.2.2.1 HIR.o.2.2.2 rfl (by decide) _ rows.length (rows.flatMap VL.cells) rfl (HOW.o.alloc _) ⟨wr.heap.size,0,none⟩ 1 1 [.slice hd.ao vs.length hd.cap] rfl rfl (new_cells (l:= [.slice hd.ao vs.length hd.cap])) (by intro a ha;rw [List.mem_singleton.1 ha];rfl) (by unfold maxLen;omega) (by omega) (by simp;omega) ?_;intro rv4 Y4 hown4 hgr4 _ hblk4)
    have hgr4: (wr.alloc (.cells #[.slice hd.ao vs.length hd.cap] 96)).grownBy Y4 u.ownBlock:=hgr4;have hblk4:rv4.ownBlock=u.ownBlock∨rv4.ownBlock=some (wr.alloc (.cells #[.slice hd.ao vs.length hd.cap] 96)).heap.size:=hblk4;have HO4:=ai (show Y4.ownsRow Z.heap.size 96 1 rv4 (rows ++ [(⟨hd,vs⟩ :VL)]).length ((rows ++ [(⟨hd,vs⟩ :VL)]).flatMap VL.cells)from by rw [rows_snoc,List.length_append];exact hown4)
    have hol:=HOW.o.lt;have hlw:=HLW.o;have HG4:=ai (((HGM.o.trans HGJ.o).trans (only_below (belA (.cells #[.slice hd.ao vs.length hd.cap] 96)) (some b))).andThen hgr4 (fun j e=>.inl (hol j e).1))
    have HT4:=ai (tape_far (HTJ.o.mono (belA (.cells #[.slice hd.ao vs.length hd.cap] 96))) hgr4 (fun j e=>by have:=(hol j e).1;exact⟨by have:=HBZ.o;omega,fun hp=>by have:=hlw.2 hp;omega⟩))
    have HR4:=ai (show∀r∈rows ++ [(⟨hd,vs⟩ :VL)],r.In Y4∧RowOk (cols.map Col.typ) r.l∧(0<r.l.length→Z.heap.size≤r.h.b∧rv4.ownBlock≠some r.h.b)from fun r hr=>by
     have hnew: ∀r:VL,r.In wr→(0<r.l.length→u.ownBlock≠some r.h.b)→r.In Y4∧(0<r.l.length→rv4.ownBlock≠some r.h.b):=fun r h1 h2=>by
      have h3:=h1.mono (belA (.cells #[.slice hd.ao vs.length hd.cap] 96));refine⟨⟨row_any h3.1 hgr4 (fun hp e=>h2 hp e.symm),h3.2⟩,fun hp e=> ?_⟩
      rcases hblk4 with hb4|hb4
      ·exact h2 hp (by rw [←hb4];exact e)
      ·rw [hb4]at e
       injection e with e;have h5:=h1.1.blk hp;rw [World.size_alloc]at e;omega
     rcases List.mem_append.1 hr with hr|hr
     ·obtain⟨k1,k2,k3⟩:=HRM.o r hr
      obtain⟨k4,k5⟩:=hnew r (HRW.o r hr) (fun hp=>(k3 hp).2)
      exact⟨k4,k2,fun hp=>⟨(k3 hp).1,k5 hp⟩⟩
     ·rw [List.mem_singleton.1 hr]
      obtain⟨k4,k5⟩:=hnew ⟨hd,vs⟩ HVI.o (fun hp e=>by
       have h1:=HVB.o hp;have h2:hd.b<M.heap.size:=(HOB.o _ e).2;omega)
      exact⟨k4,HROK.o,fun hp=>⟨Nat.le_trans hzm (HVB.o hp),k5 hp⟩⟩)
    clear hown4 hgr4 hblk4 hol hlw;go_roundw
    case rel=>exact⟨c - 1,aj,rows ++ [(⟨hd,vs⟩ :VL)],rv4,rfl,by go_num,by rw [List.length_append];simp only [List.length_cons,List.length_nil];omega,HG4,HT4,ai (by have:=HAJ.o;have:=HAM.o;rw [List.length_append];simp only [List.length_cons,List.length_nil];omega),HO4,HR4⟩
    case measure=>simp [intOf];omega
  ·have hc0:c=0:=by omega
   have HCK:=ai (show rows.length≤n from by omega)
   clear hck;subst hc0;obtain⟨hd,hu,hrow,hown⟩:=own_rowE (cells:=VL.cells) (fun _=>rfl) (by decide) HOM.o
   subst hu;have HRO:=ai (And.intro hrow hown);clear hrow hown;have HOT2:=ai ((HOT.o.kept (only_below HZB.o none) (Classical.em _)).kept HGM.o (.inr (fun e=>by have:=(HOT.o.lt _ e).1;have:=HWZ.o;omega)))
   have HBS2:=ai ((HBS.o.below HZB.o).grown HGM.o (by intro e;injection e with e;omega))
   have HB62:=ai ((HB6.o.below HZB.o).grown HGM.o (by intro e;injection e with e;omega))
   have HB72:=ai ((HB7.o.below HZB.o).grown HGM.o (by intro e;injection e with e;omega))
   have HOTL:=ai (show∀j,tv.ownBlock=some j→w.heap.size+3≤j∧j<Z.heap.size from fun j e=>by have:=HOT.o.lt j e;have:=HWZ.o;omega)
   have htn:tabs.length≤6:=by have:=HTL.o;omega
   have m0:=HB72.o.cell (j:=0) rfl
   have hsz3:w.heap.size+3≤Z.heap.size:=by have:=HB7.o.lt;omega
   go_wp2_with (at_builtin;refine wpList_append_own_at _ rfl _ _ 44 rfl (w.heap.size+3) 49 it (.slice none 0 0) 1 24 Tryz.underlying44 HIT.o.1 HIT.o.2.1 HIT.o.2.2.1 HIT.o.2.2.2 rfl (by decide) _ tabs.length (tabs.flatMap RL.cells) rfl (HOT2.o.alloc _) ⟨M.heap.size,0,none⟩ 1 1 [.slice hd.ao rows.length hd.cap] rfl rfl (new_cells (l:= [.slice hd.ao rows.length hd.cap])) (by intro a ha;rw [List.mem_singleton.1 ha];rfl) (by unfold maxLen;omega) (by omega) (by simp;omega) ?_;intro tv4 Y4 hown4 hgr4 _ hblk4;obtain⟨g4,cap4,rfl,_,_⟩:=World.ownsRow.form hown4 (by omega);have HO3:=ai hown4;have HG3:=ai (show(M.alloc (.cells #[.slice hd.ao rows.length hd.cap] 49)).grownBy Y4 tv.ownBlock from hgr4);have HBL3:=ai (show(Value.slice (some ⟨g4,0,none⟩) (tabs.length+1) cap4).ownBlock=tv.ownBlock∨(Value.slice (some ⟨g4,0,none⟩) (tabs.length+1) cap4).ownBlock=some (M.alloc (.cells #[.slice hd.ao rows.length hd.cap] 49)).heap.size from hblk4);have hbx3:=(HB72.o.below (belA (.cells #[.slice hd.ao rows.length hd.cap] 49))).grown hgr4 (fun e=>by have:=(HOTL.o _ e.symm).1;omega);have HBX3:=ai hbx3;have m0b:=hbx3.cell (j:=0) rfl;have f0b:=hbx3.fr 0;clear hown4 hgr4 hblk4 hbx3)
   obtain⟨hrow,hown⟩:=HRO.o;have hsm:=HGM.o.size;have hhi:RL.Hi ⟨hd,rows⟩ Z.heap.size:=⟨fun hp=>(hown hp).1,fun r hr hp=>((HRM.o r hr).2.2 hp).1⟩
   have hrin:RL.In M ⟨hd,rows⟩:=⟨hrow,fun r hr=>(HRM.o r hr).1⟩
   have hgs:=gb_set Y4 (w.heap.size+1+1) 0 (.slice (some ⟨g4,0,none⟩) (tabs.length+1) cap4);have hg3:=HG3.o;have hbl3:=HBL3.o;have hotl:=HOTL.o;have HBX4:=ai (HBX3.o.set 0 (.slice (some ⟨g4,0,none⟩) (tabs.length+1) cap4));have HGF:=ai (show w.grownBy (Y4.setCell ⟨w.heap.size+1+1,0,none⟩ (.slice (some ⟨g4,0,none⟩) (tabs.length+1) cap4)) (some b)from
    ((HGZ.o.trans (HGM.o.trans (only_below (belA (.cells #[.slice hd.ao rows.length hd.cap] 49)) (some b)))).andThen hg3 (fun j e=>.inl (by have:=(hotl j e).1;omega))).andThen hgs (fun j e=>.inl (by injection e with e;omega)))
   have hlw:=HLW.o;have HTF:=ai (tape_far (tape_far (HTM.o.mono (belA (.cells #[.slice hd.ao rows.length hd.cap] 49))) hg3 (fun j e=>by have:=(hotl j e).1;exact⟨by omega,fun hp=>by have:=hlw.2 hp;omega⟩)) hgs (fun j e=>by injection e with e;exact⟨by omega,fun hp=>by have:=hlw.2 hp;omega⟩))
   have HBSF:=ai (((HBS2.o.below (belA (.cells #[.slice hd.ao rows.length hd.cap] 49))).grown hg3 (fun e=>by have:=(hotl _ e.symm).1;omega)).grown hgs (by intro e;injection e with e;omega))
   have HB6F:=ai (((HB62.o.below (belA (.cells #[.slice hd.ao rows.length hd.cap] 49))).grown hg3 (fun e=>by have:=(hotl _ e.symm).1;omega)).grown hgs (by intro e;injection e with e;omega))
   have HOF:=ai (show(Y4.setCell ⟨w.heap.size+1+1,0,none⟩ (.slice (some ⟨g4,0,none⟩) (tabs.length+1) cap4)).ownsRow (w.heap.size+3) 49 1 (.slice (some ⟨g4,0,none⟩) (tabs.length+1) cap4) (tabs ++ [(⟨hd,rows⟩ :RL)]).length ((tabs ++ [(⟨hd,rows⟩ :RL)]).flatMap RL.cells)from by
    rw [rows_snoc,List.length_append];exact HO3.o.kept hgs (.inr (fun e=>by have:=(HO3.o.lt _ e).1;omega)))
   have HTF2:=ai (show∀R∈tabs ++ [(⟨hd,rows⟩ :RL)],R.In (Y4.setCell ⟨w.heap.size+1+1,0,none⟩ (.slice (some ⟨g4,0,none⟩) (tabs.length+1) cap4))∧R.Hi (w.heap.size+3)∧∀j,(Value.slice (some ⟨g4,0,none⟩) (tabs.length+1) cap4).ownBlock=some j→R.Off j from fun R hR=>by
    have key: ∀R:RL,R.In M→R.Hi (w.heap.size+3)→(∀j,tv.ownBlock=some j→R.Off j)→R.In (Y4.setCell ⟨w.heap.size+1+1,0,none⟩ (.slice (some ⟨g4,0,none⟩) (tabs.length+1) cap4))∧R.Hi (w.heap.size+3)∧∀j,(Value.slice (some ⟨g4,0,none⟩) (tabs.length+1) cap4).ownBlock=some j→R.Off j:=fun R k1 k2 k3=>by
     refine⟨((k1.mono (belA (.cells #[.slice hd.ao rows.length hd.cap] 49))).any hg3 k3).any hgs (fun j e=>by injection e with e;rw [←e];exact k2.off (by omega)),k2,fun j e=> ?_⟩
     rcases hbl3 with h|h
     ·exact k3 j (by rw [←h];exact e)
     ·rw [h]at e
      injection e with e;rw [World.size_alloc]at e;obtain⟨l1,l2⟩:=k1.lt;exact⟨fun hp e2=>by have:=l1 hp;omega,fun r hr hp e2=>by have:=l2 r hr hp;omega⟩
    rcases List.mem_append.1 hR with hR|hR
    ·obtain⟨k1,k2,k3⟩:=HTB.o R hR
     exact key R ((k1.mono HZB.o).any HGM.o (fun j e=>by injection e with e;rw [←e];exact k2.off (by omega))) k2 k3
    ·rw [List.mem_singleton.1 hR]
     exact key _ hrin ⟨fun hp=>Nat.le_trans hsz3 (hhi.1 hp),fun r hr hp=>Nat.le_trans hsz3 (hhi.2 r hr hp)⟩ (fun j e=>hhi.off (hotl j e).2))
   have HFF:=ai (show∀(m:Nat) (R:RL) (ty:List Int),(tabs ++ [(⟨hd,rows⟩ :RL)])[m]? = some R→(colT s)[m]? = some ty→R.l.length≤n∧∀v∈R.l,RowOk ty v.l from fun m R ty h1 h2=>by
    by_cases hm:m<tabs.length
    ·rw [List.getElem?_append_left hm]at h1
     exact HFI.o m R ty h1 h2
    ·have hm1:=(List.getElem?_eq_some_iff.1 h1).1
     rw [List.length_append]at hm1;simp only [List.length_cons,List.length_nil]at hm1;have hme:m=tabs.length:=by omega
     subst hme;rw [List.getElem?_append_right (Nat.le_refl _),Nat.sub_self]at h1;injection h1 with h1;rw [HTL.o,HTY.o]at h2;injection h2 with h2;rw [←h1,←h2];exact⟨HCK.o,fun v hv=>(HRM.o v hv).2.1⟩)
   clear hrow hown hhi hrin hgs hg3 hbl3 hotl hlw m0 m0b f0b;generalize Y4.setCell ⟨w.heap.size+1+1,0,none⟩ (.slice (some ⟨g4,0,none⟩) (tabs.length+1) cap4) =Y5 at *;go_roundw
   case rel=>exact⟨k+1,am,_,tabs ++ [(⟨hd,rows⟩ :RL)],by omega,by rw [List.length_append];simp only [List.length_cons,List.length_nil];have:=HTL.o;omega,by go_num,HGF,HTF,ai (by have:=HAM.o;have:=HAK.o;have:=HCK.o;omega),HBSF,HB6F,HBX4,HOF,HTF2,HFF⟩
   case measure=>simp [intOf];omega
 ·have hke:k=s.tabs.length:=by omega
  have htl:=HTL.o;obtain⟨hd,htv,hrow,hown⟩:=own_rowE (cells:=RL.cells) (fun _=>rfl) (by decide) HOT.o
  subst htv;have m0:=HB7.o.cell (j:=0) rfl
  have o0:=HB6.o.cell (j:=0) rfl
  have of:=HB6.o.fr 0;have hgs:=gb_set wr (w.heap.size+1) 0 (.slice hd.ao tabs.length hd.cap);have HFIN:=ai (show FactPost w b L (colT s) n (.returned (.agg #[.slice hd.ao tabs.length hd.cap])) (wr.setCell ⟨w.heap.size+1,0,none⟩ (.slice hd.ao tabs.length hd.cap))from by
   have hlw:=HLW.o;refine⟨⟨hd,tabs⟩,ak,rfl,⟨row_any hrow hgs (fun hp e=>by injection e with e;have e:hd.b=w.heap.size+1:=e;have:=(hown hp).1;omega),fun R hR=>(HTB.o R hR).1.any hgs (fun j e=>by injection e with e;rw [←e];exact(HTB.o R hR).2.1.off (by omega))⟩,⟨by show tabs.length=_;rw [htl,hke];exact(List.length_map _).symm,fun R hR=> ?_,fun m R ty h1 h2 v hv=>((HFI.o m R ty h1 h2).2 v hv)⟩,tape_far HTP.o hgs (fun j e=>by injection e with e;exact⟨by omega,fun hp=>by have:=hlw.2 hp;omega⟩),HG.o.andThen hgs (fun j e=>.inl (by injection e with e;omega))⟩
   obtain⟨m,hm,rfl⟩:=List.getElem_of_mem hR;have hm:m<tabs.length:=hm;have hmt:m< (colT s).length:=by show m< (s.tabs.map _).length;rw [List.length_map];omega
   exact(HFI.o m _ _ (List.getElem?_eq_getElem hm) (List.getElem?_eq_getElem hmt)).1)
  clear hrow hown hgs hke htl;go_wp2;refine bodyPost_ret (v:=.agg #[.slice hd.ao tabs.length hd.cap]) ?_ ?_ ?_
  case refine_3=>exact HFIN.o
  case refine_2=>rfl
  simp [results,Tryz.results17,go_sem,m0,o0]
end Go.Proofs.YtiijaaohphokcaaGreatDoor
/- ref07.copied: a row of its own with the same values. -/
namespace Go
open Go.RowKit
theorem run_copy_full {P:Program} (w:World) (dT sT ty elem:TypeId) (g dCap n k:Nat) (sp:Option Addr) (sCap:Nat) (cur:Array Value) (t:TypeId) (cs:List Value)
  (hu:P.underlying dT=some (.slice elem)) (hs: (P.info? elem).map (·.size) =some k) (hg:w.heap[g]? = some (.cells cur t (0,0))) (hcs:cs.length=n*k) (hcur:cur.size=n*k)
  (hsp:sp=none→n=0) (hsrc: ∀ad,sp=some ad→∀j v,cs[j]? = some v→w.cell? (ad.add j) =some v) (h1: ∀v∈cs,v.oneCell'=true) :
  (Builtin.copy_ #[dT,sT] ty #[.slice (some ⟨g,0,none⟩) n dCap,.slice sp n sCap]).run P w = .ok (goInt n) (w.setRow g cs.toArray):=by
 have hst:=run_storeCells_at P g 0 t cs 0 cur w hg (by omega) h1
 have he: (cur.toList.take (0+0) ++ cs ++ cur.toList.drop (0+0+cs.length)).toArray=cs.toArray:=by
  congr 1
  rw [show 0+0=0 from rfl,List.take_zero,List.nil_append,List.drop_of_length_le (by simp;omega),List.append_nil]
 rw [he]at hst
 cases hq:P.info? elem with
 | none=>simp [hq]at hs
 | some i=>
  have hi:i.size=k:=by simpa [hq]using hs
  cases sp with
  | none=>
   obtain rfl:=hsp rfl;obtain rfl:cs = []:=List.eq_nil_of_length_eq_zero (by simpa using hcs)
   simp [Builtin.copy_,run_underlying hu,Builtin.lenOf,Builtin.firstCells,sizeOf,typeInfo,hq,hst]
  | some a=>
   have hl:=run_loadCells_list (P:=P) w a cs (hsrc a rfl)
   simp [Builtin.copy_,run_underlying hu,Builtin.lenOf,Builtin.firstCells,sizeOf,typeInfo,hq,hi,←hcs,hl,hst]
theorem wpList_copy_full {P:Program} {w:World} {ops:Array Oper} {rest:List Oper} {o:Oper} {a:Act} {Q:Exit→Act→World→Prop} (hgd:o.guard=none) (d s:Operand) (dT sT:TypeId)
  (ho:o.op = .call { callee:=.builtin .copy,args:=#[d,s],argTypes:=#[dT,sT] }) (elem:TypeId) (k:Nat) (hu:P.underlying dT=some (.slice elem)) (hsz: (P.info? elem).map (·.size) =some k)
  (g dCap n:Nat) (sp:Option Addr) (sCap:Nat) (hd:a.eval d = .slice (some ⟨g,0,none⟩) n dCap) (hs:a.eval s = .slice sp n sCap)
  (cur:Array Value) (t:TypeId) (hg:w.heap[g]? = some (.cells cur t (0,0))) (cs:List Value) (hcs:cs.length=n*k) (hcur:cur.size=n*k)
  (hsp:sp=none→n=0) (hsrc: ∀ad,sp=some ad→∀j v,cs[j]? = some v→w.cell? (ad.add j) =some v) (h1: ∀v∈cs,v.oneCell'=true)
  (h: ∀x,x=w.setRow g cs.toArray→wpList P ops Q rest (a.put o.dst (goInt n)) x) :wpList P ops Q (o :: rest) a w:=by
 refine wpList_plain hgd fun K hK=> ?_
 have hrun:=run_copy_full (P:=P) w dT sT o.type elem g dCap n k sp sCap cur t cs hu hsz hg hcs hcur hsp hsrc h1
 unfold Oper.wp
 simp [execOp,ho,resolve,invoke,builtin,hd,hs,hrun,Result.andThen];exact hK _ _ (h _ rfl)
end Go
namespace Go.Proofs.YtiijaaohphokcaaGreatDoor
open Go.RowKit
theorem row_news0 {α:Type} {x:World} {size:Nat} {cells:α→List Value} {h:Hd} {xs:List α} (hs: ∀x,(cells x).length=size) (hp:0<size) (hr:Row x size cells h xs) : (h.ao=none→xs.length=0)∧∀ad,h.ao=some ad→∀j u,(xs.flatMap cells)[j]? = some u→x.cell? (ad.add j) =some u:=by
 refine⟨fun e=> ?_,fun ad e j u hj=> ?_⟩
 ·apply Classical.byContradiction
  intro hn;have:=(hr.2.2.1 (by omega)).1
  rw [e]at this
  cases this
 ·have hlen:0<xs.length:=by
   cases xs with
   | nil=>simp at hj
   | cons=>exact Nat.succ_pos _
  have h2:=(hr.2.2.1 hlen).1;rw [e]at h2;injection h2 with h2;rw [h2];exact row_news hs hp hr j u hj
theorem own_full {w:World} {base g n size:Nat} {e:TypeId} {xs:List Value} (h:w.ownsRow base e size (.slice (some ⟨g,0,none⟩) n n) n xs) : ∃cur:Array Value,w.heap[g]? = some (.cells cur e (0,0))∧cur.size=n*size:=by
 rcases h.2 with⟨h2,_⟩ | ⟨g2,cap',cur,hv,_,hg,_,_,hc,_⟩
 ·cases h2
 ·injection hv with e1 _ e2
  injection e1 with e1;injection e1 with e1 _;subst e1;subst e2;exact⟨cur,hg,hc⟩
theorem v_ones {l:List V} : ∀u∈l.flatMap V.cells,u.oneCell'=true:=one_flat (cells:=V.cells) (fun v u hu=>by
 rcases List.mem_cons.1 hu with rfl|hu
 ·rfl
 rcases List.mem_cons.1 hu with rfl|hu
 ·rfl
 rw [List.mem_singleton.1 hu];rfl) l
theorem copied_any (x:VL) (w:World) (hx:x.In w) (hn:x.l.length≤1000) :Calls Tryz.prog 122 #[.slice x.h.ao x.l.length x.h.cap] w fun e w'=>∃r:VL,e = .returned (.slice r.h.ao r.l.length r.h.cap)∧r.l=x.l∧r.In w'∧r.h.b=w.heap.size∧Below w.heap.size w w':=by
 obtain⟨i0,hi,hz0,hz1,hz2⟩:=info_parts info_v3;have HX:=ai hx;have HI:=ai (And.intro hi (And.intro hz0 (And.intro hz1 hz2)));have HN:=ai hn;clear hx hi hz0 hz1 hz2 hn
 go_enter Tryz.func122,Tryz.ntmps122;go_upto_region 2 with(at_make;refine wpList_make_full _ rfl _ _ 96 rfl w.heap.size 81 i0 (.agg #[.int .i64 0,.int .i64 0,.string ByteArray.empty]) 3 Tryz.underlying96 HI.o.1 HI.o.2.1 HI.o.2.2.1 _ _ _ _ x.l.length rfl rfl rfl rfl (by rw [HI.o.2.2.2];have:=HN.o;omega) (by have:=HN.o;unfold maxLen;omega) (Nat.le_refl _) ?_;intro w1 hown hgr;have HO:=ai hown;have HG:=ai hgr;clear hown hgr)
 obtain⟨cur,hc1,hc2⟩:=own_full HO.o;have HC:=ai (And.intro hc1 hc2);have hb1:=grown_below HG.o;have HB1:=ai hb1;obtain⟨n0,n1⟩:=row_news0 (cells:=V.cells) (fun _=>rfl) (by decide) (HX.o.mono hb1).1
 have HNW:=ai (And.intro n0 n1);clear hc1 hc2 n0 n1 hb1;go_upto_region 3 with(refine wpList_copy_full rfl _ _ _ _ rfl 81 3 Tryz.underlying96 szv3 w.heap.size x.l.length x.l.length x.h.ao x.h.cap rfl rfl cur 81 HC.o.1 (x.l.flatMap V.cells) (flatMap_len (cells:=V.cells) (fun _=>rfl) _) HC.o.2 HNW.o.1 HNW.o.2 v_ones ?_;intro y hy;have HY:=ai hy;clear hy)
 have hbx:Box y w.heap.size (x.l.flatMap V.cells).toArray 81:=by rw [HY.o];exact setRow_heap w1 w.heap.size cur _ _ _ HC.o.1
 have HR:=ai (row_box (size:=3) (cells:=V.cells) (xs:=x.l) (fun _=>rfl) hbx (by have:=HN.o;unfold maxLen;omega))
 have HB2:=ai (show Below w.heap.size w y from by rw [HY.o];exact below_setRow HB1.o (Nat.le_refl _) _)
 clear HY hbx;go_wp2;go_ret
 exact⟨⟨⟨some ⟨w.heap.size,0,none⟩,x.l.length⟩,x.l⟩,rfl,rfl,⟨HR.o,HX.o.2⟩,rfl,HB2.o⟩
end Go.Proofs.YtiijaaohphokcaaGreatDoor

/- ref07.groups: the different rows of two bags, and how often each stands in either. -/
import Derived.Test.YtiijaaohphokcaaGreatDoorG39
import Derived.Deep.CutBlock
set_option maxRecDepth 100000
set_option maxHeartbeats 16000000
namespace Go.Proofs.YtiijaaohphokcaaGreatDoor
open Go.RowKit
structure Gp where
 r:VL
 m:Nat
 n:Nat
abbrev Gp.cells (g:Gp) :List Value:= [.slice g.r.h.ao g.r.l.length g.r.h.cap,.int .i64 (g.m:Nat),.int .i64 (g.n:Nat)]
def Gp.t (g:Gp) :List V×Nat×Nat:=(g.r.l,g.m,g.n)
structure GL where
 h:Hd
 l:List Gp
structure GL.In (w:World) (x:GL) :Prop where
 row:Row w 3 Gp.cells x.h x.l
 ins: ∀g∈x.l,g.r.In w∧g.r.l.length≤1000
theorem GL.In.mono {w w':World} {x:GL} (h:x.In w) (hb:Below w.heap.size w w') :x.In w':=⟨h.row.mono hb,fun g hg=>⟨(h.ins g hg).1.mono hb,(h.ins g hg).2⟩⟩
theorem gp_one (g:Gp) : ∀u∈Gp.cells g,u.oneCell'=true:=fun u hu=>by
 rcases List.mem_cons.1 hu with rfl|hu
 ·rfl
 rcases List.mem_cons.1 hu with rfl|hu
 ·rfl
 rw [List.mem_singleton.1 hu];rfl
theorem info_gp: (Tryz.prog.info? 111).map (fun i=>(i.zero,i.size,i.bytes)) =some (some (.agg #[.slice none 0 0,.int .i64 0,.int .i64 0]),3,40):=by kernel_rfl
theorem szgp: (Tryz.prog.info? 111).map (·.size) =some 3:=by kernel_rfl
theorem gp_at {w:World} {h:Hd} {i:Nat} {xs:List Gp} (hr:Row w 3 Gp.cells h xs) (hi:i<xs.length) :
  w.cell? ⟨h.b,h.o+i*3,none⟩ =some (.slice xs[i].r.h.ao xs[i].r.l.length xs[i].r.h.cap)∧w.cell? ⟨h.b,h.o+i*3+1,none⟩ =some (.int .i64 (xs[i].m:Nat))∧w.cell? ⟨h.b,h.o+i*3+2,none⟩ =some (.int .i64 (xs[i].n:Nat)):=by
 have a0:=hr.2.2.2 i hi 0 _ rfl;have a1:=hr.2.2.2 i hi 1 _ rfl;have a2:=hr.2.2.2 i hi 2 _ rfl;exact⟨by simpa using a0,a1,a2⟩
def GrpPost (a b:RL) (w:World) (e:Ending) (w':World) :Prop:=∃g:GL,e = .returned (.slice g.h.ao g.l.length g.h.cap)∧g.In w'∧GOk cmpR a.rows b.rows (g.l.map Gp.t)∧g.l.length≤a.l.length+b.l.length∧Below w.heap.size w w'
structure GW (X:World) (x y:RL) (v:Value) (gs:List Gp) (i k:Nat) (wr:World) :Prop where
 own:wr.ownsRow X.heap.size 111 3 v gs.length (gs.flatMap Gp.cells)
 gi:Gi cmpR x.rows y.rows (gs.map Gp.t) i k
 ins: ∀g∈gs,g.r.In X∧g.r.l.length≤1000
 len:gs.length≤i+k
 bel:Below X.heap.size X wr
structure GB (X:World) (x y:RL) (v:Value) (gs:List Gp) (i k:Nat) (r:VL) (g j l:Nat) (wr:World) :Prop where
 own:wr.ownsRow X.heap.size 111 3 v gs.length (gs.flatMap Gp.cells)
 bel:Below X.heap.size X wr
 box:Box wr g #[.slice r.h.ao r.l.length r.h.cap,.int .i64 (j - i:Nat),.int .i64 (l - k:Nat)] 111
 lo:X.heap.size≤g
 ne:v.ownBlock≠some g
 rx:Run x.rows r.l i j
 ry:Run y.rows r.l k l
section
variable {X wr y':World} {x y:RL} {v:Value} {gs:List Gp} {i k g j l:Nat} {r:VL}
theorem GB.below (h:GB X x y v gs i k r g j l wr) (hb:Below wr.heap.size wr y') :GB X x y v gs i k r g j l y':=
 ⟨h.own.kept (only_below hb none) (Classical.em _),bT h.bel hb,h.box.below hb,h.lo,h.ne,h.rx,h.ry⟩
theorem GB.incx (h:GB X x y v gs i k r g j l wr) (hj:j<x.rows.length) (he:x.rows[j] =r.l) :GB X x y v gs i k r g (j+1) l (wr.setCell ⟨g,1,none⟩ (.int .i64 (j+1 - i:Nat))):=by
 have hg:=gb_set wr g 1 (.int .i64 (j+1 - i:Nat));refine⟨h.own.kept hg (.inr h.ne),h.bel.grown hg h.bel.size (fun q hq=>by injection hq with hq;have:=h.lo;omega),?_,h.lo,h.ne,h.rx.step hj he,h.ry⟩
 have hb:=h.box.set 1 (.int .i64 (j+1 - i:Nat))
 simpa only [List.setIfInBounds_toArray,List.set_cons_zero,List.set_cons_succ]using hb
theorem GB.incy (h:GB X x y v gs i k r g j l wr) (hj:l<y.rows.length) (he:y.rows[l] =r.l) :GB X x y v gs i k r g j (l+1) (wr.setCell ⟨g,2,none⟩ (.int .i64 (l+1 - k:Nat))):=by
 have hg:=gb_set wr g 2 (.int .i64 (l+1 - k:Nat));refine⟨h.own.kept hg (.inr h.ne),h.bel.grown hg h.bel.size (fun q hq=>by injection hq with hq;have:=h.lo;omega),?_,h.lo,h.ne,h.rx,h.ry.step hj he⟩
 have hb:=h.box.set 2 (.int .i64 (l+1 - k:Nat))
 simpa only [List.setIfInBounds_toArray,List.set_cons_zero,List.set_cons_succ]using hb
end
theorem groups_any (a b:RL) (w:World) (ha:a.In w) (hb:b.In w) (hra: ∀v∈a.l,v.l.length≤1000) (hrb: ∀v∈b.l,v.l.length≤1000) (hna:a.l.length≤1000) (hnb:b.l.length≤1000) :
  Calls Tryz.prog 60 #[.slice a.h.ao a.l.length a.h.cap,.slice b.h.ao b.l.length b.h.cap] w (GrpPost a b w):=by
 obtain⟨i0,hi,hz0,hz1,hz2⟩:=info_parts info_gp;have HI:=ai (And.intro hi (And.intro hz0 (And.intro hz1 hz2)));have HCA:=ai (canon_any a w ha hra hna);have HCB:=ai (fun(W:World) (hW:Below w.heap.size w W)=>canon_any b W (hb.mono hW) hrb hnb)
 have HRA:=ai hra;have HRB:=ai hrb;have HNA:=ai hna;have HNB:=ai hnb;clear hi hz0 hz1 hz2 ha hb hra hrb hna hnb
 go_enter Tryz.func60,Tryz.ntmps60;go_upto_region 2 with(first
  | (have hq:=HX1;clear hq;go_at_call 80;refine(HCB.o _ HB1.o).mono ?_;rintro e X ⟨y,rfl,h1,h2,h3,h4,h5⟩;have HY:=ai h1;have HYP:=ai h2;have HYS:=ai h3;have HYL:=ai h4;have HB2:=ai h5;clear h1 h2 h3 h4 h5)
  | (go_at_call 80;refine HCA.o.mono ?_;rintro e X1 ⟨x,rfl,h1,h2,h3,h4,h5⟩;have HX1:=ai h1;have HXP:=ai h2;have HXS:=ai h3;have HXL:=ai h4;have HB1:=ai h5;clear h1 h2 h3 h4 h5))
 have HX:=ai (HX1.o.mono HB2.o);have HBX:=ai (bT HB1.o HB2.o);have HLX:=ai (show x.l.length≤1000∧y.l.length≤1000 from by
  have h1:=HXP.o.length_eq;have h2:=HYP.o.length_eq;rw [rows_len',rows_len']at h1 h2;exact⟨by rw [h1];exact HNA.o,by rw [h2];exact HNB.o⟩)
 clear HX1 HB1 HB2 HCA HCB HRA HRB HNA HNB;go_wp2;go_loopw [7,8,9] (fun v i k wr=>∃(u:Value) (i' k':Nat) (gs:List Gp),u=v∧i = .int .i64 i'∧k = .int .i64 k'∧Hid (GW X x y u gs i' k' wr)) (fun _ i k _=>x.l.length+y.l.length - (intOf i).toNat - (intOf k).toNat)
 case atStart=>exact⟨_,0,0,[],rfl,rfl,rfl,ai ⟨World.ownsRow_nil _ _ _ _,Gi.nil _ _ _,fun g hg=>(by cases hg),Nat.zero_le _,Below.refl _ _⟩⟩
 case round=>
  obtain⟨u,i,k,gs,rfl,rfl,rfl,HW⟩:=hrel;have hii:=HW.o.gi.hi;have hkk:=HW.o.gi.hk;rw [rows_len']at hii hkk;by_cases hend:i=x.l.length∧k=y.l.length
  ·have hni: ¬(i:Int) <x.l.length:=by omega
   have hnk: ¬(k:Int) <y.l.length:=by omega
   obtain⟨hd,h1,h2,h3⟩:=own_rowE (cells:=Gp.cells) (fun _=>rfl) (by decide) HW.o.own
   subst h1;have HRW:=ai h2;have HEN:=ai hend;clear h2 h3 hend;go_wp2;go_ret
   refine⟨⟨hd,gs⟩,rfl,⟨HRW.o,fun g hg=>⟨(HW.o.ins g hg).1.mono HW.o.bel,(HW.o.ins g hg).2⟩⟩,?_,?_,bT HBX.o HW.o.bel⟩
   ·have hg:=HW.o.gi
    rw [HEN.o.1,HEN.o.2,←rows_len',←rows_len']at hg;exact hg.done HXP.o HYP.o
   ·have h0:=HW.o.len
    have h1:=HXP.o.length_eq;have h2:=HYP.o.length_eq;rw [rows_len',rows_len']at h1 h2;have h3:=HEN.o
    show gs.length≤_
    omega
  ·go_upto_region 4 with fail
   go_cut [25] (fun v wx=>v = .bool true∧wx=wr)
   case first=>
    by_cases hia:i<x.l.length
    ·have hiai: (i:Int) <x.l.length:=by omega
     clear hend;go_wp2;go_meet
     exact⟨rfl,rfl⟩
    ·have hiai: ¬(i:Int) <x.l.length:=by omega
     have hkbi: (k:Int) <y.l.length:=by omega
     clear hend;go_wp2;go_meet
     exact⟨rfl,rfl⟩
   case rest=>
   obtain⟨rfl,rfl⟩:=hcut;obtain⟨wr,rfl⟩ : ∃M,M=wc:=⟨_,rfl⟩;have HXW:=ai (HX.o.mono HW.o.bel);have HYW:=ai (HY.o.mono HW.o.bel);have HII:=ai hii;have HKK:=ai hkk;have hnend:i<x.l.length∨k<y.l.length:=by omega
   clear hend;go_upto_region 6 with fail
   go_cut [47] (fun v wx=>∃bb:Bool,v = .bool bb∧Hid (bb=true→i<x.l.length∧∀(hi:i<x.rows.length) (hk:k<y.rows.length),cmpR x.rows[i] y.rows[k]≤0)∧Hid (bb=false→k<y.l.length∧∀(hk:k<y.rows.length) (hi:i<x.rows.length),¬cmpR x.rows[i] y.rows[k]≤0)∧Hid (Below wr.heap.size wr wx))
   case first=>
    by_cases hia:i<x.l.length
    ·have hiai: (i:Int) <x.l.length:=by omega
     by_cases hkb:k<y.l.length
     ·have hkne: ((k:Int) == (y.l.length:Int)) =false:=beq_eq_false_iff_ne.2 (by omega)
      have hixc:=HXW.o.1.ix hia Tryz.underlying49 szrows;have hixd:=HYW.o.1.ix hkb Tryz.underlying49 szrows;have x0:=vl_at1 HXW.o.1 hia;have y0:=vl_at1 HYW.o.1 hkb;have hia1:=HXW.o.2 _ (List.getElem_mem hia);have hib1:=HYW.o.2 _ (List.getElem_mem hkb);have hx1:=rows_get hia;have hy1:=rows_get hkb;obtain⟨va,hva⟩ : ∃v,x.l[i] =v:=⟨_,rfl⟩;obtain⟨vb,hvb⟩ : ∃v,y.l[k] =v:=⟨_,rfl⟩;rw [hva]at x0 hia1 hx1;rw [hvb]at y0 hib1 hy1;obtain⟨c,hc⟩ : ∃c,cmpR va.l vb.l=c:=⟨_,rfl⟩;have HCR:=ai (fun(W:World) (hW:Below wr.heap.size wr W)=>rcrows_any va vb W (hia1.mono hW) (hib1.mono hW))
      rw [hc]at HCR;have HCV:=ai (show∀(hi:i<x.rows.length) (hk:k<y.rows.length),cmpR x.rows[i] y.rows[k] =c from fun _ _=>by rw [hx1,hy1];exact hc)
      have x0:=hy_of x0;have y0:=hy_of y0;clear hva hvb hc hia1 hib1 hx1 hy1
      go_region_held3 (fun w'=>Below wr.heap.size wr w') ((first|exact(Below.refl _ _).drew|exact bT (by assumption) (by assumption))) (first| (go_at_call 99;refine(HCR.o _ (by assumption)).mono ?_;rintro e z ⟨rfl,hz⟩))
      have HZ:=ai (show Below wr.heap.size wr z by assumption)
      clear hz x0 y0;go_wp2;go_meet
      exact⟨decide (c≤0),rfl,ai (fun h=>⟨hia,fun hi hk=>by rw [HCV.o];have:=of_decide_eq_true h;omega⟩),ai (fun h=>⟨hkb,fun hk hi=>by rw [HCV.o];have:=of_decide_eq_false h;omega⟩),HZ⟩
     ·have hkbi: ¬(k:Int) <y.l.length:=by omega
      have hkeq: ((k:Int) == (y.l.length:Int)) =true:=beq_iff_eq.2 (by omega)
      go_quiet (fail)
      generalize hX1:wr.drewN nq=z;have HZ:=ai (show Below wr.heap.size wr z from by rw [←hX1];exact below_drewN (Below.refl _ _) _)
      clear hX1;go_wp2;go_meet
      exact⟨true,rfl,ai (fun _=>⟨hia,fun hi hk=>absurd hk (by rw [rows_len'];omega)⟩),ai (fun h=>(by cases h)),HZ⟩
    ·have hiai: ¬(i:Int) <x.l.length:=by omega
     have hkb:k<y.l.length:=by omega
     have hkbi: (k:Int) <y.l.length:=by omega
     have hkne: ((k:Int) == (y.l.length:Int)) =false:=beq_eq_false_iff_ne.2 (by omega)
     go_quiet (fail)
     generalize hX1:wr.drewN nq=z;have HZ:=ai (show Below wr.heap.size wr z from by rw [←hX1];exact below_drewN (Below.refl _ _) _)
     clear hX1;go_wp2;go_meet
     exact⟨false,rfl,ai (fun h=>(by cases h)),ai (fun _=>⟨hkb,fun hk hi=>absurd hi (by rw [rows_len'];omega)⟩),HZ⟩
   case rest=>
   obtain⟨bb,rfl,HBT,HBF,HBC⟩:=hcut;obtain⟨w5,rfl⟩ : ∃M,M=wc:=⟨_,rfl⟩;have HX5:=ai (HXW.o.mono HBC.o);have HY5:=ai (HYW.o.mono HBC.o)
   go_upto_if 47 with fail
   go_cut [10] (fun v wx=>∃r:VL,v = .slice r.h.ao r.l.length r.h.cap∧Hid (r.In X∧r.l.length≤1000)∧Hid ((r.l∈x.rows.drop i∨r.l∈y.rows.drop k)∧∀u,(u∈x.rows.drop i∨u∈y.rows.drop k)→¬cmpR u r.l<0)∧wx=w5)
   case first=>
    cases bb with
    | true=>
     obtain⟨hia,hmin⟩:=HBT.o rfl;have hix:=HX5.o.1.ix hia Tryz.underlying49 szrows;have c0:=vl_at1 HX5.o.1 hia;have hri:i<x.rows.length:=by rw [rows_len'];exact hia
     have HRR:=ai (show((x.l[i]).l∈x.rows.drop i∨(x.l[i]).l∈y.rows.drop k)∧∀u,(u∈x.rows.drop i∨u∈y.rows.drop k)→¬cmpR u (x.l[i]).l<0 from by
      rw [←rows_get hia];exact⟨.inl (by rw [drop_cons hri];exact List.mem_cons_self),min_left isCmp_row HXS.o HYS.o hri (fun hk=>hmin hri hk)⟩)
     have HRI:=ai (And.intro (HX.o.2 _ (List.getElem_mem hia)) (HXL.o _ (List.getElem_mem hia)));clear hmin hri;go_wp2;go_meet
     exact⟨x.l[i],rfl,HRI,HRR,rfl⟩
    | false=>
     obtain⟨hkb,hmin⟩:=HBF.o rfl;have hix:=HY5.o.1.ix hkb Tryz.underlying49 szrows;have c0:=vl_at1 HY5.o.1 hkb;have hrk:k<y.rows.length:=by rw [rows_len'];exact hkb
     have HRR:=ai (show((y.l[k]).l∈x.rows.drop i∨(y.l[k]).l∈y.rows.drop k)∧∀u,(u∈x.rows.drop i∨u∈y.rows.drop k)→¬cmpR u (y.l[k]).l<0 from by
      rw [←rows_get hkb];exact⟨.inr (by rw [drop_cons hrk];exact List.mem_cons_self),min_right isCmp_row HXS.o HYS.o hrk (fun hi=>hmin hrk hi)⟩)
     have HRI:=ai (And.intro (HY.o.2 _ (List.getElem_mem hkb)) (HYL.o _ (List.getElem_mem hkb)));clear hmin hrk;go_wp2;go_meet
     exact⟨y.l[k],rfl,HRI,HRR,rfl⟩
   case rest=>
   obtain⟨r,rfl,HRI,HRR,rfl⟩:=hcut;obtain⟨w5,rfl⟩ : ∃M,M=wc:=⟨_,rfl⟩;clear HBT HBF;obtain⟨Y0,hY0⟩ : ∃Y,w5.alloc (.cells #[.slice r.h.ao r.l.length r.h.cap,.int .i64 0,.int .i64 0] 111) =Y:=⟨_,rfl⟩;have HB5:=ai (bT HW.o.bel HBC.o);have HGB:=ai (show GB X x y u gs i k r w5.heap.size i k Y0 from by
    rw [←hY0];refine⟨(HW.o.own.kept (only_below HBC.o none) (Classical.em _)).kept (only_below (belA _) none) (Classical.em _),bT HB5.o (belA _),?_,HB5.o.size,fun e=> ?_,Run.zero HW.o.gi.hi,Run.zero HW.o.gi.hk⟩
    ·rw [Nat.sub_self,Nat.sub_self];exact Box.new _ _ _
    ·have h1:=(HW.o.own.lt _ e).2
     have h2:=HBC.o.size;omega)
   have HY0:=ai hY0;clear hY0
   go_upto_block 2 with fail
   rw [HY0.o];obtain⟨g,hg⟩ : ∃g,w5.heap.size=g:=⟨_,rfl⟩;rw [hg]at HGB;simp only [hg];clear hg HY0;go_cut [8] (fun jv wx=>∃n:Nat,jv = .int .i64 n∧Hid (GB X x y u gs i k r g n k wx)∧Hid (∀hn:n<x.rows.length,x.rows[n]≠r.l))
   case first=>
    go_wp2_with fail
    go_loopw [8] (fun jv wx=>∃n:Nat,jv = .int .i64 n∧Hid (GB X x y u gs i k r g n k wx)) (fun jv _=>x.l.length - (intOf jv).toNat)
    case atStart=>exact⟨i,rfl,HGB⟩
    case round=>
    obtain⟨n,rfl,HG⟩:=hrel;have hns:i≤n:=HG.o.rx.le;have hn1:n≤1000:=by have h:=HG.o.rx.ge;rw [rows_len']at h;have:=HLX.o;omega
    by_cases hnl:n<x.l.length
    ·have hnli: (n:Int) <x.l.length:=by omega
     have hxw:=HX.o.mono HG.o.bel;have hix:=hxw.1.ix hnl Tryz.underlying49 szrows;have c0:=vl_at1 hxw.1 hnl;have HRG:=ai (rows_get hnl);obtain⟨e1,he1⟩ : ∃v,x.l[n] =v:=⟨_,rfl⟩;have HE:=ai (rcrows_any e1 r wr (he1▸hxw.2 _ (List.getElem_mem hnl)) (HRI.o.1.mono HG.o.bel));rw [he1]at c0 HRG;obtain⟨c,hc⟩ : ∃c,cmpR e1.l r.l=c:=⟨_,rfl⟩;rw [hc]at HE;have HCE:=ai (show c=0↔e1.l=r.l from by rw [←hc];exact isCmp_row.eq _ _)
     clear he1 hc hxw;by_cases hc0:c=0
     ·have hcb: (c == 0) =true:=beq_iff_eq.2 hc0
      have HCQ:=ai (HCE.o.1 hc0);have hw:IntKind.i64.wrap (((n - i:Nat) :Int) +1) = ((n+1 - i:Nat) :Int):=by rw [IntKind.wrap_i64];omega
      clear hc0 HCE;go_wp2_with (go_at_call 99;refine HE.o.mono ?_;rintro e z ⟨rfl,hz⟩;have HG2:=ai (HG.o.below hz);have o1:=HG2.o.box.cell (j:=1) rfl;have f1:=HG2.o.box.fr 1;clear hz)
      have HG3:=ai (HG2.o.incx (by rw [rows_len'];exact hnl) (HRG.o.trans HCQ.o))
      go_roundw
      case rel=>exact⟨n+1,by go_num,HG3⟩
      case measure=>simp [intOf];omega
     ·have hcb: (c == 0) =false:=beq_eq_false_iff_ne.2 hc0
      have HCQ:=ai (fun h=>hc0 (HCE.o.2 h))
      clear hc0 HCE;go_wp2_with (go_at_call 99;refine HE.o.mono ?_;rintro e z ⟨rfl,hz⟩;have HG2:=ai (HG.o.below hz);clear hz)
      go_meet
      exact⟨n,rfl,HG2,ai (fun hn h=>HCQ.o (HRG.o.symm.trans h))⟩
    ·have hnli: ¬(n:Int) <x.l.length:=by omega
     go_wp2;go_meet
     exact⟨n,rfl,HG,ai (fun hn _=>absurd hn (by rw [rows_len'];exact hnl))⟩
   case rest=>
   obtain⟨j,rfl,HG1,HS1⟩:=hcut;obtain⟨w6,rfl⟩ : ∃M,M=wc:=⟨_,rfl⟩;clear HGB
   go_upto_block 4 with fail
   go_cut [9] (fun jv wx=>∃n:Nat,jv = .int .i64 n∧Hid (GB X x y u gs i k r g j n wx)∧Hid (∀hn:n<y.rows.length,y.rows[n]≠r.l))
   case first=>
    go_wp2_with fail
    go_loopw [9] (fun jv wx=>∃n:Nat,jv = .int .i64 n∧Hid (GB X x y u gs i k r g j n wx)) (fun jv _=>y.l.length - (intOf jv).toNat)
    case atStart=>exact⟨k,rfl,HG1⟩
    case round=>
    obtain⟨n,rfl,HG⟩:=hrel;have hns:k≤n:=HG.o.ry.le;have hn1:n≤1000:=by have h:=HG.o.ry.ge;rw [rows_len']at h;have:=HLX.o;omega
    by_cases hnl:n<y.l.length
    ·have hnli: (n:Int) <y.l.length:=by omega
     have hxw:=HY.o.mono HG.o.bel;have hix:=hxw.1.ix hnl Tryz.underlying49 szrows;have c0:=vl_at1 hxw.1 hnl;have HRG:=ai (rows_get hnl);obtain⟨e1,he1⟩ : ∃v,y.l[n] =v:=⟨_,rfl⟩;have HE:=ai (rcrows_any e1 r wr (he1▸hxw.2 _ (List.getElem_mem hnl)) (HRI.o.1.mono HG.o.bel));rw [he1]at c0 HRG;obtain⟨c,hc⟩ : ∃c,cmpR e1.l r.l=c:=⟨_,rfl⟩;rw [hc]at HE;have HCE:=ai (show c=0↔e1.l=r.l from by rw [←hc];exact isCmp_row.eq _ _)
     clear he1 hc hxw;by_cases hc0:c=0
     ·have hcb: (c == 0) =true:=beq_iff_eq.2 hc0
      have HCQ:=ai (HCE.o.1 hc0);have hw:IntKind.i64.wrap (((n - k:Nat) :Int) +1) = ((n+1 - k:Nat) :Int):=by rw [IntKind.wrap_i64];omega
      clear hc0 HCE;go_wp2_with (go_at_call 99;refine HE.o.mono ?_;rintro e z ⟨rfl,hz⟩;have HG2:=ai (HG.o.below hz);have o1:=HG2.o.box.cell (j:=2) rfl;have f1:=HG2.o.box.fr 2;clear hz)
      have HG3:=ai (HG2.o.incy (by rw [rows_len'];exact hnl) (HRG.o.trans HCQ.o))
      go_roundw
      case rel=>exact⟨n+1,by go_num,HG3⟩
      case measure=>simp [intOf];omega
     ·have hcb: (c == 0) =false:=beq_eq_false_iff_ne.2 hc0
      have HCQ:=ai (fun h=>hc0 (HCE.o.2 h))
      clear hc0 HCE;go_wp2_with (go_at_call 99;refine HE.o.mono ?_;rintro e z ⟨rfl,hz⟩;have HG2:=ai (HG.o.below hz);clear hz)
      go_meet
      exact⟨n,rfl,HG2,ai (fun hn h=>HCQ.o (HRG.o.symm.trans h))⟩
    ·have hnli: ¬(n:Int) <y.l.length:=by omega
     go_wp2;go_meet
     exact⟨n,rfl,HG,ai (fun hn _=>absurd hn (by rw [rows_len'];exact hnl))⟩
   case rest=>
   obtain⟨l,rfl,HG2,HS2⟩:=hcut;obtain⟨w7,rfl⟩ : ∃M,M=wc:=⟨_,rfl⟩;clear HG1;have HST:=ai (HW.o.gi.step isCmp_row HXS.o HYS.o HRR.o.1 HRR.o.2 HG2.o.rx HS1.o HG2.o.ry HS2.o);have HGE:=ai (And.intro HG2.o.rx.ge HG2.o.ry.ge);have HGL:=ai (show gs.length≤2000 from by have:=HW.o.len;have:=HII.o;have:=HKK.o;have:=HLX.o;omega)
   have o0:=HG2.o.box.cell (j:=0) rfl
   have o1:=HG2.o.box.cell (j:=1) rfl
   have o2:=HG2.o.box.cell (j:=2) rfl
   go_wp2_with (at_builtin;refine wpList_append_own _ rfl _ _ 108 rfl X.heap.size 111 i0 (.agg #[.slice none 0 0,.int .i64 0,.int .i64 0]) 3 40 Tryz.underlying108 HI.o.1 HI.o.2.1 HI.o.2.2.1 HI.o.2.2.2 rfl (by decide) _ _ _ rfl (HG2.o.own.alloc _) ⟨w7.heap.size,0,none⟩ 1 1 (Gp.cells ⟨r,j - i,l - k⟩) rfl rfl (new_cells (l:=Gp.cells ⟨r,j - i,l - k⟩)) (gp_one ⟨r,j - i,l - k⟩) (by have:=HGL.o;unfold maxLen;omega) (by have:=HGL.o;omega) (by have:=HG2.o.bel.size;simp;omega) ?_;intro nv Y4 hown hgr _;have HON:=ai hown;have HGN:=ai hgr;clear hown hgr)
   have HGW:=ai (show GW X x y nv (gs ++ [⟨r,j - i,l - k⟩]) j l Y4 from⟨by rw [List.length_append,List.flatMap_append,List.flatMap_cons,List.flatMap_nil,List.append_nil];exact HON.o,by rw [List.map_append];exact HST.o.1,fun q hq=>by
    rcases List.mem_append.1 hq with hq|hq
    ·exact HW.o.ins q hq
    ·rw [List.mem_singleton.1 hq];exact HRI.o,by
    rw [List.length_append];have h1:=HW.o.len;have h2:=HST.o.2;simp only [List.length_cons,List.length_nil];omega,(bT HG2.o.bel (belA _)).grown HGN.o (by have:=HG2.o.bel.size;simp;omega) (fun q hq=>(HG2.o.own.lt q hq).1)⟩)
   have hst:=HST.o.2;have hge:=HGE.o;rw [rows_len',rows_len']at hge;go_roundw
   case rel=>exact⟨nv,j,l,_,rfl,rfl,rfl,HGW⟩
   case measure=>simp [intOf];omega
end Go.Proofs.YtiijaaohphokcaaGreatDoor
/- ref07.Union of one bag, Distinct, Contains of two bags without doubles. -/
namespace Go.Proofs.YtiijaaohphokcaaGreatDoor
open Go.RowKit
def DistPost (x:RL) (w:World) (e:Ending) (w':World) :Prop:=∃r:RL,e = .returned (.slice r.h.ao r.l.length r.h.cap)∧r.In w'∧r.rows.Nodup∧(∀u,u∈r.rows↔u∈x.rows)∧r.l.length≤x.l.length∧(∀v∈r.l,v.l.length≤1000)∧Below w.heap.size w w'
theorem rl_nil (w:World) :RL.In w ⟨nilHd,[]⟩:=⟨Row.nil _ _ _,fun r hr=>(by cases hr)⟩
theorem union_any (x:RL) (w:World) (hx:x.In w) (hr: ∀v∈x.l,v.l.length≤1000) (hn:x.l.length≤1000) :Calls Tryz.prog 61 #[.slice x.h.ao x.l.length x.h.cap,.slice none 0 0,.bool false] w (DistPost x w):=by
 have HG:=ai (show Calls Tryz.prog 60 #[.slice x.h.ao x.l.length x.h.cap,.slice none 0 0] w (GrpPost x ⟨nilHd,[]⟩ w)from groups_any x ⟨nilHd,[]⟩ w hx (rl_nil w) hr (fun v hv=>(by cases hv)) hn (Nat.zero_le _))
 have HR:=ai hr;have HN:=ai hn;clear hx hr hn
 go_enter Tryz.func61,Tryz.ntmps61;go_upto_region 2 with(go_at_call 60;refine HG.o.mono ?_;rintro e X ⟨g,rfl,h1,h2,h3,h4⟩;have HGI:=ai h1;have HGO:=ai h2;have HGL:=ai (show g.l.length≤x.l.length from h3);have HBX:=ai h4;clear h1 h2 h3 h4 HG)
 go_wp2;go_loopw [8,9] (fun v i wr=>∃(k:Nat) (outs:List VL),k≤g.l.length∧i = .int .i64 k∧Hid (OutV X.heap.size v outs wr)∧Hid (outs.map VL.l= (g.l.take k).map (fun q=>q.r.l))∧Hid (Below X.heap.size X wr)) (fun _ i _=>g.l.length - (intOf i).toNat)
 case atStart=>exact⟨0,[],Nat.zero_le _,rfl,ai (OutV.nil _ _ (Nat.le_refl _)),ai rfl,ai (Below.refl _ _)⟩
 case round=>
  obtain⟨k,outs,hk,rfl,HO,HE,HB⟩:=hrel;have HGW:=ai (HGI.o.mono HB.o);have hkb:k≤1000:=by have:=HGL.o;have:=HN.o;omega
  have HLO:=ai (show outs.length=k from by have h:=congrArg List.length HE.o;rw [List.length_map,List.length_map,List.length_take]at h;omega)
  by_cases hlt:k<g.l.length
  ·have hlti: (k:Int) <g.l.length:=by omega
   have hix:=HGW.o.row.ix hlt Tryz.underlying108 szgp;obtain⟨c0,c1,c2⟩:=gp_at HGW.o.row hlt;obtain⟨q,hq⟩ : ∃q,g.l[k] =q:=⟨_,rfl⟩;have hqm:=HGW.o.ins q (hq▸List.getElem_mem hlt);have HGR:=ai (show(g.l.take (k+1)).map (fun q=>q.r.l) = (g.l.take k).map (fun q=>q.r.l) ++ [q.r.l]from by rw [←List.take_append_getElem hlt,List.map_append,hq];rfl)
   rw [hq]at c0 c1 c2;have HT:=ai (times_any X.heap.size _ outs q.r wr HO.o hqm.1 hqm.2 (by have:=HLO.o;have:=HGL.o;have:=HN.o;omega))
   clear hq hqm;go_wp2_with (go_at_call 100;refine HT.o.mono ?_;rintro e z ⟨v2,rfl,r,h1,h2,h3,h4⟩;have HRL:=ai h1;have HOZ:=ai h2;have HGZ:=ai h3;clear h1 h2 h3 h4 HT)
   have HBZ:=ai (show Below X.heap.size X z from HB.o.grown HGZ.o HB.o.size (fun j hj=>(HO.o.own.lt j hj).1))
   go_roundw
   case rel=>exact⟨k+1,outs ++ [r],by omega,by go_num,HOZ,ai (by rw [List.map_append,HE.o,HGR.o,List.map_cons,List.map_nil,HRL.o]),HBZ⟩
   case measure=>simp [intOf];omega
  ·have hlti: ¬(k:Int) <g.l.length:=by omega
   have HKG:=ai (show k=g.l.length from by omega)
   obtain⟨r,h1,h2,h3⟩:=HO.o.rl;subst h1;have HRI:=ai h3;have HRL:=ai h2;clear h2 h3;go_wp2;go_ret
   have hrows:r.rows= (g.l.map Gp.t).map Prod.fst:=by
    unfold RL.rows
    rw [HRL.o,HE.o,HKG.o,List.take_length,List.map_map]
    rfl
   have hmem: ∀u,u∈r.rows↔u∈x.rows:=fun u=>by
    rw [hrows,List.mem_map];refine(HGO.o.mem u).trans ⟨fun h=>h.resolve_right (fun h=>by cases h),.inl⟩
   refine⟨r,rfl,HRI.o,by rw [hrows];exact HGO.o.nd,hmem,by rw [HRL.o,HLO.o];exact Nat.le_trans hk HGL.o,fun v hv=> ?_,bT HBX.o HB.o⟩
   obtain⟨u,hu,e⟩:=List.mem_map.1 ((hmem v.l).1 (List.mem_map_of_mem hv));rw [←e];exact HR.o u hu
theorem distinct_any (x:RL) (w:World) (hx:x.In w) (hr: ∀v∈x.l,v.l.length≤1000) (hn:x.l.length≤1000) :Calls Tryz.prog 21 #[.slice x.h.ao x.l.length x.h.cap] w (DistPost x w):=by
 have HU:=ai (union_any x w hx hr hn);clear hx hr hn
 go_enter Tryz.func21,Tryz.ntmps21;go_wp2_with (go_at_call 61;refine HU.o.mono ?_;rintro e z ⟨r,rfl,h1,h2,h3,h4,h5,h6⟩;have HH:=ai (And.intro h1 (And.intro h2 (And.intro h3 (And.intro h4 (And.intro h5 h6)))));clear h1 h2 h3 h4 h5 h6)
 go_ret
 exact⟨r,rfl,HH.o.1,HH.o.2.1,HH.o.2.2.1,HH.o.2.2.2.1,HH.o.2.2.2.2.1,HH.o.2.2.2.2.2⟩
def BcPost (a b:RL) (w:World) (e:Ending) (w':World) :Prop:=∃c:Bool,e = .returned (.bool c)∧(c=true↔∀u∈b.rows,u∈a.rows)∧Below w.heap.size w w'
theorem bcontains_any (a b:RL) (w:World) (ha:a.In w) (hb:b.In w) (hra: ∀v∈a.l,v.l.length≤1000) (hrb: ∀v∈b.l,v.l.length≤1000) (hna:a.l.length≤1000) (hnb:b.l.length≤1000) (na:a.rows.Nodup) (nb:b.rows.Nodup) :
  Calls Tryz.prog 20 #[.slice a.h.ao a.l.length a.h.cap,.slice b.h.ao b.l.length b.h.cap] w (BcPost a b w):=by
 have HG:=ai (groups_any a b w ha hb hra hrb hna hnb);have HN:=ai (And.intro na nb);have HNL:=ai (And.intro hna hnb);clear ha hb hra hrb hna hnb na nb
 go_enter Tryz.func20,Tryz.ntmps20;go_upto_region 2 with(go_at_call 60;refine HG.o.mono ?_;rintro e X ⟨g,rfl,h1,h2,h3,h4⟩;have HGI:=ai h1;have HGO:=ai (h2.sub isCmp_row HN.o.1 HN.o.2);have HGL:=ai (show g.l.length≤2000 from by have:=HNL.o;omega);have HBX:=ai h4;clear h1 h2 h3 h4 HG)
 go_wp2;go_loopw [6] (fun i wr=>∃k:Nat,k≤g.l.length∧i = .int .i64 k∧Hid (∀q∈g.l.take k,¬q.m<q.n)∧Hid (Below X.heap.size X wr)) (fun i _=>g.l.length - (intOf i).toNat)
 case atStart=>exact⟨0,Nat.zero_le _,rfl,ai (fun q hq=>by simp at hq),ai (Below.refl _ _)⟩
 case round=>
  obtain⟨k,hk,rfl,HQ,HB⟩:=hrel;have hkb:k≤2000:=by have:=HGL.o;omega
  have HGW:=ai (HGI.o.mono HB.o);by_cases hlt:k<g.l.length
  ·have hlti: (k:Int) <g.l.length:=by omega
   have hix:=HGW.o.row.ix hlt Tryz.underlying108 szgp;obtain⟨c0,c1,c2⟩:=gp_at HGW.o.row hlt;obtain⟨q,hq⟩ : ∃q,g.l[k] =q:=⟨_,rfl⟩;have HQM:=ai (show q∈g.l from hq▸List.getElem_mem hlt)
   have HGR:=ai (show g.l.take (k+1) =g.l.take k ++ [q]from by rw [←List.take_append_getElem hlt,hq])
   rw [hq]at c0 c1 c2;clear hq;by_cases hlq:q.m<q.n
   ·have hmn: (q.m:Int) <q.n:=by omega
    have HF:=ai (show¬∀u∈b.rows,u∈a.rows from fun h=>HGO.o.2 h q.t (List.mem_map_of_mem HQM.o) hlq)
    clear hlq;go_upto_region 5 with fail
    go_quiet (fail)
    generalize hX1:wr.drewN nq=z;have HZ:=ai (show Below X.heap.size X z from by rw [←hX1];exact below_drewN HB.o _)
    clear hX1;go_wp2;go_ret
    exact⟨false,rfl,⟨fun h=>(by cases h),fun h=>absurd h HF.o⟩,bT HBX.o HZ.o⟩
   ·have hmn: ¬(q.m:Int) <q.n:=by omega
    have HF:=ai hlq;clear hlq;go_upto_region 5 with fail
    go_quiet (fail)
    generalize hX1:wr.drewN nq=z;have HZ:=ai (show Below X.heap.size X z from by rw [←hX1];exact below_drewN HB.o _)
    clear hX1;go_wp2;go_roundw
    case rel=>exact⟨k+1,by omega,by go_num,ai (fun u hu=>by
     rw [HGR.o]at hu;rcases List.mem_append.1 hu with hu|hu
     ·exact HQ.o u hu
     ·rw [List.mem_singleton.1 hu];exact HF.o),HZ⟩
    case measure=>simp [intOf];omega
  ·have hlti: ¬(k:Int) <g.l.length:=by omega
   have HF:=ai (show∀u∈b.rows,u∈a.rows from HGO.o.1 (fun q hq=>by
    obtain⟨p,hp,rfl⟩:=List.mem_map.1 hq;exact HQ.o p (by rw [List.take_of_length_le (by omega)];exact hp)))
   go_wp2;go_ret
   exact⟨true,rfl,⟨fun _=>HF.o,fun _=>rfl⟩,bT HBX.o HB.o⟩
end Go.Proofs.YtiijaaohphokcaaGreatDoor
